/-
  Walks of layer 11: clauses and their terms. No condition.
-/
import Derived.Test.YtjedflcpjlgokaaGreatDoorAz
import Derived.Test.YtjedflcpjlgokaaGreatDoorS22
import Derived.Test.YtjedflcpjlgokaaGreatDoorY6b
import Derived.KernelRfl
namespace Go.Proofs.YtjedflcpjlgokaaGreatDoor
open Go Go.Aw
set_option maxHeartbeats 1600000
set_option maxRecDepth 20000
set_option linter.unusedVariables false
set_option linter.unusedSimpArgs false

theorem dI (T:List Sc)(hl:T.length≤1048576)(hst:∀s∈T,J4 s)(V:List Va)(hvl:V.length≤1048576):Ax Tryz.prog 63 [.agg (Cw T V)] (.int .i64 (C7 T V (Hq true)).2):=by
 refine Ax.body (n:=15) Ai Tryz.func63 rfl rfl rfl fun H=>?_
 refine Ah (Qp (Gd [_,_]) (Qp Ar (Ag (AW.seq ?_))))
 refine AW.draw mixed (fun _=>True) trivial (by kernel_rfl) ?_
 refine Qn 0 rfl (Qf [_,_]) (Qn 1 rfl Ee (Qn 2 rfl (Qf [_]) (Qn 3 rfl Ee ?_)))
 refine Qn 4 rfl (Qc rfl (yL true)) ?_
 refine Qn 5 rfl (Qc rfl (c31 T hl hst V hvl (Hq true) (by rw [Ek];simp [Hq,My]))) ?_
 refine Qn 6 rfl Nb (Qn 7 rfl I6 (Qn 8 rfl I6 (Qn 9 rfl Ar (Qn 10 rfl Ar ?_))))
 refine Jb.done _ _ (by kernel_rfl) ?_
 refine Ae (Ah (Qp A0 (Qp Ar (Ag (AW.ret ?_)))))
 refine Qr (Iq _) ?_
 rfl
theorem pP (T:List Sc)(V:List Va)(c:Lit)(hk:KOK T V c.cond)(hse:At c.cond≤64):Ax Tryz.prog 72 [.agg (Cw T V),.agg (H7 c)] (.tuple [.agg (cGp (Aa T V c).1),.bool (Aa T V c).2]):=by
 refine Ax.body (n:=41) Ai Tryz.func72 rfl rfl rfl fun H=>?_
 refine Ah (Qp (Gd [_,_]) (Qp (Gd [Iq _,_,Iq _,Iq _,Iq _,Iq _,Iq _,.str _,.bool _]) ?_))
 refine Qe (Am (l:=[.sl 3 [],.sl 3 [],.int .i64 0]) (by kernel_rfl)) ?_
 rintro _ _ ⟨b4,rfl,rfl⟩
 refine Qp Bm (Do (Qp (Qf [Iq _,_,Iq _,Iq _,Iq _,Iq _,Iq _,.str _,.bool _]) (Qp E7 ?_)))
 refine Qe (Am (l:=[.int .i64 0,.sl 8 [],.int .i64 0,.int .i64 0,.int .i64 0,.int .i64 0,.int .i64 0,.str []]) (by kernel_rfl)) ?_
 rintro _ _ ⟨b6,rfl,rfl⟩
 refine Cz 0 [Iq _,_,Iq _,Iq _,Iq _,Iq _,Iq _,.str _] (_::_::_) ?_
 refine AOL.ghost (GS.Aac (t:=6) 0 rfl rfl) ?_
 refine Ag (AW.seq (Ah (Qp K9 (Qp Bp (Qp A6 (Ag (A3 (fun hc1=>?_) fun hc1=>?_)))))))
 ·
  refine Ah (Qp K9 (Qp Bp (Qp Xs (Qp Bp (Qp Qv (Qp Bp (Qp (Fr [Iq _,Iq _,Iq _]) ?_)))))))
  refine Qp (A2 (es:=[[Iq _,Iq _,Iq _]]) Ai rfl rfl rfl rfl rfl rfl rfl rfl rfl) ?_
  refine Qp (Fr [_,_,Iq _]) ?_
  refine Cz 0 [_,_,Iq _] (_::_) ?_
  refine Qp Bm (Ag (Du ?_))
  refine ⟨.inr rfl,[.agg [_,_,Iq _],.bool _],.cons (.box _ _ _ 0 _ _ _ _ rfl rfl rfl rfl rfl rfl) <| .cons (.tmp _ _ rfl) <| .nil,.cons _ (.refl _),?_⟩
  exact Eq.trans rfl (congrArg (fun q:Gp×Bool=>AV.tuple [.agg (cGp q.1),.bool q.2]) (Yw hc1)).symm
 ·
  refine By (AW.seq (Ah (Qp E7 ?_)))
  refine Qp (Qc rfl (Vx c.cond)) ?_
  refine Qp Hp (Qp Bu (Qg [] Qw (Cv [_,_]) (Qg [] Qw E7 ?_)))
  refine AOL.Aaf (y:=.bool _) _ [(25,_),(26,_)] rfl (oE.all ⟨Ent.Aab _ _,Ent.Aab _ _,trivial⟩) (fun hG=>E6 (by kernel_rfl) rfl rfl (Q9 T V c.cond hk)) rfl ?_
  refine Qp E2 (Ag (A3 (fun hc2=>?_) fun hc2=>?_))
  ·
   refine Ah (Qp (Fr [_,_,Iq _]) ?_)
   refine Cz 0 [_,_,Iq _] (_::_) ?_
   refine Qp Bm (Ag (Du ?_))
   refine ⟨.inr rfl,[.agg [_,_,Iq _],.bool _],.cons (.box _ _ _ 0 _ _ _ _ rfl rfl rfl rfl rfl rfl) <| .cons (.tmp _ _ rfl) <| .nil,.cons _ (.refl _),?_⟩
   exact Eq.trans rfl (congrArg (fun q:Gp×Bool=>AV.tuple [.agg (cGp q.1),.bool q.2]) (nD hc1 hc2)).symm
  ·
   refine By (AW.seq ?_)
   have h2:=Kd hk (Uu hc2)
   have h00:0<c.cond.args.length:=by omega
   have hsz:=Dl h2
   have hk0:=Az hk (Ba h00)
   have hk1:=Az hk (Bw h2)
   refine AW.draw mixed (fun _=>True) trivial (by kernel_rfl) ?_
   refine Qn 0 rfl Oy (Qn 1 rfl Ee ?_)
   refine Qn 2 rfl (Af (c:=[Iq _,_,Iq _,Iq _,Iq _,Iq _,Iq _,.str _]) Ai rfl rfl rfl rfl rfl rfl (by decide) (I3 h00)) ?_
   refine Qn 3 rfl E7 (Qn 4 rfl Oy (Qn 5 rfl Ee ?_))
   refine Qn 6 rfl (Af (c:=[Iq _,_,Iq _,Iq _,Iq _,Iq _,Iq _,.str _]) Ai rfl rfl rfl rfl rfl rfl (by decide) (Kh h2)) ?_
   refine Qn 7 rfl E7 ?_
   refine Qn 8 rfl (Qc rfl (Yp _ _ hk0.nodes hk1.nodes (by omega))) ?_
   refine Qn 9 rfl (Ci (v:=.agg [_,_,Iq _]) rfl rfl) ?_
   refine Qn 10 rfl eR ?_
   refine Jb.eff _ _ 11 _ _ rfl (by kernel_rfl) rfl rfl (Df (k:=0) (v:=.agg _) (cs':=[_,_,Iq _]) (H2:=_::_) Ai rfl rfl rfl rfl (rfl) rfl rfl rfl rfl) (fun _ _ _=>trivial) ?_
   rintro _ _ ⟨rfl,rfl⟩
   refine Qn 12 rfl Bm ?_
   refine Jb.done _ _ (by kernel_rfl) ?_
   refine Ae (AW.ret ?_)
   refine ⟨.inr rfl,[.agg [_,_,Iq _],.bool _],.cons (.box _ _ _ 0 _ _ _ _ rfl rfl rfl rfl rfl rfl) <| .cons (.tmp _ _ rfl) <| .nil,.cons _ (.refl _),?_⟩
   exact Eq.trans rfl (congrArg (fun q:Gp×Bool=>AV.tuple [.agg (cGp q.1),.bool q.2]) (Zq hc1 hc2)).symm
theorem tW (T:List Sc)(V:List Va)(t:Tm)(hk:KOK T V (Hr t)):Ax Tryz.prog 74 [.agg (Cw T V),.agg (Hz t)] (.tuple [.int .i64 (Ct T V t).1,.int .i64 (Ct T V t).2]):=by
 refine Ax.body (n:=16) Ai Tryz.func74 rfl rfl rfl fun H=>?_
 refine Ah (Qp (Gd [_,_]) (Qp (Gd [Iq _,Iq _,Iq _]) (Qp Ar (Qp Ar (Ag (AW.seq (AW.block (Ah (Qp (Qf [Iq _,Iq _,Iq _]) ?_)))))))))
 refine Qp Bp (Qp A6 (Qp Bm (Ag (A3 (fun hc1=>?_) fun hc1=>?_))))
 ·
  refine Ah (Qp Ar (Qp Ar (Ag (AW.ret (A7 (Aj ?_))))))
  refine Kg (Iq _) (Iq _) ?_
  exact Eq.trans rfl (congrArg (fun q:Int×Int=>AV.tuple [.int .i64 q.1,.int .i64 q.2]) (uG hc1)).symm
 ·
  refine AW.seq ?_
  refine AW.draw mixed (fun _=>True) trivial (by kernel_rfl) ?_
  refine Qn 0 rfl (Cv [_,_]) (Qn 1 rfl (Cv [Iq _,Iq _,Iq _]) ?_)
  refine Qn 2 rfl (Qc rfl (d_expr t)) ?_
  refine Qn 3 rfl (Qc rfl (gV T V _ hk)) ?_
  refine Qn 4 rfl A6 (Qn 5 rfl Bm ?_)
  refine Jb.done _ _ (by kernel_rfl) ?_
  refine Ae (A3 (fun hc2=>?_) fun hc2=>?_)
  ·
   refine Ah (Qp Ar (Qp Ar (Ag (AW.ret (A7 (Aj ?_))))))
   refine Kg (Iq _) (Iq _) ?_
   exact Eq.trans rfl (congrArg (fun q:Int×Int=>AV.tuple [.int .i64 q.1,.int .i64 q.2]) (sX hc1 hc2)).symm
  ·
   refine AW.skip (Bv (Ae (Ah (Qp Ar (Qp Ar (Ag (AW.ret ?_)))))))
   refine Kg (Iq _) (Iq _) ?_
   exact Eq.trans rfl (congrArg (fun q:Int×Int=>AV.tuple [.int .i64 q.1,.int .i64 q.2]) (vH hc1 hc2)).symm
theorem tS (T:List Sc)(V:List Va)(l:List Lit):Ax Tryz.prog 36 [.ptr (qP T V l)] (.bool (Ja (Cy T V l))):=by
 refine Ax.body (n:=18) Ai Tryz.func36 rfl rfl rfl fun H=>?_
 refine Ah (Qp Bm (Do (Qp Qmp ?_)))
 refine Qp (Iz rfl) ?_
 refine Qp (Qf [Iq _,_,_,_]) (Qp (Qf [Iq _,_,_,_]) (Qp Bp (Qp Ph (Qp Bu (Qg [] Qw Qmp ?_)))))
 refine AOL.Aaf (y:=.ptr _) _ [(10,_)] rfl (oE.all ⟨Ent.Aab _ _,trivial⟩) (fun hG=>Iz rfl) rfl ?_
 refine Qg [(11,_)] Qw (Qf [Iq _,_,_,_]) (Qg [(12,_)] Qw (Qf [_,_,_]) (Qg [(13,_)] Qw Ee ?_))
 refine AOL.Aaf (y:=Iq _) _ [(14,_)] rfl (oE.all ⟨Ent.Aab _ _,trivial⟩) (fun hG=>Al (n:=(Cy T V l).bs.length) Ai rfl rfl rfl (by simp)) rfl ?_
 refine Qg [(15,_)] Qw Ph (Qp Gg (Qp Bm (Ag (AW.ret ?_))))
 refine Qr (.bool _) ?_
 rfl
theorem Yi (m yb:Nat)(v:Value)(n0:Int)(c1:AV)(ts l:List Tm)(R:List HO)(hts:ts.length≤1048576):Dj Tryz.prog 73 (dO m yb v (.int .i64 n0) c1 ts R) [.val (.pointer (some ⟨yb,0,none⟩)),.sl 3 (l.map Hz)] (fun r H'=>∃v',r = .int .i64 (B1 (Av ts l) l)∧H'=dO m yb v' (.int .i64 n0) c1 (Av ts l) R):=by
 have hsc:∀c∈(ts.map Hz),Bc c=true:=Fc fun _=>rfl
 refine Dj.body (n:=55) Ai Tryz.func73 rfl rfl rfl ?_
 refine Ah (Qp Ar (Ag (AW.seq (Ah (Qp Dt ?_)))))
 refine Qp (Al (n:=l.length) Ai rfl rfl rfl (by simp)) ?_
 refine Qp A6 (Ag (A3 (fun hc1=>?_) fun hc1=>?_))
 ·
  have hnil:=nil_of hc1
  subst hnil
  refine Ah (Qp Ar (Ag (Du ?_)))
  refine ⟨.inr rfl,[Iq _],.cons (.tmp _ _ rfl) <| .nil,_,.refl _,?_⟩
  exact ⟨_,rfl,rfl⟩
 ·
  obtain ⟨t,l,rfl⟩:=wS hc1
  refine By ?_
  refine AW.cut (fun (w:Value)=>(⟨[(0,.val (.pointer (some ⟨yb,0,none⟩))),(1,.sl 3 ((t::l).map Hz))],dO m yb w (.int .i64 n0) c1 (Av ts (t::l)) R,55⟩:St)) (fun (w:Value)=>True) ?_ ?_
  ·
   refine AW.seq ?_
   refine AW.draw mixed (fun H'=>_∈H'∧_∈H') ⟨(List.mem_of_getElem? (i:=1) rfl),(List.mem_of_getElem? (i:=2) rfl)⟩ (by kernel_rfl) ?_
   refine Qn 0 rfl Ho ?_
   refine Qn 1 rfl (Be rfl) ?_
   refine Qn 2 rfl H9 ?_
   refine Qn 3 rfl (OpP.Aag (fun k=>Ao (k:=k) (c:=.val _) Ai rfl rfl rfl rfl) (fun _ h=>h.1)) ?_
   refine Qn 4 rfl Dt ?_
   refine Qn 5 rfl (Af (c:=[Iq _,Iq _,Iq _]) Ai rfl rfl rfl rfl rfl rfl (by decide) (rfl)) ?_
   refine Qn 6 rfl (Cv [Iq _,Iq _,Iq _]) ?_
   refine Qn 7 rfl (OpP.Aag (fun k=>Ox (i:=k) (eq:=G4 t) Ai rfl rfl rfl rfl rfl (by kernel_rfl) rfl rfl (rfl) (bN t _) (xT t ts) (uN t ts)) (fun _ h=>h.2)) ?_
   refine Qn 8 rfl Nb (Qn 9 rfl I6 (Qn 10 rfl eR (Qn 11 rfl Ar (Qn 12 rfl Bm ?_))))
   refine Jb.done _ _ (by kernel_rfl) ?_
   refine Ae (Ah (Qp Bu (Qp Hp (Ag (A3 (fun hc2=>?_) fun hc2=>?_)))))
   ·
    have hnew:ts.contains t=false:=by simpa using hc2
    refine AW.seq ?_
    refine AW.draw mixed (fun H'=>_∈H') (List.mem_of_getElem? (i:=1) rfl) (by kernel_rfl) ?_
    refine Qn 0 rfl Ho (Qn 1 rfl Ho ?_)
    refine Qn 2 rfl (Be rfl) ?_
    refine Qn 3 rfl H9 ?_
    refine Qn 4 rfl (OpP.Aag (fun k=>Ao (k:=k) (c:=.row _ _ _) Ai rfl rfl rfl rfl) (fun _ h=>h)) ?_
    refine Qn 5 rfl Dt ?_
    refine Qn 6 rfl (Af (c:=[Iq _,Iq _,Iq _]) Ai rfl rfl rfl rfl rfl rfl (by decide) (rfl)) ?_
    refine Qn 7 rfl (Cv [Iq _,Iq _,Iq _]) ?_
    refine Qn 8 rfl (A2 (es:=[[Iq _,Iq _,Iq _]]) Ai rfl rfl rfl rfl rfl rfl rfl rfl rfl) ?_
    refine Jb.eff _ _ 9 _ _ rfl (by kernel_rfl) rfl rfl (Dh (k:=0) Ai rfl rfl rfl rfl rfl rfl rfl rfl (G5 rfl) (hsc) (by simp;omega) (by simp [maxLen];omega)) (by rintro _ _ ⟨v32,rfl,rfl⟩;simp) ?_
    rintro _ _ ⟨v32,rfl,rfl⟩
    refine Qn 10 rfl (Be rfl) ?_
    refine Qn 11 rfl H9 ?_
    refine Jb.last _ _ 12 _ _ rfl (by kernel_rfl) rfl rfl (Df (k:=1) (v:=.row _ _ _) (cs':=[Iq _,_,_,_]) (H2:=_::_::_::_) Ai rfl rfl rfl rfl (rfl) rfl rfl rfl rfl) (by kernel_rfl) ?_
    rintro _ _ ⟨rfl,rfl⟩
    refine Ae ?_
    refine AW.draw mixed (fun H'=>_∈H') (List.mem_of_getElem? (i:=1) rfl) (by kernel_rfl) ?_
    refine Qn 0 rfl Ho ?_
    refine Qn 1 rfl (Be rfl) ?_
    refine Qn 2 rfl H9 ?_
    refine Qn 3 rfl (OpP.Aag (fun k=>Ao (k:=k) (c:=.val _) Ai rfl rfl rfl rfl) (fun _ h=>h)) ?_
    refine Qn 4 rfl Dt ?_
    refine Qn 5 rfl (Af (c:=[Iq _,Iq _,Iq _]) Ai rfl rfl rfl rfl rfl rfl (by decide) (rfl)) ?_
    refine Qn 6 rfl (Cv [Iq _,Iq _,Iq _]) (Qn 7 rfl Ho ?_)
    refine Qn 8 rfl (Be rfl) ?_
    refine Qn 9 rfl H9 ?_
    refine Qn 10 rfl (OpP.Aag (fun k=>Ao (k:=k) (c:=.row _ _ _) Ai rfl rfl rfl rfl) (fun _ h=>h)) ?_
    refine Qn 11 rfl (Lw (n:=ts.length+1) Ai rfl rfl rfl (by simp)) ?_
    refine Jb.last _ _ 12 _ _ rfl (by kernel_rfl) rfl rfl (Sj (i:=2) (eq:=G4 t) (H2:=_::_::_::_) Ai rfl rfl rfl rfl rfl rfl rfl (rfl) (bN t _) rfl (oK hnew) rfl) (by kernel_rfl) ?_
    rintro _ _ ⟨rfl,rfl⟩
    refine Ae ?_
    refine ⟨v32,?_,GS.trans (GS.heapTo (zI hnew)) (GS.weaken ⟨rfl,rfl,trivial⟩ (.refl _))⟩
    trivial
   ·
    have hold:ts.contains t=true:=by simpa using hc2
    refine By ?_
    refine ⟨v,?_,GS.trans (GS.heapTo (zC hold)) (GS.weaken ⟨rfl,rfl,trivial⟩ (.refl _))⟩
    trivial
  ·
   rintro w _
   refine AW.seq ?_
   refine AW.draw mixed (fun H'=>_∈H'∧_∈H') ⟨(List.mem_of_getElem? (i:=1) rfl),(List.mem_of_getElem? (i:=2) rfl)⟩ (by kernel_rfl) ?_
   refine Qn 0 rfl Ho ?_
   refine Qn 1 rfl (Be rfl) ?_
   refine Qn 2 rfl H9 ?_
   refine Qn 3 rfl (OpP.Aag (fun k=>Ao (k:=k) (c:=.val _) Ai rfl rfl rfl rfl) (fun _ h=>h.1)) ?_
   refine Qn 4 rfl Dt ?_
   refine Qn 5 rfl (Af (c:=[Iq _,Iq _,Iq _]) Ai rfl rfl rfl rfl rfl rfl (by decide) (rfl)) ?_
   refine Qn 6 rfl (Cv [Iq _,Iq _,Iq _]) ?_
   refine Qn 7 rfl (OpP.Aag (fun k=>I0 (i:=k) (eq:=G4 t) Ai rfl rfl rfl rfl rfl (by kernel_rfl) rfl rfl (rfl) (bN t _) (look_y (Xd t l ts))) (fun _ h=>h.2)) ?_
   refine Qn 8 rfl Ar ?_
   refine Jb.done _ _ (by kernel_rfl) ?_
   refine Ae (AW.ret ?_)
   refine ⟨.inr rfl,[Iq _],.cons (.tmp _ _ rfl) <| .nil,_,.refl _,?_⟩
   exact ⟨_,rfl,rfl⟩
theorem Ok (bb:Nat)(v:Value)(es:List (List AV))(R:List HO)(x z most:Int)(hel:es.length≤1048576)(hsc:∀c∈es,Bc c=true):Dj Tryz.prog 71 (.row v es.length 112 3 :: .box bb 44 [.row v 3 es]::R) [.int .i64 x,.int .i64 z,.int .i64 most,.val (.pointer (some ⟨bb,0,none⟩))] (fun r H'=>∃v',r = .tuple []∧H' = .row v' (es ++ [Qu ⟨x,z,most⟩]).length 112 3 :: .box bb 44 [.row v' 3 (es ++ [Qu ⟨x,z,most⟩])]::R):=by
 refine Dj.body (n:=14) Ai Tryz.func71 rfl rfl rfl ?_
 refine AW.region ?_
 refine AOL.Aah (Ao (k:=1) (c:=.row _ _ _) Ai rfl rfl rfl rfl) rfl rfl ?_
 refine Qp A0 (Qp A0 (Qp A0 (Qp (Fr [Iq _,Iq _,Iq _]) ?_)))
 refine Qp (A2 (es:=[[Iq _,Iq _,Iq _]]) Ai rfl rfl rfl rfl rfl rfl rfl rfl rfl) ?_
 refine Qe (Dh (k:=0) Ai rfl rfl rfl rfl rfl rfl rfl rfl (G5 rfl) (hsc) (by simp;omega) (by simp [maxLen];omega)) ?_
 rintro _ _ ⟨v13,rfl,rfl⟩
 refine Cz 1 [_] (_::_::_) ?_
 refine AOL.nil ?_
 refine ⟨.inl rfl,[],.nil,_,.refl _,?_⟩
 exact ⟨_,rfl,rfl⟩

end Go.Proofs.YtjedflcpjlgokaaGreatDoor
