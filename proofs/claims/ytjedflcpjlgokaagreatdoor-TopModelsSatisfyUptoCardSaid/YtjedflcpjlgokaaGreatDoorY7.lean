/-
  Walks of layer 11: clauses and their terms. No condition.
-/
import Derived.Test.YtjedflcpjlgokaaGreatDoorAz
import Derived.Test.YtjedflcpjlgokaaGreatDoorK17
import Derived.Test.YtjedflcpjlgokaaGreatDoorY6b
import Derived.KernelRfl
namespace Go.Proofs.YtjedflcpjlgokaaGreatDoor
open Go Go.Aw
set_option maxHeartbeats 1600000
set_option maxRecDepth 20000
set_option linter.unusedVariables false
set_option linter.unusedSimpArgs false

theorem T8 (T:List Sc)(hl:T.length≤1048576)(hst:∀s∈T,Ig s)(V:List Va)(hvl:V.length≤1048576):Ax Tryz.prog 63 [.agg (Cf T V)] (.int .i64 (Cn T V (Fy true)).2):=by
 refine Ax.body (n:=15) Ah Tryz.func63 rfl rfl rfl fun H=>?_
 refine Ai (Qp (Gd [_,_]) (Qp Ap (Ag (AW.seq ?_))))
 refine AW.draw mixed (fun _=>True) trivial (by kernel_rfl) ?_
 refine Qn 0 rfl (Qf [_,_]) (Qn 1 rfl Dy (Qn 2 rfl (Qf [_]) (Qn 3 rfl Dy ?_)))
 refine Qn 4 rfl (Qc rfl (wO true)) ?_
 refine Qn 5 rfl (Qc rfl (c31 T hl hst V hvl (Fy true) (by rw [Dp];simp [Fy,Ny]))) ?_
 refine Qn 6 rfl N6 (Qn 7 rfl Ke (Qn 8 rfl Ke (Qn 9 rfl Ap (Qn 10 rfl Ap ?_))))
 refine Jn.done _ _ (by kernel_rfl) ?_
 refine Ad (Ai (Qp Az (Qp Ap (Ag (AW.ret ?_)))))
 refine Qr (Iq _) ?_
 rfl
theorem sN (T:List Sc)(hl:T.length≤1048576)(hst:∀s∈T,Ig s)(V:List Va)(hvl:V.length≤1048576)(l:List Lit)(hll:l.length≤1048576)(hls:∀c∈l,Ar c.cond≤1048576):Ax Tryz.prog 34 [.agg (Cf T V),.sl 9 (l.map F0)] (.int .i64 (Fu T V l)):=by
 refine Ax.body (n:=55) Ah Tryz.func34 rfl rfl rfl fun H=>?_
 refine Ai (Qp (Gd [_,_]) (Qp Ap (Ag (AW.seq (Ai (Qp (Cq [_,_]) ?_))))))
 refine Qp (Qc rfl (T8 T hl hst V hvl)) ?_
 refine Qp Ap (Dm (Qp Az (Qp Cr (Ag (A6 (fun hc1=>?_) fun hc1=>?_)))))
 ·
  refine Ai (Qp Az (Qp Ap (Ag (Dw ?_))))
  refine Qr (Iq _) ?_
  exact Eq.trans rfl (congrArg (fun q:Int=>AV.int .i64 q) (sF hc1)).symm
 ·
  refine By (AW.seq (Ai (Qp Dx ?_)))
  refine Qp (Al (n:=l.length) Ah rfl rfl rfl (by simp)) ?_
  refine Qp Ha (Ag (A6 (fun hc2=>?_) fun hc2=>?_))
  ·
   refine Ai (Qp Ap (Ag (Dw ?_)))
   refine Qr (Iq _) ?_
   exact Eq.trans rfl (congrArg (fun q:Int=>AV.int .i64 q) (rU hc1 hc2)).symm
  ·
   refine By (AW.seq (Ai (Qp Dx ?_)))
   refine Qp (Al (n:=l.length) Ah rfl rfl rfl (by simp)) ?_
   refine Qp Az (Ag (AW.block ?_))
   refine AW.Aao (fun (k:Nat)=>(⟨[(2,.ptr (Cf T V)),(4,.int .i64 0),(17,.sl 9 (l.map F0)),(18,.int .i64 l.length),(19,.int .i64 (k:Int))],H,55⟩:St)) (fun (k:Nat)=>k≤l.length∧Ao (X1 T V) (l.take k)=0) (fun (k:Nat)=>l.length-k) (0) ?_ (GS.weaken ⟨rfl,rfl,rfl,rfl,rfl,trivial⟩ (.refl _)) ?_
   · exact ⟨Nat.zero_le _,rfl⟩
   ·
    rintro k hR
    refine Ai (Qp Ch (Ag (AW.seq (A6 (fun hc3=>?_) fun hc3=>?_))))
    ·
     obtain ⟨c,hc⟩:=B5 hc3
     have hlt:=A4 hc
     have hcm:=List.mem_of_getElem? hc
     refine By (AW.seq (AW.block (Ai ?_)))
     refine Qp (Af (c:=[Iq _,_,Iq _,Iq _,Iq _,Iq _,Iq _,.str _,.bool _]) Ah rfl rfl rfl rfl rfl rfl (by omega) (Bi hc)) ?_
     refine Qp (Cq [Iq _,_,Iq _,Iq _,Iq _,Iq _,Iq _,.str _,.bool _]) ?_
     refine Qe (Ak (l:=[.int .i64 0,.sl 8 [],.int .i64 0,.int .i64 0,.int .i64 0,.int .i64 0,.int .i64 0,.str [],.bool false]) (by kernel_rfl)) ?_
     rintro _ _ ⟨b7,rfl,rfl⟩
     refine Cv 0 [Iq _,_,Iq _,Iq _,Iq _,Iq _,Iq _,.str _,.bool _] (_::_) ?_
     refine AOL.ghost (GS.Aan (t:=7) 0 rfl rfl) ?_
     refine Ag (AW.seq (Ai (Qp (Cq [_,_]) (Qp (Qf [Iq _,_,Iq _,Iq _,Iq _,Iq _,Iq _,.str _,.bool _]) (Qp El ?_)))))
     refine Qp (Qc rfl (Oo T hl hst V hvl c.cond (hls c hcm))) ?_
     refine Qp Ap (Dm (Qp Az (Qp Cr (Ag (A6 (fun hc4=>?_) fun hc4=>?_)))))
     ·
      refine Ai (Qp Az (Qp Ap (Ag (Dw (Bb (Aj (Aj (Bb (Aj ?_)))))))))
      refine Qr (Iq _) ?_
      exact Eq.trans rfl (congrArg (fun q:Int=>AV.int .i64 q) ((Xr hc1 hc2).trans ((My hR.2 hc (by rw [lit_1 hc4];simpa using hc4)).trans (lit_1 hc4)))).symm
     ·
      refine By (AW.seq ?_)
      refine AW.draw mixed (fun _=>True) trivial (by kernel_rfl) ?_
      refine Qn 0 rfl (Cq [_,_]) (Qn 1 rfl (Qf [Iq _,_,Iq _,Iq _,Iq _,Iq _,Iq _,.str _,.bool _]) (Qn 2 rfl El ?_))
      refine Qn 3 rfl (Qc rfl (iM T V c.cond (Pz hc4))) ?_
      refine Qn 4 rfl B0 (Qo 5 rfl [] Qw (Qf [.bool _]) (Qo 6 rfl [(35,_)] Qw gV (Qo 7 rfl [(36,_)] Qw B0 (Qo 8 rfl [] Qw (Qf [Iq _,_,Iq _,Iq _,Iq _,Iq _,Iq _,.str _,.bool _]) (Qo 9 rfl [(38,_)] Qw (Qf [Iq _,_,Iq _,Iq _,Iq _,Iq _,Iq _,.str _,.bool _]) (Qo 10 rfl [(39,_)] Qw Bp (Qo 11 rfl [(40,_)] Qw A9 (Qo 12 rfl [(37,_),(41,_)] Qw F7 (Qo 13 rfl [(42,_)] Qw B0 ?_)))))))))
      refine Qo 14 rfl [] Qw (Cq [_,_]) (Qo 15 rfl [] Qw (Qf [Iq _,_,Iq _,Iq _,Iq _,Iq _,Iq _,.str _,.bool _]) (Qo 16 rfl [(45,_)] Qw (Qf [_,Iq _,Iq _,Iq _,Iq _,Iq _,.str _,.bool _]) (Qo 17 rfl [(46,_)] Qw Dy ?_)))
      refine Jn.pure _ _ 18 _ _ rfl (by kernel_rfl) (by kernel_rfl) rfl (.opt _ (.ptr _) [(47,_)] rfl (nC.all ⟨Ent.Aam _ _,trivial⟩) (fun hG=>Af (c:=[Iq _,_,Iq _,Iq _,Iq _,Iq _,Iq _,.str _]) Ah rfl rfl rfl rfl rfl rfl (by decide) (E4 (Nat.lt_of_succ_lt (g9c (Pz hc4) hG)))) rfl) ?_
      refine Qo 19 rfl [(48,_)] Qw El ?_
      refine Jn.pure _ _ 20 _ _ rfl (by kernel_rfl) (by kernel_rfl) rfl (.opt _ (Iq _) [(44,_),(49,_)] rfl (nC.all ⟨Ent.Aam _ _,Ent.Aam _ _,trivial⟩) (fun hG=>E3 (by kernel_rfl) rfl rfl (Wu T V _ (A2 (Pz hc4) (A0 (Nat.lt_of_succ_lt (g9c (Pz hc4) hG)))))) rfl) ?_
      refine Qo 21 rfl [(50,_)] Qw A9 (Qo 22 rfl [(43,_),(51,_)] Qw F7 (Qn 23 rfl E1 ?_))
      refine Jn.done _ _ (by kernel_rfl) ?_
      refine Ad (A6 (fun hc5=>?_) fun hc5=>?_)
      ·
       refine Ai (Qp Ap (Ag (AW.ret (Bb (Aj (Aj (Bb (Aj ?_))))))))
       refine Qr (Iq _) ?_
       exact Eq.trans rfl (congrArg (fun q:Int=>AV.int .i64 q) ((Xr hc1 hc2).trans ((My hR.2 hc (by rw [lit_2 hc4 hc5];decide)).trans (lit_2 hc4 hc5)))).symm
      ·
       refine AW.skip (Bu (Ad (AW.region (Qp Ey (Qp Az (Ag ?_))))))
       refine ⟨k+1,?_,?_,GS.weaken ⟨rfl,rfl,rfl,rfl,rfl,trivial⟩ (.refl _)⟩
       · exact ⟨hlt,Qz hR.2 hc (lit_3 hc4 hc5)⟩
       · omega
    ·
     have hte:=Cu hc3
     have hall:=hR.2
     rw [hte] at hall
     refine AW.exit ?_
     refine A5 (A5 (Bq (Ad (Ai (Qp Ap (Ag (AW.ret ?_)))))))
     refine Qr (Iq _) ?_
     exact Eq.trans rfl (congrArg (fun q:Int=>AV.int .i64 q) ((Xr hc1 hc2).trans hall)).symm
theorem pT (T:List Sc)(V:List Va)(c:Lit)(hk:KOK T V c.cond)(hse:Ar c.cond≤64):Ax Tryz.prog 72 [.agg (Cf T V),.agg (F0 c)] (.tuple [.agg (cGp (Aa T V c).1),.bool (Aa T V c).2]):=by
 refine Ax.body (n:=41) Ah Tryz.func72 rfl rfl rfl fun H=>?_
 refine Ai (Qp (Gd [_,_]) (Qp (Gd [Iq _,_,Iq _,Iq _,Iq _,Iq _,Iq _,.str _,.bool _]) ?_))
 refine Qe (Ak (l:=[.sl 3 [],.sl 3 [],.int .i64 0]) (by kernel_rfl)) ?_
 rintro _ _ ⟨b4,rfl,rfl⟩
 refine Qp Bl (Dm (Qp (Qf [Iq _,_,Iq _,Iq _,Iq _,Iq _,Iq _,.str _,.bool _]) (Qp El ?_)))
 refine Qe (Ak (l:=[.int .i64 0,.sl 8 [],.int .i64 0,.int .i64 0,.int .i64 0,.int .i64 0,.int .i64 0,.str []]) (by kernel_rfl)) ?_
 rintro _ _ ⟨b6,rfl,rfl⟩
 refine Cv 0 [Iq _,_,Iq _,Iq _,Iq _,Iq _,Iq _,.str _] (_::_::_) ?_
 refine AOL.ghost (GS.Aan (t:=6) 0 rfl rfl) ?_
 refine Ag (AW.seq (Ai (Qp Jl (Qp Bp (Qp A9 (Ag (A6 (fun hc1=>?_) fun hc1=>?_)))))))
 ·
  refine Ai (Qp Jl (Qp Bp (Qp Te (Qp Bp (Qp Oq (Qp Bp (Qp (Fz [Iq _,Iq _,Iq _]) ?_)))))))
  refine Qp (A1 (es:=[[Iq _,Iq _,Iq _]]) Ah rfl rfl rfl rfl rfl rfl rfl rfl rfl) ?_
  refine Qp (Fz [_,_,Iq _]) ?_
  refine Cv 0 [_,_,Iq _] (_::_) ?_
  refine Qp Bl (Ag (Dw ?_))
  refine ⟨.inr rfl,[.agg [_,_,Iq _],.bool _],.cons (.box _ _ _ 0 _ _ _ _ rfl rfl rfl rfl rfl rfl) <| .cons (.tmp _ _ rfl) <| .nil,.cons _ (.refl _),?_⟩
  exact Eq.trans rfl (congrArg (fun q:Gp×Bool=>AV.tuple [.agg (cGp q.1),.bool q.2]) (Vt hc1)).symm
 ·
  refine By (AW.seq (Ai (Qp El ?_)))
  refine Qp (Qc rfl (V2 c.cond)) ?_
  refine Qp Hc (Qp B0 (Qg [] Qw (Cq [_,_]) (Qg [] Qw El ?_)))
  refine AOL.Aar (y:=.bool _) _ [(25,_),(26,_)] rfl (nC.all ⟨Ent.Aam _ _,Ent.Aam _ _,trivial⟩) (fun hG=>E3 (by kernel_rfl) rfl rfl (R4 T V c.cond hk)) rfl ?_
  refine Qp E1 (Ag (A6 (fun hc2=>?_) fun hc2=>?_))
  ·
   refine Ai (Qp (Fz [_,_,Iq _]) ?_)
   refine Cv 0 [_,_,Iq _] (_::_) ?_
   refine Qp Bl (Ag (Dw ?_))
   refine ⟨.inr rfl,[.agg [_,_,Iq _],.bool _],.cons (.box _ _ _ 0 _ _ _ _ rfl rfl rfl rfl rfl rfl) <| .cons (.tmp _ _ rfl) <| .nil,.cons _ (.refl _),?_⟩
   exact Eq.trans rfl (congrArg (fun q:Gp×Bool=>AV.tuple [.agg (cGp q.1),.bool q.2]) (eU hc1 hc2)).symm
  ·
   refine By (AW.seq ?_)
   have h2:=Je hk (Rt hc2)
   have h00:0<c.cond.args.length:=by omega
   have hsz:=Db h2
   have hk0:=A2 hk (A0 h00)
   have hk1:=A2 hk (Bk h2)
   refine AW.draw mixed (fun _=>True) trivial (by kernel_rfl) ?_
   refine Qn 0 rfl Lp (Qn 1 rfl Dy ?_)
   refine Qn 2 rfl (Af (c:=[Iq _,_,Iq _,Iq _,Iq _,Iq _,Iq _,.str _]) Ah rfl rfl rfl rfl rfl rfl (by decide) (E4 h00)) ?_
   refine Qn 3 rfl El (Qn 4 rfl Lp (Qn 5 rfl Dy ?_))
   refine Qn 6 rfl (Af (c:=[Iq _,_,Iq _,Iq _,Iq _,Iq _,Iq _,.str _]) Ah rfl rfl rfl rfl rfl rfl (by decide) (H7 h2)) ?_
   refine Qn 7 rfl El ?_
   refine Qn 8 rfl (Qc rfl (Y0 _ _ hk0.nodes hk1.nodes (by omega))) ?_
   refine Qn 9 rfl (Ci (v:=.agg [_,_,Iq _]) rfl rfl) ?_
   refine Qn 10 rfl bB ?_
   refine Jn.eff _ _ 11 _ _ rfl (by kernel_rfl) rfl rfl (B2 (k:=0) (v:=.agg _) (cs':=[_,_,Iq _]) (H2:=_::_) Ah rfl rfl rfl rfl (rfl) rfl rfl rfl rfl) (fun _ _ _=>trivial) ?_
   rintro _ _ ⟨rfl,rfl⟩
   refine Qn 12 rfl Bl ?_
   refine Jn.done _ _ (by kernel_rfl) ?_
   refine Ad (AW.ret ?_)
   refine ⟨.inr rfl,[.agg [_,_,Iq _],.bool _],.cons (.box _ _ _ 0 _ _ _ _ rfl rfl rfl rfl rfl rfl) <| .cons (.tmp _ _ rfl) <| .nil,.cons _ (.refl _),?_⟩
   exact Eq.trans rfl (congrArg (fun q:Gp×Bool=>AV.tuple [.agg (cGp q.1),.bool q.2]) (Zx hc1 hc2)).symm
theorem qU (T:List Sc)(V:List Va)(t:Tm)(hk:KOK T V (Fx t)):Ax Tryz.prog 74 [.agg (Cf T V),.agg (Hw t)] (.tuple [.int .i64 (Dh T V t).1,.int .i64 (Dh T V t).2]):=by
 refine Ax.body (n:=16) Ah Tryz.func74 rfl rfl rfl fun H=>?_
 refine Ai (Qp (Gd [_,_]) (Qp (Gd [Iq _,Iq _,Iq _]) (Qp Ap (Qp Ap (Ag (AW.seq (AW.block (Ai (Qp (Qf [Iq _,Iq _,Iq _]) ?_)))))))))
 refine Qp Bp (Qp A9 (Qp Bl (Ag (A6 (fun hc1=>?_) fun hc1=>?_))))
 ·
  refine Ai (Qp Ap (Qp Ap (Ag (AW.ret (Bb (Aj ?_))))))
  refine La (Iq _) (Iq _) ?_
  exact Eq.trans rfl (congrArg (fun q:Int×Int=>AV.tuple [.int .i64 q.1,.int .i64 q.2]) (lim_1 hc1)).symm
 ·
  refine AW.seq ?_
  refine AW.draw mixed (fun _=>True) trivial (by kernel_rfl) ?_
  refine Qn 0 rfl (Cq [_,_]) (Qn 1 rfl (Cq [Iq _,Iq _,Iq _]) ?_)
  refine Qn 2 rfl (Qc rfl (uK t)) ?_
  refine Qn 3 rfl (Qc rfl (Wu T V _ hk)) ?_
  refine Qn 4 rfl A9 (Qn 5 rfl Bl ?_)
  refine Jn.done _ _ (by kernel_rfl) ?_
  refine Ad (A6 (fun hc2=>?_) fun hc2=>?_)
  ·
   refine Ai (Qp Ap (Qp Ap (Ag (AW.ret (Bb (Aj ?_))))))
   refine La (Iq _) (Iq _) ?_
   exact Eq.trans rfl (congrArg (fun q:Int×Int=>AV.tuple [.int .i64 q.1,.int .i64 q.2]) (lim_2 hc1 hc2)).symm
  ·
   refine AW.skip (Bu (Ad (Ai (Qp Ap (Qp Ap (Ag (AW.ret ?_)))))))
   refine La (Iq _) (Iq _) ?_
   exact Eq.trans rfl (congrArg (fun q:Int×Int=>AV.tuple [.int .i64 q.1,.int .i64 q.2]) (lim_3 hc1 hc2)).symm
theorem iL (T:List Sc)(V:List Va)(l:List Lit):Ax Tryz.prog 36 [.ptr (oA T V l)] (.bool (Ic (Bf T V l))):=by
 refine Ax.body (n:=18) Ah Tryz.func36 rfl rfl rfl fun H=>?_
 refine Ai (Qp Bl (Dm (Qp wA ?_)))
 refine Qp (Gk rfl) ?_
 refine Qp (Qf [Iq _,_,_,_]) (Qp (Qf [Iq _,_,_,_]) (Qp Bp (Qp N8 (Qp B0 (Qg [] Qw wA ?_)))))
 refine AOL.Aar (y:=.ptr _) _ [(10,_)] rfl (nC.all ⟨Ent.Aam _ _,trivial⟩) (fun hG=>Gk rfl) rfl ?_
 refine Qg [(11,_)] Qw (Qf [Iq _,_,_,_]) (Qg [(12,_)] Qw (Qf [_,_,_]) (Qg [(13,_)] Qw Dy ?_))
 refine AOL.Aar (y:=Iq _) _ [(14,_)] rfl (nC.all ⟨Ent.Aam _ _,trivial⟩) (fun hG=>Al (n:=(Bf T V l).bs.length) Ah rfl rfl rfl (by simp)) rfl ?_
 refine Qg [(15,_)] Qw N8 (Qp F7 (Qp Bl (Ag (AW.ret ?_))))
 refine Qr (.bool _) ?_
 rfl
theorem Za (m yb:Nat)(v:Value)(n0:Int)(c1:AV)(ts l:List Tm)(R:List HO)(hts:ts.length≤1048576):Dk Tryz.prog 73 (gH m yb v (.int .i64 n0) c1 ts R) [.val (.pointer (some ⟨yb,0,none⟩)),.sl 3 (l.map Hw)] (fun r H'=>∃v',r = .int .i64 (B9 (A3 ts l) l)∧H'=gH m yb v' (.int .i64 n0) c1 (A3 ts l) R):=by
 have hsc:∀c∈(ts.map Hw),Be c=true:=Ed fun _=>rfl
 refine Dk.body (n:=55) Ah Tryz.func73 rfl rfl rfl ?_
 refine Ai (Qp Ap (Ag (AW.seq (Ai (Qp Dx ?_)))))
 refine Qp (Al (n:=l.length) Ah rfl rfl rfl (by simp)) ?_
 refine Qp A9 (Ag (A6 (fun hc1=>?_) fun hc1=>?_))
 ·
  have hnil:=nil_of hc1
  subst hnil
  refine Ai (Qp Ap (Ag (Dw ?_)))
  refine ⟨.inr rfl,[Iq _],.cons (.tmp _ _ rfl) <| .nil,_,.refl _,?_⟩
  exact ⟨_,rfl,rfl⟩
 ·
  obtain ⟨t,l,rfl⟩:=yI hc1
  refine By ?_
  refine AW.cut (fun (w:Value)=>(⟨[(0,.val (.pointer (some ⟨yb,0,none⟩))),(1,.sl 3 ((t::l).map Hw))],gH m yb w (.int .i64 n0) c1 (A3 ts (t::l)) R,55⟩:St)) (fun (w:Value)=>True) ?_ ?_
  ·
   refine AW.seq ?_
   refine AW.draw mixed (fun H'=>_∈H'∧_∈H') ⟨(List.mem_of_getElem? (i:=1) rfl),(List.mem_of_getElem? (i:=2) rfl)⟩ (by kernel_rfl) ?_
   refine Qn 0 rfl Gr ?_
   refine Qn 1 rfl (Bn rfl) ?_
   refine Qn 2 rfl Gc ?_
   refine Qn 3 rfl (OpP.Aaq (fun k=>Am (k:=k) (c:=.val _) Ah rfl rfl rfl rfl) (fun _ h=>h.1)) ?_
   refine Qn 4 rfl Dx ?_
   refine Qn 5 rfl (Af (c:=[Iq _,Iq _,Iq _]) Ah rfl rfl rfl rfl rfl rfl (by decide) (rfl)) ?_
   refine Qn 6 rfl (Cq [Iq _,Iq _,Iq _]) ?_
   refine Qn 7 rfl (OpP.Aaq (fun k=>Pt (i:=k) (eq:=Hf t) Ah rfl rfl rfl rfl rfl (by kernel_rfl) rfl rfl (rfl) (aU t _) (yV t ts) (vL t ts)) (fun _ h=>h.2)) ?_
   refine Qn 8 rfl N6 (Qn 9 rfl Ke (Qn 10 rfl bB (Qn 11 rfl Ap (Qn 12 rfl Bl ?_))))
   refine Jn.done _ _ (by kernel_rfl) ?_
   refine Ad (Ai (Qp B0 (Qp Hc (Ag (A6 (fun hc2=>?_) fun hc2=>?_)))))
   ·
    have hnew:ts.contains t=false:=by simpa using hc2
    refine AW.seq ?_
    refine AW.draw mixed (fun H'=>_∈H') (List.mem_of_getElem? (i:=1) rfl) (by kernel_rfl) ?_
    refine Qn 0 rfl Gr (Qn 1 rfl Gr ?_)
    refine Qn 2 rfl (Bn rfl) ?_
    refine Qn 3 rfl Gc ?_
    refine Qn 4 rfl (OpP.Aaq (fun k=>Am (k:=k) (c:=.row _ _ _) Ah rfl rfl rfl rfl) (fun _ h=>h)) ?_
    refine Qn 5 rfl Dx ?_
    refine Qn 6 rfl (Af (c:=[Iq _,Iq _,Iq _]) Ah rfl rfl rfl rfl rfl rfl (by decide) (rfl)) ?_
    refine Qn 7 rfl (Cq [Iq _,Iq _,Iq _]) ?_
    refine Qn 8 rfl (A1 (es:=[[Iq _,Iq _,Iq _]]) Ah rfl rfl rfl rfl rfl rfl rfl rfl rfl) ?_
    refine Jn.eff _ _ 9 _ _ rfl (by kernel_rfl) rfl rfl (C3 (k:=0) Ah rfl rfl rfl rfl rfl rfl rfl rfl (Ff rfl) (hsc) (by simp;omega) (by simp [maxLen];omega)) (by rintro _ _ ⟨v32,rfl,rfl⟩;simp) ?_
    rintro _ _ ⟨v32,rfl,rfl⟩
    refine Qn 10 rfl (Bn rfl) ?_
    refine Qn 11 rfl Gc ?_
    refine Jn.last _ _ 12 _ _ rfl (by kernel_rfl) rfl rfl (B2 (k:=1) (v:=.row _ _ _) (cs':=[Iq _,_,_,_]) (H2:=_::_::_::_) Ah rfl rfl rfl rfl (rfl) rfl rfl rfl rfl) (by kernel_rfl) ?_
    rintro _ _ ⟨rfl,rfl⟩
    refine Ad ?_
    refine AW.draw mixed (fun H'=>_∈H') (List.mem_of_getElem? (i:=1) rfl) (by kernel_rfl) ?_
    refine Qn 0 rfl Gr ?_
    refine Qn 1 rfl (Bn rfl) ?_
    refine Qn 2 rfl Gc ?_
    refine Qn 3 rfl (OpP.Aaq (fun k=>Am (k:=k) (c:=.val _) Ah rfl rfl rfl rfl) (fun _ h=>h)) ?_
    refine Qn 4 rfl Dx ?_
    refine Qn 5 rfl (Af (c:=[Iq _,Iq _,Iq _]) Ah rfl rfl rfl rfl rfl rfl (by decide) (rfl)) ?_
    refine Qn 6 rfl (Cq [Iq _,Iq _,Iq _]) (Qn 7 rfl Gr ?_)
    refine Qn 8 rfl (Bn rfl) ?_
    refine Qn 9 rfl Gc ?_
    refine Qn 10 rfl (OpP.Aaq (fun k=>Am (k:=k) (c:=.row _ _ _) Ah rfl rfl rfl rfl) (fun _ h=>h)) ?_
    refine Qn 11 rfl (K6 (n:=ts.length+1) Ah rfl rfl rfl (by simp)) ?_
    refine Jn.last _ _ 12 _ _ rfl (by kernel_rfl) rfl rfl (S8 (i:=2) (eq:=Hf t) (H2:=_::_::_::_) Ah rfl rfl rfl rfl rfl rfl rfl (rfl) (aU t _) rfl (nA hnew) rfl) (by kernel_rfl) ?_
    rintro _ _ ⟨rfl,rfl⟩
    refine Ad ?_
    refine ⟨v32,?_,GS.trans (GS.heapTo (Aae hnew)) (GS.weaken ⟨rfl,rfl,trivial⟩ (.refl _))⟩
    trivial
   ·
    have hold:ts.contains t=true:=by simpa using hc2
    refine By ?_
    refine ⟨v,?_,GS.trans (GS.heapTo (yP hold)) (GS.weaken ⟨rfl,rfl,trivial⟩ (.refl _))⟩
    trivial
  ·
   rintro w _
   refine AW.seq ?_
   refine AW.draw mixed (fun H'=>_∈H'∧_∈H') ⟨(List.mem_of_getElem? (i:=1) rfl),(List.mem_of_getElem? (i:=2) rfl)⟩ (by kernel_rfl) ?_
   refine Qn 0 rfl Gr ?_
   refine Qn 1 rfl (Bn rfl) ?_
   refine Qn 2 rfl Gc ?_
   refine Qn 3 rfl (OpP.Aaq (fun k=>Am (k:=k) (c:=.val _) Ah rfl rfl rfl rfl) (fun _ h=>h.1)) ?_
   refine Qn 4 rfl Dx ?_
   refine Qn 5 rfl (Af (c:=[Iq _,Iq _,Iq _]) Ah rfl rfl rfl rfl rfl rfl (by decide) (rfl)) ?_
   refine Qn 6 rfl (Cq [Iq _,Iq _,Iq _]) ?_
   refine Qn 7 rfl (OpP.Aaq (fun k=>I7 (i:=k) (eq:=Hf t) Ah rfl rfl rfl rfl rfl (by kernel_rfl) rfl rfl (rfl) (aU t _) (look_y (V8 t l ts))) (fun _ h=>h.2)) ?_
   refine Qn 8 rfl Ap ?_
   refine Jn.done _ _ (by kernel_rfl) ?_
   refine Ad (AW.ret ?_)
   refine ⟨.inr rfl,[Iq _],.cons (.tmp _ _ rfl) <| .nil,_,.refl _,?_⟩
   exact ⟨_,rfl,rfl⟩
theorem O0 (bb:Nat)(v:Value)(es:List (List AV))(R:List HO)(x z most:Int)(hel:es.length≤1048576)(hsc:∀c∈es,Be c=true):Dk Tryz.prog 71 (.row v es.length 112 3 :: .box bb 44 [.row v 3 es]::R) [.int .i64 x,.int .i64 z,.int .i64 most,.val (.pointer (some ⟨bb,0,none⟩))] (fun r H'=>∃v',r = .tuple []∧H' = .row v' (es ++ [Q7 ⟨x,z,most⟩]).length 112 3 :: .box bb 44 [.row v' 3 (es ++ [Q7 ⟨x,z,most⟩])]::R):=by
 refine Dk.body (n:=14) Ah Tryz.func71 rfl rfl rfl ?_
 refine AW.region ?_
 refine AOL.Aas (Am (k:=1) (c:=.row _ _ _) Ah rfl rfl rfl rfl) rfl rfl ?_
 refine Qp Az (Qp Az (Qp Az (Qp (Fz [Iq _,Iq _,Iq _]) ?_)))
 refine Qp (A1 (es:=[[Iq _,Iq _,Iq _]]) Ah rfl rfl rfl rfl rfl rfl rfl rfl rfl) ?_
 refine Qe (C3 (k:=0) Ah rfl rfl rfl rfl rfl rfl rfl rfl (Ff rfl) (hsc) (by simp;omega) (by simp [maxLen];omega)) ?_
 rintro _ _ ⟨v13,rfl,rfl⟩
 refine Cv 1 [_] (_::_::_) ?_
 refine AOL.nil ?_
 refine ⟨.inl rfl,[],.nil,_,.refl _,?_⟩
 exact ⟨_,rfl,rfl⟩

end Go.Proofs.YtjedflcpjlgokaaGreatDoor
