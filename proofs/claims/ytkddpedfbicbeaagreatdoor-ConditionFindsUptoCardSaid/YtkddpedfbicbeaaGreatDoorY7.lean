/-
  Walks of layer 11: clauses and their terms. No condition.
-/
import Derived.Test.YtkddpedfbicbeaaGreatDoorAz
import Derived.Test.YtkddpedfbicbeaaGreatDoorK16
import Derived.Test.YtkddpedfbicbeaaGreatDoorY6b
import Derived.KernelRfl
namespace Go.Proofs.YtkddpedfbicbeaaGreatDoor
open Go Go.Aw
set_option maxHeartbeats 1600000
set_option maxRecDepth 20000
set_option linter.unusedVariables false
set_option linter.unusedSimpArgs false

theorem U4 (T:List Sc)(hl:T.length≤1048576)(hst:∀s∈T,Jk s)(V:List Va)(hvl:V.length≤1048576):Av Tryz.prog 102 [.agg (Co T V)] (.int .i64 (Db T V (Em true)).2):=by
 refine Av.body (n:=15) Ai Tryz.func102 rfl rfl rfl fun H=>?_
 refine Ah (Qp (F5 [_,_]) (Qp At (Ag (AW.seq ?_))))
 refine AW.draw mixed (fun _=>True) trivial (by kernel_rfl) ?_
 refine Qn 0 rfl (Qf [_,_]) (Qn 1 rfl Dk (Qn 2 rfl (Qf [_]) (Qn 3 rfl Dk ?_)))
 refine Qn 4 rfl (Qc rfl (pR true)) ?_
 refine Qn 5 rfl (Qc rfl (c31 T hl hst V hvl (Em true) (by rw [D5];simp [Em,Ol]))) ?_
 refine Qn 6 rfl Mv (Qn 7 rfl Jn (Qn 8 rfl Jn (Qn 9 rfl At (Qn 10 rfl At ?_))))
 refine Jv.done _ _ (by kernel_rfl) ?_
 refine Ae (Ah (Qp A0 (Qp At (Ag (AW.ret ?_)))))
 refine Qr (Iq _) ?_
 rfl
theorem xJ (T:List Sc)(hl:T.length≤1048576)(hst:∀s∈T,Jk s)(V:List Va)(hvl:V.length≤1048576)(l:List Lit)(hll:l.length≤1048576)(hls:∀c∈l,Ar c.cond≤1048576):Av Tryz.prog 78 [.agg (Co T V),.sl 9 (l.map G3)] (.int .i64 (Gf T V l)):=by
 refine Av.body (n:=55) Ai Tryz.func78 rfl rfl rfl fun H=>?_
 refine Ah (Qp (F5 [_,_]) (Qp At (Ag (AW.seq (Ah (Qp (Ck [_,_]) ?_))))))
 refine Qp (Qc rfl (U4 T hl hst V hvl)) ?_
 refine Qp At (Df (Qp A0 (Qp Cr (Ag (A3 (fun hc1=>?_) fun hc1=>?_)))))
 ·
  refine Ah (Qp A0 (Qp At (Ag (Dr ?_))))
  refine Qr (Iq _) ?_
  exact Eq.trans rfl (congrArg (fun q:Int=>AV.int .i64 q) (uH hc1)).symm
 ·
  refine Bx (AW.seq (Ah (Qp C4 ?_)))
  refine Qp (Ak (n:=l.length) Ai rfl rfl rfl (by simp)) ?_
  refine Qp Hg (Ag (A3 (fun hc2=>?_) fun hc2=>?_))
  ·
   refine Ah (Qp At (Ag (Dr ?_)))
   refine Qr (Iq _) ?_
   exact Eq.trans rfl (congrArg (fun q:Int=>AV.int .i64 q) (wV hc1 hc2)).symm
  ·
   refine Bx (AW.seq (Ah (Qp C4 ?_)))
   refine Qp (Ak (n:=l.length) Ai rfl rfl rfl (by simp)) ?_
   refine Qp A0 (Ag (AW.block ?_))
   refine AW.Aae (fun (k:Nat)=>(⟨[(2,.ptr (Co T V)),(4,.int .i64 0),(17,.sl 9 (l.map G3)),(18,.int .i64 l.length),(19,.int .i64 (k:Int))],H,55⟩:St)) (fun (k:Nat)=>k≤l.length∧Aq (Za T V) (l.take k)=0) (fun (k:Nat)=>l.length-k) (0) ?_ (GS.weaken ⟨rfl,rfl,rfl,rfl,rfl,trivial⟩ (.refl _)) ?_
   · exact ⟨Nat.zero_le _,rfl⟩
   ·
    rintro k hR
    refine Ah (Qp Cj (Ag (AW.seq (A3 (fun hc3=>?_) fun hc3=>?_))))
    ·
     obtain ⟨c,hc⟩:=B2 hc3
     have hlt:=A9 hc
     have hcm:=List.mem_of_getElem? hc
     refine Bx (AW.seq (AW.block (Ah ?_)))
     refine Qp (Af (c:=[Iq _,_,Iq _,Iq _,Iq _,Iq _,Iq _,.str _,.bool _]) Ai rfl rfl rfl rfl rfl rfl (by omega) (Bh hc)) ?_
     refine Qp (Ck [Iq _,_,Iq _,Iq _,Iq _,Iq _,Iq _,.str _,.bool _]) ?_
     refine Qe (Al (l:=[.int .i64 0,.sl 8 [],.int .i64 0,.int .i64 0,.int .i64 0,.int .i64 0,.int .i64 0,.str [],.bool false]) (by kernel_rfl)) ?_
     rintro _ _ ⟨b7,rfl,rfl⟩
     refine Cm 0 [Iq _,_,Iq _,Iq _,Iq _,Iq _,Iq _,.str _,.bool _] (_::_) ?_
     refine AOL.ghost (GS.Aad (t:=7) 0 rfl rfl) ?_
     refine Ag (AW.seq (Ah (Qp (Ck [_,_]) (Qp (Qf [Iq _,_,Iq _,Iq _,Iq _,Iq _,Iq _,.str _,.bool _]) (Qp D0 ?_)))))
     refine Qp (Qc rfl (Pf T hl hst V hvl c.cond (hls c hcm))) ?_
     refine Qp At (Df (Qp A0 (Qp Cr (Ag (A3 (fun hc4=>?_) fun hc4=>?_)))))
     ·
      refine Ah (Qp A0 (Qp At (Ag (Dr (Ba (Aj (Aj (Ba (Aj ?_)))))))))
      refine Qr (Iq _) ?_
      exact Eq.trans rfl (congrArg (fun q:Int=>AV.int .i64 q) ((Xg hc1 hc2).trans ((Nj hR.2 hc (by rw [lit_1 hc4];simpa using hc4)).trans (lit_1 hc4)))).symm
     ·
      refine Bx (AW.seq ?_)
      refine AW.draw mixed (fun _=>True) trivial (by kernel_rfl) ?_
      refine Qn 0 rfl (Ck [_,_]) (Qn 1 rfl (Qf [Iq _,_,Iq _,Iq _,Iq _,Iq _,Iq _,.str _,.bool _]) (Qn 2 rfl D0 ?_))
      refine Qn 3 rfl (Qc rfl (kG T V c.cond (P8 hc4))) ?_
      refine Qn 4 rfl Bp (Qo 5 rfl [] Qw (Qf [.bool _]) (Qo 6 rfl [(35,_)] Qw jV (Qo 7 rfl [(36,_)] Qw Bp (Qo 8 rfl [] Qw (Qf [Iq _,_,Iq _,Iq _,Iq _,Iq _,Iq _,.str _,.bool _]) (Qo 9 rfl [(38,_)] Qw (Qf [Iq _,_,Iq _,Iq _,Iq _,Iq _,Iq _,.str _,.bool _]) (Qo 10 rfl [(39,_)] Qw Bs (Qo 11 rfl [(40,_)] Qw A5 (Qo 12 rfl [(37,_),(41,_)] Qw E1 (Qo 13 rfl [(42,_)] Qw Bp ?_)))))))))
      refine Qo 14 rfl [] Qw (Ck [_,_]) (Qo 15 rfl [] Qw (Qf [Iq _,_,Iq _,Iq _,Iq _,Iq _,Iq _,.str _,.bool _]) (Qo 16 rfl [(45,_)] Qw (Qf [_,Iq _,Iq _,Iq _,Iq _,Iq _,.str _,.bool _]) (Qo 17 rfl [(46,_)] Qw Dk ?_)))
      refine Jv.pure _ _ 18 _ _ rfl (by kernel_rfl) (by kernel_rfl) rfl (.opt _ (.ptr _) [(47,_)] rfl (rX.all ⟨Ent.Aac _ _,trivial⟩) (fun hG=>Af (c:=[Iq _,_,Iq _,Iq _,Iq _,Iq _,Iq _,.str _]) Ai rfl rfl rfl rfl rfl rfl (by decide) (Fp (Nat.lt_of_succ_lt (g9c (P8 hc4) hG)))) rfl) ?_
      refine Qo 19 rfl [(48,_)] Qw D0 ?_
      refine Jv.pure _ _ 20 _ _ rfl (by kernel_rfl) (by kernel_rfl) rfl (.opt _ (Iq _) [(44,_),(49,_)] rfl (rX.all ⟨Ent.Aac _ _,Ent.Aac _ _,trivial⟩) (fun hG=>C7 (by kernel_rfl) rfl rfl (Xx T V _ (A1 (P8 hc4) (A4 (Nat.lt_of_succ_lt (g9c (P8 hc4) hG)))))) rfl) ?_
      refine Qo 21 rfl [(50,_)] Qw A5 (Qo 22 rfl [(43,_),(51,_)] Qw E1 (Qn 23 rfl E2 ?_))
      refine Jv.done _ _ (by kernel_rfl) ?_
      refine Ae (A3 (fun hc5=>?_) fun hc5=>?_)
      ·
       refine Ah (Qp At (Ag (AW.ret (Ba (Aj (Aj (Ba (Aj ?_))))))))
       refine Qr (Iq _) ?_
       exact Eq.trans rfl (congrArg (fun q:Int=>AV.int .i64 q) ((Xg hc1 hc2).trans ((Nj hR.2 hc (by rw [lit_2 hc4 hc5];decide)).trans (lit_2 hc4 hc5)))).symm
      ·
       refine AW.skip (Bq (Ae (AW.region (Qp Fv (Qp A0 (Ag ?_))))))
       refine ⟨k+1,?_,?_,GS.weaken ⟨rfl,rfl,rfl,rfl,rfl,trivial⟩ (.refl _)⟩
       · exact ⟨hlt,Rj hR.2 hc (lit_3 hc4 hc5)⟩
       · omega
    ·
     have hte:=C3 hc3
     have hall:=hR.2
     rw [hte] at hall
     refine AW.exit ?_
     refine A6 (A6 (Bv (Ae (Ah (Qp At (Ag (AW.ret ?_)))))))
     refine Qr (Iq _) ?_
     exact Eq.trans rfl (congrArg (fun q:Int=>AV.int .i64 q) ((Xg hc1 hc2).trans hall)).symm
theorem qX (T:List Sc)(V:List Va)(c:Lit)(hk:KOK T V c.cond)(hse:Ar c.cond≤64):Av Tryz.prog 129 [.agg (Co T V),.agg (G3 c)] (.tuple [.agg (cGp (Aa T V c).1),.bool (Aa T V c).2]):=by
 refine Av.body (n:=41) Ai Tryz.func129 rfl rfl rfl fun H=>?_
 refine Ah (Qp (F5 [_,_]) (Qp (F5 [Iq _,_,Iq _,Iq _,Iq _,Iq _,Iq _,.str _,.bool _]) ?_))
 refine Qe (Al (l:=[.sl 3 [],.sl 3 [],.int .i64 0]) (by kernel_rfl)) ?_
 rintro _ _ ⟨b4,rfl,rfl⟩
 refine Qp Be (Df (Qp (Qf [Iq _,_,Iq _,Iq _,Iq _,Iq _,Iq _,.str _,.bool _]) (Qp D0 ?_)))
 refine Qe (Al (l:=[.int .i64 0,.sl 8 [],.int .i64 0,.int .i64 0,.int .i64 0,.int .i64 0,.int .i64 0,.str []]) (by kernel_rfl)) ?_
 rintro _ _ ⟨b6,rfl,rfl⟩
 refine Cm 0 [Iq _,_,Iq _,Iq _,Iq _,Iq _,Iq _,.str _] (_::_::_) ?_
 refine AOL.ghost (GS.Aad (t:=6) 0 rfl rfl) ?_
 refine Ag (AW.seq (Ah (Qp Ks (Qp Bs (Qp A5 (Ag (A3 (fun hc1=>?_) fun hc1=>?_)))))))
 ·
  refine Ah (Qp Ks (Qp Bs (Qp Xo (Qp Bs (Qp Q2 (Qp Bs (Qp (Ep [Iq _,Iq _,Iq _]) ?_)))))))
  refine Qp (Az (es:=[[Iq _,Iq _,Iq _]]) Ai rfl rfl rfl rfl rfl rfl rfl rfl rfl) ?_
  refine Qp (Ep [_,_,Iq _]) ?_
  refine Cm 0 [_,_,Iq _] (_::_) ?_
  refine Qp Be (Ag (Dr ?_))
  refine ⟨.inr rfl,[.agg [_,_,Iq _],.bool _],.cons (.box _ _ _ 0 _ _ _ _ rfl rfl rfl rfl rfl rfl) <| .cons (.tmp _ _ rfl) <| .nil,.cons _ (.refl _),?_⟩
  exact Eq.trans rfl (congrArg (fun q:Gp×Bool=>AV.tuple [.agg (cGp q.1),.bool q.2]) (Zp hc1)).symm
 ·
  refine Bx (AW.seq (Ah (Qp D0 ?_)))
  refine Qp (Qc rfl (W0 c.cond)) ?_
  refine Qp Ge (Qp Bp (Qg [] Qw (Ck [_,_]) (Qg [] Qw D0 ?_)))
  refine AOL.Aaf (y:=.bool _) _ [(25,_),(26,_)] rfl (rX.all ⟨Ent.Aac _ _,Ent.Aac _ _,trivial⟩) (fun hG=>C7 (by kernel_rfl) rfl rfl (Rx T V c.cond hk)) rfl ?_
  refine Qp E2 (Ag (A3 (fun hc2=>?_) fun hc2=>?_))
  ·
   refine Ah (Qp (Ep [_,_,Iq _]) ?_)
   refine Cm 0 [_,_,Iq _] (_::_) ?_
   refine Qp Be (Ag (Dr ?_))
   refine ⟨.inr rfl,[.agg [_,_,Iq _],.bool _],.cons (.box _ _ _ 0 _ _ _ _ rfl rfl rfl rfl rfl rfl) <| .cons (.tmp _ _ rfl) <| .nil,.cons _ (.refl _),?_⟩
   exact Eq.trans rfl (congrArg (fun q:Gp×Bool=>AV.tuple [.agg (cGp q.1),.bool q.2]) (oC hc1 hc2)).symm
  ·
   refine Bx (AW.seq ?_)
   have h2:=Ky hk (V2 hc2)
   have h00:0<c.cond.args.length:=by omega
   have hsz:=Dx h2
   have hk0:=A1 hk (A4 h00)
   have hk1:=A1 hk (Bi h2)
   refine AW.draw mixed (fun _=>True) trivial (by kernel_rfl) ?_
   refine Qn 0 rfl K5 (Qn 1 rfl Dk ?_)
   refine Qn 2 rfl (Af (c:=[Iq _,_,Iq _,Iq _,Iq _,Iq _,Iq _,.str _]) Ai rfl rfl rfl rfl rfl rfl (by decide) (Fp h00)) ?_
   refine Qn 3 rfl D0 (Qn 4 rfl K5 (Qn 5 rfl Dk ?_))
   refine Qn 6 rfl (Af (c:=[Iq _,_,Iq _,Iq _,Iq _,Iq _,Iq _,.str _]) Ai rfl rfl rfl rfl rfl rfl (by decide) (Ie h2)) ?_
   refine Qn 7 rfl D0 ?_
   refine Qn 8 rfl (Qc rfl (aI _ _ hk0.nodes hk1.nodes (by omega))) ?_
   refine Qn 9 rfl (Cb (v:=.agg [_,_,Iq _]) rfl rfl) ?_
   refine Qn 10 rfl eN ?_
   refine Jv.eff _ _ 11 _ _ rfl (by kernel_rfl) rfl rfl (C6 (k:=0) (v:=.agg _) (cs':=[_,_,Iq _]) (H2:=_::_) Ai rfl rfl rfl rfl (rfl) rfl rfl rfl rfl) (fun _ _ _=>trivial) ?_
   rintro _ _ ⟨rfl,rfl⟩
   refine Qn 12 rfl Be ?_
   refine Jv.done _ _ (by kernel_rfl) ?_
   refine Ae (AW.ret ?_)
   refine ⟨.inr rfl,[.agg [_,_,Iq _],.bool _],.cons (.box _ _ _ 0 _ _ _ _ rfl rfl rfl rfl rfl rfl) <| .cons (.tmp _ _ rfl) <| .nil,.cons _ (.refl _),?_⟩
   exact Eq.trans rfl (congrArg (fun q:Gp×Bool=>AV.tuple [.agg (cGp q.1),.bool q.2]) (Zv hc1 hc2)).symm
theorem tW (T:List Sc)(V:List Va)(t:Tm)(hk:KOK T V (Hn t)):Av Tryz.prog 131 [.agg (Co T V),.agg (H9 t)] (.tuple [.int .i64 (C0 T V t).1,.int .i64 (C0 T V t).2]):=by
 refine Av.body (n:=16) Ai Tryz.func131 rfl rfl rfl fun H=>?_
 refine Ah (Qp (F5 [_,_]) (Qp (F5 [Iq _,Iq _,Iq _]) (Qp At (Qp At (Ag (AW.seq (AW.block (Ah (Qp (Qf [Iq _,Iq _,Iq _]) ?_)))))))))
 refine Qp Bs (Qp A5 (Qp Be (Ag (A3 (fun hc1=>?_) fun hc1=>?_))))
 ·
  refine Ah (Qp At (Qp At (Ag (AW.ret (Ba (Aj ?_))))))
  refine Km (Iq _) (Iq _) ?_
  exact Eq.trans rfl (congrArg (fun q:Int×Int=>AV.tuple [.int .i64 q.1,.int .i64 q.2]) (yP hc1)).symm
 ·
  refine AW.seq ?_
  refine AW.draw mixed (fun _=>True) trivial (by kernel_rfl) ?_
  refine Qn 0 rfl (Ck [_,_]) (Qn 1 rfl (Ck [Iq _,Iq _,Iq _]) ?_)
  refine Qn 2 rfl (Qc rfl (xU t)) ?_
  refine Qn 3 rfl (Qc rfl (Xx T V _ hk)) ?_
  refine Qn 4 rfl A5 (Qn 5 rfl Be ?_)
  refine Jv.done _ _ (by kernel_rfl) ?_
  refine Ae (A3 (fun hc2=>?_) fun hc2=>?_)
  ·
   refine Ah (Qp At (Qp At (Ag (AW.ret (Ba (Aj ?_))))))
   refine Km (Iq _) (Iq _) ?_
   exact Eq.trans rfl (congrArg (fun q:Int×Int=>AV.tuple [.int .i64 q.1,.int .i64 q.2]) (vR hc1 hc2)).symm
  ·
   refine AW.skip (Bq (Ae (Ah (Qp At (Qp At (Ag (AW.ret ?_)))))))
   refine Km (Iq _) (Iq _) ?_
   exact Eq.trans rfl (congrArg (fun q:Int×Int=>AV.tuple [.int .i64 q.1,.int .i64 q.2]) (tU hc1 hc2)).symm
theorem mL (T:List Sc)(V:List Va)(l:List Lit):Av Tryz.prog 80 [.ptr (rK T V l)] (.bool (I8 (C5 T V l))):=by
 refine Av.body (n:=18) Ai Tryz.func80 rfl rfl rfl fun H=>?_
 refine Ah (Qp Be (Df (Qp zH ?_)))
 refine Qp (Gz rfl) ?_
 refine Qp (Qf [Iq _,_,_,_]) (Qp (Qf [Iq _,_,_,_]) (Qp Bs (Qp Nx (Qp Bp (Qg [] Qw zH ?_)))))
 refine AOL.Aaf (y:=.ptr _) _ [(10,_)] rfl (rX.all ⟨Ent.Aac _ _,trivial⟩) (fun hG=>Gz rfl) rfl ?_
 refine Qg [(11,_)] Qw (Qf [Iq _,_,_,_]) (Qg [(12,_)] Qw (Qf [_,_,_]) (Qg [(13,_)] Qw Dk ?_))
 refine AOL.Aaf (y:=Iq _) _ [(14,_)] rfl (rX.all ⟨Ent.Aac _ _,trivial⟩) (fun hG=>Ak (n:=(C5 T V l).bs.length) Ai rfl rfl rfl (by simp)) rfl ?_
 refine Qg [(15,_)] Qw Nx (Qp E1 (Qp Be (Ag (AW.ret ?_))))
 refine Qr (.bool _) ?_
 rfl
theorem aG (m yb:Nat)(v:Value)(n0:Int)(c1:AV)(ts l:List Tm)(R:List HO)(hts:ts.length≤1048576):Dv Tryz.prog 130 (gF m yb v (.int .i64 n0) c1 ts R) [.val (.pointer (some ⟨yb,0,none⟩)),.sl 3 (l.map H9)] (fun r H'=>∃v',r = .int .i64 (B4 (A2 ts l) l)∧H'=gF m yb v' (.int .i64 n0) c1 (A2 ts l) R):=by
 have hsc:∀c∈(ts.map H9),Bf c=true:=Fm fun _=>rfl
 refine Dv.body (n:=55) Ai Tryz.func130 rfl rfl rfl ?_
 refine Ah (Qp At (Ag (AW.seq (Ah (Qp C4 ?_)))))
 refine Qp (Ak (n:=l.length) Ai rfl rfl rfl (by simp)) ?_
 refine Qp A5 (Ag (A3 (fun hc1=>?_) fun hc1=>?_))
 ·
  have hnil:=nil_of hc1
  subst hnil
  refine Ah (Qp At (Ag (Dr ?_)))
  refine ⟨.inr rfl,[Iq _],.cons (.tmp _ _ rfl) <| .nil,_,.refl _,?_⟩
  exact ⟨_,rfl,rfl⟩
 ·
  obtain ⟨t,l,rfl⟩:=zZ hc1
  refine Bx ?_
  refine AW.cut (fun (w:Value)=>(⟨[(0,.val (.pointer (some ⟨yb,0,none⟩))),(1,.sl 3 ((t::l).map H9))],gF m yb w (.int .i64 n0) c1 (A2 ts (t::l)) R,55⟩:St)) (fun (w:Value)=>True) ?_ ?_
  ·
   refine AW.seq ?_
   refine AW.draw mixed (fun H'=>_∈H'∧_∈H') ⟨(List.mem_of_getElem? (i:=1) rfl),(List.mem_of_getElem? (i:=2) rfl)⟩ (by kernel_rfl) ?_
   refine Qn 0 rfl H0 ?_
   refine Qn 1 rfl (Bl rfl) ?_
   refine Qn 2 rfl Ir ?_
   refine Qn 3 rfl (OpP.Aah (fun k=>Ax (k:=k) (c:=.val _) Ai rfl rfl rfl rfl) (fun _ h=>h.1)) ?_
   refine Qn 4 rfl C4 ?_
   refine Qn 5 rfl (Af (c:=[Iq _,Iq _,Iq _]) Ai rfl rfl rfl rfl rfl rfl (by decide) (rfl)) ?_
   refine Qn 6 rfl (Ck [Iq _,Iq _,Iq _]) ?_
   refine Qn 7 rfl (OpP.Aah (fun k=>Pm (i:=k) (eq:=Hr t) Ai rfl rfl rfl rfl rfl (by kernel_rfl) rfl rfl (rfl) (cQ t _) (look_y0 t ts) (yC t ts)) (fun _ h=>h.2)) ?_
   refine Qn 8 rfl Mv (Qn 9 rfl Jn (Qn 10 rfl eN (Qn 11 rfl At (Qn 12 rfl Be ?_))))
   refine Jv.done _ _ (by kernel_rfl) ?_
   refine Ae (Ah (Qp Bp (Qp Ge (Ag (A3 (fun hc2=>?_) fun hc2=>?_)))))
   ·
    have hnew:ts.contains t=false:=by simpa using hc2
    refine AW.seq ?_
    refine AW.draw mixed (fun H'=>_∈H') (List.mem_of_getElem? (i:=1) rfl) (by kernel_rfl) ?_
    refine Qn 0 rfl H0 (Qn 1 rfl H0 ?_)
    refine Qn 2 rfl (Bl rfl) ?_
    refine Qn 3 rfl Ir ?_
    refine Qn 4 rfl (OpP.Aah (fun k=>Ax (k:=k) (c:=.row _ _ _) Ai rfl rfl rfl rfl) (fun _ h=>h)) ?_
    refine Qn 5 rfl C4 ?_
    refine Qn 6 rfl (Af (c:=[Iq _,Iq _,Iq _]) Ai rfl rfl rfl rfl rfl rfl (by decide) (rfl)) ?_
    refine Qn 7 rfl (Ck [Iq _,Iq _,Iq _]) ?_
    refine Qn 8 rfl (Az (es:=[[Iq _,Iq _,Iq _]]) Ai rfl rfl rfl rfl rfl rfl rfl rfl rfl) ?_
    refine Jv.eff _ _ 9 _ _ rfl (by kernel_rfl) rfl rfl (Dm (k:=0) Ai rfl rfl rfl rfl rfl rfl rfl rfl (Hd rfl) (hsc) (by simp;omega) (by simp [maxLen];omega)) (by rintro _ _ ⟨v32,rfl,rfl⟩;simp) ?_
    rintro _ _ ⟨v32,rfl,rfl⟩
    refine Qn 10 rfl (Bl rfl) ?_
    refine Qn 11 rfl Ir ?_
    refine Jv.last _ _ 12 _ _ rfl (by kernel_rfl) rfl rfl (C6 (k:=1) (v:=.row _ _ _) (cs':=[Iq _,_,_,_]) (H2:=_::_::_::_) Ai rfl rfl rfl rfl (rfl) rfl rfl rfl rfl) (by kernel_rfl) ?_
    rintro _ _ ⟨rfl,rfl⟩
    refine Ae ?_
    refine AW.draw mixed (fun H'=>_∈H') (List.mem_of_getElem? (i:=1) rfl) (by kernel_rfl) ?_
    refine Qn 0 rfl H0 ?_
    refine Qn 1 rfl (Bl rfl) ?_
    refine Qn 2 rfl Ir ?_
    refine Qn 3 rfl (OpP.Aah (fun k=>Ax (k:=k) (c:=.val _) Ai rfl rfl rfl rfl) (fun _ h=>h)) ?_
    refine Qn 4 rfl C4 ?_
    refine Qn 5 rfl (Af (c:=[Iq _,Iq _,Iq _]) Ai rfl rfl rfl rfl rfl rfl (by decide) (rfl)) ?_
    refine Qn 6 rfl (Ck [Iq _,Iq _,Iq _]) (Qn 7 rfl H0 ?_)
    refine Qn 8 rfl (Bl rfl) ?_
    refine Qn 9 rfl Ir ?_
    refine Qn 10 rfl (OpP.Aah (fun k=>Ax (k:=k) (c:=.row _ _ _) Ai rfl rfl rfl rfl) (fun _ h=>h)) ?_
    refine Qn 11 rfl (Md (n:=ts.length+1) Ai rfl rfl rfl (by simp)) ?_
    refine Jv.last _ _ 12 _ _ rfl (by kernel_rfl) rfl rfl (Tu (i:=2) (eq:=Hr t) (H2:=_::_::_::_) Ai rfl rfl rfl rfl rfl rfl rfl (rfl) (cQ t _) rfl (rG hnew) rfl) (by kernel_rfl) ?_
    rintro _ _ ⟨rfl,rfl⟩
    refine Ae ?_
    refine ⟨v32,?_,GS.trans (GS.heapTo (zU hnew)) (GS.weaken ⟨rfl,rfl,trivial⟩ (.refl _))⟩
    trivial
   ·
    have hold:ts.contains t=true:=by simpa using hc2
    refine Bx ?_
    refine ⟨v,?_,GS.trans (GS.heapTo (unk_old hold)) (GS.weaken ⟨rfl,rfl,trivial⟩ (.refl _))⟩
    trivial
  ·
   rintro w _
   refine AW.seq ?_
   refine AW.draw mixed (fun H'=>_∈H'∧_∈H') ⟨(List.mem_of_getElem? (i:=1) rfl),(List.mem_of_getElem? (i:=2) rfl)⟩ (by kernel_rfl) ?_
   refine Qn 0 rfl H0 ?_
   refine Qn 1 rfl (Bl rfl) ?_
   refine Qn 2 rfl Ir ?_
   refine Qn 3 rfl (OpP.Aah (fun k=>Ax (k:=k) (c:=.val _) Ai rfl rfl rfl rfl) (fun _ h=>h.1)) ?_
   refine Qn 4 rfl C4 ?_
   refine Qn 5 rfl (Af (c:=[Iq _,Iq _,Iq _]) Ai rfl rfl rfl rfl rfl rfl (by decide) (rfl)) ?_
   refine Qn 6 rfl (Ck [Iq _,Iq _,Iq _]) ?_
   refine Qn 7 rfl (OpP.Aah (fun k=>Ja (i:=k) (eq:=Hr t) Ai rfl rfl rfl rfl rfl (by kernel_rfl) rfl rfl (rfl) (cQ t _) (look_y (Yq t l ts))) (fun _ h=>h.2)) ?_
   refine Qn 8 rfl At ?_
   refine Jv.done _ _ (by kernel_rfl) ?_
   refine Ae (AW.ret ?_)
   refine ⟨.inr rfl,[Iq _],.cons (.tmp _ _ rfl) <| .nil,_,.refl _,?_⟩
   exact ⟨_,rfl,rfl⟩
theorem O5 (bb:Nat)(v:Value)(es:List (List AV))(R:List HO)(x z most:Int)(hel:es.length≤1048576)(hsc:∀c∈es,Bf c=true):Dv Tryz.prog 128 (.row v es.length 94 3 :: .box bb 88 [.row v 3 es]::R) [.int .i64 x,.int .i64 z,.int .i64 most,.val (.pointer (some ⟨bb,0,none⟩))] (fun r H'=>∃v',r = .tuple []∧H' = .row v' (es ++ [Rt ⟨x,z,most⟩]).length 94 3 :: .box bb 88 [.row v' 3 (es ++ [Rt ⟨x,z,most⟩])]::R):=by
 refine Dv.body (n:=14) Ai Tryz.func128 rfl rfl rfl ?_
 refine AW.region ?_
 refine AOL.Aai (Ax (k:=1) (c:=.row _ _ _) Ai rfl rfl rfl rfl) rfl rfl ?_
 refine Qp A0 (Qp A0 (Qp A0 (Qp (Ep [Iq _,Iq _,Iq _]) ?_)))
 refine Qp (Az (es:=[[Iq _,Iq _,Iq _]]) Ai rfl rfl rfl rfl rfl rfl rfl rfl rfl) ?_
 refine Qe (Dm (k:=0) Ai rfl rfl rfl rfl rfl rfl rfl rfl (Hd rfl) (hsc) (by simp;omega) (by simp [maxLen];omega)) ?_
 rintro _ _ ⟨v13,rfl,rfl⟩
 refine Cm 1 [_] (_::_::_) ?_
 refine AOL.nil ?_
 refine ⟨.inl rfl,[],.nil,_,.refl _,?_⟩
 exact ⟨_,rfl,rfl⟩

end Go.Proofs.YtkddpedfbicbeaaGreatDoor
