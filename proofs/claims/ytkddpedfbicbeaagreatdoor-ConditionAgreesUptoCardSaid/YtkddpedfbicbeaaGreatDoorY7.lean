/-
  Walks of layer 11: clauses and their terms. No condition.
-/
import Derived.Test.YtkddpedfbicbeaaGreatDoorAz
import Derived.Test.YtkddpedfbicbeaaGreatDoorS22
import Derived.Test.YtkddpedfbicbeaaGreatDoorY6b
import Derived.KernelRfl
namespace Go.Proofs.YtkddpedfbicbeaaGreatDoor
open Go Go.Aw
set_option maxHeartbeats 1600000
set_option maxRecDepth 20000
set_option linter.unusedVariables false
set_option linter.unusedSimpArgs false

theorem Vf (T:List Sc)(hl:T.length≤1048576)(hst:∀s∈T,I9 s)(V:List Va)(hvl:V.length≤1048576):Ar Tryz.prog 102 [.agg (Cj T V)] (.int .i64 (C9 T V (Fw true)).2):=by
 refine Ar.body (n:=15) Ai Tryz.func102 rfl rfl rfl fun H=>?_
 refine Ah (Qp (Fx [_,_]) (Qp Ap (Ag (AW.seq ?_))))
 refine AW.draw mixed (fun _=>True) trivial (by kernel_rfl) ?_
 refine Qn 0 rfl (Qf [_,_]) (Qn 1 rfl Dg (Qn 2 rfl (Qf [_]) (Qn 3 rfl Dg ?_)))
 refine Qn 4 rfl (Qc rfl (d_truth true)) ?_
 refine Qn 5 rfl (Qc rfl (c31 T hl hst V hvl (Fw true) (by rw [Ef];simp [Fw,Ou]))) ?_
 refine Qn 6 rfl Lv (Qn 7 rfl Ih (Qn 8 rfl Ih (Qn 9 rfl Ap (Qn 10 rfl Ap ?_))))
 refine Js.done _ _ (by kernel_rfl) ?_
 refine Ae (Ah (Qp Az (Qp Ap (Ag (AW.ret ?_)))))
 refine Qr (Iq _) ?_
 rfl
theorem uI (T:List Sc)(hl:T.length≤1048576)(hst:∀s∈T,I9 s)(V:List Va)(hvl:V.length≤1048576)(l:List Lit)(hll:l.length≤1048576)(hls:∀c∈l,Av c.cond≤1048576):Ar Tryz.prog 78 [.agg (Cj T V),.sl 9 (l.map Gw)] (.int .i64 (Gg T V l)):=by
 refine Ar.body (n:=55) Ai Tryz.func78 rfl rfl rfl fun H=>?_
 refine Ah (Qp (Fx [_,_]) (Qp Ap (Ag (AW.seq (Ah (Qp (Cd [_,_]) ?_))))))
 refine Qp (Qc rfl (Vf T hl hst V hvl)) ?_
 refine Qp Ap (Db (Qp Az (Qp Ci (Ag (A2 (fun hc1=>?_) fun hc1=>?_)))))
 ·
  refine Ah (Qp Az (Qp Ap (Ag (Dq ?_))))
  refine Qr (Iq _) ?_
  exact Eq.trans rfl (congrArg (fun q:Int=>AV.int .i64 q) (yV hc1)).symm
 ·
  refine Bv (AW.seq (Ah (Qp C5 ?_)))
  refine Qp (Ak (n:=l.length) Ai rfl rfl rfl (by simp)) ?_
  refine Qp Hb (Ag (A2 (fun hc2=>?_) fun hc2=>?_))
  ·
   refine Ah (Qp Ap (Ag (Dq ?_)))
   refine Qr (Iq _) ?_
   exact Eq.trans rfl (congrArg (fun q:Int=>AV.int .i64 q) (wS hc1 hc2)).symm
  ·
   refine Bv (AW.seq (Ah (Qp C5 ?_)))
   refine Qp (Ak (n:=l.length) Ai rfl rfl rfl (by simp)) ?_
   refine Qp Az (Ag (AW.block ?_))
   refine AW.Aau (fun (k:Nat)=>(⟨[(2,.ptr (Cj T V)),(4,.int .i64 0),(17,.sl 9 (l.map Gw)),(18,.int .i64 l.length),(19,.int .i64 (k:Int))],H,55⟩:St)) (fun (k:Nat)=>k≤l.length∧Aq (Zd T V) (l.take k)=0) (fun (k:Nat)=>l.length-k) (0) ?_ (GS.weaken ⟨rfl,rfl,rfl,rfl,rfl,trivial⟩ (.refl _)) ?_
   · exact ⟨Nat.zero_le _,rfl⟩
   ·
    rintro k hR
    refine Ah (Qp Cf (Ag (AW.seq (A2 (fun hc3=>?_) fun hc3=>?_))))
    ·
     obtain ⟨c,hc⟩:=B1 hc3
     have hlt:=A8 hc
     have hcm:=List.mem_of_getElem? hc
     refine Bv (AW.seq (AW.block (Ah ?_)))
     refine Qp (Af (c:=[Iq _,_,Iq _,Iq _,Iq _,Iq _,Iq _,.str _,.bool _]) Ai rfl rfl rfl rfl rfl rfl (by omega) (Bg hc)) ?_
     refine Qp (Cd [Iq _,_,Iq _,Iq _,Iq _,Iq _,Iq _,.str _,.bool _]) ?_
     refine Qe (Aj (l:=[.int .i64 0,.sl 8 [],.int .i64 0,.int .i64 0,.int .i64 0,.int .i64 0,.int .i64 0,.str [],.bool false]) (by kernel_rfl)) ?_
     rintro _ _ ⟨b7,rfl,rfl⟩
     refine Cq 0 [Iq _,_,Iq _,Iq _,Iq _,Iq _,Iq _,.str _,.bool _] (_::_) ?_
     refine AOL.ghost (GS.Aat (t:=7) 0 rfl rfl) ?_
     refine Ag (AW.seq (Ah (Qp (Cd [_,_]) (Qp (Qf [Iq _,_,Iq _,Iq _,Iq _,Iq _,Iq _,.str _,.bool _]) (Qp Dh ?_)))))
     refine Qp (Qc rfl (Lz T hl hst V hvl c.cond (hls c hcm))) ?_
     refine Qp Ap (Db (Qp Az (Qp Ci (Ag (A2 (fun hc4=>?_) fun hc4=>?_)))))
     ·
      refine Ah (Qp Az (Qp Ap (Ag (Dq (A9 (Al (Al (A9 (Al ?_)))))))))
      refine Qr (Iq _) ?_
      exact Eq.trans rfl (congrArg (fun q:Int=>AV.int .i64 q) ((Y7 hc1 hc2).trans ((N4 hR.2 hc (by rw [lit_1 hc4];simpa using hc4)).trans (lit_1 hc4)))).symm
     ·
      refine Bv (AW.seq ?_)
      refine AW.draw mixed (fun _=>True) trivial (by kernel_rfl) ?_
      refine Qn 0 rfl (Cd [_,_]) (Qn 1 rfl (Qf [Iq _,_,Iq _,Iq _,Iq _,Iq _,Iq _,.str _,.bool _]) (Qn 2 rfl Dh ?_))
      refine Qn 3 rfl (Qc rfl (Xh T V c.cond (Mh hc4))) ?_
      refine Qn 4 rfl Bm (Qo 5 rfl [] Qw (Qf [.bool _]) (Qo 6 rfl [(35,_)] Qw jS (Qo 7 rfl [(36,_)] Qw Bm (Qo 8 rfl [] Qw (Qf [Iq _,_,Iq _,Iq _,Iq _,Iq _,Iq _,.str _,.bool _]) (Qo 9 rfl [(38,_)] Qw (Qf [Iq _,_,Iq _,Iq _,Iq _,Iq _,Iq _,.str _,.bool _]) (Qo 10 rfl [(39,_)] Qw Br (Qo 11 rfl [(40,_)] Qw A6 (Qo 12 rfl [(37,_),(41,_)] Qw Em (Qo 13 rfl [(42,_)] Qw Bm ?_)))))))))
      refine Qo 14 rfl [] Qw (Cd [_,_]) (Qo 15 rfl [] Qw (Qf [Iq _,_,Iq _,Iq _,Iq _,Iq _,Iq _,.str _,.bool _]) (Qo 16 rfl [(45,_)] Qw (Qf [_,Iq _,Iq _,Iq _,Iq _,Iq _,.str _,.bool _]) (Qo 17 rfl [(46,_)] Qw Dg ?_)))
      refine Js.pure _ _ 18 _ _ rfl (by kernel_rfl) (by kernel_rfl) rfl (.opt _ (.ptr _) [(47,_)] rfl (sB.all ⟨tO.self _ _,trivial⟩) (fun hG=>Af (c:=[Iq _,_,Iq _,Iq _,Iq _,Iq _,Iq _,.str _]) Ai rfl rfl rfl rfl rfl rfl (by decide) (Id (Nat.lt_of_succ_lt (g9c (Mh hc4) hG)))) rfl) ?_
      refine Qo 19 rfl [(48,_)] Qw Dh ?_
      refine Js.pure _ _ 20 _ _ rfl (by kernel_rfl) (by kernel_rfl) rfl (.opt _ (Iq _) [(44,_),(49,_)] rfl (sB.all ⟨tO.self _ _,tO.self _ _,trivial⟩) (fun hG=>Ct (by kernel_rfl) rfl rfl (Yq T V _ (Ax (Mh hc4) (A4 (Nat.lt_of_succ_lt (g9c (Mh hc4) hG)))))) rfl) ?_
      refine Qo 21 rfl [(50,_)] Qw A6 (Qo 22 rfl [(43,_),(51,_)] Qw Em (Qn 23 rfl Ek ?_))
      refine Js.done _ _ (by kernel_rfl) ?_
      refine Ae (A2 (fun hc5=>?_) fun hc5=>?_)
      ·
       refine Ah (Qp Ap (Ag (AW.ret (A9 (Al (Al (A9 (Al ?_))))))))
       refine Qr (Iq _) ?_
       exact Eq.trans rfl (congrArg (fun q:Int=>AV.int .i64 q) ((Y7 hc1 hc2).trans ((N4 hR.2 hc (by rw [lit_2 hc4 hc5];decide)).trans (lit_2 hc4 hc5)))).symm
      ·
       refine AW.skip (Bp (Ae (AW.region (Qp Fu (Qp Az (Ag ?_))))))
       refine ⟨k+1,?_,?_,GS.weaken ⟨rfl,rfl,rfl,rfl,rfl,trivial⟩ (.refl _)⟩
       · exact ⟨hlt,Rb hR.2 hc (lit_3 hc4 hc5)⟩
       · omega
    ·
     have hte:=Cv hc3
     have hall:=hR.2
     rw [hte] at hall
     refine AW.exit ?_
     refine A3 (A3 (Bq (Ae (Ah (Qp Ap (Ag (AW.ret ?_)))))))
     refine Qr (Iq _) ?_
     exact Eq.trans rfl (congrArg (fun q:Int=>AV.int .i64 q) ((Y7 hc1 hc2).trans hall)).symm
theorem sD (T:List Sc)(V:List Va)(c:Lit)(hk:KOK T V c.cond)(hse:Av c.cond≤64):Ar Tryz.prog 129 [.agg (Cj T V),.agg (Gw c)] (.tuple [.agg (cGp (Aa T V c).1),.bool (Aa T V c).2]):=by
 refine Ar.body (n:=41) Ai Tryz.func129 rfl rfl rfl fun H=>?_
 refine Ah (Qp (Fx [_,_]) (Qp (Fx [Iq _,_,Iq _,Iq _,Iq _,Iq _,Iq _,.str _,.bool _]) ?_))
 refine Qe (Aj (l:=[.sl 3 [],.sl 3 [],.int .i64 0]) (by kernel_rfl)) ?_
 rintro _ _ ⟨b4,rfl,rfl⟩
 refine Qp Bc (Db (Qp (Qf [Iq _,_,Iq _,Iq _,Iq _,Iq _,Iq _,.str _,.bool _]) (Qp Dh ?_)))
 refine Qe (Aj (l:=[.int .i64 0,.sl 8 [],.int .i64 0,.int .i64 0,.int .i64 0,.int .i64 0,.int .i64 0,.str []]) (by kernel_rfl)) ?_
 rintro _ _ ⟨b6,rfl,rfl⟩
 refine Cq 0 [Iq _,_,Iq _,Iq _,Iq _,Iq _,Iq _,.str _] (_::_::_) ?_
 refine AOL.ghost (GS.Aat (t:=6) 0 rfl rfl) ?_
 refine Ag (AW.seq (Ah (Qp Kw (Qp Br (Qp A6 (Ag (A2 (fun hc1=>?_) fun hc1=>?_)))))))
 ·
  refine Ah (Qp Kw (Qp Br (Qp Ym (Qp Br (Qp Qv (Qp Br (Qp (El [Iq _,Iq _,Iq _]) ?_)))))))
  refine Qp (A0 (es:=[[Iq _,Iq _,Iq _]]) Ai rfl rfl rfl rfl rfl rfl rfl rfl rfl) ?_
  refine Qp (El [_,_,Iq _]) ?_
  refine Cq 0 [_,_,Iq _] (_::_) ?_
  refine Qp Bc (Ag (Dq ?_))
  refine ⟨.inr rfl,[.agg [_,_,Iq _],.bool _],.cons (.box _ _ _ 0 _ _ _ _ rfl rfl rfl rfl rfl rfl) <| .cons (.tmp _ _ rfl) <| .nil,.cons _ (.refl _),?_⟩
  exact Eq.trans rfl (congrArg (fun q:Gp×Bool=>AV.tuple [.agg (cGp q.1),.bool q.2]) (Zv hc1)).symm
 ·
  refine Bv (AW.seq (Ah (Qp Dh ?_)))
  refine Qp (Qc rfl (Yx c.cond)) ?_
  refine Qp Ge (Qp Bm (Qg [] Qw (Cd [_,_]) (Qg [] Qw Dh ?_)))
  refine AOL.Aav (y:=.bool _) _ [(25,_),(26,_)] rfl (sB.all ⟨tO.self _ _,tO.self _ _,trivial⟩) (fun hG=>Ct (by kernel_rfl) rfl rfl (S8 T V c.cond hk)) rfl ?_
  refine Qp Ek (Ag (A2 (fun hc2=>?_) fun hc2=>?_))
  ·
   refine Ah (Qp (El [_,_,Iq _]) ?_)
   refine Cq 0 [_,_,Iq _] (_::_) ?_
   refine Qp Bc (Ag (Dq ?_))
   refine ⟨.inr rfl,[.agg [_,_,Iq _],.bool _],.cons (.box _ _ _ 0 _ _ _ _ rfl rfl rfl rfl rfl rfl) <| .cons (.tmp _ _ rfl) <| .nil,.cons _ (.refl _),?_⟩
   exact Eq.trans rfl (congrArg (fun q:Gp×Bool=>AV.tuple [.agg (cGp q.1),.bool q.2]) (nA hc1 hc2)).symm
  ·
   refine Bv (AW.seq ?_)
   have h2:=K6 hk (Wh hc2)
   have h00:0<c.cond.args.length:=by omega
   have hsz:=Dd h2
   have hk0:=Ax hk (A4 h00)
   have hk1:=Ax hk (Bn h2)
   refine AW.draw mixed (fun _=>True) trivial (by kernel_rfl) ?_
   refine Qn 0 rfl Mr (Qn 1 rfl Dg ?_)
   refine Qn 2 rfl (Af (c:=[Iq _,_,Iq _,Iq _,Iq _,Iq _,Iq _,.str _]) Ai rfl rfl rfl rfl rfl rfl (by decide) (Id h00)) ?_
   refine Qn 3 rfl Dh (Qn 4 rfl Mr (Qn 5 rfl Dg ?_))
   refine Qn 6 rfl (Af (c:=[Iq _,_,Iq _,Iq _,Iq _,Iq _,Iq _,.str _]) Ai rfl rfl rfl rfl rfl rfl (by decide) (Ky h2)) ?_
   refine Qn 7 rfl Dh ?_
   refine Qn 8 rfl (Qc rfl (aM _ _ hk0.nodes hk1.nodes (by omega))) ?_
   refine Qn 9 rfl (Ch (v:=.agg [_,_,Iq _]) rfl rfl) ?_
   refine Qn 10 rfl dK ?_
   refine Js.eff _ _ 11 _ _ rfl (by kernel_rfl) rfl rfl (C6 (k:=0) (v:=.agg _) (cs':=[_,_,Iq _]) (H2:=_::_) Ai rfl rfl rfl rfl (rfl) rfl rfl rfl rfl) (fun _ _ _=>trivial) ?_
   rintro _ _ ⟨rfl,rfl⟩
   refine Qn 12 rfl Bc ?_
   refine Js.done _ _ (by kernel_rfl) ?_
   refine Ae (AW.ret ?_)
   refine ⟨.inr rfl,[.agg [_,_,Iq _],.bool _],.cons (.box _ _ _ 0 _ _ _ _ rfl rfl rfl rfl rfl rfl) <| .cons (.tmp _ _ rfl) <| .nil,.cons _ (.refl _),?_⟩
   exact Eq.trans rfl (congrArg (fun q:Gp×Bool=>AV.tuple [.agg (cGp q.1),.bool q.2]) (aS hc1 hc2)).symm
theorem uL (T:List Sc)(V:List Va)(t:Tm)(hk:KOK T V (Hf t)):Ar Tryz.prog 131 [.agg (Cj T V),.agg (Hz t)] (.tuple [.int .i64 (C3 T V t).1,.int .i64 (C3 T V t).2]):=by
 refine Ar.body (n:=16) Ai Tryz.func131 rfl rfl rfl fun H=>?_
 refine Ah (Qp (Fx [_,_]) (Qp (Fx [Iq _,Iq _,Iq _]) (Qp Ap (Qp Ap (Ag (AW.seq (AW.block (Ah (Qp (Qf [Iq _,Iq _,Iq _]) ?_)))))))))
 refine Qp Br (Qp A6 (Qp Bc (Ag (A2 (fun hc1=>?_) fun hc1=>?_))))
 ·
  refine Ah (Qp Ap (Qp Ap (Ag (AW.ret (A9 (Al ?_))))))
  refine J3 (Iq _) (Iq _) ?_
  exact Eq.trans rfl (congrArg (fun q:Int×Int=>AV.tuple [.int .i64 q.1,.int .i64 q.2]) (vY hc1)).symm
 ·
  refine AW.seq ?_
  refine AW.draw mixed (fun _=>True) trivial (by kernel_rfl) ?_
  refine Qn 0 rfl (Cd [_,_]) (Qn 1 rfl (Cd [Iq _,Iq _,Iq _]) ?_)
  refine Qn 2 rfl (Qc rfl (uN t)) ?_
  refine Qn 3 rfl (Qc rfl (Yq T V _ hk)) ?_
  refine Qn 4 rfl A6 (Qn 5 rfl Bc ?_)
  refine Js.done _ _ (by kernel_rfl) ?_
  refine Ae (A2 (fun hc2=>?_) fun hc2=>?_)
  ·
   refine Ah (Qp Ap (Qp Ap (Ag (AW.ret (A9 (Al ?_))))))
   refine J3 (Iq _) (Iq _) ?_
   exact Eq.trans rfl (congrArg (fun q:Int×Int=>AV.tuple [.int .i64 q.1,.int .i64 q.2]) (xH hc1 hc2)).symm
  ·
   refine AW.skip (Bp (Ae (Ah (Qp Ap (Qp Ap (Ag (AW.ret ?_)))))))
   refine J3 (Iq _) (Iq _) ?_
   exact Eq.trans rfl (congrArg (fun q:Int×Int=>AV.tuple [.int .i64 q.1,.int .i64 q.2]) (uZ hc1 hc2)).symm
theorem kQ (T:List Sc)(V:List Va)(l:List Lit):Ar Tryz.prog 80 [.ptr (rO T V l)] (.bool (In (C2 T V l))):=by
 refine Ar.body (n:=18) Ai Tryz.func80 rfl rfl rfl fun H=>?_
 refine Ah (Qp Bc (Db (Qp zG ?_)))
 refine Qp (Gt rfl) ?_
 refine Qp (Qf [Iq _,_,_,_]) (Qp (Qf [Iq _,_,_,_]) (Qp Br (Qp Mt (Qp Bm (Qg [] Qw zG ?_)))))
 refine AOL.Aav (y:=.ptr _) _ [(10,_)] rfl (sB.all ⟨tO.self _ _,trivial⟩) (fun hG=>Gt rfl) rfl ?_
 refine Qg [(11,_)] Qw (Qf [Iq _,_,_,_]) (Qg [(12,_)] Qw (Qf [_,_,_]) (Qg [(13,_)] Qw Dg ?_))
 refine AOL.Aav (y:=Iq _) _ [(14,_)] rfl (sB.all ⟨tO.self _ _,trivial⟩) (fun hG=>Ak (n:=(C2 T V l).bs.length) Ai rfl rfl rfl (by simp)) rfl ?_
 refine Qg [(15,_)] Qw Mt (Qp Em (Qp Bc (Ag (AW.ret ?_))))
 refine Qr (.bool _) ?_
 rfl
theorem aF (m yb:Nat)(v:Value)(n0:Int)(c1:AV)(ts l:List Tm)(R:List HO)(hts:ts.length≤1048576):Dr Tryz.prog 130 (eT m yb v (.int .i64 n0) c1 ts R) [.val (.pointer (some ⟨yb,0,none⟩)),.sl 3 (l.map Hz)] (fun r H'=>∃v',r = .int .i64 (B3 (A1 ts l) l)∧H'=eT m yb v' (.int .i64 n0) c1 (A1 ts l) R):=by
 have hsc:∀c∈(ts.map Hz),Bf c=true:=Ff fun _=>rfl
 refine Dr.body (n:=55) Ai Tryz.func130 rfl rfl rfl ?_
 refine Ah (Qp Ap (Ag (AW.seq (Ah (Qp C5 ?_)))))
 refine Qp (Ak (n:=l.length) Ai rfl rfl rfl (by simp)) ?_
 refine Qp A6 (Ag (A2 (fun hc1=>?_) fun hc1=>?_))
 ·
  have hnil:=nil_of hc1
  subst hnil
  refine Ah (Qp Ap (Ag (Dq ?_)))
  refine ⟨.inr rfl,[Iq _],.cons (.tmp _ _ rfl) <| .nil,_,.refl _,?_⟩
  exact ⟨_,rfl,rfl⟩
 ·
  obtain ⟨t,l,rfl⟩:=zJ hc1
  refine Bv ?_
  refine AW.cut (fun (w:Value)=>(⟨[(0,.val (.pointer (some ⟨yb,0,none⟩))),(1,.sl 3 ((t::l).map Hz))],eT m yb w (.int .i64 n0) c1 (A1 ts (t::l)) R,55⟩:St)) (fun (w:Value)=>True) ?_ ?_
  ·
   refine AW.seq ?_
   refine AW.draw mixed (fun H'=>_∈H'∧_∈H') ⟨(List.mem_of_getElem? (i:=1) rfl),(List.mem_of_getElem? (i:=2) rfl)⟩ (by kernel_rfl) ?_
   refine Qn 0 rfl Hw ?_
   refine Qn 1 rfl (Bh rfl) ?_
   refine Qn 2 rfl Iu ?_
   refine Qn 3 rfl (OpP.Aax (fun k=>At (k:=k) (c:=.val _) Ai rfl rfl rfl rfl) (fun _ h=>h.1)) ?_
   refine Qn 4 rfl C5 ?_
   refine Qn 5 rfl (Af (c:=[Iq _,Iq _,Iq _]) Ai rfl rfl rfl rfl rfl rfl (by decide) (rfl)) ?_
   refine Qn 6 rfl (Cd [Iq _,Iq _,Iq _]) ?_
   refine Qn 7 rfl (OpP.Aax (fun k=>P5 (i:=k) (eq:=Hi t) Ai rfl rfl rfl rfl rfl (by kernel_rfl) rfl rfl (rfl) (cB t _) (look_y0 t ts) (wX t ts)) (fun _ h=>h.2)) ?_
   refine Qn 8 rfl Lv (Qn 9 rfl Ih (Qn 10 rfl dK (Qn 11 rfl Ap (Qn 12 rfl Bc ?_))))
   refine Js.done _ _ (by kernel_rfl) ?_
   refine Ae (Ah (Qp Bm (Qp Ge (Ag (A2 (fun hc2=>?_) fun hc2=>?_)))))
   ·
    have hnew:ts.contains t=false:=by simpa using hc2
    refine AW.seq ?_
    refine AW.draw mixed (fun H'=>_∈H') (List.mem_of_getElem? (i:=1) rfl) (by kernel_rfl) ?_
    refine Qn 0 rfl Hw (Qn 1 rfl Hw ?_)
    refine Qn 2 rfl (Bh rfl) ?_
    refine Qn 3 rfl Iu ?_
    refine Qn 4 rfl (OpP.Aax (fun k=>At (k:=k) (c:=.row _ _ _) Ai rfl rfl rfl rfl) (fun _ h=>h)) ?_
    refine Qn 5 rfl C5 ?_
    refine Qn 6 rfl (Af (c:=[Iq _,Iq _,Iq _]) Ai rfl rfl rfl rfl rfl rfl (by decide) (rfl)) ?_
    refine Qn 7 rfl (Cd [Iq _,Iq _,Iq _]) ?_
    refine Qn 8 rfl (A0 (es:=[[Iq _,Iq _,Iq _]]) Ai rfl rfl rfl rfl rfl rfl rfl rfl rfl) ?_
    refine Js.eff _ _ 9 _ _ rfl (by kernel_rfl) rfl rfl (Dj (k:=0) Ai rfl rfl rfl rfl rfl rfl rfl rfl (G2 rfl) (hsc) (by simp;omega) (by simp [maxLen];omega)) (by rintro _ _ ⟨v32,rfl,rfl⟩;simp) ?_
    rintro _ _ ⟨v32,rfl,rfl⟩
    refine Qn 10 rfl (Bh rfl) ?_
    refine Qn 11 rfl Iu ?_
    refine Js.last _ _ 12 _ _ rfl (by kernel_rfl) rfl rfl (C6 (k:=1) (v:=.row _ _ _) (cs':=[Iq _,_,_,_]) (H2:=_::_::_::_) Ai rfl rfl rfl rfl (rfl) rfl rfl rfl rfl) (by kernel_rfl) ?_
    rintro _ _ ⟨rfl,rfl⟩
    refine Ae ?_
    refine AW.draw mixed (fun H'=>_∈H') (List.mem_of_getElem? (i:=1) rfl) (by kernel_rfl) ?_
    refine Qn 0 rfl Hw ?_
    refine Qn 1 rfl (Bh rfl) ?_
    refine Qn 2 rfl Iu ?_
    refine Qn 3 rfl (OpP.Aax (fun k=>At (k:=k) (c:=.val _) Ai rfl rfl rfl rfl) (fun _ h=>h)) ?_
    refine Qn 4 rfl C5 ?_
    refine Qn 5 rfl (Af (c:=[Iq _,Iq _,Iq _]) Ai rfl rfl rfl rfl rfl rfl (by decide) (rfl)) ?_
    refine Qn 6 rfl (Cd [Iq _,Iq _,Iq _]) (Qn 7 rfl Hw ?_)
    refine Qn 8 rfl (Bh rfl) ?_
    refine Qn 9 rfl Iu ?_
    refine Qn 10 rfl (OpP.Aax (fun k=>At (k:=k) (c:=.row _ _ _) Ai rfl rfl rfl rfl) (fun _ h=>h)) ?_
    refine Qn 11 rfl (Nb (n:=ts.length+1) Ai rfl rfl rfl (by simp)) ?_
    refine Js.last _ _ 12 _ _ rfl (by kernel_rfl) rfl rfl (Uc (i:=2) (eq:=Hi t) (H2:=_::_::_::_) Ai rfl rfl rfl rfl rfl rfl rfl (rfl) (cB t _) rfl (pR hnew) rfl) (by kernel_rfl) ?_
    rintro _ _ ⟨rfl,rfl⟩
    refine Ae ?_
    refine ⟨v32,?_,GS.trans (GS.heapTo (unk_new hnew)) (GS.weaken ⟨rfl,rfl,trivial⟩ (.refl _))⟩
    trivial
   ·
    have hold:ts.contains t=true:=by simpa using hc2
    refine Bv ?_
    refine ⟨v,?_,GS.trans (GS.heapTo (unk_old hold)) (GS.weaken ⟨rfl,rfl,trivial⟩ (.refl _))⟩
    trivial
  ·
   rintro w _
   refine AW.seq ?_
   refine AW.draw mixed (fun H'=>_∈H'∧_∈H') ⟨(List.mem_of_getElem? (i:=1) rfl),(List.mem_of_getElem? (i:=2) rfl)⟩ (by kernel_rfl) ?_
   refine Qn 0 rfl Hw ?_
   refine Qn 1 rfl (Bh rfl) ?_
   refine Qn 2 rfl Iu ?_
   refine Qn 3 rfl (OpP.Aax (fun k=>At (k:=k) (c:=.val _) Ai rfl rfl rfl rfl) (fun _ h=>h.1)) ?_
   refine Qn 4 rfl C5 ?_
   refine Qn 5 rfl (Af (c:=[Iq _,Iq _,Iq _]) Ai rfl rfl rfl rfl rfl rfl (by decide) (rfl)) ?_
   refine Qn 6 rfl (Cd [Iq _,Iq _,Iq _]) ?_
   refine Qn 7 rfl (OpP.Aax (fun k=>Jk (i:=k) (eq:=Hi t) Ai rfl rfl rfl rfl rfl (by kernel_rfl) rfl rfl (rfl) (cB t _) (look_y (Ya t l ts))) (fun _ h=>h.2)) ?_
   refine Qn 8 rfl Ap ?_
   refine Js.done _ _ (by kernel_rfl) ?_
   refine Ae (AW.ret ?_)
   refine ⟨.inr rfl,[Iq _],.cons (.tmp _ _ rfl) <| .nil,_,.refl _,?_⟩
   exact ⟨_,rfl,rfl⟩
theorem Pc (bb:Nat)(v:Value)(es:List (List AV))(R:List HO)(x z most:Int)(hel:es.length≤1048576)(hsc:∀c∈es,Bf c=true):Dr Tryz.prog 128 (.row v es.length 94 3 :: .box bb 88 [.row v 3 es]::R) [.int .i64 x,.int .i64 z,.int .i64 most,.val (.pointer (some ⟨bb,0,none⟩))] (fun r H'=>∃v',r = .tuple []∧H' = .row v' (es ++ [Rp ⟨x,z,most⟩]).length 94 3 :: .box bb 88 [.row v' 3 (es ++ [Rp ⟨x,z,most⟩])]::R):=by
 refine Dr.body (n:=14) Ai Tryz.func128 rfl rfl rfl ?_
 refine AW.region ?_
 refine AOL.Aay (At (k:=1) (c:=.row _ _ _) Ai rfl rfl rfl rfl) rfl rfl ?_
 refine Qp Az (Qp Az (Qp Az (Qp (El [Iq _,Iq _,Iq _]) ?_)))
 refine Qp (A0 (es:=[[Iq _,Iq _,Iq _]]) Ai rfl rfl rfl rfl rfl rfl rfl rfl rfl) ?_
 refine Qe (Dj (k:=0) Ai rfl rfl rfl rfl rfl rfl rfl rfl (G2 rfl) (hsc) (by simp;omega) (by simp [maxLen];omega)) ?_
 rintro _ _ ⟨v13,rfl,rfl⟩
 refine Cq 1 [_] (_::_::_) ?_
 refine AOL.nil ?_
 refine ⟨.inl rfl,[],.nil,_,.refl _,?_⟩
 exact ⟨_,rfl,rfl⟩

end Go.Proofs.YtkddpedfbicbeaaGreatDoor
