/-
  Walks of layer 11: clauses and their terms. No condition.
-/
import Derived.Test.YtjedflcpjlgokaaGreatDoorAz
import Derived.Test.YtjedflcpjlgokaaGreatDoorK12
import Derived.Test.YtjedflcpjlgokaaGreatDoorY6b
import Derived.KernelRfl
namespace Go.Proofs.YtjedflcpjlgokaaGreatDoor
open Go Go.Aw
set_option maxHeartbeats 1600000
set_option maxRecDepth 20000
set_option linter.unusedVariables false
set_option linter.unusedSimpArgs false

theorem Sg (T:List Sc)(hl:T.length≤1048576)(hst:∀s∈T,Is s)(V:List Va)(hvl:V.length≤1048576):A1 Tryz.prog 63 [.agg (B9 T V)] (.int .i64 (Cf T V (E4 true)).2):=by
 refine A1.body (n:=15) Aj Tryz.func63 rfl rfl rfl fun H=>?_
 refine Ah (Qp (It [_,_]) (Qp Aq (Ag (AW.seq ?_))))
 refine AW.draw mixed (fun _=>True) trivial (by kernel_rfl) ?_
 refine Qn 0 rfl (Qf [_,_]) (Qn 1 rfl D1 (Qn 2 rfl (Qf [_]) (Qn 3 rfl D1 ?_)))
 refine Qn 4 rfl (Qc rfl (uM true)) ?_
 refine Qn 5 rfl (Qc rfl (c31 T hl hst V hvl (E4 true) (by rw [Dj];simp [E4,Lq]))) ?_
 refine Qn 6 rfl Om (Qn 7 rfl Kn (Qn 8 rfl Kn (Qn 9 rfl Aq (Qn 10 rfl Aq ?_))))
 refine Iu.done _ _ (by kernel_rfl) ?_
 refine Ad (Ah (Qp Az (Qp Aq (Ag (AW.ret ?_)))))
 refine Qr (Iq _) ?_
 rfl
theorem sU (T:List Sc)(hl:T.length≤1048576)(hst:∀s∈T,Is s)(V:List Va)(hvl:V.length≤1048576)(l:List Lit)(hll:l.length≤1048576)(hls:∀c∈l,Av c.cond≤1048576):A1 Tryz.prog 34 [.agg (B9 T V),.sl 9 (l.map Fy)] (.int .i64 (Ez T V l)):=by
 refine A1.body (n:=55) Aj Tryz.func34 rfl rfl rfl fun H=>?_
 refine Ah (Qp (It [_,_]) (Qp Aq (Ag (AW.seq (Ah (Qp (C8 [_,_]) ?_))))))
 refine Qp (Qc rfl (Sg T hl hst V hvl)) ?_
 refine Qp Aq (Dv (Qp Az (Qp C1 (Ag (A4 (fun hc1=>?_) fun hc1=>?_)))))
 ·
  refine Ah (Qp Az (Qp Aq (Ag (D4 ?_))))
  refine Qr (Iq _) ?_
  exact Eq.trans rfl (congrArg (fun q:Int=>AV.int .i64 q) (rA hc1)).symm
 ·
  refine Bx (AW.seq (Ah (Qp Dm ?_)))
  refine Qp (Al (n:=l.length) Aj rfl rfl rfl (by simp)) ?_
  refine Qp Gl (Ag (A4 (fun hc2=>?_) fun hc2=>?_))
  ·
   refine Ah (Qp Aq (Ag (D4 ?_)))
   refine Qr (Iq _) ?_
   exact Eq.trans rfl (congrArg (fun q:Int=>AV.int .i64 q) (tA hc1 hc2)).symm
  ·
   refine Bx (AW.seq (Ah (Qp Dm ?_)))
   refine Qp (Al (n:=l.length) Aj rfl rfl rfl (by simp)) ?_
   refine Qp Az (Ag (AW.block ?_))
   refine AW.Aa3 (fun (k:Nat)=>(⟨[(2,.ptr (B9 T V)),(4,.int .i64 0),(17,.sl 9 (l.map Fy)),(18,.int .i64 l.length),(19,.int .i64 (k:Int))],H,55⟩:St)) (fun (k:Nat)=>k≤l.length∧At (Ww T V) (l.take k)=0) (fun (k:Nat)=>l.length-k) (0) ?_ (GS.weaken ⟨rfl,rfl,rfl,rfl,rfl,trivial⟩ (.refl _)) ?_
   · exact ⟨Nat.zero_le _,rfl⟩
   ·
    rintro k hR
    refine Ah (Qp Co (Ag (AW.seq (A4 (fun hc3=>?_) fun hc3=>?_))))
    ·
     obtain ⟨c,hc⟩:=B5 hc3
     have hlt:=Bh hc
     have hcm:=List.mem_of_getElem? hc
     refine Bx (AW.seq (AW.block (Ah ?_)))
     refine Qp (Af (c:=[Iq _,_,Iq _,Iq _,Iq _,Iq _,Iq _,.str _,.bool _]) Aj rfl rfl rfl rfl rfl rfl (by omega) (B1 hc)) ?_
     refine Qp (C8 [Iq _,_,Iq _,Iq _,Iq _,Iq _,Iq _,.str _,.bool _]) ?_
     refine Qe (A0 (l:=[.int .i64 0,.sl 8 [],.int .i64 0,.int .i64 0,.int .i64 0,.int .i64 0,.int .i64 0,.str [],.bool false]) (by kernel_rfl)) ?_
     rintro _ _ ⟨b7,rfl,rfl⟩
     refine Eu 0 [Iq _,_,Iq _,Iq _,Iq _,Iq _,Iq _,.str _,.bool _] (_::_) ?_
     refine AOL.ghost (GS.Aa2 (t:=7) 0 rfl rfl) ?_
     refine Ag (AW.seq (Ah (Qp (C8 [_,_]) (Qp (Qf [Iq _,_,Iq _,Iq _,Iq _,Iq _,Iq _,.str _,.bool _]) (Qp E2 ?_)))))
     refine Qp (Qc rfl (Kq T hl hst V hvl c.cond (hls c hcm))) ?_
     refine Qp Aq (Dv (Qp Az (Qp C1 (Ag (A4 (fun hc4=>?_) fun hc4=>?_)))))
     ·
      refine Ah (Qp Az (Qp Aq (Ag (D4 (A6 (Ai (Ai (A6 (Ai ?_)))))))))
      refine Qr (Iq _) ?_
      exact Eq.trans rfl (congrArg (fun q:Int=>AV.int .i64 q) ((Uw hc1 hc2).trans ((Mf hR.2 hc (by rw [yJ hc4];simpa using hc4)).trans (yJ hc4)))).symm
     ·
      refine Bx (AW.seq ?_)
      refine AW.draw mixed (fun _=>True) trivial (by kernel_rfl) ?_
      refine Qn 0 rfl (C8 [_,_]) (Qn 1 rfl (Qf [Iq _,_,Iq _,Iq _,Iq _,Iq _,Iq _,.str _,.bool _]) (Qn 2 rfl E2 ?_))
      refine Qn 3 rfl (Qc rfl (Vi T V c.cond (K2 hc4))) ?_
      refine Qn 4 rfl Bt (Qo 5 rfl [] Qw (Qf [.bool _]) (Qo 6 rfl [(35,_)] Qw kM (Qo 7 rfl [(36,_)] Qw Bt (Qo 8 rfl [] Qw (Qf [Iq _,_,Iq _,Iq _,Iq _,Iq _,Iq _,.str _,.bool _]) (Qo 9 rfl [(38,_)] Qw (Qf [Iq _,_,Iq _,Iq _,Iq _,Iq _,Iq _,.str _,.bool _]) (Qo 10 rfl [(39,_)] Qw B2 (Qo 11 rfl [(40,_)] Qw Ba (Qo 12 rfl [(37,_),(41,_)] Qw G1 (Qo 13 rfl [(42,_)] Qw Bt ?_)))))))))
      refine Qo 14 rfl [] Qw (C8 [_,_]) (Qo 15 rfl [] Qw (Qf [Iq _,_,Iq _,Iq _,Iq _,Iq _,Iq _,.str _,.bool _]) (Qo 16 rfl [(45,_)] Qw (Qf [_,Iq _,Iq _,Iq _,Iq _,Iq _,.str _,.bool _]) (Qo 17 rfl [(46,_)] Qw D1 ?_)))
      refine Iu.pure _ _ 18 _ _ rfl (by kernel_rfl) (by kernel_rfl) rfl (.opt _ (.ptr _) [(47,_)] rfl (nI.all ⟨Ent.Aa1 _ _,trivial⟩) (fun hG=>Af (c:=[Iq _,_,Iq _,Iq _,Iq _,Iq _,Iq _,.str _]) Aj rfl rfl rfl rfl rfl rfl (by decide) (Gf (Nat.lt_of_succ_lt (g9c (K2 hc4) hG)))) rfl) ?_
      refine Qo 19 rfl [(48,_)] Qw E2 ?_
      refine Iu.pure _ _ 20 _ _ rfl (by kernel_rfl) (by kernel_rfl) rfl (.opt _ (Iq _) [(44,_),(49,_)] rfl (nI.all ⟨Ent.Aa1 _ _,Ent.Aa1 _ _,trivial⟩) (fun hG=>Fk (by kernel_rfl) rfl rfl (Us T V _ (An (K2 hc4) (Ax (Nat.lt_of_succ_lt (g9c (K2 hc4) hG)))))) rfl) ?_
      refine Qo 21 rfl [(50,_)] Qw Ba (Qo 22 rfl [(43,_),(51,_)] Qw G1 (Qn 23 rfl Ew ?_))
      refine Iu.done _ _ (by kernel_rfl) ?_
      refine Ad (A4 (fun hc5=>?_) fun hc5=>?_)
      ·
       refine Ah (Qp Aq (Ag (AW.ret (A6 (Ai (Ai (A6 (Ai ?_))))))))
       refine Qr (Iq _) ?_
       exact Eq.trans rfl (congrArg (fun q:Int=>AV.int .i64 q) ((Uw hc1 hc2).trans ((Mf hR.2 hc (by rw [yW hc4 hc5];decide)).trans (yW hc4 hc5)))).symm
      ·
       refine AW.skip (Bn (Ad (AW.region (Qp Fb (Qp Az (Ag ?_))))))
       refine ⟨k+1,?_,?_,GS.weaken ⟨rfl,rfl,rfl,rfl,rfl,trivial⟩ (.refl _)⟩
       · exact ⟨hlt,Pf hR.2 hc (lit_3 hc4 hc5)⟩
       · omega
    ·
     have hte:=Cg hc3
     have hall:=hR.2
     rw [hte] at hall
     refine AW.exit ?_
     refine A2 (A2 (Bo (Ad (Ah (Qp Aq (Ag (AW.ret ?_)))))))
     refine Qr (Iq _) ?_
     exact Eq.trans rfl (congrArg (fun q:Int=>AV.int .i64 q) ((Uw hc1 hc2).trans hall)).symm
theorem lX (T:List Sc)(V:List Va)(c:Lit)(hk:KOK T V c.cond)(hse:Av c.cond≤64):A1 Tryz.prog 72 [.agg (B9 T V),.agg (Fy c)] (.tuple [.agg (yR (Aa T V c).1),.bool (Aa T V c).2]):=by
 refine A1.body (n:=41) Aj Tryz.func72 rfl rfl rfl fun H=>?_
 refine Ah (Qp (It [_,_]) (Qp (It [Iq _,_,Iq _,Iq _,Iq _,Iq _,Iq _,.str _,.bool _]) ?_))
 refine Qe (A0 (l:=[.sl 3 [],.sl 3 [],.int .i64 0]) (by kernel_rfl)) ?_
 rintro _ _ ⟨b4,rfl,rfl⟩
 refine Qp Bb (Dv (Qp (Qf [Iq _,_,Iq _,Iq _,Iq _,Iq _,Iq _,.str _,.bool _]) (Qp E2 ?_)))
 refine Qe (A0 (l:=[.int .i64 0,.sl 8 [],.int .i64 0,.int .i64 0,.int .i64 0,.int .i64 0,.int .i64 0,.str []]) (by kernel_rfl)) ?_
 rintro _ _ ⟨b6,rfl,rfl⟩
 refine Eu 0 [Iq _,_,Iq _,Iq _,Iq _,Iq _,Iq _,.str _] (_::_::_) ?_
 refine AOL.ghost (GS.Aa2 (t:=6) 0 rfl rfl) ?_
 refine Ag (AW.seq (Ah (Qp Lm (Qp B2 (Qp Ba (Ag (A4 (fun hc1=>?_) fun hc1=>?_)))))))
 ·
  refine Ah (Qp Lm (Qp B2 (Qp aW (Qp B2 (Qp aV (Qp B2 (Qp (Ij [Iq _,Iq _,Iq _]) ?_)))))))
  refine Qp (A3 (es:=[[Iq _,Iq _,Iq _]]) Aj rfl rfl rfl rfl rfl rfl rfl rfl rfl) ?_
  refine Qp (Ij [_,_,Iq _]) ?_
  refine Eu 0 [_,_,Iq _] (_::_) ?_
  refine Qp Bb (Ag (D4 ?_))
  refine ⟨.inr rfl,[.agg [_,_,Iq _],.bool _],.cons (.box _ _ _ 0 _ _ _ _ rfl rfl rfl rfl rfl rfl) <| .cons (.tmp _ _ rfl) <| .nil,.cons _ (.refl _),?_⟩
  exact Eq.trans rfl (congrArg (fun q:Gp×Bool=>AV.tuple [.agg (yR q.1),.bool q.2]) (Ys hc1)).symm
 ·
  refine Bx (AW.seq (Ah (Qp E2 ?_)))
  refine Qp (Qc rfl (Wi c.cond)) ?_
  refine Qp Gj (Qp Bt (Qg [] Qw (C8 [_,_]) (Qg [] Qw E2 ?_)))
  refine AOL.Aa5 (y:=.bool _) _ [(25,_),(26,_)] rfl (nI.all ⟨Ent.Aa1 _ _,Ent.Aa1 _ _,trivial⟩) (fun hG=>Fk (by kernel_rfl) rfl rfl (P2 T V c.cond hk)) rfl ?_
  refine Qp Ew (Ag (A4 (fun hc2=>?_) fun hc2=>?_))
  ·
   refine Ah (Qp (Ij [_,_,Iq _]) ?_)
   refine Eu 0 [_,_,Iq _] (_::_) ?_
   refine Qp Bb (Ag (D4 ?_))
   refine ⟨.inr rfl,[.agg [_,_,Iq _],.bool _],.cons (.box _ _ _ 0 _ _ _ _ rfl rfl rfl rfl rfl rfl) <| .cons (.tmp _ _ rfl) <| .nil,.cons _ (.refl _),?_⟩
   exact Eq.trans rfl (congrArg (fun q:Gp×Bool=>AV.tuple [.agg (yR q.1),.bool q.2]) (bS hc1 hc2)).symm
  ·
   refine Bx (AW.seq ?_)
   have h2:=Jt hk (Qu hc2)
   have h00:0<c.cond.args.length:=by omega
   have hsz:=Da h2
   have hk0:=An hk (Ax h00)
   have hk1:=An hk (Bf h2)
   refine AW.draw mixed (fun _=>True) trivial (by kernel_rfl) ?_
   refine Qn 0 rfl Oi (Qn 1 rfl D1 ?_)
   refine Qn 2 rfl (Af (c:=[Iq _,_,Iq _,Iq _,Iq _,Iq _,Iq _,.str _]) Aj rfl rfl rfl rfl rfl rfl (by decide) (Gf h00)) ?_
   refine Qn 3 rfl E2 (Qn 4 rfl Oi (Qn 5 rfl D1 ?_))
   refine Qn 6 rfl (Af (c:=[Iq _,_,Iq _,Iq _,Iq _,Iq _,Iq _,.str _]) Aj rfl rfl rfl rfl rfl rfl (by decide) (Jw h2)) ?_
   refine Qn 7 rfl E2 ?_
   refine Qn 8 rfl (Qc rfl (Yq _ _ hk0.nodes hk1.nodes (by omega))) ?_
   refine Qn 9 rfl (Dt (v:=.agg [_,_,Iq _]) rfl rfl) ?_
   refine Qn 10 rfl X9 ?_
   refine Iu.eff _ _ 11 _ _ rfl (by kernel_rfl) rfl rfl (Dc (k:=0) (v:=.agg _) (cs':=[_,_,Iq _]) (H2:=_::_) Aj rfl rfl rfl rfl (rfl) rfl rfl rfl rfl) (fun _ _ _=>trivial) ?_
   rintro _ _ ⟨rfl,rfl⟩
   refine Qn 12 rfl Bb ?_
   refine Iu.done _ _ (by kernel_rfl) ?_
   refine Ad (AW.ret ?_)
   refine ⟨.inr rfl,[.agg [_,_,Iq _],.bool _],.cons (.box _ _ _ 0 _ _ _ _ rfl rfl rfl rfl rfl rfl) <| .cons (.tmp _ _ rfl) <| .nil,.cons _ (.refl _),?_⟩
   exact Eq.trans rfl (congrArg (fun q:Gp×Bool=>AV.tuple [.agg (yR q.1),.bool q.2]) (cD hc1 hc2)).symm
theorem rK (T:List Sc)(V:List Va)(t:Tm)(hk:KOK T V (Hs t)):A1 Tryz.prog 74 [.agg (B9 T V),.agg (G2 t)] (.tuple [.int .i64 (Cw T V t).1,.int .i64 (Cw T V t).2]):=by
 refine A1.body (n:=16) Aj Tryz.func74 rfl rfl rfl fun H=>?_
 refine Ah (Qp (It [_,_]) (Qp (It [Iq _,Iq _,Iq _]) (Qp Aq (Qp Aq (Ag (AW.seq (AW.block (Ah (Qp (Qf [Iq _,Iq _,Iq _]) ?_)))))))))
 refine Qp B2 (Qp Ba (Qp Bb (Ag (A4 (fun hc1=>?_) fun hc1=>?_))))
 ·
  refine Ah (Qp Aq (Qp Aq (Ag (AW.ret (A6 (Ai ?_))))))
  refine Iw (Iq _) (Iq _) ?_
  exact Eq.trans rfl (congrArg (fun q:Int×Int=>AV.tuple [.int .i64 q.1,.int .i64 q.2]) (yD hc1)).symm
 ·
  refine AW.seq ?_
  refine AW.draw mixed (fun _=>True) trivial (by kernel_rfl) ?_
  refine Qn 0 rfl (C8 [_,_]) (Qn 1 rfl (C8 [Iq _,Iq _,Iq _]) ?_)
  refine Qn 2 rfl (Qc rfl (sA t)) ?_
  refine Qn 3 rfl (Qc rfl (Us T V _ hk)) ?_
  refine Qn 4 rfl Ba (Qn 5 rfl Bb ?_)
  refine Iu.done _ _ (by kernel_rfl) ?_
  refine Ad (A4 (fun hc2=>?_) fun hc2=>?_)
  ·
   refine Ah (Qp Aq (Qp Aq (Ag (AW.ret (A6 (Ai ?_))))))
   refine Iw (Iq _) (Iq _) ?_
   exact Eq.trans rfl (congrArg (fun q:Int×Int=>AV.tuple [.int .i64 q.1,.int .i64 q.2]) (yI hc1 hc2)).symm
  ·
   refine AW.skip (Bn (Ad (Ah (Qp Aq (Qp Aq (Ag (AW.ret ?_)))))))
   refine Iw (Iq _) (Iq _) ?_
   exact Eq.trans rfl (congrArg (fun q:Int×Int=>AV.tuple [.int .i64 q.1,.int .i64 q.2]) (zC hc1 hc2)).symm
theorem gL (T:List Sc)(V:List Va)(l:List Lit):A1 Tryz.prog 36 [.ptr (oF T V l)] (.bool (Ha (A7 T V l))):=by
 refine A1.body (n:=18) Aj Tryz.func36 rfl rfl rfl fun H=>?_
 refine Ah (Qp Bb (Dv (Qp tQ ?_)))
 refine Qp (Fs rfl) ?_
 refine Qp (Qf [Iq _,_,_,_]) (Qp (Qf [Iq _,_,_,_]) (Qp B2 (Qp Pk (Qp Bt (Qg [] Qw tQ ?_)))))
 refine AOL.Aa5 (y:=.ptr _) _ [(10,_)] rfl (nI.all ⟨Ent.Aa1 _ _,trivial⟩) (fun hG=>Fs rfl) rfl ?_
 refine Qg [(11,_)] Qw (Qf [Iq _,_,_,_]) (Qg [(12,_)] Qw (Qf [_,_,_]) (Qg [(13,_)] Qw D1 ?_))
 refine AOL.Aa5 (y:=Iq _) _ [(14,_)] rfl (nI.all ⟨Ent.Aa1 _ _,trivial⟩) (fun hG=>Al (n:=(A7 T V l).bs.length) Aj rfl rfl rfl (by simp)) rfl ?_
 refine Qg [(15,_)] Qw Pk (Qp G1 (Qp Bb (Ag (AW.ret ?_))))
 refine Qr (.bool _) ?_
 rfl
theorem X1 (m yb:Nat)(v:Value)(n0:Int)(c1:AV)(ts l:List Tm)(R:List HO)(hts:ts.length≤1048576):C7 Tryz.prog 73 (eI m yb v (.int .i64 n0) c1 ts R) [.val (.pointer (some ⟨yb,0,none⟩)),.sl 3 (l.map G2)] (fun r H'=>∃v',r = .int .i64 (Bv (Ar ts l) l)∧H'=eI m yb v' (.int .i64 n0) c1 (Ar ts l) R):=by
 have hsc:∀c∈(ts.map G2),Bg c=true:=F2 fun _=>rfl
 refine C7.body (n:=55) Aj Tryz.func73 rfl rfl rfl ?_
 refine Ah (Qp Aq (Ag (AW.seq (Ah (Qp Dm ?_)))))
 refine Qp (Al (n:=l.length) Aj rfl rfl rfl (by simp)) ?_
 refine Qp Ba (Ag (A4 (fun hc1=>?_) fun hc1=>?_))
 ·
  have hnil:=Aaz hc1
  subst hnil
  refine Ah (Qp Aq (Ag (D4 ?_)))
  refine ⟨.inr rfl,[Iq _],.cons (.tmp _ _ rfl) <| .nil,_,.refl _,?_⟩
  exact ⟨_,rfl,rfl⟩
 ·
  obtain ⟨t,l,rfl⟩:=uN hc1
  refine Bx ?_
  refine AW.cut (fun (w:Value)=>(⟨[(0,.val (.pointer (some ⟨yb,0,none⟩))),(1,.sl 3 ((t::l).map G2))],eI m yb w (.int .i64 n0) c1 (Ar ts (t::l)) R,55⟩:St)) (fun (w:Value)=>True) ?_ ?_
  ·
   refine AW.seq ?_
   refine AW.draw mixed (fun H'=>_∈H'∧_∈H') ⟨(List.mem_of_getElem? (i:=1) rfl),(List.mem_of_getElem? (i:=2) rfl)⟩ (by kernel_rfl) ?_
   refine Qn 0 rfl Gn ?_
   refine Qn 1 rfl (Bc rfl) ?_
   refine Qn 2 rfl Ia ?_
   refine Qn 3 rfl (OpP.Aa4 (fun k=>Am (k:=k) (c:=.val _) Aj rfl rfl rfl rfl) (fun _ h=>h.1)) ?_
   refine Qn 4 rfl Dm ?_
   refine Qn 5 rfl (Af (c:=[Iq _,Iq _,Iq _]) Aj rfl rfl rfl rfl rfl rfl (by decide) (rfl)) ?_
   refine Qn 6 rfl (C8 [Iq _,Iq _,Iq _]) ?_
   refine Qn 7 rfl (OpP.Aa4 (fun k=>N4 (i:=k) (eq:=Gc t) Aj rfl rfl rfl rfl rfl (by kernel_rfl) rfl rfl (rfl) (aF t _) (xP t ts) (pZ t ts)) (fun _ h=>h.2)) ?_
   refine Qn 8 rfl Om (Qn 9 rfl Kn (Qn 10 rfl X9 (Qn 11 rfl Aq (Qn 12 rfl Bb ?_))))
   refine Iu.done _ _ (by kernel_rfl) ?_
   refine Ad (Ah (Qp Bt (Qp Gj (Ag (A4 (fun hc2=>?_) fun hc2=>?_)))))
   ·
    have hnew:ts.contains t=false:=by simpa using hc2
    refine AW.seq ?_
    refine AW.draw mixed (fun H'=>_∈H') (List.mem_of_getElem? (i:=1) rfl) (by kernel_rfl) ?_
    refine Qn 0 rfl Gn (Qn 1 rfl Gn ?_)
    refine Qn 2 rfl (Bc rfl) ?_
    refine Qn 3 rfl Ia ?_
    refine Qn 4 rfl (OpP.Aa4 (fun k=>Am (k:=k) (c:=.row _ _ _) Aj rfl rfl rfl rfl) (fun _ h=>h)) ?_
    refine Qn 5 rfl Dm ?_
    refine Qn 6 rfl (Af (c:=[Iq _,Iq _,Iq _]) Aj rfl rfl rfl rfl rfl rfl (by decide) (rfl)) ?_
    refine Qn 7 rfl (C8 [Iq _,Iq _,Iq _]) ?_
    refine Qn 8 rfl (A3 (es:=[[Iq _,Iq _,Iq _]]) Aj rfl rfl rfl rfl rfl rfl rfl rfl rfl) ?_
    refine Iu.eff _ _ 9 _ _ rfl (by kernel_rfl) rfl rfl (Dr (k:=0) Aj rfl rfl rfl rfl rfl rfl rfl rfl (Hw rfl) (hsc) (by simp;omega) (by simp [maxLen];omega)) (by rintro _ _ ⟨v32,rfl,rfl⟩;simp) ?_
    rintro _ _ ⟨v32,rfl,rfl⟩
    refine Qn 10 rfl (Bc rfl) ?_
    refine Qn 11 rfl Ia ?_
    refine Iu.last _ _ 12 _ _ rfl (by kernel_rfl) rfl rfl (Dc (k:=1) (v:=.row _ _ _) (cs':=[Iq _,_,_,_]) (H2:=_::_::_::_) Aj rfl rfl rfl rfl (rfl) rfl rfl rfl rfl) (by kernel_rfl) ?_
    rintro _ _ ⟨rfl,rfl⟩
    refine Ad ?_
    refine AW.draw mixed (fun H'=>_∈H') (List.mem_of_getElem? (i:=1) rfl) (by kernel_rfl) ?_
    refine Qn 0 rfl Gn ?_
    refine Qn 1 rfl (Bc rfl) ?_
    refine Qn 2 rfl Ia ?_
    refine Qn 3 rfl (OpP.Aa4 (fun k=>Am (k:=k) (c:=.val _) Aj rfl rfl rfl rfl) (fun _ h=>h)) ?_
    refine Qn 4 rfl Dm ?_
    refine Qn 5 rfl (Af (c:=[Iq _,Iq _,Iq _]) Aj rfl rfl rfl rfl rfl rfl (by decide) (rfl)) ?_
    refine Qn 6 rfl (C8 [Iq _,Iq _,Iq _]) (Qn 7 rfl Gn ?_)
    refine Qn 8 rfl (Bc rfl) ?_
    refine Qn 9 rfl Ia ?_
    refine Qn 10 rfl (OpP.Aa4 (fun k=>Am (k:=k) (c:=.row _ _ _) Aj rfl rfl rfl rfl) (fun _ h=>h)) ?_
    refine Qn 11 rfl (Le (n:=ts.length+1) Aj rfl rfl rfl (by simp)) ?_
    refine Iu.last _ _ 12 _ _ rfl (by kernel_rfl) rfl rfl (R5 (i:=2) (eq:=Gc t) (H2:=_::_::_::_) Aj rfl rfl rfl rfl rfl rfl rfl (rfl) (aF t _) rfl (nP hnew) rfl) (by kernel_rfl) ?_
    rintro _ _ ⟨rfl,rfl⟩
    refine Ad ?_
    refine ⟨v32,?_,GS.trans (GS.heapTo (tR hnew)) (GS.weaken ⟨rfl,rfl,trivial⟩ (.refl _))⟩
    trivial
   ·
    have hold:ts.contains t=true:=by simpa using hc2
    refine Bx ?_
    refine ⟨v,?_,GS.trans (GS.heapTo (xH hold)) (GS.weaken ⟨rfl,rfl,trivial⟩ (.refl _))⟩
    trivial
  ·
   rintro w _
   refine AW.seq ?_
   refine AW.draw mixed (fun H'=>_∈H'∧_∈H') ⟨(List.mem_of_getElem? (i:=1) rfl),(List.mem_of_getElem? (i:=2) rfl)⟩ (by kernel_rfl) ?_
   refine Qn 0 rfl Gn ?_
   refine Qn 1 rfl (Bc rfl) ?_
   refine Qn 2 rfl Ia ?_
   refine Qn 3 rfl (OpP.Aa4 (fun k=>Am (k:=k) (c:=.val _) Aj rfl rfl rfl rfl) (fun _ h=>h.1)) ?_
   refine Qn 4 rfl Dm ?_
   refine Qn 5 rfl (Af (c:=[Iq _,Iq _,Iq _]) Aj rfl rfl rfl rfl rfl rfl (by decide) (rfl)) ?_
   refine Qn 6 rfl (C8 [Iq _,Iq _,Iq _]) ?_
   refine Qn 7 rfl (OpP.Aa4 (fun k=>Ii (i:=k) (eq:=Gc t) Aj rfl rfl rfl rfl rfl (by kernel_rfl) rfl rfl (rfl) (aF t _) (look_y (Uc t l ts))) (fun _ h=>h.2)) ?_
   refine Qn 8 rfl Aq ?_
   refine Iu.done _ _ (by kernel_rfl) ?_
   refine Ad (AW.ret ?_)
   refine ⟨.inr rfl,[Iq _],.cons (.tmp _ _ rfl) <| .nil,_,.refl _,?_⟩
   exact ⟨_,rfl,rfl⟩
theorem Nd (bb:Nat)(v:Value)(es:List (List AV))(R:List HO)(x z most:Int)(hel:es.length≤1048576)(hsc:∀c∈es,Bg c=true):C7 Tryz.prog 71 (.row v es.length 112 3 :: .box bb 44 [.row v 3 es]::R) [.int .i64 x,.int .i64 z,.int .i64 most,.val (.pointer (some ⟨bb,0,none⟩))] (fun r H'=>∃v',r = .tuple []∧H' = .row v' (es ++ [Ml ⟨x,z,most⟩]).length 112 3 :: .box bb 44 [.row v' 3 (es ++ [Ml ⟨x,z,most⟩])]::R):=by
 refine C7.body (n:=14) Aj Tryz.func71 rfl rfl rfl ?_
 refine AW.region ?_
 refine AOL.Aa7 (Am (k:=1) (c:=.row _ _ _) Aj rfl rfl rfl rfl) rfl rfl ?_
 refine Qp Az (Qp Az (Qp Az (Qp (Ij [Iq _,Iq _,Iq _]) ?_)))
 refine Qp (A3 (es:=[[Iq _,Iq _,Iq _]]) Aj rfl rfl rfl rfl rfl rfl rfl rfl rfl) ?_
 refine Qe (Dr (k:=0) Aj rfl rfl rfl rfl rfl rfl rfl rfl (Hw rfl) (hsc) (by simp;omega) (by simp [maxLen];omega)) ?_
 rintro _ _ ⟨v13,rfl,rfl⟩
 refine Eu 1 [_] (_::_::_) ?_
 refine AOL.nil ?_
 refine ⟨.inl rfl,[],.nil,_,.refl _,?_⟩
 exact ⟨_,rfl,rfl⟩

end Go.Proofs.YtjedflcpjlgokaaGreatDoor
