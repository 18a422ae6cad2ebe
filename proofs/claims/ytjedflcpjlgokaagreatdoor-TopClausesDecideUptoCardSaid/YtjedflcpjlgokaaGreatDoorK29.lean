/-
  Several texts in one: Y8, Z1. No condition.
-/
import Derived.Test.YtjedflcpjlgokaaGreatDoorAz
import Derived.Test.YtjedflcpjlgokaaGreatDoorK15
import Derived.Test.YtjedflcpjlgokaaGreatDoorY7b
import Derived.KernelRfl
import Derived.Test.YtjedflcpjlgokaaGreatDoorK22
set_option linter.unusedVariables false
set_option linter.unusedSimpArgs false
namespace Go.Proofs.YtjedflcpjlgokaaGreatDoor
open Go Go.Aw
set_option maxHeartbeats 3200000
set_option maxRecDepth 20000

theorem tY (n:Int)(b:Bd):A1 Tryz.prog 75 [.int .i64 n,.agg (Ml b)] (.int .i64 (bdE n b)):=by
 refine A1.body (n:=35) Aj Tryz.func75 rfl rfl rfl fun H=>?_
 refine Ah (Qp (It [Iq _,Iq _,Iq _]) (Qp Aq (Ag (AW.seq (Ah (Qp (Qf [Iq _,Iq _,Iq _]) (Qp B2 (Qp Co (Qp Bt ?_)))))))))
 refine Qg [] Qw (Qf [Iq _,Iq _,Iq _]) (Qg [(9,_)] Qw B2 (Qg [] Qw Az ?_))
 refine AOL.Aa5 (y:=.bool _) _ [(10,_),(11,_)] rfl (nI.all ⟨Ent.Aa1 _ _,Ent.Aa1 _ _,trivial⟩) (fun hG=>Xl rfl rfl) rfl ?_
 refine Qp Ew (Qp Bt (Qg [] Qw (Qf [Iq _,Iq _]) (Qg [(15,_)] Qw B2 (Qg [(16,_)] Qw Co (Qp Ew (Qp Bt (Qg [] Qw (Qf [Iq _,Iq _]) (Qg [(20,_)] Qw B2 (Qg [] Qw Az ?_)))))))))
 refine AOL.Aa5 (y:=.bool _) _ [(21,_),(22,_)] rfl (nI.all ⟨Ent.Aa1 _ _,Ent.Aa1 _ _,trivial⟩) (fun hG=>Xl rfl rfl) rfl ?_
 refine Qp Ew (Qp Bt (Qg [] Qw (Qf [Iq _]) (Qg [(26,_)] Qw B2 (Qg [(27,_)] Qw Co (Qp Ew (Qp Bt (Qg [] Qw (Qf [Iq _]) (Qg [(31,_)] Qw B2 (Qg [(32,_)] Qw Gl ?_)))))))))
 refine Qp Ew (Ag (A4 (fun hc1=>?_) fun hc1=>?_))
 ·
  refine Ah (Qp Aq (Ag (D4 ?_)))
  refine Qr (Iq _) ?_
  exact Eq.trans rfl (congrArg (fun q:Int=>AV.int .i64 q) (if_pos hc1)).symm
 ·
  refine Bx (Ah (Qp Aq (Ag (AW.ret ?_))))
  refine Qr (Iq _) ?_
  exact Eq.trans rfl (congrArg (fun q:Int=>AV.int .i64 q) (Cu hc1)).symm
theorem Tz (z:Zn):A1 Tryz.prog 38 [.agg (Ss z)] (.int .i64 (De z)):=by
 refine A1.body (n:=35) Aj Tryz.func38 rfl rfl rfl fun H=>?_
 refine Ah (Qp (It [Iq _,_]) (Qp Aq (Ag (AW.seq (AW.block (Ah (Qp (Qf [Iq _,_]) (Qp B2 (Qp Co ?_)))))))))
 refine Qp Bt (Qg [] Qw (Qf [Iq _,_]) (Qg [(11,_)] Qw B2 (Qg [(12,_)] Qw Gl (Qp Ew (Qp Bb (Ag (A4 (fun hc1=>?_) fun hc1=>?_)))))))
 ·
  refine Ah (Qp Aq (Ag (AW.ret (A6 (Ai ?_)))))
  refine Qr (Iq _) ?_
  exact Eq.trans rfl (congrArg (fun q:Int=>AV.int .i64 q) (if_pos hc1)).symm
 ·
  refine Ah (Qp (Qf [_]) (Qp D1 ?_))
  refine Qp (Al (n:=z.bs.length) Aj rfl rfl rfl (by simp)) ?_
  refine Qp Gl (Qp Bb (Ag (A4 (fun hc2=>?_) fun hc2=>?_)))
  ·
   refine Ah (Qp Aq (Ag (AW.ret (A6 (Ai ?_)))))
   refine Qr (Iq _) ?_
   exact Eq.trans rfl (congrArg (fun q:Int=>AV.int .i64 q) ((Cu hc1).trans (if_pos hc2))).symm
  ·
   refine AW.skip (Bn (Ad (AW.seq (Ah (Qp (Qf [_]) (Qp D1 ?_))))))
   refine Qp (Al (n:=z.bs.length) Aj rfl rfl rfl (by simp)) ?_
   refine Qp Az (Ag (AW.block ?_))
   refine AW.sllen 21 rfl fun hlen=>?_
   simp only [List.length_map,maxLen] at hlen
   refine AW.Aa3 (fun (k:Nat)=>(⟨[(1,.ptr (Ss z)),(21,.sl 3 (z.bs.map Ml)),(22,.int .i64 z.bs.length),(23,.int .i64 (k:Int))],H,35⟩:St)) (fun (k:Nat)=>k≤z.bs.length∧At (bdE z.n) (z.bs.take k)=0) (fun (k:Nat)=>z.bs.length-k) (0) ?_ (GS.weaken ⟨rfl,rfl,rfl,rfl,trivial⟩ (.refl _)) ?_
   · exact ⟨Nat.zero_le _,rfl⟩
   ·
    rintro k hR
    refine Ah (Qp Co (Ag (AW.seq (A4 (fun hc3=>?_) fun hc3=>?_))))
    ·
     obtain ⟨c,hc⟩:=B5 hc3
     have hlt:=Bh hc
     refine Bx (AW.seq (AW.block (Ah ?_)))
     refine Qp (Af (c:=[Iq _,Iq _,Iq _]) Aj rfl rfl rfl rfl rfl rfl (by omega) (B1 hc)) ?_
     refine Qp (C8 [Iq _,Iq _,Iq _]) ?_
     refine Qe (A0 (l:=[.int .i64 0,.int .i64 0,.int .i64 0]) (by kernel_rfl)) ?_
     rintro _ _ ⟨b4,rfl,rfl⟩
     refine Eu 0 [Iq _,Iq _,Iq _] (_::_) ?_
     refine AOL.ghost (GS.Aa2 (t:=4) 0 rfl rfl) ?_
     refine Dv (Qp (Qf [Iq _,_]) (Qp B2 (Qp (C8 [Iq _,Iq _,Iq _]) ?_)))
     refine Qp (Qc rfl (tY z.n c)) ?_
     refine Qp Aq (Dv (Qp Az (Qp C1 (Ag (A4 (fun hc4=>?_) fun hc4=>?_)))))
     ·
      refine Ah (Qp Az (Qp Aq (Ag (AW.ret (A6 (Ai (Ai (A6 (Ai ?_)))))))))
      refine Qr (Iq _) ?_
      exact Eq.trans rfl (congrArg (fun q:Int=>AV.int .i64 q) (((Cu hc1).trans (Cu hc2)).trans (Mf hR.2 hc (by simpa using hc4)))).symm
     ·
      refine AW.skip (Bn (Ad (AW.region (Qp Fb (Qp Az (Ag ?_))))))
      refine ⟨k+1,?_,?_,GS.weaken ⟨rfl,rfl,rfl,rfl,trivial⟩ (.refl _)⟩
      · exact ⟨hlt,Pf hR.2 hc (by simpa using hc4)⟩
      · omega
    ·
     have hte:=Cg hc3
     have hall:=hR.2
     rw [hte] at hall
     refine AW.exit ?_
     refine A2 (A2 (Bo (Ad (Ah (Qp Aq (Ag (AW.ret ?_)))))))
     refine Qr (Iq _) ?_
     exact Eq.trans rfl (congrArg (fun q:Int=>AV.int .i64 q) (((Cu hc1).trans (Cu hc2)).trans hall)).symm
theorem dF (H:List HO)(n:Nat)(h0:0<n)(hn:n≤1048576):C7 Tryz.prog 76 H [.sl 1 [[.int .i64 (-1)]],.int .i64 (n:Int)] (fun r H'=>∃b,r = .val (.slice (some ⟨b,0,none⟩) n n)∧H' = .box b 3 (bI (Jo n))::H):=by
 have hmx:1048576≤maxLen:=by decide
 refine C7.body (n:=48) Aj Tryz.func76 rfl rfl rfl ?_
 refine Ah ?_
 refine Qp (Br (z:=1) rfl) ?_
 refine Ag (AW.seq (Ah (Qp Az (Qp Co (Ag (A4 (fun hc1=>?_) fun hc1=>?_))))))
 ·
  have:=of_decide_eq_true hc1
  omega
 ·
  refine Bx (Ah (Qp Dm ?_))
  refine Qp (Al (n:=1) Aj rfl rfl rfl (rfl)) ?_
  refine Qp (iK (m:=1) Aj rfl rfl rfl rfl rfl (rfl)) ?_
  refine Qp Az ?_
  refine Qp (iK (m:=(n:Int)) Aj rfl rfl rfl rfl rfl (zO hn)) ?_
  refine Qp (Qc rfl (kMul1 n hn)) ?_
  refine Qp Om ?_
  refine Qp (Dt (v:=.int .u64 _) rfl rfl) ?_
  refine Qp (Dt (v:=.int .u64 _) rfl rfl) ?_
  refine Qp (Di (v:=.int .u64 _) rfl) ?_
  refine Qp (Di (v:=.int .u64 _) rfl) ?_
  refine Ag (AW.seq (Ah ?_))
  refine Qp (Bk (v:=.int .u64 _) rfl) ?_
  refine Qp Gl (Qp Bt ?_)
  refine AOL.Aa5 (y:=.int .u64 _) _ [] rfl (nI.all trivial) (fun hG=>Bk (v:=.int .u64 _) rfl) rfl ?_
  refine Qg [(24,_)] Qw Gl (Qp Ew (Ag (A4 (fun hc2=>?_) fun hc2=>?_)))
  ·
   exact absurd hc2 (by simp;omega)
  ·
   refine Bx (Ah ?_)
   refine Qp (Bk (v:=.int .u64 _) rfl) ?_
   refine Qp (iK (m:=(n:Int)) Aj rfl rfl rfl rfl rfl (i64_in hn)) ?_
   refine Qe (Nf (n:=n) Aj rfl rfl rfl rfl rfl rfl rfl (by show 8*n≤_;omega) (by omega)) ?_
   rintro _ _ ⟨b30,rfl,rfl⟩
   refine Qp O5 ?_
   refine AOL.ghost (GS.cells 0 rfl ((aN n).trans (congrArg bI (show List.replicate n 0=Kj n 0 by simp [Kj])))) ?_
   refine Dv (Qp Gn (Qp Dm ?_))
   refine Qe (sD (k:=0) (m:=1) (cs':=bI (Kj n 1)) (H2:=_::_) Aj rfl rfl rfl rfl rfl rfl rfl (by simp) (Hw rfl) (Nat.min_eq_left (by show 1≤n;omega)) (by rw [U2,Wh (by omega)];omega) (fM h0) rfl) ?_
   rintro _ _ ⟨rfl,rfl⟩
   refine Qp Aq (Ag (AW.seq (AW.block ?_)))
   refine AW.Aa3 (fun (k:Nat)=>(⟨[(7,.val (.slice (some ⟨b30,0,none⟩) n n)),(8,.int .i64 (k:Int))],.box b30 3 (bI (Kj n k))::H,48⟩:St)) (fun (k:Nat)=>1≤k∧k≤n) (fun (k:Nat)=>n-k) (1) ?_ (GS.weaken ⟨rfl,rfl,trivial⟩ (.refl _)) ?_
   · exact ⟨Nat.le_refl _,h0⟩
   ·
    rintro k hR
    refine AW.seq (Ah (Qp Az (Qp Gn ?_)))
    refine Qp (Yt Aj rfl rfl rfl) ?_
    refine Qp Co (Ag (A4 (fun hc3=>?_) fun hc3=>?_))
    ·
     have hlt:k<n:=by have:=of_decide_eq_true hc3;omega
     refine Bx (AW.block ?_)
     refine AW.draw mixed (fun _=>True) trivial (by kernel_rfl) ?_
     refine Qn 0 rfl Az (Qn 1 rfl Gn (Qn 2 rfl Az ?_))
     refine Qn 3 rfl (Sb (l:=k) (h:=n) (o':=k) Aj rfl rfl rfl rfl rfl (⟨_,rfl⟩) (rfl) (by omega) (by omega) (by omega) (by omega) (by simp)) ?_
     refine Qn 4 rfl Gn (Qn 5 rfl Az ?_)
     refine Qn 6 rfl (Sb (l:=0) (h:=k) (o':=0) Aj rfl rfl rfl rfl rfl (rfl) (⟨_,rfl⟩) (by omega) (by omega) (by omega) (by omega) (rfl)) ?_
     refine Iu.eff _ _ 7 _ _ rfl (by kernel_rfl) rfl rfl (lH (k:=0) (m:=min k (n-k)) (cs':=bI (Kj n (k+min k (n-k)))) (H2:=_::_) Aj rfl rfl rfl rfl rfl rfl rfl (bI_sc _) (by first | rfl | (simp only [Nat.sub_zero];done) | (simp only [Nat.sub_zero];rfl)) (by rw [U2,Wh hR.2];omega) (by rw [U2,Wh hR.2];omega) (nU (by omega) (by omega)) rfl) (fun _ _ _=>trivial) ?_
     rintro _ _ ⟨rfl,rfl⟩
     refine Qn 8 rfl Fb (Qn 9 rfl Aq ?_)
     refine Iu.done _ _ (by kernel_rfl) ?_
     refine Bn (Ad ?_)
     refine ⟨k+min k (n-k),?_,?_,GS.weaken ⟨rfl,rfl,trivial⟩ (.refl _)⟩
     · omega
     · omega
    ·
     have hkn:k=n:=by have:=of_decide_eq_false hc3;omega
     refine AW.exit ?_
     refine A2 (A2 (Bo (Ad (Ah (Qp Gn (Qp O5 (Ag (AW.ret ?_))))))))
     refine ⟨.inr rfl,[.val _],.cons (.tmp _ _ rfl) <| .nil,_,.refl _,?_⟩
     exact ⟨b30,rfl,congrArg (fun l=>HO.box b30 3 (bI l)::H) ((congrArg (Kj n) hkn).trans (nN n))⟩
theorem wG (bd b1 b2 n:Nat)(bs:List Bd)(hz:znOK n bs)(C:Int)(hC:0≤C)(hC2:C≤4000000000000000000)(d:Ds)(hd:dsOK n C d)(R:List HO):C7 Tryz.prog 77 (.box bd 156 [.val (.slice (some ⟨b1,0,none⟩) n n),.val (.slice (some ⟨b2,0,none⟩) n n)] :: .box b1 3 (bI d.sums) :: .box b2 3 (bI d.last)::R) [.val (.pointer (some ⟨bd,0,none⟩)),.agg (Ss (zn n bs))] (fun r H'=>r = .int .i64 (I8 bs d).2∧H' = .box bd 156 [.val (.slice (some ⟨b1,0,none⟩) n n),.val (.slice (some ⟨b2,0,none⟩) n n)] :: .box b1 3 (bI (I8 bs d).1.sums) :: .box b2 3 (bI (I8 bs d).1.last)::R):=by
 have hbl:=hz.len
 have hn64:=hz.n64
 have hbb:H6=140737488355329:=rfl
 refine C7.body (n:=58) Aj Tryz.func77 rfl rfl rfl ?_
 refine Ah (Qp (It [Iq _,_]) (Qp Aq (Dv (Qp Aq (Ag (AW.seq (Ah (Qp (Qf [_]) (Qp D1 ?_)))))))))
 refine Qp (Al (n:=bs.length) Aj rfl rfl rfl (by simp [zn])) ?_
 refine Qp Az (Ag (AW.block ?_))
 refine AW.Aa3 (fun (p:Nat×Ds×Int)=>(⟨[(0,.val (.pointer (some ⟨bd,0,none⟩))),(3,.ptr (Ss (zn n bs))),(5,.int .i64 p.2.2),(10,.sl 3 (bs.map Ml)),(11,.int .i64 bs.length),(12,.int .i64 (p.1:Int))],.box bd 156 [.val (.slice (some ⟨b1,0,none⟩) n n),.val (.slice (some ⟨b2,0,none⟩) n n)] :: .box b1 3 (bI p.2.1.sums) :: .box b2 3 (bI p.2.1.last)::R,58⟩:St)) (fun (p:Nat×Ds×Int)=>p.1≤bs.length∧I8 bs d=Gi p.1 (bs.drop p.1) p.2∧dsOK n (C+(p.1:Int)*H6) p.2.1) (fun (p:Nat×Ds×Int)=>bs.length-p.1) ((0,d,-1)) ?_ (GS.weaken ⟨rfl,rfl,rfl,rfl,rfl,rfl,trivial⟩ (.refl _)) ?_
 · exact ⟨Nat.zero_le _,rfl,by simpa using hd⟩
 ·
  rintro p hR
  have hd2:=hR.2.2
  have hpl:=hR.1
  have hkb:(p.1:Int)*H6≤256*H6:=by unfold H6;omega
  have hks:((p.1+1:Nat):Int)*H6=(p.1:Int)*H6+H6:=by push_cast;rw [Int.add_mul];omega
  refine Ah (Qp Co (Ag (AW.seq (A4 (fun hc1=>?_) fun hc1=>?_))))
  ·
   obtain ⟨c,hc⟩:=B5 hc1
   have hlt:=Bh hc
   have hcm:=List.mem_of_getElem? hc
   have hb:=hz.bd c hcm
   have hm:=hz.most c hcm
   have hi1:=hd2.ix hb.2.2.1 hb.2.2.2
   refine Bx (AW.seq (AW.block (Ah (Qp Az ?_))))
   refine Qp (Af (c:=[.int .i64 c.x,.int .i64 c.y,.int .i64 c.most]) Aj rfl rfl rfl rfl rfl rfl (by omega) (gZ hc)) ?_
   refine Qp (C8 [Iq _,Iq _,Iq _]) ?_
   refine Qe (A0 (l:=[.int .i64 0,.int .i64 0,.int .i64 0]) (by kernel_rfl)) ?_
   rintro _ _ ⟨b7,rfl,rfl⟩
   refine Qp Aq ?_
   refine Eu 0 [Iq _,Iq _,Iq _] (_::_::_::_::_) ?_
   refine AOL.ghost (GS.Aa2 (t:=7) 0 rfl rfl) ?_
   refine Ag (AW.seq ?_)
   refine AW.draw mixed (fun H'=>_∈H'∧_∈H') ⟨(List.mem_of_getElem? (i:=0) rfl),(List.mem_of_getElem? (i:=1) rfl)⟩ (by kernel_rfl) ?_
   refine Qn 0 rfl Gn ?_
   refine Qn 1 rfl (Bc rfl) ?_
   refine Qn 2 rfl Ia ?_
   refine Qn 3 rfl (OpP.Aa4 (fun k=>Am (k:=k) (c:=.val _) Aj rfl rfl rfl rfl) (fun _ h=>h.1)) ?_
   refine Qn 4 rfl (Qf [Iq _,Iq _]) (Qn 5 rfl B2 ?_)
   refine Qn 6 rfl (B4 (o':=c.y.toNat) Aj rfl rfl rfl rfl rfl (hb.2.2.1) (by have:=hb.2.2.2;omega) (aT _)) ?_
   refine Qn 7 rfl (OpP.Aa4 (fun k=>Am (k:=k) (c:=.int .i64 (C5 p.2.1.sums c.y)) Aj rfl rfl rfl (Ve hb.2.2.1 (by rw [hd2.s];exact hb.2.2.2))) (fun _ h=>h.2)) ?_
   refine Qn 8 rfl (Qf [Iq _]) (Qn 9 rfl B2 (Qn 10 rfl Fb (Qn 11 rfl Aq ?_)))
   refine Iu.done _ _ (by kernel_rfl) ?_
   refine Ad (AW.seq ?_)
   refine AW.draw mixed (fun H'=>_∈H'∧_∈H') ⟨(List.mem_of_getElem? (i:=0) rfl),(List.mem_of_getElem? (i:=1) rfl)⟩ (by kernel_rfl) ?_
   refine Qn 0 rfl Az (Qn 1 rfl Gn ?_)
   refine Qn 2 rfl (Bc rfl) ?_
   refine Qn 3 rfl Ia ?_
   refine Qn 4 rfl (OpP.Aa4 (fun k=>Am (k:=k) (c:=.val _) Aj rfl rfl rfl rfl) (fun _ h=>h.1)) ?_
   refine Qn 5 rfl (Qf [Iq _,Iq _,Iq _]) (Qn 6 rfl B2 ?_)
   refine Qn 7 rfl (B4 (o':=c.x.toNat) Aj rfl rfl rfl rfl rfl (hb.1) (by have:=hb.2.1;omega) (aT _)) ?_
   refine Qn 8 rfl (OpP.Aa4 (fun k=>Am (k:=k) (c:=.int .i64 (C5 p.2.1.sums c.x)) Aj rfl rfl rfl (Ve hb.1 (by rw [hd2.s];exact hb.2.1))) (fun _ h=>h.2)) ?_
   refine Qn 9 rfl Co ?_
   refine Iu.done _ _ (by kernel_rfl) ?_
   refine Ad (A4 (fun hc2=>?_) fun hc2=>?_)
   ·
    refine AW.seq ?_
    refine AW.draw mixed (fun H'=>_∈H') (List.mem_of_getElem? (i:=0) rfl) (by kernel_rfl) ?_
    refine Qn 0 rfl Gn ?_
    refine Qn 1 rfl (Bc rfl) ?_
    refine Qn 2 rfl Ia ?_
    refine Qn 3 rfl (OpP.Aa4 (fun k=>Am (k:=k) (c:=.val _) Aj rfl rfl rfl rfl) (fun _ h=>h)) ?_
    refine Qn 4 rfl (Qf [Iq _,Iq _,Iq _]) (Qn 5 rfl B2 (Qn 6 rfl Gn ?_))
    refine Qn 7 rfl (Bc rfl) ?_
    refine Qn 8 rfl Ia ?_
    refine Qn 9 rfl (OpP.Aa4 (fun k=>Am (k:=k) (c:=.val _) Aj rfl rfl rfl rfl) (fun _ h=>h)) ?_
    refine Qn 10 rfl (Qf [Iq _,Iq _,Iq _]) (Qn 11 rfl B2 (Qn 12 rfl Az (Qn 13 rfl Az ?_)))
    refine Qn 14 rfl (B4 (o':=c.x.toNat) Aj rfl rfl rfl rfl rfl (hb.1) (by have:=hb.2.1;omega) (aT _)) ?_
    refine Iu.eff _ _ 15 _ _ rfl (by kernel_rfl) rfl rfl (Dc (k:=1) (v:=Iq _) (cs':=bI (p.2.1.sums.set c.x.toNat (C5 p.2.1.sums c.y+c.most))) (H2:=_::_::_::_) Aj rfl rfl rfl rfl rfl rfl (Zu (by rw [hd2.s];omega)) (Zj (by rw [hd2.s];omega)) rfl) (by rintro _ _ ⟨rfl,rfl⟩;simp) ?_
    rintro _ _ ⟨rfl,rfl⟩
    refine Qn 16 rfl (B4 (o':=c.x.toNat) Aj rfl rfl rfl rfl rfl (hb.1) (by have:=hb.2.1;omega) (aT _)) ?_
    refine Iu.last _ _ 17 _ _ rfl (by kernel_rfl) rfl rfl (Dc (k:=2) (v:=Iq _) (cs':=bI (p.2.1.last.set c.x.toNat (p.1:Int))) (H2:=_::_::_::_) Aj rfl rfl rfl rfl rfl rfl (Zu (by rw [hd2.l];omega)) (Zj (by rw [hd2.l];omega)) rfl) (by kernel_rfl) ?_
    rintro _ _ ⟨rfl,rfl⟩
    refine Ad (AW.region (Qp (Qf [Iq _,Iq _,Iq _]) (Qp B2 (Qp Aq (AOL.nil (Bn (Ad (AW.region (Qp Fb ?_)))))))))
    refine Qp Az (Ag ?_)
    refine ⟨(p.1+1,⟨p.2.1.sums.set c.x.toNat (C5 p.2.1.sums c.y+c.most),p.2.1.last.set c.x.toNat (p.1:Int)⟩,c.x),?_,?_,GS.weaken ⟨rfl,rfl,rfl,rfl,rfl,rfl,trivial⟩ (.refl _)⟩
    · exact ⟨hlt,hR.2.1.trans ((Md hc).trans (congrArg _ (Mb hc2))),by have:=pR (i:=p.1) hd2 hb hm;rw [Mb hc2] at this;exact this.mono (by simp only [hks];omega)⟩
    · simp only;omega
   ·
    refine AW.skip (Bn (Ad (AW.region (Qp Fb (Qp Az (Ag ?_))))))
    refine ⟨(p.1+1,p.2),?_,?_,GS.weaken ⟨rfl,rfl,rfl,rfl,rfl,rfl,trivial⟩ (.refl _)⟩
    · exact ⟨hlt,hR.2.1.trans ((Md hc).trans (congrArg _ (R4 hc2))),hd2.mono (by simp only [hks];omega)⟩
    · simp only;omega
  ·
   have hde:=Dq hc1
   have hfin:=hR.2.1.trans (Rx hde)
   refine AW.exit ?_
   refine A2 (A2 (Bo (Ad (Ah (Qp Az (Qp Aq (Ag (AW.ret ?_))))))))
   refine ⟨.inr rfl,[Iq _],.cons (.tmp _ _ rfl) <| .nil,_,.refl _,?_⟩
   exact ⟨congrArg (fun q:Ds×Int=>AV.int .i64 q.2) hfin.symm,congrArg (fun q:Ds×Int=>(.box bd 156 [.val (.slice (some ⟨b1,0,none⟩) n n),.val (.slice (some ⟨b2,0,none⟩) n n)] :: .box b1 3 (bI q.1.sums) :: .box b2 3 (bI q.1.last)::R:List HO)) hfin.symm⟩
theorem f_back (bd n:Nat)(bs:List Bd)(f:Int):A1 Tryz.prog 78 [.val (.pointer (some ⟨bd,0,none⟩)),.agg (Ss (zn n bs)),.int .i64 f] (.fn (.func 104) [] [.ptr [.int .i64 f],.ptr [.val (.pointer (some ⟨bd,0,none⟩))],.ptr (Ss (zn n bs))]):=by
 refine A1.body (n:=8) Aj Tryz.func78 rfl rfl rfl fun H=>?_
 refine Ah ?_
 refine Qp (X3 (v:=.val _) (cs:=[_]) rfl rfl rfl) ?_
 refine Qp (It [Iq _,_]) ?_
 refine Qp (X3 (v:=Iq _) (cs:=[Iq _]) rfl rfl rfl) ?_
 refine Qp O5 (Dv ?_)
 refine Qp (Gr (l:=[]) (l':=[.ptr _,.ptr _,.ptr _]) rfl rfl) ?_
 refine Qp (Di (v:=.fn _ _ _) rfl) ?_
 refine Ag (AW.ret ?_)
 refine Qr (.fn _ _ _) ?_
 rfl

set_option maxHeartbeats 1600000
set_option maxRecDepth 20000

theorem f_sat (b:Bd)(l:List Int)(hx:0≤b.x∧b.x<(l.length:Int))(hy:0≤b.y∧b.y<(l.length:Int))(hr:∀v∈l,-1152921504606846976≤v∧v≤1152921504606846976):A1 Tryz.prog 44 [.agg (Ml b),.sl 1 (l.map cI)] (.bool (eW l b)):=by
 refine A1.body (n:=19) Aj Tryz.func44 rfl rfl rfl fun H=>?_
 refine Ah (Qp (It [Iq _,Iq _,Iq _]) (Qp Bb (Ag (AW.seq ?_))))
 refine AW.draw mixed (fun _=>True) trivial (by kernel_rfl) ?_
 refine Qn 0 rfl Dm (Qn 1 rfl (Qf [Iq _,Iq _,Iq _]) (Qn 2 rfl B2 ?_))
 refine Qn 3 rfl (Af (c:=[Iq _]) Aj rfl rfl rfl rfl rfl rfl (hx.1) (tM hx.1 hx.2)) ?_
 refine Qn 4 rfl B2 (Qn 5 rfl Dm (Qn 6 rfl (Qf [Iq _,Iq _]) (Qn 7 rfl B2 ?_)))
 refine Qn 8 rfl (Af (c:=[Iq _]) Aj rfl rfl rfl rfl rfl rfl (hy.1) (tM hy.1 hy.2)) ?_
 refine Qn 9 rfl B2 ?_
 refine Qn 10 rfl (dQ rfl rfl rfl (by have h1:=rD hr hx.1 hx.2;have h2:=rD hr hy.1 hy.2;constructor <;> omega)) ?_
 refine Qn 11 rfl (Qf [Iq _]) (Qn 12 rfl B2 (Qn 13 rfl Pk (Qn 14 rfl Bb ?_)))
 refine Iu.done _ _ (by kernel_rfl) ?_
 refine Ad (AW.ret ?_)
 refine Qr (.bool _) ?_
 rfl
theorem pS (v:Int):A1 Tryz.prog 41 [.int .i64 v] (.bool (Ws v)):=by
 refine A1.body (n:=9) Aj Tryz.func41 rfl rfl rfl fun H=>?_
 refine Ah (Qp Bb (Dv (Qp Az (Qp Co (Qp Bt (Qg [] Qw Az (Qg [(6,_)] Qw Gl (Qp Ew (Qp Bb ?_)))))))))
 refine Ag (AW.ret ?_)
 refine Qr (.bool _) ?_
 rfl
theorem qO (b:Bd)(l:List Int)(hx:0≤b.x∧b.x<(l.length:Int))(hy:0≤b.y∧b.y<(l.length:Int))(hr:∀v∈l,-1152921504606846976≤v∧v≤1152921504606846976):A1 Tryz.prog 43 [.agg (Ml b),.ptr [.sl 1 (l.map cI)]] (.bool (!eW l b)):=by
 refine A1.body (n:=8) Aj Tryz.func43 rfl rfl rfl fun H=>?_
 refine Ah (Qp (It [Iq _,Iq _,Iq _]) (Qp Bb (Dv (Qp (C8 [Iq _,Iq _,Iq _]) (Qp D1 ?_)))))
 refine Qp (Qc rfl (f_sat b l hx hy hr)) ?_
 refine Qp Gj (Qp Bb (Ag (AW.ret ?_)))
 refine Qr (.bool _) ?_
 rfl
theorem nV (v:Int)(z:Zn):A1 Tryz.prog 45 [.int .i64 v,.ptr (Ss z)] (.bool (Mz z.bs v)):=by
 refine A1.body (n:=13) Aj Tryz.func45 rfl rfl rfl fun H=>?_
 refine Ah (Qp Bb (Dv (Qp Az (Qp Co (Qp Bt (Qg [] Qw Az (Qg [] Qw (Qf [_]) (Qg [(8,_)] Qw D1 ?_))))))))
 refine AOL.Aa5 (y:=Iq _) _ [(9,_)] rfl (nI.all ⟨Ent.Aa1 _ _,trivial⟩) (fun hG=>Al (n:=z.bs.length) Aj rfl rfl rfl (by simp)) rfl ?_
 refine AOL.Aa5 (y:=.bool _) _ [(7,_),(10,_)] rfl (nI.all ⟨Ent.Aa1 _ _,Ent.Aa1 _ _,trivial⟩) (fun hG=>Xl rfl rfl) rfl ?_
 refine Qp Ew (Qp Bb (Ag (AW.ret ?_)))
 refine Qr (.bool _) ?_
 rfl
theorem lI (l:List Int)(hl:l.length≤1048576)(K:FuncId)(hK:kA Tryz.prog K=true)(cs:List AV)(p:Int→Bool)(hf:∀a∈l,A1 Tryz.prog K (.int .i64 a::cs) (.bool (p a))):A1 Tryz.prog 79 [.sl 1 (l.map cI),.fn (.func K) [] cs] (.int .i64 (Rj p l)):=by
 refine A1.body (n:=19) Aj Tryz.func79 rfl rfl rfl fun H=>?_
 refine Ah (Qp Aq (Ag (AW.seq (Ah (Qp Dm ?_)))))
 refine Qp (Al (n:=l.length) Aj rfl rfl rfl (by simp)) ?_
 refine Qp Az (Ag (AW.block ?_))
 refine AW.Aa3 (fun (k:Nat)=>(⟨[(0,.sl 1 (l.map cI)),(1,.fn (.func K) [] cs),(6,.sl 1 (l.map cI)),(7,.int .i64 l.length),(8,.int .i64 (k:Int))],H,19⟩:St)) (fun (k:Nat)=>k≤l.length∧(l.take k).any p=false) (fun (k:Nat)=>l.length-k) (0) ?_ (GS.weaken ⟨rfl,rfl,rfl,rfl,rfl,trivial⟩ (.refl _)) ?_
 · exact ⟨Nat.zero_le _,by simp⟩
 ·
  rintro k hR
  refine Ah (Qp Co (Ag (AW.seq (A4 (fun hc1=>?_) fun hc1=>?_))))
  ·
   obtain ⟨a,ha⟩:=B5 hc1
   have hlt:=Bh ha
   have hm:=List.mem_of_getElem? ha
   refine Bx (AW.seq (AW.block (Ah (Qp Az (Qp Aq (Dv ?_))))))
   refine Qp (Bk (v:=.fn _ _ _) rfl) ?_
   refine Qp Dm (Qp Az ?_)
   refine Qp (Af (c:=[Iq _]) Aj rfl rfl rfl rfl rfl rfl (by omega) (tB ha)) ?_
   refine Qp B2 ?_
   refine Qp (Fq hK rfl rfl rfl (hf a (List.mem_of_getElem? ha))) ?_
   refine Ag (A4 (fun hc2=>?_) fun hc2=>?_)
   ·
    refine Ah (Qp Az (Qp Aq (Ag (AW.ret (A6 (Ai (Ai (A6 (Ai ?_)))))))))
    refine Qr (Iq _) ?_
    exact Eq.trans rfl (congrArg (fun q:Int=>AV.int .i64 q) (Z9 ha hR.2 hc2)).symm
   ·
    refine AW.skip (Bn (Ad (AW.region (Qp Fb (Qp Az (Ag ?_))))))
    refine ⟨k+1,?_,?_,GS.weaken ⟨rfl,rfl,rfl,rfl,rfl,trivial⟩ (.refl _)⟩
    · exact ⟨hlt,Ik hR.2 ha hc2⟩
    · omega
  ·
   have hte:=Cg hc1
   have hall:=hR.2
   rw [hte] at hall
   refine AW.exit ?_
   refine A2 (A2 (Bo (Ad (Ah (Qp Aq (Ag (AW.ret ?_)))))))
   refine Qr (Iq _) ?_
   exact Eq.trans rfl (congrArg (fun q:Int=>AV.int .i64 q) (U0 hall)).symm
theorem P8 (l:List Int)(hl:l.length≤1048576)(K:FuncId)(hK:kA Tryz.prog K=true)(cs:List AV)(p:Int→Bool)(hf:∀a∈l,A1 Tryz.prog K (.int .i64 a::cs) (.bool (p a))):A1 Tryz.prog 40 [.sl 1 (l.map cI),.fn (.func K) [] cs] (.bool (l.any p)):=by
 refine A1.body (n:=9) Aj Tryz.func40 rfl rfl rfl fun H=>?_
 refine Ah (Qp Bb (Dv (Qp Dm ?_)))
 refine Qp (Bk (v:=.fn _ _ _) rfl) ?_
 refine Qp (Qc rfl (lI l hl K hK cs p hf)) ?_
 refine Qp Mq (Qp Bb (Ag (AW.ret ?_)))
 refine Qr (.bool _) ?_
 exact Eq.trans rfl (congrArg (fun q:Bool=>AV.bool q) (Y7 p l).2)
theorem lU (l:List Bd)(hl:l.length≤1048576)(K:FuncId)(hK:kA Tryz.prog K=true)(cs:List AV)(p:Bd→Bool)(hf:∀a∈l,A1 Tryz.prog K (.agg (Ml a)::cs) (.bool (p a))):A1 Tryz.prog 80 [.sl 3 (l.map Ml),.fn (.func K) [] cs] (.int .i64 (Rj p l)):=by
 refine A1.body (n:=19) Aj Tryz.func80 rfl rfl rfl fun H=>?_
 refine Ah (Qp Aq (Ag (AW.seq (Ah (Qp Dm ?_)))))
 refine Qp (Al (n:=l.length) Aj rfl rfl rfl (by simp)) ?_
 refine Qp Az (Ag (AW.block ?_))
 refine AW.Aa3 (fun (k:Nat)=>(⟨[(0,.sl 3 (l.map Ml)),(1,.fn (.func K) [] cs),(6,.sl 3 (l.map Ml)),(7,.int .i64 l.length),(8,.int .i64 (k:Int))],H,19⟩:St)) (fun (k:Nat)=>k≤l.length∧(l.take k).any p=false) (fun (k:Nat)=>l.length-k) (0) ?_ (GS.weaken ⟨rfl,rfl,rfl,rfl,rfl,trivial⟩ (.refl _)) ?_
 · exact ⟨Nat.zero_le _,by simp⟩
 ·
  rintro k hR
  refine Ah (Qp Co (Ag (AW.seq (A4 (fun hc1=>?_) fun hc1=>?_))))
  ·
   obtain ⟨a,ha⟩:=B5 hc1
   have hlt:=Bh ha
   have hm:=List.mem_of_getElem? ha
   refine Bx (AW.seq (AW.block (Ah (Qp Az (Qp Aq (Dv ?_))))))
   refine Qp (Bk (v:=.fn _ _ _) rfl) ?_
   refine Qp Dm (Qp Az ?_)
   refine Qp (Af (c:=[Iq _,Iq _,Iq _]) Aj rfl rfl rfl rfl rfl rfl (by omega) (B1 ha)) ?_
   refine Qp (C8 [Iq _,Iq _,Iq _]) ?_
   refine Qp (Fq hK rfl rfl rfl (hf a (List.mem_of_getElem? ha))) ?_
   refine Ag (A4 (fun hc2=>?_) fun hc2=>?_)
   ·
    refine Ah (Qp Az (Qp Aq (Ag (AW.ret (A6 (Ai (Ai (A6 (Ai ?_)))))))))
    refine Qr (Iq _) ?_
    exact Eq.trans rfl (congrArg (fun q:Int=>AV.int .i64 q) (Z9 ha hR.2 hc2)).symm
   ·
    refine AW.skip (Bn (Ad (AW.region (Qp Fb (Qp Az (Ag ?_))))))
    refine ⟨k+1,?_,?_,GS.weaken ⟨rfl,rfl,rfl,rfl,rfl,trivial⟩ (.refl _)⟩
    · exact ⟨hlt,Ik hR.2 ha hc2⟩
    · omega
  ·
   have hte:=Cg hc1
   have hall:=hR.2
   rw [hte] at hall
   refine AW.exit ?_
   refine A2 (A2 (Bo (Ad (Ah (Qp Aq (Ag (AW.ret ?_)))))))
   refine Qr (Iq _) ?_
   exact Eq.trans rfl (congrArg (fun q:Int=>AV.int .i64 q) (U0 hall)).symm
theorem Zq (l:List Bd)(hl:l.length≤1048576)(K:FuncId)(hK:kA Tryz.prog K=true)(cs:List AV)(p:Bd→Bool)(hf:∀a∈l,A1 Tryz.prog K (.agg (Ml a)::cs) (.bool (p a))):A1 Tryz.prog 42 [.sl 3 (l.map Ml),.fn (.func K) [] cs] (.bool (l.any p)):=by
 refine A1.body (n:=9) Aj Tryz.func42 rfl rfl rfl fun H=>?_
 refine Ah (Qp Bb (Dv (Qp Dm ?_)))
 refine Qp (Bk (v:=.fn _ _ _) rfl) ?_
 refine Qp (Qc rfl (lU l hl K hK cs p hf)) ?_
 refine Qp Mq (Qp Bb (Ag (AW.ret ?_)))
 refine Qr (.bool _) ?_
 exact Eq.trans rfl (congrArg (fun q:Bool=>AV.bool q) (Y7 p l).2)

end Go.Proofs.YtjedflcpjlgokaaGreatDoor
