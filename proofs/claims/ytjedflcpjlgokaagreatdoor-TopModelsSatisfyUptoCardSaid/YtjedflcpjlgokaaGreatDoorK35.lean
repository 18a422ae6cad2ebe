/-
  Several texts in one: Y8, Z1. No condition.
-/
import Derived.Test.YtjedflcpjlgokaaGreatDoorAz
import Derived.Test.YtjedflcpjlgokaaGreatDoorK20
import Derived.Test.YtjedflcpjlgokaaGreatDoorY7b
import Derived.KernelRfl
import Derived.Test.YtjedflcpjlgokaaGreatDoorK27
set_option linter.unusedVariables false
set_option linter.unusedSimpArgs false
namespace Go.Proofs.YtjedflcpjlgokaaGreatDoor
open Go Go.Aw
set_option maxHeartbeats 3200000
set_option maxRecDepth 20000

theorem zG (n:Int)(b:Bd):Ax Tryz.prog 75 [.int .i64 n,.agg (Q7 b)] (.int .i64 (bdE n b)):=by
 refine Ax.body (n:=35) Ah Tryz.func75 rfl rfl rfl fun H=>?_
 refine Ai (Qp (Gd [Iq _,Iq _,Iq _]) (Qp Ap (Ag (AW.seq (Ai (Qp (Qf [Iq _,Iq _,Iq _]) (Qp Bp (Qp Ch (Qp B0 ?_)))))))))
 refine Qg [] Qw (Qf [Iq _,Iq _,Iq _]) (Qg [(9,_)] Qw Bp (Qg [] Qw Az ?_))
 refine AOL.Aar (y:=.bool _) _ [(10,_),(11,_)] rfl (nC.all ⟨Ent.Aam _ _,Ent.Aam _ _,trivial⟩) (fun hG=>Ro rfl rfl) rfl ?_
 refine Qp E1 (Qp B0 (Qg [] Qw (Qf [Iq _,Iq _]) (Qg [(15,_)] Qw Bp (Qg [(16,_)] Qw Ch (Qp E1 (Qp B0 (Qg [] Qw (Qf [Iq _,Iq _]) (Qg [(20,_)] Qw Bp (Qg [] Qw Az ?_)))))))))
 refine AOL.Aar (y:=.bool _) _ [(21,_),(22,_)] rfl (nC.all ⟨Ent.Aam _ _,Ent.Aam _ _,trivial⟩) (fun hG=>Ro rfl rfl) rfl ?_
 refine Qp E1 (Qp B0 (Qg [] Qw (Qf [Iq _]) (Qg [(26,_)] Qw Bp (Qg [(27,_)] Qw Ch (Qp E1 (Qp B0 (Qg [] Qw (Qf [Iq _]) (Qg [(31,_)] Qw Bp (Qg [(32,_)] Qw Ha ?_)))))))))
 refine Qp E1 (Ag (A6 (fun hc1=>?_) fun hc1=>?_))
 ·
  refine Ai (Qp Ap (Ag (Dw ?_)))
  refine Qr (Iq _) ?_
  exact Eq.trans rfl (congrArg (fun q:Int=>AV.int .i64 q) (if_pos hc1)).symm
 ·
  refine By (Ai (Qp Ap (Ag (AW.ret ?_))))
  refine Qr (Iq _) ?_
  exact Eq.trans rfl (congrArg (fun q:Int=>AV.int .i64 q) (C8 hc1)).symm
theorem mP (z:Zn):Ax Tryz.prog 38 [.agg (Xz z)] (.int .i64 (Gt z)):=by
 refine Ax.body (n:=35) Ah Tryz.func38 rfl rfl rfl fun H=>?_
 refine Ai (Qp (Gd [Iq _,_]) (Qp Ap (Ag (AW.seq (AW.block (Ai (Qp (Qf [Iq _,_]) (Qp Bp (Qp Ch ?_)))))))))
 refine Qp B0 (Qg [] Qw (Qf [Iq _,_]) (Qg [(11,_)] Qw Bp (Qg [(12,_)] Qw Ha (Qp E1 (Qp Bl (Ag (A6 (fun hc1=>?_) fun hc1=>?_)))))))
 ·
  refine Ai (Qp Ap (Ag (AW.ret (Bb (Aj ?_)))))
  refine Qr (Iq _) ?_
  exact Eq.trans rfl (congrArg (fun q:Int=>AV.int .i64 q) (if_pos hc1)).symm
 ·
  refine Ai (Qp (Qf [_]) (Qp Dy ?_))
  refine Qp (Al (n:=z.bs.length) Ah rfl rfl rfl (by simp)) ?_
  refine Qp Ha (Qp Bl (Ag (A6 (fun hc2=>?_) fun hc2=>?_)))
  ·
   refine Ai (Qp Ap (Ag (AW.ret (Bb (Aj ?_)))))
   refine Qr (Iq _) ?_
   exact Eq.trans rfl (congrArg (fun q:Int=>AV.int .i64 q) ((C8 hc1).trans (if_pos hc2))).symm
  ·
   refine AW.skip (Bu (Ad (AW.seq (Ai (Qp (Qf [_]) (Qp Dy ?_))))))
   refine Qp (Al (n:=z.bs.length) Ah rfl rfl rfl (by simp)) ?_
   refine Qp Az (Ag (AW.block ?_))
   refine AW.sllen 21 rfl fun hlen=>?_
   simp only [List.length_map,maxLen] at hlen
   refine AW.Aao (fun (k:Nat)=>(⟨[(1,.ptr (Xz z)),(21,.sl 3 (z.bs.map Q7)),(22,.int .i64 z.bs.length),(23,.int .i64 (k:Int))],H,35⟩:St)) (fun (k:Nat)=>k≤z.bs.length∧Ao (bdE z.n) (z.bs.take k)=0) (fun (k:Nat)=>z.bs.length-k) (0) ?_ (GS.weaken ⟨rfl,rfl,rfl,rfl,trivial⟩ (.refl _)) ?_
   · exact ⟨Nat.zero_le _,rfl⟩
   ·
    rintro k hR
    refine Ai (Qp Ch (Ag (AW.seq (A6 (fun hc3=>?_) fun hc3=>?_))))
    ·
     obtain ⟨c,hc⟩:=B5 hc3
     have hlt:=A4 hc
     refine By (AW.seq (AW.block (Ai ?_)))
     refine Qp (Af (c:=[Iq _,Iq _,Iq _]) Ah rfl rfl rfl rfl rfl rfl (by omega) (Bi hc)) ?_
     refine Qp (Cq [Iq _,Iq _,Iq _]) ?_
     refine Qe (Ak (l:=[.int .i64 0,.int .i64 0,.int .i64 0]) (by kernel_rfl)) ?_
     rintro _ _ ⟨b4,rfl,rfl⟩
     refine Cv 0 [Iq _,Iq _,Iq _] (_::_) ?_
     refine AOL.ghost (GS.Aan (t:=4) 0 rfl rfl) ?_
     refine Dm (Qp (Qf [Iq _,_]) (Qp Bp (Qp (Cq [Iq _,Iq _,Iq _]) ?_)))
     refine Qp (Qc rfl (zG z.n c)) ?_
     refine Qp Ap (Dm (Qp Az (Qp Cr (Ag (A6 (fun hc4=>?_) fun hc4=>?_)))))
     ·
      refine Ai (Qp Az (Qp Ap (Ag (AW.ret (Bb (Aj (Aj (Bb (Aj ?_)))))))))
      refine Qr (Iq _) ?_
      exact Eq.trans rfl (congrArg (fun q:Int=>AV.int .i64 q) (((C8 hc1).trans (C8 hc2)).trans (My hR.2 hc (by simpa using hc4)))).symm
     ·
      refine AW.skip (Bu (Ad (AW.region (Qp Ey (Qp Az (Ag ?_))))))
      refine ⟨k+1,?_,?_,GS.weaken ⟨rfl,rfl,rfl,rfl,trivial⟩ (.refl _)⟩
      · exact ⟨hlt,Qz hR.2 hc (by simpa using hc4)⟩
      · omega
    ·
     have hte:=Cu hc3
     have hall:=hR.2
     rw [hte] at hall
     refine AW.exit ?_
     refine A5 (A5 (Bq (Ad (Ai (Qp Ap (Ag (AW.ret ?_)))))))
     refine Qr (Iq _) ?_
     exact Eq.trans rfl (congrArg (fun q:Int=>AV.int .i64 q) (((C8 hc1).trans (C8 hc2)).trans hall)).symm
theorem eQ (H:List HO)(n:Nat)(h0:0<n)(hn:n≤1048576):Dk Tryz.prog 76 H [.sl 1 [[.int .i64 (-1)]],.int .i64 (n:Int)] (fun r H'=>∃b,r = .val (.slice (some ⟨b,0,none⟩) n n)∧H' = .box b 3 (bI (Ks n))::H):=by
 have hmx:1048576≤maxLen:=by decide
 refine Dk.body (n:=48) Ah Tryz.func76 rfl rfl rfl ?_
 refine Ai ?_
 refine Qp (Bz (z:=1) rfl) ?_
 refine Ag (AW.seq (Ai (Qp Az (Qp Ch (Ag (A6 (fun hc1=>?_) fun hc1=>?_))))))
 ·
  have:=of_decide_eq_true hc1
  omega
 ·
  refine By (Ai (Qp Dx ?_))
  refine Qp (Al (n:=1) Ah rfl rfl rfl (rfl)) ?_
  refine Qp (iS (m:=1) Ah rfl rfl rfl rfl rfl (rfl)) ?_
  refine Qp Az ?_
  refine Qp (iS (m:=(n:Int)) Ah rfl rfl rfl rfl rfl (u64_in hn)) ?_
  refine Qp (Qc rfl (kMul1 n hn)) ?_
  refine Qp N6 ?_
  refine Qp (Ci (v:=.int .u64 _) rfl rfl) ?_
  refine Qp (Ci (v:=.int .u64 _) rfl rfl) ?_
  refine Qp (Dg (v:=.int .u64 _) rfl) ?_
  refine Qp (Dg (v:=.int .u64 _) rfl) ?_
  refine Ag (AW.seq (Ai ?_))
  refine Qp (Bm (v:=.int .u64 _) rfl) ?_
  refine Qp Ha (Qp B0 ?_)
  refine AOL.Aar (y:=.int .u64 _) _ [] rfl (nC.all trivial) (fun hG=>Bm (v:=.int .u64 _) rfl) rfl ?_
  refine Qg [(24,_)] Qw Ha (Qp E1 (Ag (A6 (fun hc2=>?_) fun hc2=>?_)))
  ·
   exact absurd hc2 (by simp;omega)
  ·
   refine By (Ai ?_)
   refine Qp (Bm (v:=.int .u64 _) rfl) ?_
   refine Qp (iS (m:=(n:Int)) Ah rfl rfl rfl rfl rfl (i64_in hn)) ?_
   refine Qe (O4 (n:=n) Ah rfl rfl rfl rfl rfl rfl rfl (by show 8*n≤_;omega) (by omega)) ?_
   rintro _ _ ⟨b30,rfl,rfl⟩
   refine Qp N4 ?_
   refine AOL.ghost (GS.cells 0 rfl ((bW n).trans (congrArg bI (show List.replicate n 0=Lj n 0 by simp [Lj])))) ?_
   refine Dm (Qp Gr (Qp Dx ?_))
   refine Qe (uU (k:=0) (m:=1) (cs':=bI (Lj n 1)) (H2:=_::_) Ah rfl rfl rfl rfl rfl rfl rfl (by simp) (Ff rfl) (Nat.min_eq_left (by show 1≤n;omega)) (by rw [Vv,W4 (by omega)];omega) (iV h0) rfl) ?_
   rintro _ _ ⟨rfl,rfl⟩
   refine Qp Ap (Ag (AW.seq (AW.block ?_)))
   refine AW.Aao (fun (k:Nat)=>(⟨[(7,.val (.slice (some ⟨b30,0,none⟩) n n)),(8,.int .i64 (k:Int))],.box b30 3 (bI (Lj n k))::H,48⟩:St)) (fun (k:Nat)=>1≤k∧k≤n) (fun (k:Nat)=>n-k) (1) ?_ (GS.weaken ⟨rfl,rfl,trivial⟩ (.refl _)) ?_
   · exact ⟨Nat.le_refl _,h0⟩
   ·
    rintro k hR
    refine AW.seq (Ai (Qp Az (Qp Gr ?_)))
    refine Qp (Pu Ah rfl rfl rfl) ?_
    refine Qp Ch (Ag (A6 (fun hc3=>?_) fun hc3=>?_))
    ·
     have hlt:k<n:=by have:=of_decide_eq_true hc3;omega
     refine By (AW.block ?_)
     refine AW.draw mixed (fun _=>True) trivial (by kernel_rfl) ?_
     refine Qn 0 rfl Az (Qn 1 rfl Gr (Qn 2 rfl Az ?_))
     refine Qn 3 rfl (Tr (l:=k) (h:=n) (o':=k) Ah rfl rfl rfl rfl rfl (⟨_,rfl⟩) (rfl) (by omega) (by omega) (by omega) (by omega) (by simp)) ?_
     refine Qn 4 rfl Gr (Qn 5 rfl Az ?_)
     refine Qn 6 rfl (Tr (l:=0) (h:=k) (o':=0) Ah rfl rfl rfl rfl rfl (rfl) (⟨_,rfl⟩) (by omega) (by omega) (by omega) (by omega) (rfl)) ?_
     refine Jn.eff _ _ 7 _ _ rfl (by kernel_rfl) rfl rfl (nK (k:=0) (m:=min k (n-k)) (cs':=bI (Lj n (k+min k (n-k)))) (H2:=_::_) Ah rfl rfl rfl rfl rfl rfl rfl (bI_sc _) (by first | rfl | (simp only [Nat.sub_zero];done) | (simp only [Nat.sub_zero];rfl)) (by rw [Vv,W4 hR.2];omega) (by rw [Vv,W4 hR.2];omega) (oD (by omega) (by omega)) rfl) (fun _ _ _=>trivial) ?_
     rintro _ _ ⟨rfl,rfl⟩
     refine Qn 8 rfl Ey (Qn 9 rfl Ap ?_)
     refine Jn.done _ _ (by kernel_rfl) ?_
     refine Bu (Ad ?_)
     refine ⟨k+min k (n-k),?_,?_,GS.weaken ⟨rfl,rfl,trivial⟩ (.refl _)⟩
     · omega
     · omega
    ·
     have hkn:k=n:=by have:=of_decide_eq_false hc3;omega
     refine AW.exit ?_
     refine A5 (A5 (Bq (Ad (Ai (Qp Gr (Qp N4 (Ag (AW.ret ?_))))))))
     refine ⟨.inr rfl,[.val _],.cons (.tmp _ _ rfl) <| .nil,_,.refl _,?_⟩
     exact ⟨b30,rfl,congrArg (fun l=>HO.box b30 3 (bI l)::H) ((congrArg (Lj n) hkn).trans (pY n))⟩
theorem yW (bd b1 b2 n:Nat)(bs:List Bd)(hz:znOK n bs)(C:Int)(hC:0≤C)(hC2:C≤4000000000000000000)(d:Ds)(hd:dsOK n C d)(R:List HO):Dk Tryz.prog 77 (.box bd 156 [.val (.slice (some ⟨b1,0,none⟩) n n),.val (.slice (some ⟨b2,0,none⟩) n n)] :: .box b1 3 (bI d.sums) :: .box b2 3 (bI d.last)::R) [.val (.pointer (some ⟨bd,0,none⟩)),.agg (Xz (zn n bs))] (fun r H'=>r = .int .i64 (Ka bs d).2∧H' = .box bd 156 [.val (.slice (some ⟨b1,0,none⟩) n n),.val (.slice (some ⟨b2,0,none⟩) n n)] :: .box b1 3 (bI (Ka bs d).1.sums) :: .box b2 3 (bI (Ka bs d).1.last)::R):=by
 have hbl:=hz.len
 have hn64:=hz.n64
 have hbb:Jk=140737488355329:=rfl
 refine Dk.body (n:=58) Ah Tryz.func77 rfl rfl rfl ?_
 refine Ai (Qp (Gd [Iq _,_]) (Qp Ap (Dm (Qp Ap (Ag (AW.seq (Ai (Qp (Qf [_]) (Qp Dy ?_)))))))))
 refine Qp (Al (n:=bs.length) Ah rfl rfl rfl (by simp [zn])) ?_
 refine Qp Az (Ag (AW.block ?_))
 refine AW.Aao (fun (p:Nat×Ds×Int)=>(⟨[(0,.val (.pointer (some ⟨bd,0,none⟩))),(3,.ptr (Xz (zn n bs))),(5,.int .i64 p.2.2),(10,.sl 3 (bs.map Q7)),(11,.int .i64 bs.length),(12,.int .i64 (p.1:Int))],.box bd 156 [.val (.slice (some ⟨b1,0,none⟩) n n),.val (.slice (some ⟨b2,0,none⟩) n n)] :: .box b1 3 (bI p.2.1.sums) :: .box b2 3 (bI p.2.1.last)::R,58⟩:St)) (fun (p:Nat×Ds×Int)=>p.1≤bs.length∧Ka bs d=Hm p.1 (bs.drop p.1) p.2∧dsOK n (C+(p.1:Int)*Jk) p.2.1) (fun (p:Nat×Ds×Int)=>bs.length-p.1) ((0,d,-1)) ?_ (GS.weaken ⟨rfl,rfl,rfl,rfl,rfl,rfl,trivial⟩ (.refl _)) ?_
 · exact ⟨Nat.zero_le _,rfl,by simpa using hd⟩
 ·
  rintro p hR
  have hd2:=hR.2.2
  have hpl:=hR.1
  have hkb:(p.1:Int)*Jk≤256*Jk:=by unfold Jk;omega
  have hks:((p.1+1:Nat):Int)*Jk=(p.1:Int)*Jk+Jk:=by push_cast;rw [Int.add_mul];omega
  refine Ai (Qp Ch (Ag (AW.seq (A6 (fun hc1=>?_) fun hc1=>?_))))
  ·
   obtain ⟨c,hc⟩:=B5 hc1
   have hlt:=A4 hc
   have hcm:=List.mem_of_getElem? hc
   have hb:=hz.bd c hcm
   have hm:=hz.most c hcm
   have hi1:=hd2.ix hb.2.2.1 hb.2.2.2
   refine By (AW.seq (AW.block (Ai (Qp Az ?_))))
   refine Qp (Af (c:=[.int .i64 c.x,.int .i64 c.y,.int .i64 c.most]) Ah rfl rfl rfl rfl rfl rfl (by omega) (jH hc)) ?_
   refine Qp (Cq [Iq _,Iq _,Iq _]) ?_
   refine Qe (Ak (l:=[.int .i64 0,.int .i64 0,.int .i64 0]) (by kernel_rfl)) ?_
   rintro _ _ ⟨b7,rfl,rfl⟩
   refine Qp Ap ?_
   refine Cv 0 [Iq _,Iq _,Iq _] (_::_::_::_::_) ?_
   refine AOL.ghost (GS.Aan (t:=7) 0 rfl rfl) ?_
   refine Ag (AW.seq ?_)
   refine AW.draw mixed (fun H'=>_∈H'∧_∈H') ⟨(List.mem_of_getElem? (i:=0) rfl),(List.mem_of_getElem? (i:=1) rfl)⟩ (by kernel_rfl) ?_
   refine Qn 0 rfl Gr ?_
   refine Qn 1 rfl (Bn rfl) ?_
   refine Qn 2 rfl Gc ?_
   refine Qn 3 rfl (OpP.Aaq (fun k=>Am (k:=k) (c:=.val _) Ah rfl rfl rfl rfl) (fun _ h=>h.1)) ?_
   refine Qn 4 rfl (Qf [Iq _,Iq _]) (Qn 5 rfl Bp ?_)
   refine Qn 6 rfl (Bh (o':=c.y.toNat) Ah rfl rfl rfl rfl rfl (hb.2.2.1) (by have:=hb.2.2.2;omega) (bU _)) ?_
   refine Qn 7 rfl (OpP.Aaq (fun k=>Am (k:=k) (c:=.int .i64 (Du p.2.1.sums c.y)) Ah rfl rfl rfl (Xk hb.2.2.1 (by rw [hd2.s];exact hb.2.2.2))) (fun _ h=>h.2)) ?_
   refine Qn 8 rfl (Qf [Iq _]) (Qn 9 rfl Bp (Qn 10 rfl Ey (Qn 11 rfl Ap ?_)))
   refine Jn.done _ _ (by kernel_rfl) ?_
   refine Ad (AW.seq ?_)
   refine AW.draw mixed (fun H'=>_∈H'∧_∈H') ⟨(List.mem_of_getElem? (i:=0) rfl),(List.mem_of_getElem? (i:=1) rfl)⟩ (by kernel_rfl) ?_
   refine Qn 0 rfl Az (Qn 1 rfl Gr ?_)
   refine Qn 2 rfl (Bn rfl) ?_
   refine Qn 3 rfl Gc ?_
   refine Qn 4 rfl (OpP.Aaq (fun k=>Am (k:=k) (c:=.val _) Ah rfl rfl rfl rfl) (fun _ h=>h.1)) ?_
   refine Qn 5 rfl (Qf [Iq _,Iq _,Iq _]) (Qn 6 rfl Bp ?_)
   refine Qn 7 rfl (Bh (o':=c.x.toNat) Ah rfl rfl rfl rfl rfl (hb.1) (by have:=hb.2.1;omega) (bU _)) ?_
   refine Qn 8 rfl (OpP.Aaq (fun k=>Am (k:=k) (c:=.int .i64 (Du p.2.1.sums c.x)) Ah rfl rfl rfl (Xk hb.1 (by rw [hd2.s];exact hb.2.1))) (fun _ h=>h.2)) ?_
   refine Qn 9 rfl Ch ?_
   refine Jn.done _ _ (by kernel_rfl) ?_
   refine Ad (A6 (fun hc2=>?_) fun hc2=>?_)
   ·
    refine AW.seq ?_
    refine AW.draw mixed (fun H'=>_∈H') (List.mem_of_getElem? (i:=0) rfl) (by kernel_rfl) ?_
    refine Qn 0 rfl Gr ?_
    refine Qn 1 rfl (Bn rfl) ?_
    refine Qn 2 rfl Gc ?_
    refine Qn 3 rfl (OpP.Aaq (fun k=>Am (k:=k) (c:=.val _) Ah rfl rfl rfl rfl) (fun _ h=>h)) ?_
    refine Qn 4 rfl (Qf [Iq _,Iq _,Iq _]) (Qn 5 rfl Bp (Qn 6 rfl Gr ?_))
    refine Qn 7 rfl (Bn rfl) ?_
    refine Qn 8 rfl Gc ?_
    refine Qn 9 rfl (OpP.Aaq (fun k=>Am (k:=k) (c:=.val _) Ah rfl rfl rfl rfl) (fun _ h=>h)) ?_
    refine Qn 10 rfl (Qf [Iq _,Iq _,Iq _]) (Qn 11 rfl Bp (Qn 12 rfl Az (Qn 13 rfl Az ?_)))
    refine Qn 14 rfl (Bh (o':=c.x.toNat) Ah rfl rfl rfl rfl rfl (hb.1) (by have:=hb.2.1;omega) (bU _)) ?_
    refine Jn.eff _ _ 15 _ _ rfl (by kernel_rfl) rfl rfl (B2 (k:=1) (v:=Iq _) (cs':=bI (p.2.1.sums.set c.x.toNat (Du p.2.1.sums c.y+c.most))) (H2:=_::_::_::_) Ah rfl rfl rfl rfl rfl rfl (aV (by rw [hd2.s];omega)) (aN (by rw [hd2.s];omega)) rfl) (by rintro _ _ ⟨rfl,rfl⟩;simp) ?_
    rintro _ _ ⟨rfl,rfl⟩
    refine Qn 16 rfl (Bh (o':=c.x.toNat) Ah rfl rfl rfl rfl rfl (hb.1) (by have:=hb.2.1;omega) (bU _)) ?_
    refine Jn.last _ _ 17 _ _ rfl (by kernel_rfl) rfl rfl (B2 (k:=2) (v:=Iq _) (cs':=bI (p.2.1.last.set c.x.toNat (p.1:Int))) (H2:=_::_::_::_) Ah rfl rfl rfl rfl rfl rfl (aV (by rw [hd2.l];omega)) (aN (by rw [hd2.l];omega)) rfl) (by kernel_rfl) ?_
    rintro _ _ ⟨rfl,rfl⟩
    refine Ad (AW.region (Qp (Qf [Iq _,Iq _,Iq _]) (Qp Bp (Qp Ap (AOL.nil (Bu (Ad (AW.region (Qp Ey ?_)))))))))
    refine Qp Az (Ag ?_)
    refine ⟨(p.1+1,⟨p.2.1.sums.set c.x.toNat (Du p.2.1.sums c.y+c.most),p.2.1.last.set c.x.toNat (p.1:Int)⟩,c.x),?_,?_,GS.weaken ⟨rfl,rfl,rfl,rfl,rfl,rfl,trivial⟩ (.refl _)⟩
    · exact ⟨hlt,hR.2.1.trans ((Mx hc).trans (congrArg _ (Mu hc2))),by have:=rX (i:=p.1) hd2 hb hm;rw [Mu hc2] at this;exact this.mono (by simp only [hks];omega)⟩
    · simp only;omega
   ·
    refine AW.skip (Bu (Ad (AW.region (Qp Ey (Qp Az (Ag ?_))))))
    refine ⟨(p.1+1,p.2),?_,?_,GS.weaken ⟨rfl,rfl,rfl,rfl,rfl,rfl,trivial⟩ (.refl _)⟩
    · exact ⟨hlt,hR.2.1.trans ((Mx hc).trans (congrArg _ (Tl hc2))),hd2.mono (by simp only [hks];omega)⟩
    · simp only;omega
  ·
   have hde:=Dc hc1
   have hfin:=hR.2.1.trans (Tg hde)
   refine AW.exit ?_
   refine A5 (A5 (Bq (Ad (Ai (Qp Az (Qp Ap (Ag (AW.ret ?_))))))))
   refine ⟨.inr rfl,[Iq _],.cons (.tmp _ _ rfl) <| .nil,_,.refl _,?_⟩
   exact ⟨congrArg (fun q:Ds×Int=>AV.int .i64 q.2) hfin.symm,congrArg (fun q:Ds×Int=>(.box bd 156 [.val (.slice (some ⟨b1,0,none⟩) n n),.val (.slice (some ⟨b2,0,none⟩) n n)] :: .box b1 3 (bI q.1.sums) :: .box b2 3 (bI q.1.last)::R:List HO)) hfin.symm⟩
theorem f_back (bd n:Nat)(bs:List Bd)(f:Int):Ax Tryz.prog 78 [.val (.pointer (some ⟨bd,0,none⟩)),.agg (Xz (zn n bs)),.int .i64 f] (.fn (.func 104) [] [.ptr [.int .i64 f],.ptr [.val (.pointer (some ⟨bd,0,none⟩))],.ptr (Xz (zn n bs))]):=by
 refine Ax.body (n:=8) Ah Tryz.func78 rfl rfl rfl fun H=>?_
 refine Ai ?_
 refine Qp (X7 (v:=.val _) (cs:=[_]) rfl rfl rfl) ?_
 refine Qp (Gd [Iq _,_]) ?_
 refine Qp (X7 (v:=Iq _) (cs:=[Iq _]) rfl rfl rfl) ?_
 refine Qp N4 (Dm ?_)
 refine Qp (Bj (l:=[]) (l':=[.ptr _,.ptr _,.ptr _]) rfl rfl) ?_
 refine Qp (Dg (v:=.fn _ _ _) rfl) ?_
 refine Ag (AW.ret ?_)
 refine Qr (.fn _ _ _) ?_
 rfl


end Go.Proofs.YtjedflcpjlgokaaGreatDoor
