/-
  Several texts in one: Y8, Z1. No condition.
-/
import Derived.Test.YtjedflcpjlgokaaGreatDoorAz
import Derived.Test.YtjedflcpjlgokaaGreatDoorK19
import Derived.Test.YtjedflcpjlgokaaGreatDoorY7b
import Derived.KernelRfl
import Derived.Test.YtjedflcpjlgokaaGreatDoorK27
set_option linter.unusedVariables false
set_option linter.unusedSimpArgs false
namespace Go.Proofs.YtjedflcpjlgokaaGreatDoor
open Go Go.Aw
set_option maxHeartbeats 3200000
set_option maxRecDepth 20000

theorem xU (n:Int)(b:Bd):Ax Tryz.prog 75 [.int .i64 n,.agg (Qu b)] (.int .i64 (bdE n b)):=by
 refine Ax.body (n:=35) Ai Tryz.func75 rfl rfl rfl fun H=>?_
 refine Ah (Qp (Gd [Iq _,Iq _,Iq _]) (Qp Ar (Ag (AW.seq (Ah (Qp (Qf [Iq _,Iq _,Iq _]) (Qp Bp (Qp Ck (Qp Bu ?_)))))))))
 refine Qg [] Qw (Qf [Iq _,Iq _,Iq _]) (Qg [(9,_)] Qw Bp (Qg [] Qw A0 ?_))
 refine AOL.Aaf (y:=.bool _) _ [(10,_),(11,_)] rfl (oE.all ⟨Ent.Aab _ _,Ent.Aab _ _,trivial⟩) (fun hG=>Ua rfl rfl) rfl ?_
 refine Qp E2 (Qp Bu (Qg [] Qw (Qf [Iq _,Iq _]) (Qg [(15,_)] Qw Bp (Qg [(16,_)] Qw Ck (Qp E2 (Qp Bu (Qg [] Qw (Qf [Iq _,Iq _]) (Qg [(20,_)] Qw Bp (Qg [] Qw A0 ?_)))))))))
 refine AOL.Aaf (y:=.bool _) _ [(21,_),(22,_)] rfl (oE.all ⟨Ent.Aab _ _,Ent.Aab _ _,trivial⟩) (fun hG=>Ua rfl rfl) rfl ?_
 refine Qp E2 (Qp Bu (Qg [] Qw (Qf [Iq _]) (Qg [(26,_)] Qw Bp (Qg [(27,_)] Qw Ck (Qp E2 (Qp Bu (Qg [] Qw (Qf [Iq _]) (Qg [(31,_)] Qw Bp (Qg [(32,_)] Qw G6 ?_)))))))))
 refine Qp E2 (Ag (A3 (fun hc1=>?_) fun hc1=>?_))
 ·
  refine Ah (Qp Ar (Ag (Du ?_)))
  refine Qr (Iq _) ?_
  exact Eq.trans rfl (congrArg (fun q:Int=>AV.int .i64 q) (if_pos hc1)).symm
 ·
  refine By (Ah (Qp Ar (Ag (AW.ret ?_))))
  refine Qr (Iq _) ?_
  exact Eq.trans rfl (congrArg (fun q:Int=>AV.int .i64 q) (C3 hc1)).symm
theorem mN (z:Zn):Ax Tryz.prog 38 [.agg (gS z)] (.int .i64 (He z)):=by
 refine Ax.body (n:=35) Ai Tryz.func38 rfl rfl rfl fun H=>?_
 refine Ah (Qp (Gd [Iq _,_]) (Qp Ar (Ag (AW.seq (AW.block (Ah (Qp (Qf [Iq _,_]) (Qp Bp (Qp Ck ?_)))))))))
 refine Qp Bu (Qg [] Qw (Qf [Iq _,_]) (Qg [(11,_)] Qw Bp (Qg [(12,_)] Qw G6 (Qp E2 (Qp Bm (Ag (A3 (fun hc1=>?_) fun hc1=>?_)))))))
 ·
  refine Ah (Qp Ar (Ag (AW.ret (A7 (Aj ?_)))))
  refine Qr (Iq _) ?_
  exact Eq.trans rfl (congrArg (fun q:Int=>AV.int .i64 q) (if_pos hc1)).symm
 ·
  refine Ah (Qp (Qf [_]) (Qp Ee ?_))
  refine Qp (Al (n:=z.bs.length) Ai rfl rfl rfl (by simp)) ?_
  refine Qp G6 (Qp Bm (Ag (A3 (fun hc2=>?_) fun hc2=>?_)))
  ·
   refine Ah (Qp Ar (Ag (AW.ret (A7 (Aj ?_)))))
   refine Qr (Iq _) ?_
   exact Eq.trans rfl (congrArg (fun q:Int=>AV.int .i64 q) ((C3 hc1).trans (if_pos hc2))).symm
  ·
   refine AW.skip (Bv (Ae (AW.seq (Ah (Qp (Qf [_]) (Qp Ee ?_))))))
   refine Qp (Al (n:=z.bs.length) Ai rfl rfl rfl (by simp)) ?_
   refine Qp A0 (Ag (AW.block ?_))
   refine AW.sllen 21 rfl fun hlen=>?_
   simp only [List.length_map,maxLen] at hlen
   refine AW.Aad (fun (k:Nat)=>(⟨[(1,.ptr (gS z)),(21,.sl 3 (z.bs.map Qu)),(22,.int .i64 z.bs.length),(23,.int .i64 (k:Int))],H,35⟩:St)) (fun (k:Nat)=>k≤z.bs.length∧Aq (bdE z.n) (z.bs.take k)=0) (fun (k:Nat)=>z.bs.length-k) (0) ?_ (GS.weaken ⟨rfl,rfl,rfl,rfl,trivial⟩ (.refl _)) ?_
   · exact ⟨Nat.zero_le _,rfl⟩
   ·
    rintro k hR
    refine Ah (Qp Ck (Ag (AW.seq (A3 (fun hc3=>?_) fun hc3=>?_))))
    ·
     obtain ⟨c,hc⟩:=B7 hc3
     have hlt:=Bb hc
     refine By (AW.seq (AW.block (Ah ?_)))
     refine Qp (Af (c:=[Iq _,Iq _,Iq _]) Ai rfl rfl rfl rfl rfl rfl (by omega) (Bo hc)) ?_
     refine Qp (Cv [Iq _,Iq _,Iq _]) ?_
     refine Qe (Am (l:=[.int .i64 0,.int .i64 0,.int .i64 0]) (by kernel_rfl)) ?_
     rintro _ _ ⟨b4,rfl,rfl⟩
     refine Cz 0 [Iq _,Iq _,Iq _] (_::_) ?_
     refine AOL.ghost (GS.Aac (t:=4) 0 rfl rfl) ?_
     refine Do (Qp (Qf [Iq _,_]) (Qp Bp (Qp (Cv [Iq _,Iq _,Iq _]) ?_)))
     refine Qp (Qc rfl (xU z.n c)) ?_
     refine Qp Ar (Do (Qp A0 (Qp Cr (Ag (A3 (fun hc4=>?_) fun hc4=>?_)))))
     ·
      refine Ah (Qp A0 (Qp Ar (Ag (AW.ret (A7 (Aj (Aj (A7 (Aj ?_)))))))))
      refine Qr (Iq _) ?_
      exact Eq.trans rfl (congrArg (fun q:Int=>AV.int .i64 q) (((C3 hc1).trans (C3 hc2)).trans (Xj hR.2 hc (by simpa using hc4)))).symm
     ·
      refine AW.skip (Bv (Ae (AW.region (Qp F7 (Qp A0 (Ag ?_))))))
      refine ⟨k+1,?_,?_,GS.weaken ⟨rfl,rfl,rfl,rfl,trivial⟩ (.refl _)⟩
      · exact ⟨hlt,Wo hR.2 hc (by simpa using hc4)⟩
      · omega
    ·
     have hte:=C5 hc3
     have hall:=hR.2
     rw [hte] at hall
     refine AW.exit ?_
     refine A5 (A5 (Bx (Ae (Ah (Qp Ar (Ag (AW.ret ?_)))))))
     refine Qr (Iq _) ?_
     exact Eq.trans rfl (congrArg (fun q:Int=>AV.int .i64 q) (((C3 hc1).trans (C3 hc2)).trans hall)).symm
theorem gD (H:List HO)(n:Nat)(h0:0<n)(hn:n≤1048576):Dj Tryz.prog 76 H [.sl 1 [[.int .i64 (-1)]],.int .i64 (n:Int)] (fun r H'=>∃b,r = .val (.slice (some ⟨b,0,none⟩) n n)∧H' = .box b 3 (bI (M0 n))::H):=by
 have hmx:1048576≤maxLen:=by decide
 refine Dj.body (n:=48) Ai Tryz.func76 rfl rfl rfl ?_
 refine Ah ?_
 refine Qp (Ca (z:=1) rfl) ?_
 refine Ag (AW.seq (Ah (Qp A0 (Qp Ck (Ag (A3 (fun hc1=>?_) fun hc1=>?_))))))
 ·
  have:=of_decide_eq_true hc1
  omega
 ·
  refine By (Ah (Qp Dt ?_))
  refine Qp (Al (n:=1) Ai rfl rfl rfl (rfl)) ?_
  refine Qp (jE (m:=1) Ai rfl rfl rfl rfl rfl (rfl)) ?_
  refine Qp A0 ?_
  refine Qp (jE (m:=(n:Int)) Ai rfl rfl rfl rfl rfl (u64_in hn)) ?_
  refine Qp (Qc rfl (kMul1 n hn)) ?_
  refine Qp Nb ?_
  refine Qp (Ci (v:=.int .u64 _) rfl rfl) ?_
  refine Qp (Ci (v:=.int .u64 _) rfl rfl) ?_
  refine Qp (Da (v:=.int .u64 _) rfl) ?_
  refine Qp (Da (v:=.int .u64 _) rfl) ?_
  refine Ag (AW.seq (Ah ?_))
  refine Qp (Bk (v:=.int .u64 _) rfl) ?_
  refine Qp G6 (Qp Bu ?_)
  refine AOL.Aaf (y:=.int .u64 _) _ [] rfl (oE.all trivial) (fun hG=>Bk (v:=.int .u64 _) rfl) rfl ?_
  refine Qg [(24,_)] Qw G6 (Qp E2 (Ag (A3 (fun hc2=>?_) fun hc2=>?_)))
  ·
   exact absurd hc2 (by simp;omega)
  ·
   refine By (Ah ?_)
   refine Qp (Bk (v:=.int .u64 _) rfl) ?_
   refine Qp (jE (m:=(n:Int)) Ai rfl rfl rfl rfl rfl (i64_in hn)) ?_
   refine Qe (Nq (n:=n) Ai rfl rfl rfl rfl rfl rfl rfl (by show 8*n≤_;omega) (by omega)) ?_
   rintro _ _ ⟨b30,rfl,rfl⟩
   refine Qp N2 ?_
   refine AOL.ghost (GS.cells 0 rfl ((aF n).trans (congrArg bI (show List.replicate n 0=K5 n 0 by simp [K5])))) ?_
   refine Do (Qp Ho (Qp Dt ?_))
   refine Qe (tC (k:=0) (m:=1) (cs':=bI (K5 n 1)) (H2:=_::_) Ai rfl rfl rfl rfl rfl rfl rfl (by simp) (G5 rfl) (Nat.min_eq_left (by show 1≤n;omega)) (by rw [Wf,Vq (by omega)];omega) (gX h0) rfl) ?_
   rintro _ _ ⟨rfl,rfl⟩
   refine Qp Ar (Ag (AW.seq (AW.block ?_)))
   refine AW.Aad (fun (k:Nat)=>(⟨[(7,.val (.slice (some ⟨b30,0,none⟩) n n)),(8,.int .i64 (k:Int))],.box b30 3 (bI (K5 n k))::H,48⟩:St)) (fun (k:Nat)=>1≤k∧k≤n) (fun (k:Nat)=>n-k) (1) ?_ (GS.weaken ⟨rfl,rfl,trivial⟩ (.refl _)) ?_
   · exact ⟨Nat.le_refl _,h0⟩
   ·
    rintro k hR
    refine AW.seq (Ah (Qp A0 (Qp Ho ?_)))
    refine Qp (Za Ai rfl rfl rfl) ?_
    refine Qp Ck (Ag (A3 (fun hc3=>?_) fun hc3=>?_))
    ·
     have hlt:k<n:=by have:=of_decide_eq_true hc3;omega
     refine By (AW.block ?_)
     refine AW.draw mixed (fun _=>True) trivial (by kernel_rfl) ?_
     refine Qn 0 rfl A0 (Qn 1 rfl Ho (Qn 2 rfl A0 ?_))
     refine Qn 3 rfl (Tp (l:=k) (h:=n) (o':=k) Ai rfl rfl rfl rfl rfl (⟨_,rfl⟩) (rfl) (by omega) (by omega) (by omega) (by omega) (by simp)) ?_
     refine Qn 4 rfl Ho (Qn 5 rfl A0 ?_)
     refine Qn 6 rfl (Tp (l:=0) (h:=k) (o':=0) Ai rfl rfl rfl rfl rfl (rfl) (⟨_,rfl⟩) (by omega) (by omega) (by omega) (by omega) (rfl)) ?_
     refine Jb.eff _ _ 7 _ _ rfl (by kernel_rfl) rfl rfl (pK (k:=0) (m:=min k (n-k)) (cs':=bI (K5 n (k+min k (n-k)))) (H2:=_::_) Ai rfl rfl rfl rfl rfl rfl rfl (bI_sc _) (by first | rfl | (simp only [Nat.sub_zero];done) | (simp only [Nat.sub_zero];rfl)) (by rw [Wf,Vq hR.2];omega) (by rw [Wf,Vq hR.2];omega) (oU (by omega) (by omega)) rfl) (fun _ _ _=>trivial) ?_
     rintro _ _ ⟨rfl,rfl⟩
     refine Qn 8 rfl F7 (Qn 9 rfl Ar ?_)
     refine Jb.done _ _ (by kernel_rfl) ?_
     refine Bv (Ae ?_)
     refine ⟨k+min k (n-k),?_,?_,GS.weaken ⟨rfl,rfl,trivial⟩ (.refl _)⟩
     · omega
     · omega
    ·
     have hkn:k=n:=by have:=of_decide_eq_false hc3;omega
     refine AW.exit ?_
     refine A5 (A5 (Bx (Ae (Ah (Qp Ho (Qp N2 (Ag (AW.ret ?_))))))))
     refine ⟨.inr rfl,[.val _],.cons (.tmp _ _ rfl) <| .nil,_,.refl _,?_⟩
     exact ⟨b30,rfl,congrArg (fun l=>HO.box b30 3 (bI l)::H) ((congrArg (K5 n) hkn).trans (oD n))⟩
theorem wD (bd b1 b2 n:Nat)(bs:List Bd)(hz:znOK n bs)(C:Int)(hC:0≤C)(hC2:C≤4000000000000000000)(d:Ds)(hd:dsOK n C d)(R:List HO):Dj Tryz.prog 77 (.box bd 156 [.val (.slice (some ⟨b1,0,none⟩) n n),.val (.slice (some ⟨b2,0,none⟩) n n)] :: .box b1 3 (bI d.sums) :: .box b2 3 (bI d.last)::R) [.val (.pointer (some ⟨bd,0,none⟩)),.agg (gS (zn n bs))] (fun r H'=>r = .int .i64 (I7 bs d).2∧H' = .box bd 156 [.val (.slice (some ⟨b1,0,none⟩) n n),.val (.slice (some ⟨b2,0,none⟩) n n)] :: .box b1 3 (bI (I7 bs d).1.sums) :: .box b2 3 (bI (I7 bs d).1.last)::R):=by
 have hbl:=hz.len
 have hn64:=hz.n64
 have hbb:I4=140737488355329:=rfl
 refine Dj.body (n:=58) Ai Tryz.func77 rfl rfl rfl ?_
 refine Ah (Qp (Gd [Iq _,_]) (Qp Ar (Do (Qp Ar (Ag (AW.seq (Ah (Qp (Qf [_]) (Qp Ee ?_)))))))))
 refine Qp (Al (n:=bs.length) Ai rfl rfl rfl (by simp [zn])) ?_
 refine Qp A0 (Ag (AW.block ?_))
 refine AW.Aad (fun (p:Nat×Ds×Int)=>(⟨[(0,.val (.pointer (some ⟨bd,0,none⟩))),(3,.ptr (gS (zn n bs))),(5,.int .i64 p.2.2),(10,.sl 3 (bs.map Qu)),(11,.int .i64 bs.length),(12,.int .i64 (p.1:Int))],.box bd 156 [.val (.slice (some ⟨b1,0,none⟩) n n),.val (.slice (some ⟨b2,0,none⟩) n n)] :: .box b1 3 (bI p.2.1.sums) :: .box b2 3 (bI p.2.1.last)::R,58⟩:St)) (fun (p:Nat×Ds×Int)=>p.1≤bs.length∧I7 bs d=Fo p.1 (bs.drop p.1) p.2∧dsOK n (C+(p.1:Int)*I4) p.2.1) (fun (p:Nat×Ds×Int)=>bs.length-p.1) ((0,d,-1)) ?_ (GS.weaken ⟨rfl,rfl,rfl,rfl,rfl,rfl,trivial⟩ (.refl _)) ?_
 · exact ⟨Nat.zero_le _,rfl,by simpa using hd⟩
 ·
  rintro p hR
  have hd2:=hR.2.2
  have hpl:=hR.1
  have hkb:(p.1:Int)*I4≤256*I4:=by unfold I4;omega
  have hks:((p.1+1:Nat):Int)*I4=(p.1:Int)*I4+I4:=by push_cast;rw [Int.add_mul];omega
  refine Ah (Qp Ck (Ag (AW.seq (A3 (fun hc1=>?_) fun hc1=>?_))))
  ·
   obtain ⟨c,hc⟩:=B7 hc1
   have hlt:=Bb hc
   have hcm:=List.mem_of_getElem? hc
   have hb:=hz.bd c hcm
   have hm:=hz.most c hcm
   have hi1:=hd2.ix hb.2.2.1 hb.2.2.2
   refine By (AW.seq (AW.block (Ah (Qp A0 ?_))))
   refine Qp (Af (c:=[.int .i64 c.x,.int .i64 c.y,.int .i64 c.most]) Ai rfl rfl rfl rfl rfl rfl (by omega) (iH hc)) ?_
   refine Qp (Cv [Iq _,Iq _,Iq _]) ?_
   refine Qe (Am (l:=[.int .i64 0,.int .i64 0,.int .i64 0]) (by kernel_rfl)) ?_
   rintro _ _ ⟨b7,rfl,rfl⟩
   refine Qp Ar ?_
   refine Cz 0 [Iq _,Iq _,Iq _] (_::_::_::_::_) ?_
   refine AOL.ghost (GS.Aac (t:=7) 0 rfl rfl) ?_
   refine Ag (AW.seq ?_)
   refine AW.draw mixed (fun H'=>_∈H'∧_∈H') ⟨(List.mem_of_getElem? (i:=0) rfl),(List.mem_of_getElem? (i:=1) rfl)⟩ (by kernel_rfl) ?_
   refine Qn 0 rfl Ho ?_
   refine Qn 1 rfl (Be rfl) ?_
   refine Qn 2 rfl H9 ?_
   refine Qn 3 rfl (OpP.Aag (fun k=>Ao (k:=k) (c:=.val _) Ai rfl rfl rfl rfl) (fun _ h=>h.1)) ?_
   refine Qn 4 rfl (Qf [Iq _,Iq _]) (Qn 5 rfl Bp ?_)
   refine Qn 6 rfl (B6 (o':=c.y.toNat) Ai rfl rfl rfl rfl rfl (hb.2.2.1) (by have:=hb.2.2.2;omega) (bJ _)) ?_
   refine Qn 7 rfl (OpP.Aag (fun k=>Ao (k:=k) (c:=.int .i64 (D7 p.2.1.sums c.y)) Ai rfl rfl rfl (W4 hb.2.2.1 (by rw [hd2.s];exact hb.2.2.2))) (fun _ h=>h.2)) ?_
   refine Qn 8 rfl (Qf [Iq _]) (Qn 9 rfl Bp (Qn 10 rfl F7 (Qn 11 rfl Ar ?_)))
   refine Jb.done _ _ (by kernel_rfl) ?_
   refine Ae (AW.seq ?_)
   refine AW.draw mixed (fun H'=>_∈H'∧_∈H') ⟨(List.mem_of_getElem? (i:=0) rfl),(List.mem_of_getElem? (i:=1) rfl)⟩ (by kernel_rfl) ?_
   refine Qn 0 rfl A0 (Qn 1 rfl Ho ?_)
   refine Qn 2 rfl (Be rfl) ?_
   refine Qn 3 rfl H9 ?_
   refine Qn 4 rfl (OpP.Aag (fun k=>Ao (k:=k) (c:=.val _) Ai rfl rfl rfl rfl) (fun _ h=>h.1)) ?_
   refine Qn 5 rfl (Qf [Iq _,Iq _,Iq _]) (Qn 6 rfl Bp ?_)
   refine Qn 7 rfl (B6 (o':=c.x.toNat) Ai rfl rfl rfl rfl rfl (hb.1) (by have:=hb.2.1;omega) (bJ _)) ?_
   refine Qn 8 rfl (OpP.Aag (fun k=>Ao (k:=k) (c:=.int .i64 (D7 p.2.1.sums c.x)) Ai rfl rfl rfl (W4 hb.1 (by rw [hd2.s];exact hb.2.1))) (fun _ h=>h.2)) ?_
   refine Qn 9 rfl Ck ?_
   refine Jb.done _ _ (by kernel_rfl) ?_
   refine Ae (A3 (fun hc2=>?_) fun hc2=>?_)
   ·
    refine AW.seq ?_
    refine AW.draw mixed (fun H'=>_∈H') (List.mem_of_getElem? (i:=0) rfl) (by kernel_rfl) ?_
    refine Qn 0 rfl Ho ?_
    refine Qn 1 rfl (Be rfl) ?_
    refine Qn 2 rfl H9 ?_
    refine Qn 3 rfl (OpP.Aag (fun k=>Ao (k:=k) (c:=.val _) Ai rfl rfl rfl rfl) (fun _ h=>h)) ?_
    refine Qn 4 rfl (Qf [Iq _,Iq _,Iq _]) (Qn 5 rfl Bp (Qn 6 rfl Ho ?_))
    refine Qn 7 rfl (Be rfl) ?_
    refine Qn 8 rfl H9 ?_
    refine Qn 9 rfl (OpP.Aag (fun k=>Ao (k:=k) (c:=.val _) Ai rfl rfl rfl rfl) (fun _ h=>h)) ?_
    refine Qn 10 rfl (Qf [Iq _,Iq _,Iq _]) (Qn 11 rfl Bp (Qn 12 rfl A0 (Qn 13 rfl A0 ?_)))
    refine Qn 14 rfl (B6 (o':=c.x.toNat) Ai rfl rfl rfl rfl rfl (hb.1) (by have:=hb.2.1;omega) (bJ _)) ?_
    refine Jb.eff _ _ 15 _ _ rfl (by kernel_rfl) rfl rfl (Df (k:=1) (v:=Iq _) (cs':=bI (p.2.1.sums.set c.x.toNat (D7 p.2.1.sums c.y+c.most))) (H2:=_::_::_::_) Ai rfl rfl rfl rfl rfl rfl (aB (by rw [hd2.s];omega)) (bT (by rw [hd2.s];omega)) rfl) (by rintro _ _ ⟨rfl,rfl⟩;simp) ?_
    rintro _ _ ⟨rfl,rfl⟩
    refine Qn 16 rfl (B6 (o':=c.x.toNat) Ai rfl rfl rfl rfl rfl (hb.1) (by have:=hb.2.1;omega) (bJ _)) ?_
    refine Jb.last _ _ 17 _ _ rfl (by kernel_rfl) rfl rfl (Df (k:=2) (v:=Iq _) (cs':=bI (p.2.1.last.set c.x.toNat (p.1:Int))) (H2:=_::_::_::_) Ai rfl rfl rfl rfl rfl rfl (aB (by rw [hd2.l];omega)) (bT (by rw [hd2.l];omega)) rfl) (by kernel_rfl) ?_
    rintro _ _ ⟨rfl,rfl⟩
    refine Ae (AW.region (Qp (Qf [Iq _,Iq _,Iq _]) (Qp Bp (Qp Ar (AOL.nil (Bv (Ae (AW.region (Qp F7 ?_)))))))))
    refine Qp A0 (Ag ?_)
    refine ⟨(p.1+1,⟨p.2.1.sums.set c.x.toNat (D7 p.2.1.sums c.y+c.most),p.2.1.last.set c.x.toNat (p.1:Int)⟩,c.x),?_,?_,GS.weaken ⟨rfl,rfl,rfl,rfl,rfl,rfl,trivial⟩ (.refl _)⟩
    · exact ⟨hlt,hR.2.1.trans ((Ql hc).trans (congrArg _ (Om hc2))),by have:=vM (i:=p.1) hd2 hb hm;rw [Om hc2] at this;exact this.mono (by simp only [hks];omega)⟩
    · simp only;omega
   ·
    refine AW.skip (Bv (Ae (AW.region (Qp F7 (Qp A0 (Ag ?_))))))
    refine ⟨(p.1+1,p.2),?_,?_,GS.weaken ⟨rfl,rfl,rfl,rfl,rfl,rfl,trivial⟩ (.refl _)⟩
    · exact ⟨hlt,hR.2.1.trans ((Ql hc).trans (congrArg _ (Wh hc2))),hd2.mono (by simp only [hks];omega)⟩
    · simp only;omega
  ·
   have hde:=C8 hc1
   have hfin:=hR.2.1.trans (X2 hde)
   refine AW.exit ?_
   refine A5 (A5 (Bx (Ae (Ah (Qp A0 (Qp Ar (Ag (AW.ret ?_))))))))
   refine ⟨.inr rfl,[Iq _],.cons (.tmp _ _ rfl) <| .nil,_,.refl _,?_⟩
   exact ⟨congrArg (fun q:Ds×Int=>AV.int .i64 q.2) hfin.symm,congrArg (fun q:Ds×Int=>(.box bd 156 [.val (.slice (some ⟨b1,0,none⟩) n n),.val (.slice (some ⟨b2,0,none⟩) n n)] :: .box b1 3 (bI q.1.sums) :: .box b2 3 (bI q.1.last)::R:List HO)) hfin.symm⟩
theorem f_back (bd n:Nat)(bs:List Bd)(f:Int):Ax Tryz.prog 78 [.val (.pointer (some ⟨bd,0,none⟩)),.agg (gS (zn n bs)),.int .i64 f] (.fn (.func 104) [] [.ptr [.int .i64 f],.ptr [.val (.pointer (some ⟨bd,0,none⟩))],.ptr (gS (zn n bs))]):=by
 refine Ax.body (n:=8) Ai Tryz.func78 rfl rfl rfl fun H=>?_
 refine Ah ?_
 refine Qp (Zh (v:=.val _) (cs:=[_]) rfl rfl rfl) ?_
 refine Qp (Gd [Iq _,_]) ?_
 refine Qp (Zh (v:=Iq _) (cs:=[Iq _]) rfl rfl rfl) ?_
 refine Qp N2 (Do ?_)
 refine Qp (A9 (l:=[]) (l':=[.ptr _,.ptr _,.ptr _]) rfl rfl) ?_
 refine Qp (Da (v:=.fn _ _ _) rfl) ?_
 refine Ag (AW.ret ?_)
 refine Qr (.fn _ _ _) ?_
 rfl


end Go.Proofs.YtjedflcpjlgokaaGreatDoor
