/-
  Several texts in one: Y8, Y8b, Y8c. No condition.
-/
import Derived.Test.YtkddpedfbicbeaaGreatDoorAz
import Derived.Test.YtkddpedfbicbeaaGreatDoorK19
import Derived.Test.YtkddpedfbicbeaaGreatDoorY7b
import Derived.KernelRfl
set_option linter.unusedVariables false
set_option linter.unusedSimpArgs false
namespace Go.Proofs.YtkddpedfbicbeaaGreatDoor
open Go Go.Aw
set_option maxHeartbeats 3200000
set_option maxRecDepth 20000

theorem f_check (n:Int)(b:Bd):Av Tryz.prog 174 [.int .i64 n,.agg (Rt b)] (.int .i64 (bdE n b)):=by
 refine Av.body (n:=35) Ai Tryz.func174 rfl rfl rfl fun H=>?_
 refine Ah (Qp (F5 [Iq _,Iq _,Iq _]) (Qp At (Ag (AW.seq (Ah (Qp (Qf [Iq _,Iq _,Iq _]) (Qp Bs (Qp Cj (Qp Bp ?_)))))))))
 refine Qg [] Qw (Qf [Iq _,Iq _,Iq _]) (Qg [(9,_)] Qw Bs (Qg [] Qw A0 ?_))
 refine AOL.Aaf (y:=.bool _) _ [(10,_),(11,_)] rfl (rX.all ⟨Ent.Aac _ _,Ent.Aac _ _,trivial⟩) (fun hG=>Ut rfl rfl) rfl ?_
 refine Qp E2 (Qp Bp (Qg [] Qw (Qf [Iq _,Iq _]) (Qg [(15,_)] Qw Bs (Qg [(16,_)] Qw Cj (Qp E2 (Qp Bp (Qg [] Qw (Qf [Iq _,Iq _]) (Qg [(20,_)] Qw Bs (Qg [] Qw A0 ?_)))))))))
 refine AOL.Aaf (y:=.bool _) _ [(21,_),(22,_)] rfl (rX.all ⟨Ent.Aac _ _,Ent.Aac _ _,trivial⟩) (fun hG=>Ut rfl rfl) rfl ?_
 refine Qp E2 (Qp Bp (Qg [] Qw (Qf [Iq _]) (Qg [(26,_)] Qw Bs (Qg [(27,_)] Qw Cj (Qp E2 (Qp Bp (Qg [] Qw (Qf [Iq _]) (Qg [(31,_)] Qw Bs (Qg [(32,_)] Qw Hg ?_)))))))))
 refine Qp E2 (Ag (A3 (fun hc1=>?_) fun hc1=>?_))
 ·
  refine Ah (Qp At (Ag (Dr ?_)))
  refine Qr (Iq _) ?_
  exact Eq.trans rfl (congrArg (fun q:Int=>AV.int .i64 q) (if_pos hc1)).symm
 ·
  refine Bx (Ah (Qp At (Ag (AW.ret ?_))))
  refine Qr (Iq _) ?_
  exact Eq.trans rfl (congrArg (fun q:Int=>AV.int .i64 q) (Ci hc1)).symm
theorem oR (z:Zn):Av Tryz.prog 167 [.agg (Tw z)] (.int .i64 (I4 z)):=by
 refine Av.body (n:=35) Ai Tryz.func167 rfl rfl rfl fun H=>?_
 refine Ah (Qp (F5 [Iq _,_]) (Qp At (Ag (AW.seq (AW.block (Ah (Qp (Qf [Iq _,_]) (Qp Bs (Qp Cj ?_)))))))))
 refine Qp Bp (Qg [] Qw (Qf [Iq _,_]) (Qg [(11,_)] Qw Bs (Qg [(12,_)] Qw Hg (Qp E2 (Qp Be (Ag (A3 (fun hc1=>?_) fun hc1=>?_)))))))
 ·
  refine Ah (Qp At (Ag (AW.ret (Ba (Aj ?_)))))
  refine Qr (Iq _) ?_
  exact Eq.trans rfl (congrArg (fun q:Int=>AV.int .i64 q) (if_pos hc1)).symm
 ·
  refine Ah (Qp (Qf [_]) (Qp Dk ?_))
  refine Qp (Ak (n:=z.bs.length) Ai rfl rfl rfl (by simp)) ?_
  refine Qp Hg (Qp Be (Ag (A3 (fun hc2=>?_) fun hc2=>?_)))
  ·
   refine Ah (Qp At (Ag (AW.ret (Ba (Aj ?_)))))
   refine Qr (Iq _) ?_
   exact Eq.trans rfl (congrArg (fun q:Int=>AV.int .i64 q) ((Ci hc1).trans (if_pos hc2))).symm
  ·
   refine AW.skip (Bq (Ae (AW.seq (Ah (Qp (Qf [_]) (Qp Dk ?_))))))
   refine Qp (Ak (n:=z.bs.length) Ai rfl rfl rfl (by simp)) ?_
   refine Qp A0 (Ag (AW.block ?_))
   refine AW.sllen 21 rfl fun hlen=>?_
   simp only [List.length_map,maxLen] at hlen
   refine AW.Aae (fun (k:Nat)=>(⟨[(1,.ptr (Tw z)),(21,.sl 3 (z.bs.map Rt)),(22,.int .i64 z.bs.length),(23,.int .i64 (k:Int))],H,35⟩:St)) (fun (k:Nat)=>k≤z.bs.length∧Aq (bdE z.n) (z.bs.take k)=0) (fun (k:Nat)=>z.bs.length-k) (0) ?_ (GS.weaken ⟨rfl,rfl,rfl,rfl,trivial⟩ (.refl _)) ?_
   · exact ⟨Nat.zero_le _,rfl⟩
   ·
    rintro k hR
    refine Ah (Qp Cj (Ag (AW.seq (A3 (fun hc3=>?_) fun hc3=>?_))))
    ·
     obtain ⟨c,hc⟩:=B2 hc3
     have hlt:=A9 hc
     refine Bx (AW.seq (AW.block (Ah ?_)))
     refine Qp (Af (c:=[Iq _,Iq _,Iq _]) Ai rfl rfl rfl rfl rfl rfl (by omega) (Bh hc)) ?_
     refine Qp (Ck [Iq _,Iq _,Iq _]) ?_
     refine Qe (Al (l:=[.int .i64 0,.int .i64 0,.int .i64 0]) (by kernel_rfl)) ?_
     rintro _ _ ⟨b4,rfl,rfl⟩
     refine Cm 0 [Iq _,Iq _,Iq _] (_::_) ?_
     refine AOL.ghost (GS.Aad (t:=4) 0 rfl rfl) ?_
     refine Df (Qp (Qf [Iq _,_]) (Qp Bs (Qp (Ck [Iq _,Iq _,Iq _]) ?_)))
     refine Qp (Qc rfl (f_check z.n c)) ?_
     refine Qp At (Df (Qp A0 (Qp Cr (Ag (A3 (fun hc4=>?_) fun hc4=>?_)))))
     ·
      refine Ah (Qp A0 (Qp At (Ag (AW.ret (Ba (Aj (Aj (Ba (Aj ?_)))))))))
      refine Qr (Iq _) ?_
      exact Eq.trans rfl (congrArg (fun q:Int=>AV.int .i64 q) (((Ci hc1).trans (Ci hc2)).trans (Nj hR.2 hc (by simpa using hc4)))).symm
     ·
      refine AW.skip (Bq (Ae (AW.region (Qp Fv (Qp A0 (Ag ?_))))))
      refine ⟨k+1,?_,?_,GS.weaken ⟨rfl,rfl,rfl,rfl,trivial⟩ (.refl _)⟩
      · exact ⟨hlt,Rj hR.2 hc (by simpa using hc4)⟩
      · omega
    ·
     have hte:=C3 hc3
     have hall:=hR.2
     rw [hte] at hall
     refine AW.exit ?_
     refine A6 (A6 (Bv (Ae (Ah (Qp At (Ag (AW.ret ?_)))))))
     refine Qr (Iq _) ?_
     exact Eq.trans rfl (congrArg (fun q:Int=>AV.int .i64 q) (((Ci hc1).trans (Ci hc2)).trans hall)).symm
theorem iP (H:List HO)(n:Nat)(h0:0<n)(hn:n≤1048576):Dv Tryz.prog 175 H [.sl 1 [[.int .i64 (-1)]],.int .i64 (n:Int)] (fun r H'=>∃b,r = .val (.slice (some ⟨b,0,none⟩) n n)∧H' = .box b 3 (bI (N2 n))::H):=by
 have hmx:1048576≤maxLen:=by decide
 refine Dv.body (n:=48) Ai Tryz.func175 rfl rfl rfl ?_
 refine Ah ?_
 refine Qp (B0 (z:=1) rfl) ?_
 refine Ag (AW.seq (Ah (Qp A0 (Qp Cj (Ag (A3 (fun hc1=>?_) fun hc1=>?_))))))
 ·
  have:=of_decide_eq_true hc1
  omega
 ·
  refine Bx (Ah (Qp C4 ?_))
  refine Qp (Ak (n:=1) Ai rfl rfl rfl (rfl)) ?_
  refine Qp (lS (m:=1) Ai rfl rfl rfl rfl rfl (rfl)) ?_
  refine Qp A0 ?_
  refine Qp (lS (m:=(n:Int)) Ai rfl rfl rfl rfl rfl (u64_in hn)) ?_
  refine Qp (Qc rfl (kMul1 n hn)) ?_
  refine Qp Mv ?_
  refine Qp (Cb (v:=.int .u64 _) rfl rfl) ?_
  refine Qp (Cb (v:=.int .u64 _) rfl rfl) ?_
  refine Qp (C2 (v:=.int .u64 _) rfl) ?_
  refine Qp (C2 (v:=.int .u64 _) rfl) ?_
  refine Ag (AW.seq (Ah ?_))
  refine Qp (Bj (v:=.int .u64 _) rfl) ?_
  refine Qp Hg (Qp Bp ?_)
  refine AOL.Aaf (y:=.int .u64 _) _ [] rfl (rX.all trivial) (fun hG=>Bj (v:=.int .u64 _) rfl) rfl ?_
  refine Qg [(24,_)] Qw Hg (Qp E2 (Ag (A3 (fun hc2=>?_) fun hc2=>?_)))
  ·
   exact absurd hc2 (by simp;omega)
  ·
   refine Bx (Ah ?_)
   refine Qp (Bj (v:=.int .u64 _) rfl) ?_
   refine Qp (lS (m:=(n:Int)) Ai rfl rfl rfl rfl rfl (i64_in hn)) ?_
   refine Qe (Og (n:=n) Ai rfl rfl rfl rfl rfl rfl rfl (by show 8*n≤_;omega) (by omega)) ?_
   rintro _ _ ⟨b30,rfl,rfl⟩
   refine Qp N8 ?_
   refine AOL.ghost (GS.cells 0 rfl ((dL n).trans (congrArg bI (show List.replicate n 0=Lp n 0 by simp [Lp])))) ?_
   refine Df (Qp H0 (Qp C4 ?_))
   refine Qe (yV (k:=0) (m:=1) (cs':=bI (Lp n 1)) (H2:=_::_) Ai rfl rfl rfl rfl rfl rfl rfl (by simp) (Hd rfl) (Nat.min_eq_left (by show 1≤n;omega)) (by rw [Xn,W2 (by omega)];omega) (mG h0) rfl) ?_
   rintro _ _ ⟨rfl,rfl⟩
   refine Qp At (Ag (AW.seq (AW.block ?_)))
   refine AW.Aae (fun (k:Nat)=>(⟨[(7,.val (.slice (some ⟨b30,0,none⟩) n n)),(8,.int .i64 (k:Int))],.box b30 3 (bI (Lp n k))::H,48⟩:St)) (fun (k:Nat)=>1≤k∧k≤n) (fun (k:Nat)=>n-k) (1) ?_ (GS.weaken ⟨rfl,rfl,trivial⟩ (.refl _)) ?_
   · exact ⟨Nat.le_refl _,h0⟩
   ·
    rintro k hR
    refine AW.seq (Ah (Qp A0 (Qp H0 ?_)))
    refine Qp (Zm Ai rfl rfl rfl) ?_
    refine Qp Cj (Ag (A3 (fun hc3=>?_) fun hc3=>?_))
    ·
     have hlt:k<n:=by have:=of_decide_eq_true hc3;omega
     refine Bx (AW.block ?_)
     refine AW.draw mixed (fun _=>True) trivial (by kernel_rfl) ?_
     refine Qn 0 rfl A0 (Qn 1 rfl H0 (Qn 2 rfl A0 ?_))
     refine Qn 3 rfl (U3 (l:=k) (h:=n) (o':=k) Ai rfl rfl rfl rfl rfl (⟨_,rfl⟩) (rfl) (by omega) (by omega) (by omega) (by omega) (by simp)) ?_
     refine Qn 4 rfl H0 (Qn 5 rfl A0 ?_)
     refine Qn 6 rfl (U3 (l:=0) (h:=k) (o':=0) Ai rfl rfl rfl rfl rfl (rfl) (⟨_,rfl⟩) (by omega) (by omega) (by omega) (by omega) (rfl)) ?_
     refine Jv.eff _ _ 7 _ _ rfl (by kernel_rfl) rfl rfl (qR (k:=0) (m:=min k (n-k)) (cs':=bI (Lp n (k+min k (n-k)))) (H2:=_::_) Ai rfl rfl rfl rfl rfl rfl rfl (bI_sc _) (by first | rfl | (simp only [Nat.sub_zero];done) | (simp only [Nat.sub_zero];rfl)) (by rw [Xn,W2 hR.2];omega) (by rw [Xn,W2 hR.2];omega) (sC (by omega) (by omega)) rfl) (fun _ _ _=>trivial) ?_
     rintro _ _ ⟨rfl,rfl⟩
     refine Qn 8 rfl Fv (Qn 9 rfl At ?_)
     refine Jv.done _ _ (by kernel_rfl) ?_
     refine Bq (Ae ?_)
     refine ⟨k+min k (n-k),?_,?_,GS.weaken ⟨rfl,rfl,trivial⟩ (.refl _)⟩
     · omega
     · omega
    ·
     have hkn:k=n:=by have:=of_decide_eq_false hc3;omega
     refine AW.exit ?_
     refine A6 (A6 (Bv (Ae (Ah (Qp H0 (Qp N8 (Ag (AW.ret ?_))))))))
     refine ⟨.inr rfl,[.val _],.cons (.tmp _ _ rfl) <| .nil,_,.refl _,?_⟩
     exact ⟨b30,rfl,congrArg (fun l=>HO.box b30 3 (bI l)::H) ((congrArg (Lp n) hkn).trans (tC n))⟩
theorem f_relax (bd b1 b2 n:Nat)(bs:List Bd)(hz:znOK n bs)(C:Int)(hC:0≤C)(hC2:C≤4000000000000000000)(d:Ds)(hd:dsOK n C d)(R:List HO):Dv Tryz.prog 176 (.box bd 231 [.val (.slice (some ⟨b1,0,none⟩) n n),.val (.slice (some ⟨b2,0,none⟩) n n)] :: .box b1 3 (bI d.sums) :: .box b2 3 (bI d.last)::R) [.val (.pointer (some ⟨bd,0,none⟩)),.agg (Tw (zn n bs))] (fun r H'=>r = .int .i64 (Jr bs d).2∧H' = .box bd 231 [.val (.slice (some ⟨b1,0,none⟩) n n),.val (.slice (some ⟨b2,0,none⟩) n n)] :: .box b1 3 (bI (Jr bs d).1.sums) :: .box b2 3 (bI (Jr bs d).1.last)::R):=by
 have hbl:=hz.len
 have hn64:=hz.n64
 have hbb:Jo=140737488355329:=rfl
 refine Dv.body (n:=58) Ai Tryz.func176 rfl rfl rfl ?_
 refine Ah (Qp (F5 [Iq _,_]) (Qp At (Df (Qp At (Ag (AW.seq (Ah (Qp (Qf [_]) (Qp Dk ?_)))))))))
 refine Qp (Ak (n:=bs.length) Ai rfl rfl rfl (by simp [zn])) ?_
 refine Qp A0 (Ag (AW.block ?_))
 refine AW.Aae (fun (p:Nat×Ds×Int)=>(⟨[(0,.val (.pointer (some ⟨bd,0,none⟩))),(3,.ptr (Tw (zn n bs))),(5,.int .i64 p.2.2),(10,.sl 3 (bs.map Rt)),(11,.int .i64 bs.length),(12,.int .i64 (p.1:Int))],.box bd 231 [.val (.slice (some ⟨b1,0,none⟩) n n),.val (.slice (some ⟨b2,0,none⟩) n n)] :: .box b1 3 (bI p.2.1.sums) :: .box b2 3 (bI p.2.1.last)::R,58⟩:St)) (fun (p:Nat×Ds×Int)=>p.1≤bs.length∧Jr bs d=F8 p.1 (bs.drop p.1) p.2∧dsOK n (C+(p.1:Int)*Jo) p.2.1) (fun (p:Nat×Ds×Int)=>bs.length-p.1) ((0,d,-1)) ?_ (GS.weaken ⟨rfl,rfl,rfl,rfl,rfl,rfl,trivial⟩ (.refl _)) ?_
 · exact ⟨Nat.zero_le _,rfl,by simpa using hd⟩
 ·
  rintro p hR
  have hd2:=hR.2.2
  have hpl:=hR.1
  have hkb:(p.1:Int)*Jo≤256*Jo:=by unfold Jo;omega
  have hks:((p.1+1:Nat):Int)*Jo=(p.1:Int)*Jo+Jo:=by push_cast;rw [Int.add_mul];omega
  refine Ah (Qp Cj (Ag (AW.seq (A3 (fun hc1=>?_) fun hc1=>?_))))
  ·
   obtain ⟨c,hc⟩:=B2 hc1
   have hlt:=A9 hc
   have hcm:=List.mem_of_getElem? hc
   have hb:=hz.bd c hcm
   have hm:=hz.most c hcm
   have hi1:=hd2.ix hb.2.2.1 hb.2.2.2
   refine Bx (AW.seq (AW.block (Ah (Qp A0 ?_))))
   refine Qp (Af (c:=[.int .i64 c.x,.int .i64 c.y,.int .i64 c.most]) Ai rfl rfl rfl rfl rfl rfl (by omega) (lT hc)) ?_
   refine Qp (Ck [Iq _,Iq _,Iq _]) ?_
   refine Qe (Al (l:=[.int .i64 0,.int .i64 0,.int .i64 0]) (by kernel_rfl)) ?_
   rintro _ _ ⟨b7,rfl,rfl⟩
   refine Qp At ?_
   refine Cm 0 [Iq _,Iq _,Iq _] (_::_::_::_::_) ?_
   refine AOL.ghost (GS.Aad (t:=7) 0 rfl rfl) ?_
   refine Ag (AW.seq ?_)
   refine AW.draw mixed (fun H'=>_∈H'∧_∈H') ⟨(List.mem_of_getElem? (i:=0) rfl),(List.mem_of_getElem? (i:=1) rfl)⟩ (by kernel_rfl) ?_
   refine Qn 0 rfl H0 ?_
   refine Qn 1 rfl (Bl rfl) ?_
   refine Qn 2 rfl Ir ?_
   refine Qn 3 rfl (OpP.Aah (fun k=>Ax (k:=k) (c:=.val _) Ai rfl rfl rfl rfl) (fun _ h=>h.1)) ?_
   refine Qn 4 rfl (Qf [Iq _,Iq _]) (Qn 5 rfl Bs ?_)
   refine Qn 6 rfl (B8 (o':=c.y.toNat) Ai rfl rfl rfl rfl rfl (hb.2.2.1) (by have:=hb.2.2.2;omega) (bX _)) ?_
   refine Qn 7 rfl (OpP.Aah (fun k=>Ax (k:=k) (c:=.int .i64 (E0 p.2.1.sums c.y)) Ai rfl rfl rfl (Yg hb.2.2.1 (by rw [hd2.s];exact hb.2.2.2))) (fun _ h=>h.2)) ?_
   refine Qn 8 rfl (Qf [Iq _]) (Qn 9 rfl Bs (Qn 10 rfl Fv (Qn 11 rfl At ?_)))
   refine Jv.done _ _ (by kernel_rfl) ?_
   refine Ae (AW.seq ?_)
   refine AW.draw mixed (fun H'=>_∈H'∧_∈H') ⟨(List.mem_of_getElem? (i:=0) rfl),(List.mem_of_getElem? (i:=1) rfl)⟩ (by kernel_rfl) ?_
   refine Qn 0 rfl A0 (Qn 1 rfl H0 ?_)
   refine Qn 2 rfl (Bl rfl) ?_
   refine Qn 3 rfl Ir ?_
   refine Qn 4 rfl (OpP.Aah (fun k=>Ax (k:=k) (c:=.val _) Ai rfl rfl rfl rfl) (fun _ h=>h.1)) ?_
   refine Qn 5 rfl (Qf [Iq _,Iq _,Iq _]) (Qn 6 rfl Bs ?_)
   refine Qn 7 rfl (B8 (o':=c.x.toNat) Ai rfl rfl rfl rfl rfl (hb.1) (by have:=hb.2.1;omega) (bX _)) ?_
   refine Qn 8 rfl (OpP.Aah (fun k=>Ax (k:=k) (c:=.int .i64 (E0 p.2.1.sums c.x)) Ai rfl rfl rfl (Yg hb.1 (by rw [hd2.s];exact hb.2.1))) (fun _ h=>h.2)) ?_
   refine Qn 9 rfl Cj ?_
   refine Jv.done _ _ (by kernel_rfl) ?_
   refine Ae (A3 (fun hc2=>?_) fun hc2=>?_)
   ·
    refine AW.seq ?_
    refine AW.draw mixed (fun H'=>_∈H') (List.mem_of_getElem? (i:=0) rfl) (by kernel_rfl) ?_
    refine Qn 0 rfl H0 ?_
    refine Qn 1 rfl (Bl rfl) ?_
    refine Qn 2 rfl Ir ?_
    refine Qn 3 rfl (OpP.Aah (fun k=>Ax (k:=k) (c:=.val _) Ai rfl rfl rfl rfl) (fun _ h=>h)) ?_
    refine Qn 4 rfl (Qf [Iq _,Iq _,Iq _]) (Qn 5 rfl Bs (Qn 6 rfl H0 ?_))
    refine Qn 7 rfl (Bl rfl) ?_
    refine Qn 8 rfl Ir ?_
    refine Qn 9 rfl (OpP.Aah (fun k=>Ax (k:=k) (c:=.val _) Ai rfl rfl rfl rfl) (fun _ h=>h)) ?_
    refine Qn 10 rfl (Qf [Iq _,Iq _,Iq _]) (Qn 11 rfl Bs (Qn 12 rfl A0 (Qn 13 rfl A0 ?_)))
    refine Qn 14 rfl (B8 (o':=c.x.toNat) Ai rfl rfl rfl rfl rfl (hb.1) (by have:=hb.2.1;omega) (bX _)) ?_
    refine Jv.eff _ _ 15 _ _ rfl (by kernel_rfl) rfl rfl (C6 (k:=1) (v:=Iq _) (cs':=bI (p.2.1.sums.set c.x.toNat (E0 p.2.1.sums c.y+c.most))) (H2:=_::_::_::_) Ai rfl rfl rfl rfl rfl rfl (dU (by rw [hd2.s];omega)) (bP (by rw [hd2.s];omega)) rfl) (by rintro _ _ ⟨rfl,rfl⟩;simp) ?_
    rintro _ _ ⟨rfl,rfl⟩
    refine Qn 16 rfl (B8 (o':=c.x.toNat) Ai rfl rfl rfl rfl rfl (hb.1) (by have:=hb.2.1;omega) (bX _)) ?_
    refine Jv.last _ _ 17 _ _ rfl (by kernel_rfl) rfl rfl (C6 (k:=2) (v:=Iq _) (cs':=bI (p.2.1.last.set c.x.toNat (p.1:Int))) (H2:=_::_::_::_) Ai rfl rfl rfl rfl rfl rfl (dU (by rw [hd2.l];omega)) (bP (by rw [hd2.l];omega)) rfl) (by kernel_rfl) ?_
    rintro _ _ ⟨rfl,rfl⟩
    refine Ae (AW.region (Qp (Qf [Iq _,Iq _,Iq _]) (Qp Bs (Qp At (AOL.nil (Bq (Ae (AW.region (Qp Fv ?_)))))))))
    refine Qp A0 (Ag ?_)
    refine ⟨(p.1+1,⟨p.2.1.sums.set c.x.toNat (E0 p.2.1.sums c.y+c.most),p.2.1.last.set c.x.toNat (p.1:Int)⟩,c.x),?_,?_,GS.weaken ⟨rfl,rfl,rfl,rfl,rfl,rfl,trivial⟩ (.refl _)⟩
    · exact ⟨hlt,hR.2.1.trans ((Rs hc).trans (congrArg _ (Pl hc2))),by have:=xS (i:=p.1) hd2 hb hm;rw [Pl hc2] at this;exact this.mono (by simp only [hks];omega)⟩
    · simp only;omega
   ·
    refine AW.skip (Bq (Ae (AW.region (Qp Fv (Qp A0 (Ag ?_))))))
    refine ⟨(p.1+1,p.2),?_,?_,GS.weaken ⟨rfl,rfl,rfl,rfl,rfl,rfl,trivial⟩ (.refl _)⟩
    · exact ⟨hlt,hR.2.1.trans ((Rs hc).trans (congrArg _ (X9 hc2))),hd2.mono (by simp only [hks];omega)⟩
    · simp only;omega
  ·
   have hde:=Dh hc1
   have hfin:=hR.2.1.trans (aS hde)
   refine AW.exit ?_
   refine A6 (A6 (Bv (Ae (Ah (Qp A0 (Qp At (Ag (AW.ret ?_))))))))
   refine ⟨.inr rfl,[Iq _],.cons (.tmp _ _ rfl) <| .nil,_,.refl _,?_⟩
   exact ⟨congrArg (fun q:Ds×Int=>AV.int .i64 q.2) hfin.symm,congrArg (fun q:Ds×Int=>(.box bd 231 [.val (.slice (some ⟨b1,0,none⟩) n n),.val (.slice (some ⟨b2,0,none⟩) n n)] :: .box b1 3 (bI q.1.sums) :: .box b2 3 (bI q.1.last)::R:List HO)) hfin.symm⟩
theorem f_back (bd n:Nat)(bs:List Bd)(f:Int):Av Tryz.prog 177 [.val (.pointer (some ⟨bd,0,none⟩)),.agg (Tw (zn n bs)),.int .i64 f] (.fn (.func 189) [] [.ptr [.int .i64 f],.ptr [.val (.pointer (some ⟨bd,0,none⟩))],.ptr (Tw (zn n bs))]):=by
 refine Av.body (n:=8) Ai Tryz.func177 rfl rfl rfl fun H=>?_
 refine Ah ?_
 refine Qp (Z3 (v:=.val _) (cs:=[_]) rfl rfl rfl) ?_
 refine Qp (F5 [Iq _,_]) ?_
 refine Qp (Z3 (v:=Iq _) (cs:=[Iq _]) rfl rfl rfl) ?_
 refine Qp N8 (Df ?_)
 refine Qp (Bc (l:=[]) (l':=[.ptr _,.ptr _,.ptr _]) rfl rfl) ?_
 refine Qp (C2 (v:=.fn _ _ _) rfl) ?_
 refine Ag (AW.ret ?_)
 refine Qr (.fn _ _ _) ?_
 rfl

set_option maxHeartbeats 1600000
set_option maxRecDepth 20000

theorem f_back1 (l:Nat)(rec:Loop)(bd b1 b2 n:Nat)(bs:List Bd)(d:Ds)(hn:n≤64)(hdl:d.last.length=n)(G:Value→List Int→List HO)(hp:rec.params.size=1)(i0:Nat)(hi:∀v pre,(G v pre)[i0]? = some (.obj l (.loop rec)))(f:Int)(hc:Mk bs d f (n+1) f=true)(hY:∀v pre x,pre.length≤64→kY Tryz.prog l rec (.box bd 231 [.val (.slice (some ⟨b1,0,none⟩) n n),.val (.slice (some ⟨b2,0,none⟩) n n)] :: .box b1 3 (bI d.sums) :: .box b2 3 (bI d.last)::G v pre) [.int .i64 x] (fun r H'=>r = .bool true∧∃v',H' = .box bd 231 [.val (.slice (some ⟨b1,0,none⟩) n n),.val (.slice (some ⟨b2,0,none⟩) n n)] :: .box b1 3 (bI d.sums) :: .box b2 3 (bI d.last)::G v' (pre ++ [x])))(v0:Value):Dv Tryz.prog 189 (.box bd 231 [.val (.slice (some ⟨b1,0,none⟩) n n),.val (.slice (some ⟨b2,0,none⟩) n n)] :: .box b1 3 (bI d.sums) :: .box b2 3 (bI d.last)::G v0 []) [.val (.func (.yield l) #[] #[]),.ptr [.int .i64 f],.ptr [.val (.pointer (some ⟨bd,0,none⟩))],.ptr (Tw (zn n bs))] (fun r H'=>r = .tuple []∧∃v' es,es≠[]∧H' = .box bd 231 [.val (.slice (some ⟨b1,0,none⟩) n n),.val (.slice (some ⟨b2,0,none⟩) n n)] :: .box b1 3 (bI d.sums) :: .box b2 3 (bI d.last)::G v' es):=by
 refine Dv.body (n:=31) Ai Tryz.func189 rfl rfl rfl ?_
 refine Ah (Qp Bs (Qp At (Ag (AW.block ?_))))
 refine AW.Aae (fun (p:Int×List Int×Value)=>(⟨[(0,.val (.func (.yield l) #[] #[])),(1,.ptr [.int .i64 f]),(2,.ptr [.val (.pointer (some ⟨bd,0,none⟩))]),(3,.ptr (Tw (zn n bs))),(5,.int .i64 p.1)],.box bd 231 [.val (.slice (some ⟨b1,0,none⟩) n n),.val (.slice (some ⟨b2,0,none⟩) n n)] :: .box b1 3 (bI d.sums) :: .box b2 3 (bI d.last)::G p.2.2 p.2.1,31⟩:St)) (fun (p:Int×List Int×Value)=>p.2.1.length≤n∧Mk bs d f (n+1-p.2.1.length) p.1=true) (fun (p:Int×List Int×Value)=>n+1-p.2.1.length) ((f,[],v0)) ?_ (GS.weaken ⟨rfl,rfl,rfl,rfl,rfl,trivial⟩ (.refl _)) ?_
 · exact ⟨Nat.zero_le _,hc⟩
 ·
  rintro p hR
  have hpl:=hR.1
  refine (fS (zE hR.2)).elim fun c ok=>?_
  refine AW.seq (AW.seq ?_)
  refine AW.regionY rfl (by kernel_rfl) ?_
  refine Qp H0 (Qp Qlv ?_)
  refine Qp (Bl rfl) ?_
  refine Qp Ir ?_
  refine AOL.Aai (Ax (k:=0) (c:=.val _) Ai rfl rfl rfl rfl) rfl rfl ?_
  refine Qp A0 ?_
  refine Qp (B8 (o':=p.1.toNat) Ai rfl rfl rfl rfl rfl (ok.a0) (by have:=ok.al;omega) (bX _)) ?_
  refine AOL.Aai (Ax (k:=2) (c:=.int .i64 (E0 d.last p.1)) Ai rfl rfl rfl (Yg ok.a0 ok.al)) rfl rfl ?_
  refine AOL.nil ?_
  refine ⟨l,rec,_,⟨i0+3,hi p.2.2 p.2.1⟩,rfl,hp.symm,rfl,hY p.2.2 p.2.1 (E0 d.last p.1) (by omega),?_⟩
  rintro _ _ ⟨rfl,v1,rfl⟩
  refine Ae (A3 (fun hc1=>?_) fun hc1=>?_)
  ·
   refine Bx (AW.block (AW.seq ?_))
   refine AW.draw mixed (fun H'=>_∈H'∧_∈H') ⟨(List.mem_of_getElem? (i:=0) rfl),(List.mem_of_getElem? (i:=2) rfl)⟩ (by kernel_rfl) ?_
   refine Qn 0 rfl (Qf [_]) (Qn 1 rfl Dk (Qn 2 rfl Qlv ?_))
   refine Qn 3 rfl (Bl rfl) ?_
   refine Qn 4 rfl Ir ?_
   refine Qn 5 rfl (OpP.Aah (fun k=>Ax (k:=k) (c:=.val _) Ai rfl rfl rfl rfl) (fun _ h=>h.1)) ?_
   refine Qn 6 rfl A0 ?_
   refine Qn 7 rfl (B8 (o':=p.1.toNat) Ai rfl rfl rfl rfl rfl (ok.a0) (by have:=ok.al;omega) (bX _)) ?_
   refine Qn 8 rfl (OpP.Aah (fun k=>Ax (k:=k) (c:=.int .i64 (E0 d.last p.1)) Ai rfl rfl rfl (Yg ok.a0 ok.al)) (fun _ h=>h.2)) ?_
   refine Qn 9 rfl (Af (c:=[.int .i64 c.x,.int .i64 c.y,.int .i64 c.most]) Ai rfl rfl rfl rfl rfl rfl (ok.l0) (lT ok.at_)) ?_
   refine Qn 10 rfl (Qf [Iq _,Iq _]) (Qn 11 rfl Bs (Qn 12 rfl At ?_))
   refine Jv.done _ _ (by kernel_rfl) ?_
   refine Ae (Ah (Qp A0 (Qp Bs (Qp A5 (Ag (A3 (fun hc2=>?_) fun hc2=>?_))))))
   ·
    refine AW.ret (Ba (Aj (Ba ?_)))
    refine ⟨.inr rfl,[],.nil,_,.refl _,?_⟩
    exact ⟨rfl,v1,p.2.1 ++ [E0 d.last p.1],by simp,rfl⟩
   ·
    refine AW.skip (Bq (Ae ?_))
    refine ⟨(c.y,p.2.1 ++ [E0 d.last p.1],v1),?_,?_,GS.weaken ⟨rfl,rfl,rfl,rfl,rfl,trivial⟩ (.refl _)⟩
    ·
     have h9:=eW hR.2 ok hc2
     exact ⟨by simp only [List.length_append,List.length_singleton];omega,by simp only [List.length_append,List.length_singleton];rw [show n+1-(p.2.1.length+1)=n+1-p.2.1.length-1 by omega];exact h9.1⟩
    ·
     have h9:=eW hR.2 ok hc2
     simp only [List.length_append,List.length_singleton];omega
  ·
   cases hc1

set_option maxHeartbeats 3200000
set_option maxRecDepth 20000

theorem oX (n:Nat)(bs:List Bd)(hz:znOK n bs)(hW:decide ((Ek (zn n bs)).2<0)=false→Nv n bs=true)(H:List HO):Dv Tryz.prog 168 H [.agg (Tw (zn n bs))] (fun r H'=>if decide ((Ek (zn n bs)).2<0) then (∃b,r = .tuple [.val (.slice (some ⟨b,0,none⟩) n n),.val (.slice none 0 0)]∧H' = .box b 3 (bI (Ek (zn n bs)).1.sums)::H) else (∃es,es≠[]∧r = .tuple [.val (.slice none 0 0),.sl 1 es]∧H'=H)):=by
 have hmx:1048576≤maxLen:=by decide
 have hn1:=hz.n1
 have hn64:=hz.n64
 have hzn:(zn n bs).n=(n:Int):=rfl
 have hbb:Jo=140737488355329:=rfl
 refine Dv.bodyX (n:=59) Ai Tryz.func168 rfl rfl rfl ?_
 refine AWX.seq ?_
 refine AW.region (Qp (F5 [Iq _,_]) (Qp N8 (Qp N8 (Ag ?_))))
 refine AWX.cut (fun (u:Nat×Nat×Nat)=>(⟨[(1,.ptr (Tw (zn n bs))),(4,.val (.pointer (some ⟨u.1,0,none⟩)))],.box u.1 231 [.val (.slice (some ⟨u.2.1,0,none⟩) n n),.val (.slice (some ⟨u.2.2,0,none⟩) n n)] :: .box u.2.1 3 (bI (⟨List.replicate n 0,N2 n⟩:Ds).sums) :: .box u.2.2 3 (bI (⟨List.replicate n 0,N2 n⟩:Ds).last)::H,59⟩:St)) (fun (u:Nat×Nat×Nat)=>True) ?_ ?_
 ·
  refine AW.draw mixed (fun _=>True) trivial (by kernel_rfl) ?_
  refine Qn 0 rfl (Qf [Iq _,_]) (Qn 1 rfl Bs ?_)
  refine Qn 3 rfl (Az (es:=[[Iq _]]) Ai rfl rfl rfl rfl rfl rfl rfl rfl rfl) ?_
  refine Qn 4 rfl (Qf [Iq _,_]) (Qn 5 rfl Bs ?_)
  refine Jv.two _ _ 2 6 _ _ _ _ rfl rfl (by kernel_rfl) rfl rfl rfl rfl (Og (n:=n) Ai rfl rfl rfl rfl rfl rfl rfl (by show 8*n≤_;omega) (by omega)) (Fo (by kernel_rfl) rfl rfl (iP _ n hn1 (by omega))) (by rintro _ _ ⟨b10,rfl,rfl⟩;trivial) (by rintro _ _ ⟨b14,rfl,rfl⟩;trivial) ?_ ?_
  ·
   rintro _ _ ⟨b10,rfl,rfl⟩
   refine Jv.eff _ _ 6 _ _ rfl (by kernel_rfl) rfl rfl (Fo (by kernel_rfl) rfl rfl (iP _ n hn1 (by omega))) (fun _ _ _=>trivial) ?_
   rintro _ _ ⟨b14,rfl,rfl⟩
   refine Qn 7 rfl (Ep [_,_]) ?_
   refine Jv.eff _ _ 8 _ _ rfl (by kernel_rfl) rfl rfl (U7 (v:=.agg _) (cs:=[_,_]) rfl rfl (rfl)) (fun _ _ _=>trivial) ?_
   rintro _ _ ⟨b16,rfl,rfl⟩
   refine Qn 9 rfl N8 ?_
   refine Jv.done _ _ (by kernel_rfl) ?_
   refine Ae ?_
   refine ⟨(b16,b10,b14),?_,GS.trans (GS.cells 2 rfl (dL n)) (GS.trans (GS.perm (List.Perm.cons _ (List.Perm.swap _ _ _))) (GS.weaken ⟨rfl,rfl,trivial⟩ (.refl _)))⟩
   trivial
  ·
   rintro _ _ ⟨b14,rfl,rfl⟩
   refine Jv.eff _ _ 2 _ _ rfl (by kernel_rfl) rfl rfl (Og (n:=n) Ai rfl rfl rfl rfl rfl rfl rfl (by show 8*n≤_;omega) (by omega)) (fun _ _ _=>trivial) ?_
   rintro _ _ ⟨b10,rfl,rfl⟩
   refine Qn 7 rfl (Ep [_,_]) ?_
   refine Jv.eff _ _ 8 _ _ rfl (by kernel_rfl) rfl rfl (U7 (v:=.agg _) (cs:=[_,_]) rfl rfl (rfl)) (fun _ _ _=>trivial) ?_
   rintro _ _ ⟨b16,rfl,rfl⟩
   refine Qn 9 rfl N8 ?_
   refine Jv.done _ _ (by kernel_rfl) ?_
   refine Ae ?_
   refine ⟨(b16,b10,b14),?_,GS.trans (GS.cells 1 rfl (dL n)) (GS.trans (GS.refl _) (GS.weaken ⟨rfl,rfl,trivial⟩ (.refl _)))⟩
   trivial
 ·
  rintro u _
  refine AWX.seq ?_
  refine AW.region (Qp At (Ag ?_))
  refine AWX.seq ?_
  refine Ah (Qp (Qf [Iq _,_]) (Qp Bs (Qp Fv (Qp A0 (Ag (AW.block ?_))))))
  refine AW.Aae (fun (p:Nat×Ds×Int)=>(⟨[(1,.ptr (Tw (zn n bs))),(4,.val (.pointer (some ⟨u.1,0,none⟩))),(5,.int .i64 p.2.2),(19,.int .i64 ((n:Int)+1)),(20,.int .i64 (p.1:Int))],.box u.1 231 [.val (.slice (some ⟨u.2.1,0,none⟩) n n),.val (.slice (some ⟨u.2.2,0,none⟩) n n)] :: .box u.2.1 3 (bI p.2.1.sums) :: .box u.2.2 3 (bI p.2.1.last)::H,59⟩:St)) (fun (p:Nat×Ds×Int)=>p.1≤n+1∧Ek (zn n bs)=D7 bs (n+1-p.1) p.2∧dsOK n ((p.1:Int)*(256*Jo)) p.2.1∧(0<p.1→0≤p.2.2)) (fun (p:Nat×Ds×Int)=>n+1-p.1) ((0,⟨List.replicate n 0,N2 n⟩,-1)) ?_ (GS.weaken ⟨rfl,rfl,rfl,rfl,rfl,trivial⟩ (.refl _)) ?_
  · exact ⟨Nat.zero_le _,M0 n bs,by simpa using fM n,fun h=>absurd h (by simp)⟩
  ·
   rintro p hR
   have hd2:=hR.2.2.1
   have hpl:=hR.1
   have hC0:(0:Int)≤(p.1:Int)*(256*Jo):=by unfold Jo;omega
   have hC2:(p.1:Int)*(256*Jo)≤4000000000000000000:=by unfold Jo;omega
   have hks:((p.1+1:Nat):Int)*(256*Jo)=(p.1:Int)*(256*Jo)+256*Jo:=by push_cast;rw [Int.add_mul];omega
   refine Ah (Qp Cj (Ag (AW.seq (A3 (fun hc1=>?_) fun hc1=>?_))))
   ·
    have hlt:p.1<n+1:=by have:=of_decide_eq_true hc1;omega
    refine Bx (AW.seq (AW.block (Ah (Qp H0 (Qp (Ck [Iq _,_]) ?_)))))
    refine Qe (Fo (by kernel_rfl) rfl rfl (Dv.front3 (R:=_) 2 1 0 rfl rfl rfl rfl (f_relax u.1 u.2.1 u.2.2 n bs hz _ hC0 hC2 p.2.1 hd2 _))) ?_
    rintro _ _ ⟨rfl,rfl⟩
    refine Qp At (Df (Qp A0 (Qp Cj (Ag (A3 (fun hc2=>?_) fun hc2=>?_)))))
    ·
     have hend:=vD hR.2.1 hlt hc2
     refine Ah (Qp H0 ?_)
     refine Qp (Bl rfl) ?_
     refine Qp Ir ?_
     refine AOL.Aai (Ax (k:=0) (c:=.val _) Ai rfl rfl rfl rfl) rfl rfl ?_
     refine Qp N8 (Qp N8 (Ag (AW.ret (Ba (Aj (Aj (Ba (Aj ?_))))))))
     refine ⟨.inr rfl,[.val _,.val _],.cons (.tmp _ _ rfl) <| .cons (.tmp _ _ rfl) <| .nil,_,.cons _ (.cons_cons _ (.cons _ (.refl _))),?_⟩
     exact Eq.mpr (if_pos (by rw [hend];exact hc2)) ⟨_,rfl,congrArg (fun q:Ds×Int=>(.box u.2.1 3 (bI q.1.sums)::H:List HO)) hend.symm⟩
    ·
     refine AW.skip (Bq (Ae (AW.region (Qp Fv (Qp A0 (Ag ?_))))))
     refine ⟨(p.1+1,Jr bs p.2.1),?_,?_,GS.weaken ⟨rfl,rfl,rfl,rfl,rfl,trivial⟩ (.refl _)⟩
     · exact ⟨hlt,end_on hR.2.1 hlt hc2,(cK hz hd2).mono (by simp only [hks];omega),fun _=>by simpa using hc2⟩
     · simp only;omega
   ·
    have hge1:n+1≤p.1:=by have:=of_decide_eq_false hc1;omega
    have hend:=end_all hR.2.1 hge1
    have hge:decide ((Ek (zn n bs)).2<0)=false:=by rw [hend];have:=hR.2.2.2 (by omega);simpa using this
    have hws:=mF (hW hge) hend
    have hcy:=hws.2
    refine AW.exit ?_
    refine A6 (A6 (Bv (Ae ?_)))
    refine AWX.seq ?_
    refine Ah (Qp (Qf [Iq _,_]) (Qp Bs (Qp A0 (Ag (AW.block ?_)))))
    refine AW.Aae (fun (q:Nat×Int)=>(⟨[(1,.ptr (Tw (zn n bs))),(4,.val (.pointer (some ⟨u.1,0,none⟩))),(5,.int .i64 q.2),(33,.int .i64 (n:Int)),(34,.int .i64 (q.1:Int))],.box u.1 231 [.val (.slice (some ⟨u.2.1,0,none⟩) n n),.val (.slice (some ⟨u.2.2,0,none⟩) n n)] :: .box u.2.1 3 (bI p.2.1.sums) :: .box u.2.2 3 (bI p.2.1.last)::H,59⟩:St)) (fun (q:Nat×Int)=>q.1≤n∧Kt bs p.2.1 n p.2.2=Kt bs p.2.1 (n-q.1) q.2∧Ln bs p.2.1 (n-q.1) q.2=true) (fun (q:Nat×Int)=>n-q.1) ((0,p.2.2)) ?_ (GS.weaken ⟨rfl,rfl,rfl,rfl,rfl,trivial⟩ (.refl _)) ?_
    · exact ⟨Nat.zero_le _,rfl,hws.1⟩
    ·
     rintro q hQ
     refine Ah (Qp Cj (Ag (AW.seq (A3 (fun hc3=>?_) fun hc3=>?_))))
     ·
      have hlt3:q.1<n:=by have:=of_decide_eq_true hc3;omega
      have hb9:=qE hQ.2.2 hlt3
      refine (fS hb9.1).elim fun c ok=>?_
      have hdl:=hd2.l
      refine Bx (AW.seq (AW.block ?_))
      refine AW.draw mixed (fun H'=>_∈H'∧_∈H') ⟨(List.mem_of_getElem? (i:=0) rfl),(List.mem_of_getElem? (i:=2) rfl)⟩ (by kernel_rfl) ?_
      refine Qn 0 rfl (Qf [_]) (Qn 1 rfl Dk (Qn 2 rfl H0 ?_))
      refine Qn 3 rfl (Bl rfl) ?_
      refine Qn 4 rfl Ir ?_
      refine Qn 5 rfl (OpP.Aah (fun k=>Ax (k:=k) (c:=.val _) Ai rfl rfl rfl rfl) (fun _ h=>h.1)) ?_
      refine Qn 6 rfl A0 ?_
      refine Qn 7 rfl (B8 (o':=q.2.toNat) Ai rfl rfl rfl rfl rfl (ok.a0) (by have:=ok.al;omega) (bX _)) ?_
      refine Qn 8 rfl (OpP.Aah (fun k=>Ax (k:=k) (c:=.int .i64 (E0 p.2.1.last q.2)) Ai rfl rfl rfl (Yg ok.a0 ok.al)) (fun _ h=>h.2)) ?_
      refine Qn 9 rfl (Af (c:=[.int .i64 c.x,.int .i64 c.y,.int .i64 c.most]) Ai rfl rfl rfl rfl rfl rfl (ok.l0) (lT ok.at_)) ?_
      refine Qn 10 rfl (Qf [Iq _,Iq _]) (Qn 11 rfl Bs (Qn 12 rfl At ?_))
      refine Jv.done _ _ (by kernel_rfl) ?_
      refine Bq (Ae (AW.region (Qp Fv (Qp A0 (Ag ?_)))))
      refine ⟨(q.1+1,c.y),?_,?_,GS.weaken ⟨rfl,rfl,rfl,rfl,rfl,trivial⟩ (.refl _)⟩
      · exact ⟨hlt3,sB hQ.2.1 hlt3 ok,by have:=hb9.2;rw [ok.pred] at this;exact this⟩
      · simp only;omega
     ·
      have hge3:n≤q.1:=by have:=of_decide_eq_false hc3;omega
      have hfr:Kt bs p.2.1 n p.2.2=q.2:=hQ.2.1.trans (by rw [show n-q.1=0 by omega];rfl)
      refine AW.exit ?_
      refine A6 (A6 (Bv (Ae ?_)))
      refine AWX.seq ?_
      refine AW.region ?_
      refine Qe (Al (l:=[.val (.slice none 0 0)]) (by kernel_rfl)) ?_
      rintro _ _ ⟨b6,rfl,rfl⟩
      refine AOL.ghost (GS.cellRow 0 0 3 1 rfl rfl rfl rfl) ?_
      refine Ag ?_
      refine AWX.assoc ?_
      refine AW.region (Qp H0 (Qp (Ck [Iq _,_]) (Qp A0 ?_)))
      refine Qp (Qc rfl (f_back u.1 n bs q.2)) ?_
      refine Ag ?_
      refine AWX.rangeTail Ai (fun H2=>∃v es,es≠[]∧H2 = .row v es.length 3 1 :: .box b6 154 [.row v 1 es]::(.box u.1 231 [.val (.slice (some ⟨u.2.1,0,none⟩) n n),.val (.slice (some ⟨u.2.2,0,none⟩) n n)] :: .box u.2.1 3 (bI p.2.1.sums) :: .box u.2.2 3 (bI p.2.1.last)::H)) rfl (by kernel_rfl) (fun rec D l hst hpe hps has hbo hsz htm=>?_) (fun D H2 hZ=>?_)
      ·
       have h6:=htm 6 _ rfl
       refine Dv.post (Dv.perm (List.perm_append_comm.append_right _:(([_,_,_,_] ++ [_,_,_])++H).Perm _) (f_back1 l rec u.1 u.2.1 u.2.2 n bs p.2.1 hz.n64 hd2.l (fun v pre=>.obj l (.loop rec) :: .obj D (.deferred (some [])) :: .row v ((pre.map cI)).length 3 1 :: .box b6 154 [.row v 1 ((pre.map cI))]::H) (by rw [hps];rfl) 0 (fun _ _=>rfl) q.2 (by rw [←hfr];exact hcy) (fun v pre x hpl=>?_) (.slice none 0 0))) ?_
       ·
        refine kY.of (sl:=[(53,.int .i64 x),(6,.val (.pointer (some ⟨b6,0,none⟩)))]) hst hpe hsz (by rw [hps];exact kA hsz rfl h6) ?_
        rw [has,hbo]
        refine AWr.region (by kernel_rfl) ?_
        refine Qp At (AOL.nil ?_)
        refine ⟨rfl,3,rfl,?_⟩
        refine AWr.block (AWr.region (by kernel_rfl) ?_)
        refine AOL.Aai (Ax (k:=6) (c:=.row _ _ _) Ai rfl rfl rfl rfl) rfl rfl ?_
        refine Qp A0 ?_
        refine Qp (Az (es:=[[Iq _]]) Ai rfl rfl rfl rfl rfl rfl rfl rfl rfl) ?_
        refine Qe (Dm (k:=5) Ai rfl rfl rfl rfl rfl rfl rfl rfl (Hd rfl) (Fm fun _=>rfl) (by simp;omega) (by simp [maxLen];omega)) ?_
        rintro _ _ ⟨v57,rfl,rfl⟩
        refine Cm 6 [_] (_::_::_::_::_::_::_::_) ?_
        refine AOL.nil ?_
        exact ⟨rfl,3,rfl,rfl,v57,congrArg (fun es:List (List AV)=>(.box u.1 231 [.val (.slice (some ⟨u.2.1,0,none⟩) n n),.val (.slice (some ⟨u.2.2,0,none⟩) n n)] :: .box u.2.1 3 (bI p.2.1.sums) :: .box u.2.2 3 (bI p.2.1.last) :: .obj l (.loop rec) :: .obj D (.deferred (some [])) :: .row v57 (es).length 3 1 :: .box b6 154 [.row v57 1 (es)]::H:List HO)) (List.map_append (f:=cI) (l₁:=pre) (l₂:=[x])).symm⟩
       ·
        rintro r K ⟨rfl,v,es,hne,rfl⟩
        exact ⟨_,(List.perm_append_comm.append_right _:(([_,_,_] ++ [_,_,_,_])++H).Perm _),rec,_,rfl,by rw [hst];decide,hpe,v,es.map cI,fun h=>hne (List.map_eq_nil_iff.1 h),rfl⟩
      ·
       obtain ⟨v,es,hne,rfl⟩:=hZ
       refine ⟨_,GS.cell (H2:=_::_::_::_::_::_::_) 2 0 rfl rfl rfl rfl G8,?_⟩
       refine AWD.draw mixed (fun H'=>_∈H') (List.mem_of_getElem? (i:=2) rfl) (by kernel_rfl) ?_
       refine Qn 0 rfl (OpP.Aah (fun k=>Ax (k:=k) (c:=.sl _ _) Ai rfl rfl rfl rfl) (fun _ h=>h)) ?_
       refine Qn 1 rfl N8 (Qn 2 rfl Wj ?_)
       refine Jv.done _ _ (by kernel_rfl) ?_
       refine ⟨0,rfl,[_,_],.cons (.tmp _ _ rfl) (.cons (.tmp _ _ rfl) .nil),H,.cons _ (.cons _ (.cons _ (.cons _ (.cons _ (.cons _ (.refl _)))))),?_⟩
       exact Eq.mpr (if_neg (by rw [hge];decide)) ⟨es,hne,rfl,rfl⟩

end Go.Proofs.YtkddpedfbicbeaaGreatDoor
