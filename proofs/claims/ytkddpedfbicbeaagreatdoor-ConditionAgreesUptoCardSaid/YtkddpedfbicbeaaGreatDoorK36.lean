/-
  Several texts in one: Y8, Y8b, Y8c. No condition.
-/
import Derived.Test.YtkddpedfbicbeaaGreatDoorAz
import Derived.Test.YtkddpedfbicbeaaGreatDoorK20
import Derived.Test.YtkddpedfbicbeaaGreatDoorY7b
import Derived.KernelRfl
set_option linter.unusedVariables false
set_option linter.unusedSimpArgs false
namespace Go.Proofs.YtkddpedfbicbeaaGreatDoor
open Go Go.Aw
set_option maxHeartbeats 3200000
set_option maxRecDepth 20000

theorem f_check (n:Int)(b:Bd):Ar Tryz.prog 174 [.int .i64 n,.agg (Rp b)] (.int .i64 (bdE n b)):=by
 refine Ar.body (n:=35) Ai Tryz.func174 rfl rfl rfl fun H=>?_
 refine Ah (Qp (Fx [Iq _,Iq _,Iq _]) (Qp Ap (Ag (AW.seq (Ah (Qp (Qf [Iq _,Iq _,Iq _]) (Qp Br (Qp Cf (Qp Bm ?_)))))))))
 refine Qg [] Qw (Qf [Iq _,Iq _,Iq _]) (Qg [(9,_)] Qw Br (Qg [] Qw Az ?_))
 refine AOL.Aav (y:=.bool _) _ [(10,_),(11,_)] rfl (sB.all ⟨tO.self _ _,tO.self _ _,trivial⟩) (fun hG=>U1 rfl rfl) rfl ?_
 refine Qp Ek (Qp Bm (Qg [] Qw (Qf [Iq _,Iq _]) (Qg [(15,_)] Qw Br (Qg [(16,_)] Qw Cf (Qp Ek (Qp Bm (Qg [] Qw (Qf [Iq _,Iq _]) (Qg [(20,_)] Qw Br (Qg [] Qw Az ?_)))))))))
 refine AOL.Aav (y:=.bool _) _ [(21,_),(22,_)] rfl (sB.all ⟨tO.self _ _,tO.self _ _,trivial⟩) (fun hG=>U1 rfl rfl) rfl ?_
 refine Qp Ek (Qp Bm (Qg [] Qw (Qf [Iq _]) (Qg [(26,_)] Qw Br (Qg [(27,_)] Qw Cf (Qp Ek (Qp Bm (Qg [] Qw (Qf [Iq _]) (Qg [(31,_)] Qw Br (Qg [(32,_)] Qw Hb ?_)))))))))
 refine Qp Ek (Ag (A2 (fun hc1=>?_) fun hc1=>?_))
 ·
  refine Ah (Qp Ap (Ag (Dq ?_)))
  refine Qr (Iq _) ?_
  exact Eq.trans rfl (congrArg (fun q:Int=>AV.int .i64 q) (if_pos hc1)).symm
 ·
  refine Bv (Ah (Qp Ap (Ag (AW.ret ?_))))
  refine Qr (Iq _) ?_
  exact Eq.trans rfl (congrArg (fun q:Int=>AV.int .i64 q) (Cz hc1)).symm
theorem oH (z:Zn):Ar Tryz.prog 167 [.agg (Th z)] (.int .i64 (I1 z)):=by
 refine Ar.body (n:=35) Ai Tryz.func167 rfl rfl rfl fun H=>?_
 refine Ah (Qp (Fx [Iq _,_]) (Qp Ap (Ag (AW.seq (AW.block (Ah (Qp (Qf [Iq _,_]) (Qp Br (Qp Cf ?_)))))))))
 refine Qp Bm (Qg [] Qw (Qf [Iq _,_]) (Qg [(11,_)] Qw Br (Qg [(12,_)] Qw Hb (Qp Ek (Qp Bc (Ag (A2 (fun hc1=>?_) fun hc1=>?_)))))))
 ·
  refine Ah (Qp Ap (Ag (AW.ret (A9 (Al ?_)))))
  refine Qr (Iq _) ?_
  exact Eq.trans rfl (congrArg (fun q:Int=>AV.int .i64 q) (if_pos hc1)).symm
 ·
  refine Ah (Qp (Qf [_]) (Qp Dg ?_))
  refine Qp (Ak (n:=z.bs.length) Ai rfl rfl rfl (by simp)) ?_
  refine Qp Hb (Qp Bc (Ag (A2 (fun hc2=>?_) fun hc2=>?_)))
  ·
   refine Ah (Qp Ap (Ag (AW.ret (A9 (Al ?_)))))
   refine Qr (Iq _) ?_
   exact Eq.trans rfl (congrArg (fun q:Int=>AV.int .i64 q) ((Cz hc1).trans (if_pos hc2))).symm
  ·
   refine AW.skip (Bp (Ae (AW.seq (Ah (Qp (Qf [_]) (Qp Dg ?_))))))
   refine Qp (Ak (n:=z.bs.length) Ai rfl rfl rfl (by simp)) ?_
   refine Qp Az (Ag (AW.block ?_))
   refine AW.sllen 21 rfl fun hlen=>?_
   simp only [List.length_map,maxLen] at hlen
   refine AW.Aau (fun (k:Nat)=>(⟨[(1,.ptr (Th z)),(21,.sl 3 (z.bs.map Rp)),(22,.int .i64 z.bs.length),(23,.int .i64 (k:Int))],H,35⟩:St)) (fun (k:Nat)=>k≤z.bs.length∧Aq (bdE z.n) (z.bs.take k)=0) (fun (k:Nat)=>z.bs.length-k) (0) ?_ (GS.weaken ⟨rfl,rfl,rfl,rfl,trivial⟩ (.refl _)) ?_
   · exact ⟨Nat.zero_le _,rfl⟩
   ·
    rintro k hR
    refine Ah (Qp Cf (Ag (AW.seq (A2 (fun hc3=>?_) fun hc3=>?_))))
    ·
     obtain ⟨c,hc⟩:=B1 hc3
     have hlt:=A8 hc
     refine Bv (AW.seq (AW.block (Ah ?_)))
     refine Qp (Af (c:=[Iq _,Iq _,Iq _]) Ai rfl rfl rfl rfl rfl rfl (by omega) (Bg hc)) ?_
     refine Qp (Cd [Iq _,Iq _,Iq _]) ?_
     refine Qe (Aj (l:=[.int .i64 0,.int .i64 0,.int .i64 0]) (by kernel_rfl)) ?_
     rintro _ _ ⟨b4,rfl,rfl⟩
     refine Cq 0 [Iq _,Iq _,Iq _] (_::_) ?_
     refine AOL.ghost (GS.Aat (t:=4) 0 rfl rfl) ?_
     refine Db (Qp (Qf [Iq _,_]) (Qp Br (Qp (Cd [Iq _,Iq _,Iq _]) ?_)))
     refine Qp (Qc rfl (f_check z.n c)) ?_
     refine Qp Ap (Db (Qp Az (Qp Ci (Ag (A2 (fun hc4=>?_) fun hc4=>?_)))))
     ·
      refine Ah (Qp Az (Qp Ap (Ag (AW.ret (A9 (Al (Al (A9 (Al ?_)))))))))
      refine Qr (Iq _) ?_
      exact Eq.trans rfl (congrArg (fun q:Int=>AV.int .i64 q) (((Cz hc1).trans (Cz hc2)).trans (N4 hR.2 hc (by simpa using hc4)))).symm
     ·
      refine AW.skip (Bp (Ae (AW.region (Qp Fu (Qp Az (Ag ?_))))))
      refine ⟨k+1,?_,?_,GS.weaken ⟨rfl,rfl,rfl,rfl,trivial⟩ (.refl _)⟩
      · exact ⟨hlt,Rb hR.2 hc (by simpa using hc4)⟩
      · omega
    ·
     have hte:=Cv hc3
     have hall:=hR.2
     rw [hte] at hall
     refine AW.exit ?_
     refine A3 (A3 (Bq (Ae (Ah (Qp Ap (Ag (AW.ret ?_)))))))
     refine Qr (Iq _) ?_
     exact Eq.trans rfl (congrArg (fun q:Int=>AV.int .i64 q) (((Cz hc1).trans (Cz hc2)).trans hall)).symm
theorem iU (H:List HO)(n:Nat)(h0:0<n)(hn:n≤1048576):Dr Tryz.prog 175 H [.sl 1 [[.int .i64 (-1)]],.int .i64 (n:Int)] (fun r H'=>∃b,r = .val (.slice (some ⟨b,0,none⟩) n n)∧H' = .box b 3 (bI (N8 n))::H):=by
 have hmx:1048576≤maxLen:=by decide
 refine Dr.body (n:=48) Ai Tryz.func175 rfl rfl rfl ?_
 refine Ah ?_
 refine Qp (Bz (z:=1) rfl) ?_
 refine Ag (AW.seq (Ah (Qp Az (Qp Cf (Ag (A2 (fun hc1=>?_) fun hc1=>?_))))))
 ·
  have:=of_decide_eq_true hc1
  omega
 ·
  refine Bv (Ah (Qp C5 ?_))
  refine Qp (Ak (n:=1) Ai rfl rfl rfl (rfl)) ?_
  refine Qp (kV (m:=1) Ai rfl rfl rfl rfl rfl (rfl)) ?_
  refine Qp Az ?_
  refine Qp (kV (m:=(n:Int)) Ai rfl rfl rfl rfl rfl (u64_in hn)) ?_
  refine Qp (Qc rfl (kMul1 n hn)) ?_
  refine Qp Lv ?_
  refine Qp (Ch (v:=.int .u64 _) rfl rfl) ?_
  refine Qp (Ch (v:=.int .u64 _) rfl rfl) ?_
  refine Qp (C8 (v:=.int .u64 _) rfl) ?_
  refine Qp (C8 (v:=.int .u64 _) rfl) ?_
  refine Ag (AW.seq (Ah ?_))
  refine Qp (Bk (v:=.int .u64 _) rfl) ?_
  refine Qp Hb (Qp Bm ?_)
  refine AOL.Aav (y:=.int .u64 _) _ [] rfl (sB.all trivial) (fun hG=>Bk (v:=.int .u64 _) rfl) rfl ?_
  refine Qg [(24,_)] Qw Hb (Qp Ek (Ag (A2 (fun hc2=>?_) fun hc2=>?_)))
  ·
   exact absurd hc2 (by simp;omega)
  ·
   refine Bv (Ah ?_)
   refine Qp (Bk (v:=.int .u64 _) rfl) ?_
   refine Qp (kV (m:=(n:Int)) Ai rfl rfl rfl rfl rfl (i64_in hn)) ?_
   refine Qe (Oj (n:=n) Ai rfl rfl rfl rfl rfl rfl rfl (by show 8*n≤_;omega) (by omega)) ?_
   rintro _ _ ⟨b30,rfl,rfl⟩
   refine Qp Oc ?_
   refine AOL.ghost (GS.cells 0 rfl ((dO n).trans (congrArg bI (show List.replicate n 0=Lq n 0 by simp [Lq])))) ?_
   refine Db (Qp Hw (Qp C5 ?_))
   refine Qe (uR (k:=0) (m:=1) (cs':=bI (Lq n 1)) (H2:=_::_) Ai rfl rfl rfl rfl rfl rfl rfl (by simp) (G2 rfl) (Nat.min_eq_left (by show 1≤n;omega)) (by rw [Yo,Xz (by omega)];omega) (lK h0) rfl) ?_
   rintro _ _ ⟨rfl,rfl⟩
   refine Qp Ap (Ag (AW.seq (AW.block ?_)))
   refine AW.Aau (fun (k:Nat)=>(⟨[(7,.val (.slice (some ⟨b30,0,none⟩) n n)),(8,.int .i64 (k:Int))],.box b30 3 (bI (Lq n k))::H,48⟩:St)) (fun (k:Nat)=>1≤k∧k≤n) (fun (k:Nat)=>n-k) (1) ?_ (GS.weaken ⟨rfl,rfl,trivial⟩ (.refl _)) ?_
   · exact ⟨Nat.le_refl _,h0⟩
   ·
    rintro k hR
    refine AW.seq (Ah (Qp Az (Qp Hw ?_)))
    refine Qp (aQ Ai rfl rfl rfl) ?_
    refine Qp Cf (Ag (A2 (fun hc3=>?_) fun hc3=>?_))
    ·
     have hlt:k<n:=by have:=of_decide_eq_true hc3;omega
     refine Bv (AW.block ?_)
     refine AW.draw mixed (fun _=>True) trivial (by kernel_rfl) ?_
     refine Qn 0 rfl Az (Qn 1 rfl Hw (Qn 2 rfl Az ?_))
     refine Qn 3 rfl (U2 (l:=k) (h:=n) (o':=k) Ai rfl rfl rfl rfl rfl (⟨_,rfl⟩) (rfl) (by omega) (by omega) (by omega) (by omega) (by simp)) ?_
     refine Qn 4 rfl Hw (Qn 5 rfl Az ?_)
     refine Qn 6 rfl (U2 (l:=0) (h:=k) (o':=0) Ai rfl rfl rfl rfl rfl (rfl) (⟨_,rfl⟩) (by omega) (by omega) (by omega) (by omega) (rfl)) ?_
     refine Js.eff _ _ 7 _ _ rfl (by kernel_rfl) rfl rfl (rZ (k:=0) (m:=min k (n-k)) (cs':=bI (Lq n (k+min k (n-k)))) (H2:=_::_) Ai rfl rfl rfl rfl rfl rfl rfl (bI_sc _) (by first | rfl | (simp only [Nat.sub_zero];done) | (simp only [Nat.sub_zero];rfl)) (by rw [Yo,Xz hR.2];omega) (by rw [Yo,Xz hR.2];omega) (sS (by omega) (by omega)) rfl) (fun _ _ _=>trivial) ?_
     rintro _ _ ⟨rfl,rfl⟩
     refine Qn 8 rfl Fu (Qn 9 rfl Ap ?_)
     refine Js.done _ _ (by kernel_rfl) ?_
     refine Bp (Ae ?_)
     refine ⟨k+min k (n-k),?_,?_,GS.weaken ⟨rfl,rfl,trivial⟩ (.refl _)⟩
     · omega
     · omega
    ·
     have hkn:k=n:=by have:=of_decide_eq_false hc3;omega
     refine AW.exit ?_
     refine A3 (A3 (Bq (Ae (Ah (Qp Hw (Qp Oc (Ag (AW.ret ?_))))))))
     refine ⟨.inr rfl,[.val _],.cons (.tmp _ _ rfl) <| .nil,_,.refl _,?_⟩
     exact ⟨b30,rfl,congrArg (fun l=>HO.box b30 3 (bI l)::H) ((congrArg (Lq n) hkn).trans (sI n))⟩
theorem Aag (bd b1 b2 n:Nat)(bs:List Bd)(hz:znOK n bs)(C:Int)(hC:0≤C)(hC2:C≤4000000000000000000)(d:Ds)(hd:dsOK n C d)(R:List HO):Dr Tryz.prog 176 (.box bd 231 [.val (.slice (some ⟨b1,0,none⟩) n n),.val (.slice (some ⟨b2,0,none⟩) n n)] :: .box b1 3 (bI d.sums) :: .box b2 3 (bI d.last)::R) [.val (.pointer (some ⟨bd,0,none⟩)),.agg (Th (zn n bs))] (fun r H'=>r = .int .i64 (Jn bs d).2∧H' = .box bd 231 [.val (.slice (some ⟨b1,0,none⟩) n n),.val (.slice (some ⟨b2,0,none⟩) n n)] :: .box b1 3 (bI (Jn bs d).1.sums) :: .box b2 3 (bI (Jn bs d).1.last)::R):=by
 have hbl:=hz.len
 have hn64:=hz.n64
 have hbb:Jm=140737488355329:=rfl
 refine Dr.body (n:=58) Ai Tryz.func176 rfl rfl rfl ?_
 refine Ah (Qp (Fx [Iq _,_]) (Qp Ap (Db (Qp Ap (Ag (AW.seq (Ah (Qp (Qf [_]) (Qp Dg ?_)))))))))
 refine Qp (Ak (n:=bs.length) Ai rfl rfl rfl (by simp [zn])) ?_
 refine Qp Az (Ag (AW.block ?_))
 refine AW.Aau (fun (p:Nat×Ds×Int)=>(⟨[(0,.val (.pointer (some ⟨bd,0,none⟩))),(3,.ptr (Th (zn n bs))),(5,.int .i64 p.2.2),(10,.sl 3 (bs.map Rp)),(11,.int .i64 bs.length),(12,.int .i64 (p.1:Int))],.box bd 231 [.val (.slice (some ⟨b1,0,none⟩) n n),.val (.slice (some ⟨b2,0,none⟩) n n)] :: .box b1 3 (bI p.2.1.sums) :: .box b2 3 (bI p.2.1.last)::R,58⟩:St)) (fun (p:Nat×Ds×Int)=>p.1≤bs.length∧Jn bs d=F7 p.1 (bs.drop p.1) p.2∧dsOK n (C+(p.1:Int)*Jm) p.2.1) (fun (p:Nat×Ds×Int)=>bs.length-p.1) ((0,d,-1)) ?_ (GS.weaken ⟨rfl,rfl,rfl,rfl,rfl,rfl,trivial⟩ (.refl _)) ?_
 · exact ⟨Nat.zero_le _,rfl,by simpa using hd⟩
 ·
  rintro p hR
  have hd2:=hR.2.2
  have hpl:=hR.1
  have hkb:(p.1:Int)*Jm≤256*Jm:=by unfold Jm;omega
  have hks:((p.1+1:Nat):Int)*Jm=(p.1:Int)*Jm+Jm:=by push_cast;rw [Int.add_mul];omega
  refine Ah (Qp Cf (Ag (AW.seq (A2 (fun hc1=>?_) fun hc1=>?_))))
  ·
   obtain ⟨c,hc⟩:=B1 hc1
   have hlt:=A8 hc
   have hcm:=List.mem_of_getElem? hc
   have hb:=hz.bd c hcm
   have hm:=hz.most c hcm
   have hi1:=hd2.ix hb.2.2.1 hb.2.2.2
   refine Bv (AW.seq (AW.block (Ah (Qp Az ?_))))
   refine Qp (Af (c:=[.int .i64 c.x,.int .i64 c.y,.int .i64 c.most]) Ai rfl rfl rfl rfl rfl rfl (by omega) (jV hc)) ?_
   refine Qp (Cd [Iq _,Iq _,Iq _]) ?_
   refine Qe (Aj (l:=[.int .i64 0,.int .i64 0,.int .i64 0]) (by kernel_rfl)) ?_
   rintro _ _ ⟨b7,rfl,rfl⟩
   refine Qp Ap ?_
   refine Cq 0 [Iq _,Iq _,Iq _] (_::_::_::_::_) ?_
   refine AOL.ghost (GS.Aat (t:=7) 0 rfl rfl) ?_
   refine Ag (AW.seq ?_)
   refine AW.draw mixed (fun H'=>_∈H'∧_∈H') ⟨(List.mem_of_getElem? (i:=0) rfl),(List.mem_of_getElem? (i:=1) rfl)⟩ (by kernel_rfl) ?_
   refine Qn 0 rfl Hw ?_
   refine Qn 1 rfl (Bh rfl) ?_
   refine Qn 2 rfl Iu ?_
   refine Qn 3 rfl (OpP.Aax (fun k=>At (k:=k) (c:=.val _) Ai rfl rfl rfl rfl) (fun _ h=>h.1)) ?_
   refine Qn 4 rfl (Qf [Iq _,Iq _]) (Qn 5 rfl Br ?_)
   refine Qn 6 rfl (B7 (o':=c.y.toNat) Ai rfl rfl rfl rfl rfl (hb.2.2.1) (by have:=hb.2.2.2;omega) (cC _)) ?_
   refine Qn 7 rfl (OpP.Aax (fun k=>At (k:=k) (c:=.int .i64 (Eu p.2.1.sums c.y)) Ai rfl rfl rfl (Yz hb.2.2.1 (by rw [hd2.s];exact hb.2.2.2))) (fun _ h=>h.2)) ?_
   refine Qn 8 rfl (Qf [Iq _]) (Qn 9 rfl Br (Qn 10 rfl Fu (Qn 11 rfl Ap ?_)))
   refine Js.done _ _ (by kernel_rfl) ?_
   refine Ae (AW.seq ?_)
   refine AW.draw mixed (fun H'=>_∈H'∧_∈H') ⟨(List.mem_of_getElem? (i:=0) rfl),(List.mem_of_getElem? (i:=1) rfl)⟩ (by kernel_rfl) ?_
   refine Qn 0 rfl Az (Qn 1 rfl Hw ?_)
   refine Qn 2 rfl (Bh rfl) ?_
   refine Qn 3 rfl Iu ?_
   refine Qn 4 rfl (OpP.Aax (fun k=>At (k:=k) (c:=.val _) Ai rfl rfl rfl rfl) (fun _ h=>h.1)) ?_
   refine Qn 5 rfl (Qf [Iq _,Iq _,Iq _]) (Qn 6 rfl Br ?_)
   refine Qn 7 rfl (B7 (o':=c.x.toNat) Ai rfl rfl rfl rfl rfl (hb.1) (by have:=hb.2.1;omega) (cC _)) ?_
   refine Qn 8 rfl (OpP.Aax (fun k=>At (k:=k) (c:=.int .i64 (Eu p.2.1.sums c.x)) Ai rfl rfl rfl (Yz hb.1 (by rw [hd2.s];exact hb.2.1))) (fun _ h=>h.2)) ?_
   refine Qn 9 rfl Cf ?_
   refine Js.done _ _ (by kernel_rfl) ?_
   refine Ae (A2 (fun hc2=>?_) fun hc2=>?_)
   ·
    refine AW.seq ?_
    refine AW.draw mixed (fun H'=>_∈H') (List.mem_of_getElem? (i:=0) rfl) (by kernel_rfl) ?_
    refine Qn 0 rfl Hw ?_
    refine Qn 1 rfl (Bh rfl) ?_
    refine Qn 2 rfl Iu ?_
    refine Qn 3 rfl (OpP.Aax (fun k=>At (k:=k) (c:=.val _) Ai rfl rfl rfl rfl) (fun _ h=>h)) ?_
    refine Qn 4 rfl (Qf [Iq _,Iq _,Iq _]) (Qn 5 rfl Br (Qn 6 rfl Hw ?_))
    refine Qn 7 rfl (Bh rfl) ?_
    refine Qn 8 rfl Iu ?_
    refine Qn 9 rfl (OpP.Aax (fun k=>At (k:=k) (c:=.val _) Ai rfl rfl rfl rfl) (fun _ h=>h)) ?_
    refine Qn 10 rfl (Qf [Iq _,Iq _,Iq _]) (Qn 11 rfl Br (Qn 12 rfl Az (Qn 13 rfl Az ?_)))
    refine Qn 14 rfl (B7 (o':=c.x.toNat) Ai rfl rfl rfl rfl rfl (hb.1) (by have:=hb.2.1;omega) (cC _)) ?_
    refine Js.eff _ _ 15 _ _ rfl (by kernel_rfl) rfl rfl (C6 (k:=1) (v:=Iq _) (cs':=bI (p.2.1.sums.set c.x.toNat (Eu p.2.1.sums c.y+c.most))) (H2:=_::_::_::_) Ai rfl rfl rfl rfl rfl rfl (dV (by rw [hd2.s];omega)) (bG (by rw [hd2.s];omega)) rfl) (by rintro _ _ ⟨rfl,rfl⟩;simp) ?_
    rintro _ _ ⟨rfl,rfl⟩
    refine Qn 16 rfl (B7 (o':=c.x.toNat) Ai rfl rfl rfl rfl rfl (hb.1) (by have:=hb.2.1;omega) (cC _)) ?_
    refine Js.last _ _ 17 _ _ rfl (by kernel_rfl) rfl rfl (C6 (k:=2) (v:=Iq _) (cs':=bI (p.2.1.last.set c.x.toNat (p.1:Int))) (H2:=_::_::_::_) Ai rfl rfl rfl rfl rfl rfl (dV (by rw [hd2.l];omega)) (bG (by rw [hd2.l];omega)) rfl) (by kernel_rfl) ?_
    rintro _ _ ⟨rfl,rfl⟩
    refine Ae (AW.region (Qp (Qf [Iq _,Iq _,Iq _]) (Qp Br (Qp Ap (AOL.nil (Bp (Ae (AW.region (Qp Fu ?_)))))))))
    refine Qp Az (Ag ?_)
    refine ⟨(p.1+1,⟨p.2.1.sums.set c.x.toNat (Eu p.2.1.sums c.y+c.most),p.2.1.last.set c.x.toNat (p.1:Int)⟩,c.x),?_,?_,GS.weaken ⟨rfl,rfl,rfl,rfl,rfl,rfl,trivial⟩ (.refl _)⟩
    · exact ⟨hlt,hR.2.1.trans ((Q7 hc).trans (congrArg _ (P4 hc2))),by have:=xS (i:=p.1) hd2 hb hm;rw [P4 hc2] at this;exact this.mono (by simp only [hks];omega)⟩
    · simp only;omega
   ·
    refine AW.skip (Bp (Ae (AW.region (Qp Fu (Qp Az (Ag ?_))))))
    refine ⟨(p.1+1,p.2),?_,?_,GS.weaken ⟨rfl,rfl,rfl,rfl,rfl,rfl,trivial⟩ (.refl _)⟩
    · exact ⟨hlt,hR.2.1.trans ((Q7 hc).trans (congrArg _ (Wq hc2))),hd2.mono (by simp only [hks];omega)⟩
    · simp only;omega
  ·
   have hde:=Df hc1
   have hfin:=hR.2.1.trans (aD hde)
   refine AW.exit ?_
   refine A3 (A3 (Bq (Ae (Ah (Qp Az (Qp Ap (Ag (AW.ret ?_))))))))
   refine ⟨.inr rfl,[Iq _],.cons (.tmp _ _ rfl) <| .nil,_,.refl _,?_⟩
   exact ⟨congrArg (fun q:Ds×Int=>AV.int .i64 q.2) hfin.symm,congrArg (fun q:Ds×Int=>(.box bd 231 [.val (.slice (some ⟨b1,0,none⟩) n n),.val (.slice (some ⟨b2,0,none⟩) n n)] :: .box b1 3 (bI q.1.sums) :: .box b2 3 (bI q.1.last)::R:List HO)) hfin.symm⟩
theorem f_back (bd n:Nat)(bs:List Bd)(f:Int):Ar Tryz.prog 177 [.val (.pointer (some ⟨bd,0,none⟩)),.agg (Th (zn n bs)),.int .i64 f] (.fn (.func 189) [] [.ptr [.int .i64 f],.ptr [.val (.pointer (some ⟨bd,0,none⟩))],.ptr (Th (zn n bs))]):=by
 refine Ar.body (n:=8) Ai Tryz.func177 rfl rfl rfl fun H=>?_
 refine Ah ?_
 refine Qp (aO (v:=.val _) (cs:=[_]) rfl rfl rfl) ?_
 refine Qp (Fx [Iq _,_]) ?_
 refine Qp (aO (v:=Iq _) (cs:=[Iq _]) rfl rfl rfl) ?_
 refine Qp Oc (Db ?_)
 refine Qp (Be (l:=[]) (l':=[.ptr _,.ptr _,.ptr _]) rfl rfl) ?_
 refine Qp (C8 (v:=.fn _ _ _) rfl) ?_
 refine Ag (AW.ret ?_)
 refine Qr (.fn _ _ _) ?_
 rfl

set_option maxHeartbeats 1600000
set_option maxRecDepth 20000

theorem f_back1 (l:Nat)(rec:Loop)(bd b1 b2 n:Nat)(bs:List Bd)(d:Ds)(hn:n≤64)(hdl:d.last.length=n)(G:Value→List Int→List HO)(hp:rec.params.size=1)(i0:Nat)(hi:∀v pre,(G v pre)[i0]? = some (.obj l (.loop rec)))(f:Int)(hc:Mq bs d f (n+1) f=true)(hY:∀v pre x,pre.length≤64→lN Tryz.prog l rec (.box bd 231 [.val (.slice (some ⟨b1,0,none⟩) n n),.val (.slice (some ⟨b2,0,none⟩) n n)] :: .box b1 3 (bI d.sums) :: .box b2 3 (bI d.last)::G v pre) [.int .i64 x] (fun r H'=>r = .bool true∧∃v',H' = .box bd 231 [.val (.slice (some ⟨b1,0,none⟩) n n),.val (.slice (some ⟨b2,0,none⟩) n n)] :: .box b1 3 (bI d.sums) :: .box b2 3 (bI d.last)::G v' (pre ++ [x])))(v0:Value):Dr Tryz.prog 189 (.box bd 231 [.val (.slice (some ⟨b1,0,none⟩) n n),.val (.slice (some ⟨b2,0,none⟩) n n)] :: .box b1 3 (bI d.sums) :: .box b2 3 (bI d.last)::G v0 []) [.val (.func (.yield l) #[] #[]),.ptr [.int .i64 f],.ptr [.val (.pointer (some ⟨bd,0,none⟩))],.ptr (Th (zn n bs))] (fun r H'=>r = .tuple []∧∃v' es,es≠[]∧H' = .box bd 231 [.val (.slice (some ⟨b1,0,none⟩) n n),.val (.slice (some ⟨b2,0,none⟩) n n)] :: .box b1 3 (bI d.sums) :: .box b2 3 (bI d.last)::G v' es):=by
 refine Dr.body (n:=31) Ai Tryz.func189 rfl rfl rfl ?_
 refine Ah (Qp Br (Qp Ap (Ag (AW.block ?_))))
 refine AW.Aau (fun (p:Int×List Int×Value)=>(⟨[(0,.val (.func (.yield l) #[] #[])),(1,.ptr [.int .i64 f]),(2,.ptr [.val (.pointer (some ⟨bd,0,none⟩))]),(3,.ptr (Th (zn n bs))),(5,.int .i64 p.1)],.box bd 231 [.val (.slice (some ⟨b1,0,none⟩) n n),.val (.slice (some ⟨b2,0,none⟩) n n)] :: .box b1 3 (bI d.sums) :: .box b2 3 (bI d.last)::G p.2.2 p.2.1,31⟩:St)) (fun (p:Int×List Int×Value)=>p.2.1.length≤n∧Mq bs d f (n+1-p.2.1.length) p.1=true) (fun (p:Int×List Int×Value)=>n+1-p.2.1.length) ((f,[],v0)) ?_ (GS.weaken ⟨rfl,rfl,rfl,rfl,rfl,trivial⟩ (.refl _)) ?_
 · exact ⟨Nat.zero_le _,hc⟩
 ·
  rintro p hR
  have hpl:=hR.1
  refine (jC (uW hR.2)).elim fun c ok=>?_
  refine AW.seq (AW.seq ?_)
  refine AW.regionY rfl (by kernel_rfl) ?_
  refine Qp Hw (Qp Qlv ?_)
  refine Qp (Bh rfl) ?_
  refine Qp Iu ?_
  refine AOL.Aay (At (k:=0) (c:=.val _) Ai rfl rfl rfl rfl) rfl rfl ?_
  refine Qp Az ?_
  refine Qp (B7 (o':=p.1.toNat) Ai rfl rfl rfl rfl rfl (ok.a0) (by have:=ok.al;omega) (cC _)) ?_
  refine AOL.Aay (At (k:=2) (c:=.int .i64 (Eu d.last p.1)) Ai rfl rfl rfl (Yz ok.a0 ok.al)) rfl rfl ?_
  refine AOL.nil ?_
  refine ⟨l,rec,_,⟨i0+3,hi p.2.2 p.2.1⟩,rfl,hp.symm,rfl,hY p.2.2 p.2.1 (Eu d.last p.1) (by omega),?_⟩
  rintro _ _ ⟨rfl,v1,rfl⟩
  refine Ae (A2 (fun hc1=>?_) fun hc1=>?_)
  ·
   refine Bv (AW.block (AW.seq ?_))
   refine AW.draw mixed (fun H'=>_∈H'∧_∈H') ⟨(List.mem_of_getElem? (i:=0) rfl),(List.mem_of_getElem? (i:=2) rfl)⟩ (by kernel_rfl) ?_
   refine Qn 0 rfl (Qf [_]) (Qn 1 rfl Dg (Qn 2 rfl Qlv ?_))
   refine Qn 3 rfl (Bh rfl) ?_
   refine Qn 4 rfl Iu ?_
   refine Qn 5 rfl (OpP.Aax (fun k=>At (k:=k) (c:=.val _) Ai rfl rfl rfl rfl) (fun _ h=>h.1)) ?_
   refine Qn 6 rfl Az ?_
   refine Qn 7 rfl (B7 (o':=p.1.toNat) Ai rfl rfl rfl rfl rfl (ok.a0) (by have:=ok.al;omega) (cC _)) ?_
   refine Qn 8 rfl (OpP.Aax (fun k=>At (k:=k) (c:=.int .i64 (Eu d.last p.1)) Ai rfl rfl rfl (Yz ok.a0 ok.al)) (fun _ h=>h.2)) ?_
   refine Qn 9 rfl (Af (c:=[.int .i64 c.x,.int .i64 c.y,.int .i64 c.most]) Ai rfl rfl rfl rfl rfl rfl (ok.l0) (jV ok.at_)) ?_
   refine Qn 10 rfl (Qf [Iq _,Iq _]) (Qn 11 rfl Br (Qn 12 rfl Ap ?_))
   refine Js.done _ _ (by kernel_rfl) ?_
   refine Ae (Ah (Qp Az (Qp Br (Qp A6 (Ag (A2 (fun hc2=>?_) fun hc2=>?_))))))
   ·
    refine AW.ret (A9 (Al (A9 ?_)))
    refine ⟨.inr rfl,[],.nil,_,.refl _,?_⟩
    exact ⟨rfl,v1,p.2.1 ++ [Eu d.last p.1],by simp,rfl⟩
   ·
    refine AW.skip (Bp (Ae ?_))
    refine ⟨(c.y,p.2.1 ++ [Eu d.last p.1],v1),?_,?_,GS.weaken ⟨rfl,rfl,rfl,rfl,rfl,trivial⟩ (.refl _)⟩
    ·
     have h9:=gV hR.2 ok hc2
     exact ⟨by simp only [List.length_append,List.length_singleton];omega,by simp only [List.length_append,List.length_singleton];rw [show n+1-(p.2.1.length+1)=n+1-p.2.1.length-1 by omega];exact h9.1⟩
    ·
     have h9:=gV hR.2 ok hc2
     simp only [List.length_append,List.length_singleton];omega
  ·
   cases hc1

set_option maxHeartbeats 3200000
set_option maxRecDepth 20000

theorem nH (n:Nat)(bs:List Bd)(hz:znOK n bs)(hW:decide ((Ed (zn n bs)).2<0)=false→Nx n bs=true)(H:List HO):Dr Tryz.prog 168 H [.agg (Th (zn n bs))] (fun r H'=>if decide ((Ed (zn n bs)).2<0) then (∃b,r = .tuple [.val (.slice (some ⟨b,0,none⟩) n n),.val (.slice none 0 0)]∧H' = .box b 3 (bI (Ed (zn n bs)).1.sums)::H) else (∃es,es≠[]∧r = .tuple [.val (.slice none 0 0),.sl 1 es]∧H'=H)):=by
 have hmx:1048576≤maxLen:=by decide
 have hn1:=hz.n1
 have hn64:=hz.n64
 have hzn:(zn n bs).n=(n:Int):=rfl
 have hbb:Jm=140737488355329:=rfl
 refine Dr.bodyX (n:=59) Ai Tryz.func168 rfl rfl rfl ?_
 refine AWX.seq ?_
 refine AW.region (Qp (Fx [Iq _,_]) (Qp Oc (Qp Oc (Ag ?_))))
 refine AWX.cut (fun (u:Nat×Nat×Nat)=>(⟨[(1,.ptr (Th (zn n bs))),(4,.val (.pointer (some ⟨u.1,0,none⟩)))],.box u.1 231 [.val (.slice (some ⟨u.2.1,0,none⟩) n n),.val (.slice (some ⟨u.2.2,0,none⟩) n n)] :: .box u.2.1 3 (bI (⟨List.replicate n 0,N8 n⟩:Ds).sums) :: .box u.2.2 3 (bI (⟨List.replicate n 0,N8 n⟩:Ds).last)::H,59⟩:St)) (fun (u:Nat×Nat×Nat)=>True) ?_ ?_
 ·
  refine AW.draw mixed (fun _=>True) trivial (by kernel_rfl) ?_
  refine Qn 0 rfl (Qf [Iq _,_]) (Qn 1 rfl Br ?_)
  refine Qn 3 rfl (A0 (es:=[[Iq _]]) Ai rfl rfl rfl rfl rfl rfl rfl rfl rfl) ?_
  refine Qn 4 rfl (Qf [Iq _,_]) (Qn 5 rfl Br ?_)
  refine Js.two _ _ 2 6 _ _ _ _ rfl rfl (by kernel_rfl) rfl rfl rfl rfl (Oj (n:=n) Ai rfl rfl rfl rfl rfl rfl rfl (by show 8*n≤_;omega) (by omega)) (Fp (by kernel_rfl) rfl rfl (iU _ n hn1 (by omega))) (by rintro _ _ ⟨b10,rfl,rfl⟩;trivial) (by rintro _ _ ⟨b14,rfl,rfl⟩;trivial) ?_ ?_
  ·
   rintro _ _ ⟨b10,rfl,rfl⟩
   refine Js.eff _ _ 6 _ _ rfl (by kernel_rfl) rfl rfl (Fp (by kernel_rfl) rfl rfl (iU _ n hn1 (by omega))) (fun _ _ _=>trivial) ?_
   rintro _ _ ⟨b14,rfl,rfl⟩
   refine Qn 7 rfl (El [_,_]) ?_
   refine Js.eff _ _ 8 _ _ rfl (by kernel_rfl) rfl rfl (Uw (v:=.agg _) (cs:=[_,_]) rfl rfl (rfl)) (fun _ _ _=>trivial) ?_
   rintro _ _ ⟨b16,rfl,rfl⟩
   refine Qn 9 rfl Oc ?_
   refine Js.done _ _ (by kernel_rfl) ?_
   refine Ae ?_
   refine ⟨(b16,b10,b14),?_,GS.trans (GS.cells 2 rfl (dO n)) (GS.trans (GS.perm (List.Perm.cons _ (List.Perm.swap _ _ _))) (GS.weaken ⟨rfl,rfl,trivial⟩ (.refl _)))⟩
   trivial
  ·
   rintro _ _ ⟨b14,rfl,rfl⟩
   refine Js.eff _ _ 2 _ _ rfl (by kernel_rfl) rfl rfl (Oj (n:=n) Ai rfl rfl rfl rfl rfl rfl rfl (by show 8*n≤_;omega) (by omega)) (fun _ _ _=>trivial) ?_
   rintro _ _ ⟨b10,rfl,rfl⟩
   refine Qn 7 rfl (El [_,_]) ?_
   refine Js.eff _ _ 8 _ _ rfl (by kernel_rfl) rfl rfl (Uw (v:=.agg _) (cs:=[_,_]) rfl rfl (rfl)) (fun _ _ _=>trivial) ?_
   rintro _ _ ⟨b16,rfl,rfl⟩
   refine Qn 9 rfl Oc ?_
   refine Js.done _ _ (by kernel_rfl) ?_
   refine Ae ?_
   refine ⟨(b16,b10,b14),?_,GS.trans (GS.cells 1 rfl (dO n)) (GS.trans (GS.refl _) (GS.weaken ⟨rfl,rfl,trivial⟩ (.refl _)))⟩
   trivial
 ·
  rintro u _
  refine AWX.seq ?_
  refine AW.region (Qp Ap (Ag ?_))
  refine AWX.seq ?_
  refine Ah (Qp (Qf [Iq _,_]) (Qp Br (Qp Fu (Qp Az (Ag (AW.block ?_))))))
  refine AW.Aau (fun (p:Nat×Ds×Int)=>(⟨[(1,.ptr (Th (zn n bs))),(4,.val (.pointer (some ⟨u.1,0,none⟩))),(5,.int .i64 p.2.2),(19,.int .i64 ((n:Int)+1)),(20,.int .i64 (p.1:Int))],.box u.1 231 [.val (.slice (some ⟨u.2.1,0,none⟩) n n),.val (.slice (some ⟨u.2.2,0,none⟩) n n)] :: .box u.2.1 3 (bI p.2.1.sums) :: .box u.2.2 3 (bI p.2.1.last)::H,59⟩:St)) (fun (p:Nat×Ds×Int)=>p.1≤n+1∧Ed (zn n bs)=D2 bs (n+1-p.1) p.2∧dsOK n ((p.1:Int)*(256*Jm)) p.2.1∧(0<p.1→0≤p.2.2)) (fun (p:Nat×Ds×Int)=>n+1-p.1) ((0,⟨List.replicate n 0,N8 n⟩,-1)) ?_ (GS.weaken ⟨rfl,rfl,rfl,rfl,rfl,trivial⟩ (.refl _)) ?_
  · exact ⟨Nat.zero_le _,Nh n bs,by simpa using jF n,fun h=>absurd h (by simp)⟩
  ·
   rintro p hR
   have hd2:=hR.2.2.1
   have hpl:=hR.1
   have hC0:(0:Int)≤(p.1:Int)*(256*Jm):=by unfold Jm;omega
   have hC2:(p.1:Int)*(256*Jm)≤4000000000000000000:=by unfold Jm;omega
   have hks:((p.1+1:Nat):Int)*(256*Jm)=(p.1:Int)*(256*Jm)+256*Jm:=by push_cast;rw [Int.add_mul];omega
   refine Ah (Qp Cf (Ag (AW.seq (A2 (fun hc1=>?_) fun hc1=>?_))))
   ·
    have hlt:p.1<n+1:=by have:=of_decide_eq_true hc1;omega
    refine Bv (AW.seq (AW.block (Ah (Qp Hw (Qp (Cd [Iq _,_]) ?_)))))
    refine Qe (Fp (by kernel_rfl) rfl rfl (Dr.front3 (R:=_) 2 1 0 rfl rfl rfl rfl (Aag u.1 u.2.1 u.2.2 n bs hz _ hC0 hC2 p.2.1 hd2 _))) ?_
    rintro _ _ ⟨rfl,rfl⟩
    refine Qp Ap (Db (Qp Az (Qp Cf (Ag (A2 (fun hc2=>?_) fun hc2=>?_)))))
    ·
     have hend:=wT hR.2.1 hlt hc2
     refine Ah (Qp Hw ?_)
     refine Qp (Bh rfl) ?_
     refine Qp Iu ?_
     refine AOL.Aay (At (k:=0) (c:=.val _) Ai rfl rfl rfl rfl) rfl rfl ?_
     refine Qp Oc (Qp Oc (Ag (AW.ret (A9 (Al (Al (A9 (Al ?_))))))))
     refine ⟨.inr rfl,[.val _,.val _],.cons (.tmp _ _ rfl) <| .cons (.tmp _ _ rfl) <| .nil,_,.cons _ (.cons_cons _ (.cons _ (.refl _))),?_⟩
     exact Eq.mpr (if_pos (by rw [hend];exact hc2)) ⟨_,rfl,congrArg (fun q:Ds×Int=>(.box u.2.1 3 (bI q.1.sums)::H:List HO)) hend.symm⟩
    ·
     refine AW.skip (Bp (Ae (AW.region (Qp Fu (Qp Az (Ag ?_))))))
     refine ⟨(p.1+1,Jn bs p.2.1),?_,?_,GS.weaken ⟨rfl,rfl,rfl,rfl,rfl,trivial⟩ (.refl _)⟩
     · exact ⟨hlt,end_on hR.2.1 hlt hc2,(bM hz hd2).mono (by simp only [hks];omega),fun _=>by simpa using hc2⟩
     · simp only;omega
   ·
    have hge1:n+1≤p.1:=by have:=of_decide_eq_false hc1;omega
    have hend:=end_all hR.2.1 hge1
    have hge:decide ((Ed (zn n bs)).2<0)=false:=by rw [hend];have:=hR.2.2.2 (by omega);simpa using this
    have hws:=jX (hW hge) hend
    have hcy:=hws.2
    refine AW.exit ?_
    refine A3 (A3 (Bq (Ae ?_)))
    refine AWX.seq ?_
    refine Ah (Qp (Qf [Iq _,_]) (Qp Br (Qp Az (Ag (AW.block ?_)))))
    refine AW.Aau (fun (q:Nat×Int)=>(⟨[(1,.ptr (Th (zn n bs))),(4,.val (.pointer (some ⟨u.1,0,none⟩))),(5,.int .i64 q.2),(33,.int .i64 (n:Int)),(34,.int .i64 (q.1:Int))],.box u.1 231 [.val (.slice (some ⟨u.2.1,0,none⟩) n n),.val (.slice (some ⟨u.2.2,0,none⟩) n n)] :: .box u.2.1 3 (bI p.2.1.sums) :: .box u.2.2 3 (bI p.2.1.last)::H,59⟩:St)) (fun (q:Nat×Int)=>q.1≤n∧Kv bs p.2.1 n p.2.2=Kv bs p.2.1 (n-q.1) q.2∧Ll bs p.2.1 (n-q.1) q.2=true) (fun (q:Nat×Int)=>n-q.1) ((0,p.2.2)) ?_ (GS.weaken ⟨rfl,rfl,rfl,rfl,rfl,trivial⟩ (.refl _)) ?_
    · exact ⟨Nat.zero_le _,rfl,hws.1⟩
    ·
     rintro q hQ
     refine Ah (Qp Cf (Ag (AW.seq (A2 (fun hc3=>?_) fun hc3=>?_))))
     ·
      have hlt3:q.1<n:=by have:=of_decide_eq_true hc3;omega
      have hb9:=qP hQ.2.2 hlt3
      refine (jC hb9.1).elim fun c ok=>?_
      have hdl:=hd2.l
      refine Bv (AW.seq (AW.block ?_))
      refine AW.draw mixed (fun H'=>_∈H'∧_∈H') ⟨(List.mem_of_getElem? (i:=0) rfl),(List.mem_of_getElem? (i:=2) rfl)⟩ (by kernel_rfl) ?_
      refine Qn 0 rfl (Qf [_]) (Qn 1 rfl Dg (Qn 2 rfl Hw ?_))
      refine Qn 3 rfl (Bh rfl) ?_
      refine Qn 4 rfl Iu ?_
      refine Qn 5 rfl (OpP.Aax (fun k=>At (k:=k) (c:=.val _) Ai rfl rfl rfl rfl) (fun _ h=>h.1)) ?_
      refine Qn 6 rfl Az ?_
      refine Qn 7 rfl (B7 (o':=q.2.toNat) Ai rfl rfl rfl rfl rfl (ok.a0) (by have:=ok.al;omega) (cC _)) ?_
      refine Qn 8 rfl (OpP.Aax (fun k=>At (k:=k) (c:=.int .i64 (Eu p.2.1.last q.2)) Ai rfl rfl rfl (Yz ok.a0 ok.al)) (fun _ h=>h.2)) ?_
      refine Qn 9 rfl (Af (c:=[.int .i64 c.x,.int .i64 c.y,.int .i64 c.most]) Ai rfl rfl rfl rfl rfl rfl (ok.l0) (jV ok.at_)) ?_
      refine Qn 10 rfl (Qf [Iq _,Iq _]) (Qn 11 rfl Br (Qn 12 rfl Ap ?_))
      refine Js.done _ _ (by kernel_rfl) ?_
      refine Bp (Ae (AW.region (Qp Fu (Qp Az (Ag ?_)))))
      refine ⟨(q.1+1,c.y),?_,?_,GS.weaken ⟨rfl,rfl,rfl,rfl,rfl,trivial⟩ (.refl _)⟩
      · exact ⟨hlt3,sF hQ.2.1 hlt3 ok,by have:=hb9.2;rw [ok.pred] at this;exact this⟩
      · simp only;omega
     ·
      have hge3:n≤q.1:=by have:=of_decide_eq_false hc3;omega
      have hfr:Kv bs p.2.1 n p.2.2=q.2:=hQ.2.1.trans (by rw [show n-q.1=0 by omega];rfl)
      refine AW.exit ?_
      refine A3 (A3 (Bq (Ae ?_)))
      refine AWX.seq ?_
      refine AW.region ?_
      refine Qe (Aj (l:=[.val (.slice none 0 0)]) (by kernel_rfl)) ?_
      rintro _ _ ⟨b6,rfl,rfl⟩
      refine AOL.ghost (GS.cellRow 0 0 3 1 rfl rfl rfl rfl) ?_
      refine Ag ?_
      refine AWX.assoc ?_
      refine AW.region (Qp Hw (Qp (Cd [Iq _,_]) (Qp Az ?_)))
      refine Qp (Qc rfl (f_back u.1 n bs q.2)) ?_
      refine Ag ?_
      refine AWX.rangeTail Ai (fun H2=>∃v es,es≠[]∧H2 = .row v es.length 3 1 :: .box b6 154 [.row v 1 es]::(.box u.1 231 [.val (.slice (some ⟨u.2.1,0,none⟩) n n),.val (.slice (some ⟨u.2.2,0,none⟩) n n)] :: .box u.2.1 3 (bI p.2.1.sums) :: .box u.2.2 3 (bI p.2.1.last)::H)) rfl (by kernel_rfl) (fun rec D l hst hpe hps has hbo hsz htm=>?_) (fun D H2 hZ=>?_)
      ·
       have h6:=htm 6 _ rfl
       refine Dr.post (Dr.perm (List.perm_append_comm.append_right _:(([_,_,_,_] ++ [_,_,_])++H).Perm _) (f_back1 l rec u.1 u.2.1 u.2.2 n bs p.2.1 hz.n64 hd2.l (fun v pre=>.obj l (.loop rec) :: .obj D (.deferred (some [])) :: .row v ((pre.map cI)).length 3 1 :: .box b6 154 [.row v 1 ((pre.map cI))]::H) (by rw [hps];rfl) 0 (fun _ _=>rfl) q.2 (by rw [←hfr];exact hcy) (fun v pre x hpl=>?_) (.slice none 0 0))) ?_
       ·
        refine lN.of (sl:=[(53,.int .i64 x),(6,.val (.pointer (some ⟨b6,0,none⟩)))]) hst hpe hsz (by rw [hps];exact kU hsz rfl h6) ?_
        rw [has,hbo]
        refine AWr.region (by kernel_rfl) ?_
        refine Qp Ap (AOL.nil ?_)
        refine ⟨rfl,3,rfl,?_⟩
        refine AWr.block (AWr.region (by kernel_rfl) ?_)
        refine AOL.Aay (At (k:=6) (c:=.row _ _ _) Ai rfl rfl rfl rfl) rfl rfl ?_
        refine Qp Az ?_
        refine Qp (A0 (es:=[[Iq _]]) Ai rfl rfl rfl rfl rfl rfl rfl rfl rfl) ?_
        refine Qe (Dj (k:=5) Ai rfl rfl rfl rfl rfl rfl rfl rfl (G2 rfl) (Ff fun _=>rfl) (by simp;omega) (by simp [maxLen];omega)) ?_
        rintro _ _ ⟨v57,rfl,rfl⟩
        refine Cq 6 [_] (_::_::_::_::_::_::_::_) ?_
        refine AOL.nil ?_
        exact ⟨rfl,3,rfl,rfl,v57,congrArg (fun es:List (List AV)=>(.box u.1 231 [.val (.slice (some ⟨u.2.1,0,none⟩) n n),.val (.slice (some ⟨u.2.2,0,none⟩) n n)] :: .box u.2.1 3 (bI p.2.1.sums) :: .box u.2.2 3 (bI p.2.1.last) :: .obj l (.loop rec) :: .obj D (.deferred (some [])) :: .row v57 (es).length 3 1 :: .box b6 154 [.row v57 1 (es)]::H:List HO)) (List.map_append (f:=cI) (l₁:=pre) (l₂:=[x])).symm⟩
       ·
        rintro r K ⟨rfl,v,es,hne,rfl⟩
        exact ⟨_,(List.perm_append_comm.append_right _:(([_,_,_] ++ [_,_,_,_])++H).Perm _),rec,_,rfl,by rw [hst];decide,hpe,v,es.map cI,fun h=>hne (List.map_eq_nil_iff.1 h),rfl⟩
      ·
       obtain ⟨v,es,hne,rfl⟩:=hZ
       refine ⟨_,GS.cell (H2:=_::_::_::_::_::_::_) 2 0 rfl rfl rfl rfl G1,?_⟩
       refine AWD.draw mixed (fun H'=>_∈H') (List.mem_of_getElem? (i:=2) rfl) (by kernel_rfl) ?_
       refine Qn 0 rfl (OpP.Aax (fun k=>At (k:=k) (c:=.sl _ _) Ai rfl rfl rfl rfl) (fun _ h=>h)) ?_
       refine Qn 1 rfl Oc (Qn 2 rfl Xa ?_)
       refine Js.done _ _ (by kernel_rfl) ?_
       refine ⟨0,rfl,[_,_],.cons (.tmp _ _ rfl) (.cons (.tmp _ _ rfl) .nil),H,.cons _ (.cons _ (.cons _ (.cons _ (.cons _ (.cons _ (.refl _)))))),?_⟩
       exact Eq.mpr (if_neg (by rw [hge];decide)) ⟨es,hne,rfl,rfl⟩

end Go.Proofs.YtkddpedfbicbeaaGreatDoor
