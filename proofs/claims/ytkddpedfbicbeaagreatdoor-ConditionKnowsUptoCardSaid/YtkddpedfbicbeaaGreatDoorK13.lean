/-
  Several texts in one: Y8, Y8b, Y8c, Y8d, Y9b, Y10. No condition.
-/
import Derived.Test.YtkddpedfbicbeaaGreatDoorK01
import Derived.Test.YtkddpedfbicbeaaGreatDoorK07
import Derived.Test.YtkddpedfbicbeaaGreatDoorK12
import Derived.KernelRfl
namespace Go.Proofs.YtkddpedfbicbeaaGreatDoor
open Go Go.Aw
set_option maxHeartbeats 3200000
set_option maxRecDepth 20000
set_option linter.unusedVariables false
set_option linter.unusedSimpArgs false

theorem f_check (n:Int)(b:Bd):APure Tryz.prog 174 [.int .i64 n,.agg (cBd b)] (.int .i64 (bdE n b)):=by
 refine APure.body (n:=35) tok Tryz.func174 rfl rfl rfl fun H=>?_
 refine Qsr (Qp (Qbx [.int .i64 _,.int .i64 _,.int .i64 _]) ?_)
 refine Qp Qai ?_
 refine Qnn (AW.seq (Qsr (Qp (Qf [.int .i64 _,.int .i64 _,.int .i64 _]) ?_)))
 refine Qp Qli ?_
 refine Qp Qclt ?_
 refine Qp Qmb ?_
 refine Qg [] Qw (Qf [.int .i64 _,.int .i64 _,.int .i64 _]) ?_
 refine Qg [(9,_)] Qw Qli ?_
 refine Qg [] Qw Qmi ?_
 refine AOL.g (y:=.bool _) _ [(10,_),(11,_)] rfl (EntL.all ⟨Ent.self _ _,Ent.self _ _,trivial⟩) (fun hG=>P_geq rfl rfl) rfl ?_
 refine Qp Qpo ?_
 refine Qp Qmb ?_
 refine Qg [] Qw (Qf [.int .i64 _,.int .i64 _]) ?_
 refine Qg [(15,_)] Qw Qli ?_
 refine Qg [(16,_)] Qw Qclt ?_
 refine Qp Qpo ?_
 refine Qp Qmb ?_
 refine Qg [] Qw (Qf [.int .i64 _,.int .i64 _]) ?_
 refine Qg [(20,_)] Qw Qli ?_
 refine Qg [] Qw Qmi ?_
 refine AOL.g (y:=.bool _) _ [(21,_),(22,_)] rfl (EntL.all ⟨Ent.self _ _,Ent.self _ _,trivial⟩) (fun hG=>P_geq rfl rfl) rfl ?_
 refine Qp Qpo ?_
 refine Qp Qmb ?_
 refine Qg [] Qw (Qf [.int .i64 _]) ?_
 refine Qg [(26,_)] Qw Qli ?_
 refine Qg [(27,_)] Qw Qclt ?_
 refine Qp Qpo ?_
 refine Qp Qmb ?_
 refine Qg [] Qw (Qf [.int .i64 _]) ?_
 refine Qg [(31,_)] Qw Qli ?_
 refine Qg [(32,_)] Qw Qcgt ?_
 refine Qp Qpo ?_
 refine Qnn (Qif (fun hc1=>?_) fun hc1=>?_)
 ·
  refine Qsr (Qp Qai ?_)
  refine Qnn (Qrt (Qr (.int .i64 _) ?_))
  exact Eq.trans rfl (congrArg (fun q:Int=>AV.int .i64 q) (if_pos hc1)).symm
 ·
  refine Qst (Qsr (Qp Qai ?_))
  refine Qnn (AW.ret (Qr (.int .i64 _) ?_))
  exact Eq.trans rfl (congrArg (fun q:Int=>AV.int .i64 q) (ifF hc1)).symm
theorem f_Check (z:Zn):APure Tryz.prog 167 [.agg (cZn z)] (.int .i64 (zoneE z)):=by
 refine APure.body (n:=35) tok Tryz.func167 rfl rfl rfl fun H=>?_
 refine Qsr (Qp (Qbx [.int .i64 _,_]) ?_)
 refine Qp Qai ?_
 refine Qnn (AW.seq (AW.block (Qsr (Qp (Qf [.int .i64 _,_]) ?_))))
 refine Qp Qli ?_
 refine Qp Qclt ?_
 refine Qp Qmb ?_
 refine Qg [] Qw (Qf [.int .i64 _,_]) ?_
 refine Qg [(11,_)] Qw Qli ?_
 refine Qg [(12,_)] Qw Qcgt ?_
 refine Qp Qpo ?_
 refine Qp Qab ?_
 refine Qnn (Qif (fun hc1=>?_) fun hc1=>?_)
 ·
  refine Qsr (Qp Qai ?_)
  refine Qnn (AW.ret (blkR (thenR (Qr (.int .i64 _) ?_))))
  exact Eq.trans rfl (congrArg (fun q:Int=>AV.int .i64 q) (if_pos hc1)).symm
 ·
  refine Qsr (Qp (Qf [_]) ?_)
  refine Qp Qls ?_
  refine Qp (P_len_sl (n:=z.bs.length) tok rfl rfl rfl (by simp)) ?_
  refine Qp Qcgt ?_
  refine Qp Qab ?_
  refine Qnn (Qif (fun hc2=>?_) fun hc2=>?_)
  ·
   refine Qsr (Qp Qai ?_)
   refine Qnn (AW.ret (blkR (thenR (Qr (.int .i64 _) ?_))))
   exact Eq.trans rfl (congrArg (fun q:Int=>AV.int .i64 q) ((ifF hc1).trans (if_pos hc2))).symm
  ·
   refine AW.skip (blkN (thenN (AW.seq (Qsr (Qp (Qf [_]) ?_)))))
   refine Qp Qls ?_
   refine Qp (P_len_sl (n:=z.bs.length) tok rfl rfl rfl (by simp)) ?_
   refine Qp Qmi ?_
   refine Qnn (AW.block ?_)
   refine AW.sllen 21 rfl fun hlen=>?_
   simp only [List.length_map,maxLen] at hlen
   refine AW.loopS (fun (k:Nat)=>(⟨[(1,.ptr (cZn z)),(21,.sl 3 (z.bs.map cBd)),(22,.int .i64 z.bs.length),(23,.int .i64 (k:Int))],H,35⟩:St)) (fun (k:Nat)=>k≤z.bs.length∧firstS (bdE z.n) (z.bs.take k)=0) (fun (k:Nat)=>z.bs.length - k) (0) ?_ (GS.weaken ⟨rfl,rfl,rfl,rfl,trivial⟩ (.refl _)) ?_
   · exact ⟨Nat.zero_le _,rfl⟩
   ·
    rintro k hR
    refine Qsr (Qp Qclt ?_)
    refine Qnn (AW.seq (Qif (fun hc3=>?_) fun hc3=>?_))
    ·
     obtain ⟨c,hc⟩:=get_lt hc3
     have hlt:=get_lt' hc
     refine Qst (AW.seq (AW.block (Qsr (Qp (P_indexAddr (c:=[.int .i64 _,.int .i64 _,.int .i64 _]) tok rfl rfl rfl rfl rfl rfl (by omega) (map_at hc)) ?_))))
     refine Qp (Qlg [.int .i64 _,.int .i64 _,.int .i64 _]) ?_
     refine Qe (E_alloc (l:=[.int .i64 0,.int .i64 0,.int .i64 0]) (by kernel_rfl)) ?_
     rintro _ _ ⟨b4,rfl,rfl⟩
     refine Qe (E_store (k:=0) (v:=.agg _) (cs':=[.int .i64 _,.int .i64 _,.int .i64 _]) (H2:=_::_) tok rfl rfl rfl rfl (rfl) rfl rfl rfl rfl) ?_
     rintro _ _ ⟨rfl,rfl⟩
     refine AOL.ghost (GS.freeze (t:=4) 0 rfl rfl) ?_
     refine Qns (Qp (Qf [.int .i64 _,_]) ?_)
     refine Qp Qli ?_
     refine Qp (Qlg [.int .i64 _,.int .i64 _,.int .i64 _]) ?_
     refine Qp (Qc rfl (f_check z.n c)) ?_
     refine Qp Qai ?_
     refine Qns (Qp Qmi ?_)
     refine Qp Qcne ?_
     refine Qnn (Qif (fun hc4=>?_) fun hc4=>?_)
     ·
      refine Qsr (Qp Qmi ?_)
      refine Qp Qai ?_
      refine Qnn (AW.ret (blkR (thenR (thenR (blkR (thenR (Qr (.int .i64 _) ?_)))))))
      exact Eq.trans rfl (congrArg (fun q:Int=>AV.int .i64 q) (((ifF hc1).trans (ifF hc2)).trans (first_take hR.2 hc (by simpa using hc4)))).symm
     ·
      refine AW.skip (blkN (thenN (AW.region (Qp Qad ?_))))
      refine Qp Qmi ?_
      refine Qnn ?_
      refine ⟨k+1,?_,?_,GS.weaken ⟨rfl,rfl,rfl,rfl,trivial⟩ (.refl _)⟩
      · exact ⟨hlt,first_snoc hR.2 hc (by simpa using hc4)⟩
      · omega
    ·
     have hte:=take_end hc3
     have hall:=hR.2
     rw [hte] at hall
     refine AW.exit ?_
     refine thenE (thenE (blkHit (thenN (Qsr (Qp Qai ?_)))))
     refine Qnn (AW.ret (Qr (.int .i64 _) ?_))
     exact Eq.trans rfl (congrArg (fun q:Int=>AV.int .i64 q) (((ifF hc1).trans (ifF hc2)).trans hall)).symm
theorem s_repeat (H:List HO)(n:Nat)(h0:0 < n)(hn:n≤1048576):ACall Tryz.prog 175 H [.sl 1 [[.int .i64 (-1)]],.int .i64 (n:Int)] (fun r H'=>∃b,r = .val (.slice (some ⟨b,0,none⟩) n n)∧H' = .box b 3 (bI (none1 n))::H):=by
 have hmx:1048576≤maxLen:=by decide
 refine ACall.body (n:=48) tok Tryz.func175 rfl rfl rfl ?_
 refine Qsr (Qp (P_assign_nil (z:=1) rfl) ?_)
 refine Qnn (AW.seq (Qsr (Qp Qmi ?_)))
 refine Qp Qclt ?_
 refine Qnn (Qif (fun hc1=>?_) fun hc1=>?_)
 ·
  have:=of_decide_eq_true hc1
  omega
 ·
  refine Qst (Qsr (Qp Qms ?_))
  refine Qp (P_len_sl (n:=1) tok rfl rfl rfl (rfl)) ?_
  refine Qp (P_conv (m:=1) tok rfl rfl rfl rfl rfl (rfl)) ?_
  refine Qp Qmi ?_
  refine Qp (P_conv (m:=(n:Int)) tok rfl rfl rfl rfl rfl (u64_in hn)) ?_
  refine Qp (Qc rfl (kMul1 n hn)) ?_
  refine Qp Qmu ?_
  refine Qp (P_extract (v:=.int .u64 _) rfl rfl) ?_
  refine Qp (P_extract (v:=.int .u64 _) rfl rfl) ?_
  refine Qp (P_assign (v:=.int .u64 _) rfl) ?_
  refine Qp (P_assign (v:=.int .u64 _) rfl) ?_
  refine Qnn (AW.seq (Qsr (Qp (P_move (v:=.int .u64 _) rfl) ?_)))
  refine Qp Qcgt ?_
  refine Qp Qmb ?_
  refine AOL.g (y:=.int .u64 _) _ [] rfl (EntL.all trivial) (fun hG=>P_move (v:=.int .u64 _) rfl) rfl ?_
  refine Qg [(24,_)] Qw Qcgt ?_
  refine Qp Qpo ?_
  refine Qnn (Qif (fun hc2=>?_) fun hc2=>?_)
  ·
   exact absurd hc2 (by simp;omega)
  ·
   refine Qst (Qsr (Qp (P_move (v:=.int .u64 _) rfl) ?_))
   refine Qp (P_conv (m:=(n:Int)) tok rfl rfl rfl rfl rfl (i64_in hn)) ?_
   refine Qe (E_makeSlice (n:=n) tok rfl rfl rfl rfl rfl rfl rfl (by show 8*n≤_;omega) (by omega)) ?_
   rintro _ _ ⟨b30,rfl,rfl⟩
   refine Qp Qav ?_
   refine AOL.ghost (GS.cells 0 rfl ((bI_zero n).trans (congrArg bI (show List.replicate n 0=repL n 0 by simp [repL])))) ?_
   refine Qns (Qp Qmv ?_)
   refine Qp Qms ?_
   refine Qe (E_copySl (k:=0) (m:=1) (cs':=bI (repL n 1)) (H2:=_::_) tok rfl rfl rfl rfl rfl rfl rfl (by simp) (sc_one rfl) (Nat.min_eq_left (by show 1≤n;omega)) (by rw [bI_len,repL_len (by omega)];omega) (repL_first h0) rfl) ?_
   rintro _ _ ⟨rfl,rfl⟩
   refine Qp Qai ?_
   refine Qnn (AW.seq (AW.block ?_))
   refine AW.loopS (fun (k:Nat)=>(⟨[(7,.val (.slice (some ⟨b30,0,none⟩) n n)),(8,.int .i64 (k:Int))],.box b30 3 (bI (repL n k))::H,48⟩:St)) (fun (k:Nat)=>1≤k∧k≤n) (fun (k:Nat)=>n - k) (1) ?_ (GS.weaken ⟨rfl,rfl,trivial⟩ (.refl _)) ?_
   · exact ⟨Nat.le_refl _,h0⟩
   ·
    rintro k hR
    refine AW.seq (Qsr (Qp Qmi ?_))
    refine Qp Qmv ?_
    refine Qp (P_len_val tok rfl rfl rfl) ?_
    refine Qp Qclt ?_
    refine Qnn (Qif (fun hc3=>?_) fun hc3=>?_)
    ·
     have hlt:k < n:=by have:=of_decide_eq_true hc3;omega
     refine Qst (AW.block ?_)
     refine AW.draw mixed (fun _=>True) trivial (by kernel_rfl) ?_
     refine Qn 0 rfl Qmi ?_
     refine Qn 1 rfl Qmv ?_
     refine Qn 2 rfl Qmi ?_
     refine Qn 3 rfl (P_slice_val (l:=k) (h:=n) (o':=k) tok rfl rfl rfl rfl rfl (⟨_,rfl⟩) (rfl) (by omega) (by omega) (by omega) (by omega) (by simp)) ?_
     refine Qn 4 rfl Qmv ?_
     refine Qn 5 rfl Qmi ?_
     refine Qn 6 rfl (P_slice_val (l:=0) (h:=k) (o':=0) tok rfl rfl rfl rfl rfl (rfl) (⟨_,rfl⟩) (by omega) (by omega) (by omega) (by omega) (rfl)) ?_
     refine Canon.eff _ _ 7 _ _ rfl (by kernel_rfl) rfl rfl (E_copyVal (k:=0) (m:=min k (n - k)) (cs':=bI (repL n (k+min k (n - k)))) (H2:=_::_) tok rfl rfl rfl rfl rfl rfl rfl (bI_sc _) (by first | rfl | (simp only [Nat.sub_zero];done) | (simp only [Nat.sub_zero];rfl)) (by rw [bI_len,repL_len hR.2];omega) (by rw [bI_len,repL_len hR.2];omega) (repL_copy (by omega) (by omega)) rfl) (fun _ _ _=>trivial) ?_
     rintro _ _ ⟨rfl,rfl⟩
     refine Qn 8 rfl Qad ?_
     refine Qn 9 rfl Qai ?_
     refine Canon.done _ _ (by kernel_rfl) ?_
     refine blkN (thenN ?_)
     refine ⟨k+min k (n - k),?_,?_,GS.weaken ⟨rfl,rfl,trivial⟩ (.refl _)⟩
     · omega
     · omega
    ·
     have hkn:k=n:=by have:=of_decide_eq_false hc3;omega
     refine AW.exit ?_
     refine thenE (thenE (blkHit (thenN (Qsr (Qp Qmv ?_)))))
     refine Qp Qav ?_
     refine Qnn (AW.ret ?_)
     refine ⟨.inr rfl,[.val _],.cons (.tmp _ _ rfl) <| .nil,_,.refl _,?_⟩
     exact ⟨b30,rfl,congrArg (fun l=>HO.box b30 3 (bI l)::H) ((congrArg (repL n) hkn).trans (repL_full n))⟩
theorem f_relax (bd b1 b2 n:Nat)(bs:List Bd)(hz:znOK n bs)(C:Int)(hC:0≤C)(hC2:C≤4000000000000000000)(d:Ds)(hd:dsOK n C d)(R:List HO):ACall Tryz.prog 176 (.box bd 231 [.val (.slice (some ⟨b1,0,none⟩) n n),.val (.slice (some ⟨b2,0,none⟩) n n)] :: .box b1 3 (bI d.sums) :: .box b2 3 (bI d.last)::R) [.val (.pointer (some ⟨bd,0,none⟩)),.agg (cZn (zn n bs))] (fun r H'=>r = .int .i64 (rlxS bs d).2∧H' = .box bd 231 [.val (.slice (some ⟨b1,0,none⟩) n n),.val (.slice (some ⟨b2,0,none⟩) n n)] :: .box b1 3 (bI (rlxS bs d).1.sums) :: .box b2 3 (bI (rlxS bs d).1.last)::R):=by
 have hbl:=hz.len
 have hn64:=hz.n64
 have hbb:big=140737488355329:=rfl
 refine ACall.body (n:=58) tok Tryz.func176 rfl rfl rfl ?_
 refine Qsr (Qp (Qbx [.int .i64 _,_]) ?_)
 refine Qp Qai ?_
 refine Qns (Qp Qai ?_)
 refine Qnn (AW.seq (Qsr (Qp (Qf [_]) ?_)))
 refine Qp Qls ?_
 refine Qp (P_len_sl (n:=bs.length) tok rfl rfl rfl (by simp [zn])) ?_
 refine Qp Qmi ?_
 refine Qnn (AW.block ?_)
 refine AW.loopS (fun (p:Nat×Ds×Int)=>(⟨[(0,.val (.pointer (some ⟨bd,0,none⟩))),(3,.ptr (cZn (zn n bs))),(5,.int .i64 p.2.2),(10,.sl 3 (bs.map cBd)),(11,.int .i64 bs.length),(12,.int .i64 (p.1:Int))],.box bd 231 [.val (.slice (some ⟨b1,0,none⟩) n n),.val (.slice (some ⟨b2,0,none⟩) n n)] :: .box b1 3 (bI p.2.1.sums) :: .box b2 3 (bI p.2.1.last)::R,58⟩:St)) (fun (p:Nat×Ds×Int)=>p.1≤bs.length∧rlxS bs d=rlxGo p.1 (bs.drop p.1) p.2∧dsOK n (C+(p.1:Int)*big) p.2.1) (fun (p:Nat×Ds×Int)=>bs.length - p.1) ((0,d,-1)) ?_ (GS.weaken ⟨rfl,rfl,rfl,rfl,rfl,rfl,trivial⟩ (.refl _)) ?_
 · exact ⟨Nat.zero_le _,rfl,by simpa using hd⟩
 ·
  rintro p hR
  have hd2:=hR.2.2
  have hpl:=hR.1
  have hkb:(p.1:Int)*big≤256*big:=by unfold big;omega
  have hks:((p.1+1:Nat):Int)*big=(p.1:Int)*big+big:=by push_cast;rw [Int.add_mul];omega
  refine Qsr (Qp Qclt ?_)
  refine Qnn (AW.seq (Qif (fun hc1=>?_) fun hc1=>?_))
  ·
   obtain ⟨c,hc⟩:=get_lt hc1
   have hlt:=get_lt' hc
   have hcm:=List.mem_of_getElem? hc
   have hb:=hz.bd c hcm
   have hm:=hz.most c hcm
   have hi1:=hd2.ix hb.2.2.1 hb.2.2.2
   refine Qst (AW.seq (AW.block (Qsr (Qp Qmi ?_))))
   refine Qp (P_indexAddr (c:=[.int .i64 c.x,.int .i64 c.y,.int .i64 c.most]) tok rfl rfl rfl rfl rfl rfl (by omega) (cBd_at hc)) ?_
   refine Qp (Qlg [.int .i64 _,.int .i64 _,.int .i64 _]) ?_
   refine Qe (E_alloc (l:=[.int .i64 0,.int .i64 0,.int .i64 0]) (by kernel_rfl)) ?_
   rintro _ _ ⟨b7,rfl,rfl⟩
   refine Qp Qai ?_
   refine Qe (E_store (k:=0) (v:=.agg _) (cs':=[.int .i64 _,.int .i64 _,.int .i64 _]) (H2:=_::_::_::_::_) tok rfl rfl rfl rfl (rfl) rfl rfl rfl rfl) ?_
   rintro _ _ ⟨rfl,rfl⟩
   refine AOL.ghost (GS.freeze (t:=7) 0 rfl rfl) ?_
   refine Qnn (AW.seq ?_)
   refine AW.draw mixed (fun H'=>_∈H'∧_∈H') ⟨(List.mem_of_getElem? (i:=0) rfl),(List.mem_of_getElem? (i:=1) rfl)⟩ (by kernel_rfl) ?_
   refine Qn 0 rfl Qmv ?_
   refine Qn 1 rfl (P_nilCheck rfl) ?_
   refine Qn 2 rfl Qfv ?_
   refine Qn 3 rfl (OpP.mem (fun k=>P_load_box (k:=k) (c:=.val _) tok rfl rfl rfl rfl) (fun _ h=>h.1)) ?_
   refine Qn 4 rfl (Qf [.int .i64 _,.int .i64 _]) ?_
   refine Qn 5 rfl Qli ?_
   refine Qn 6 rfl (P_indexAddr_val (o':=c.y.toNat) tok rfl rfl rfl rfl rfl (hb.2.2.1) (by have:=hb.2.2.2;omega) (off0 _)) ?_
   refine Qn 7 rfl (OpP.mem (fun k=>P_load_box (k:=k) (c:=.int .i64 (ixI p.2.1.sums c.y)) tok rfl rfl rfl (bI_at hb.2.2.1 (by rw [hd2.s];exact hb.2.2.2))) (fun _ h=>h.2)) ?_
   refine Qn 8 rfl (Qf [.int .i64 _]) ?_
   refine Qn 9 rfl Qli ?_
   refine Qn 10 rfl Qad ?_
   refine Qn 11 rfl Qai ?_
   refine Canon.done _ _ (by kernel_rfl) ?_
   refine thenN (AW.seq ?_)
   refine AW.draw mixed (fun H'=>_∈H'∧_∈H') ⟨(List.mem_of_getElem? (i:=0) rfl),(List.mem_of_getElem? (i:=1) rfl)⟩ (by kernel_rfl) ?_
   refine Qn 0 rfl Qmi ?_
   refine Qn 1 rfl Qmv ?_
   refine Qn 2 rfl (P_nilCheck rfl) ?_
   refine Qn 3 rfl Qfv ?_
   refine Qn 4 rfl (OpP.mem (fun k=>P_load_box (k:=k) (c:=.val _) tok rfl rfl rfl rfl) (fun _ h=>h.1)) ?_
   refine Qn 5 rfl (Qf [.int .i64 _,.int .i64 _,.int .i64 _]) ?_
   refine Qn 6 rfl Qli ?_
   refine Qn 7 rfl (P_indexAddr_val (o':=c.x.toNat) tok rfl rfl rfl rfl rfl (hb.1) (by have:=hb.2.1;omega) (off0 _)) ?_
   refine Qn 8 rfl (OpP.mem (fun k=>P_load_box (k:=k) (c:=.int .i64 (ixI p.2.1.sums c.x)) tok rfl rfl rfl (bI_at hb.1 (by rw [hd2.s];exact hb.2.1))) (fun _ h=>h.2)) ?_
   refine Qn 9 rfl Qclt ?_
   refine Canon.done _ _ (by kernel_rfl) ?_
   refine thenN (Qif (fun hc2=>?_) fun hc2=>?_)
   ·
    refine AW.seq ?_
    refine AW.draw mixed (fun H'=>_∈H') (List.mem_of_getElem? (i:=0) rfl) (by kernel_rfl) ?_
    refine Qn 0 rfl Qmv ?_
    refine Qn 1 rfl (P_nilCheck rfl) ?_
    refine Qn 2 rfl Qfv ?_
    refine Qn 3 rfl (OpP.mem (fun k=>P_load_box (k:=k) (c:=.val _) tok rfl rfl rfl rfl) (fun _ h=>h)) ?_
    refine Qn 4 rfl (Qf [.int .i64 _,.int .i64 _,.int .i64 _]) ?_
    refine Qn 5 rfl Qli ?_
    refine Qn 6 rfl Qmv ?_
    refine Qn 7 rfl (P_nilCheck rfl) ?_
    refine Qn 8 rfl Qfv ?_
    refine Qn 9 rfl (OpP.mem (fun k=>P_load_box (k:=k) (c:=.val _) tok rfl rfl rfl rfl) (fun _ h=>h)) ?_
    refine Qn 10 rfl (Qf [.int .i64 _,.int .i64 _,.int .i64 _]) ?_
    refine Qn 11 rfl Qli ?_
    refine Qn 12 rfl Qmi ?_
    refine Qn 13 rfl Qmi ?_
    refine Qn 14 rfl (P_indexAddr_val (o':=c.x.toNat) tok rfl rfl rfl rfl rfl (hb.1) (by have:=hb.2.1;omega) (off0 _)) ?_
    refine Canon.eff _ _ 15 _ _ rfl (by kernel_rfl) rfl rfl (E_store (k:=1) (v:=.int .i64 _) (cs':=bI (p.2.1.sums.set c.x.toNat (ixI p.2.1.sums c.y+c.most))) (H2:=_::_::_::_) tok rfl rfl rfl rfl rfl rfl (bI_fits (by rw [hd2.s];omega)) (bI_set (by rw [hd2.s];omega)) rfl) (by rintro _ _ ⟨rfl,rfl⟩;simp) ?_
    rintro _ _ ⟨rfl,rfl⟩
    refine Qn 16 rfl (P_indexAddr_val (o':=c.x.toNat) tok rfl rfl rfl rfl rfl (hb.1) (by have:=hb.2.1;omega) (off0 _)) ?_
    refine Canon.last _ _ 17 _ _ rfl (by kernel_rfl) rfl rfl (E_store (k:=2) (v:=.int .i64 _) (cs':=bI (p.2.1.last.set c.x.toNat (p.1:Int))) (H2:=_::_::_::_) tok rfl rfl rfl rfl rfl rfl (bI_fits (by rw [hd2.l];omega)) (bI_set (by rw [hd2.l];omega)) rfl) (by kernel_rfl) ?_
    rintro _ _ ⟨rfl,rfl⟩
    refine thenN (AW.region (Qp (Qf [.int .i64 _,.int .i64 _,.int .i64 _]) ?_))
    refine Qp Qli ?_
    refine Qp Qai ?_
    refine AOL.nil (blkN (thenN (AW.region (Qp Qad ?_))))
    refine Qp Qmi ?_
    refine Qnn ?_
    refine ⟨(p.1+1,⟨p.2.1.sums.set c.x.toNat (ixI p.2.1.sums c.y+c.most),p.2.1.last.set c.x.toNat (p.1:Int)⟩,c.x),?_,?_,GS.weaken ⟨rfl,rfl,rfl,rfl,rfl,rfl,trivial⟩ (.refl _)⟩
    · exact ⟨hlt,hR.2.1.trans ((rlxGo_step hc).trans (congrArg _ (rlx_yes hc2))),by have:=rlx_ok (i:=p.1) hd2 hb hm;rw [rlx_yes hc2] at this;exact this.mono (by simp only [hks];omega)⟩
    · simp only;omega
   ·
    refine AW.skip (blkN (thenN (AW.region (Qp Qad ?_))))
    refine Qp Qmi ?_
    refine Qnn ?_
    refine ⟨(p.1+1,p.2),?_,?_,GS.weaken ⟨rfl,rfl,rfl,rfl,rfl,rfl,trivial⟩ (.refl _)⟩
    · exact ⟨hlt,hR.2.1.trans ((rlxGo_step hc).trans (congrArg _ (rlx_no hc2))),hd2.mono (by simp only [hks];omega)⟩
    · simp only;omega
  ·
   have hde:=get_end hc1
   have hfin:=hR.2.1.trans (rlxGo_end hde)
   refine AW.exit ?_
   refine thenE (thenE (blkHit (thenN (Qsr (Qp Qmi ?_)))))
   refine Qp Qai ?_
   refine Qnn (AW.ret ?_)
   refine ⟨.inr rfl,[.int .i64 _],.cons (.tmp _ _ rfl) <| .nil,_,.refl _,?_⟩
   exact ⟨congrArg (fun q:Ds×Int=>AV.int .i64 q.2) hfin.symm,congrArg (fun q:Ds×Int=>(.box bd 231 [.val (.slice (some ⟨b1,0,none⟩) n n),.val (.slice (some ⟨b2,0,none⟩) n n)] :: .box b1 3 (bI q.1.sums) :: .box b2 3 (bI q.1.last)::R:List HO)) hfin.symm⟩
theorem f_back (bd n:Nat)(bs:List Bd)(f:Int):APure Tryz.prog 177 [.val (.pointer (some ⟨bd,0,none⟩)),.agg (cZn (zn n bs)),.int .i64 f] (.fn (.func 189) [] [.ptr [.int .i64 f],.ptr [.val (.pointer (some ⟨bd,0,none⟩))],.ptr (cZn (zn n bs))]):=by
 refine APure.body (n:=8) tok Tryz.func177 rfl rfl rfl fun H=>?_
 refine Qsr (Qp (P_box (v:=.val _) (cs:=[_]) rfl rfl rfl) ?_)
 refine Qp (Qbx [.int .i64 _,_]) ?_
 refine Qp (P_box (v:=.int .i64 _) (cs:=[.int .i64 _]) rfl rfl rfl) ?_
 refine Qp Qav ?_
 refine Qns (Qp (P_makeFunc (l:=[]) (l':=[.ptr _,.ptr _,.ptr _]) rfl rfl) ?_)
 refine Qp (P_assign (v:=.fn _ _ _) rfl) ?_
 refine Qnn (AW.ret (Qr (.fn _ _ _) ?_))
 rfl

end Go.Proofs.YtkddpedfbicbeaaGreatDoor

namespace Go.Proofs.YtkddpedfbicbeaaGreatDoor
open Go Go.Aw
set_option maxHeartbeats 1600000
set_option maxRecDepth 20000
set_option linter.unusedVariables false
set_option linter.unusedSimpArgs false

theorem f_back1 (l:Nat)(rec:Loop)(bd b1 b2 n:Nat)(bs:List Bd)(d:Ds)(hn:n≤64)(hdl:d.last.length=n)(G:Value→List Int→List HO)(hp:rec.params.size=1)(i0:Nat)(hi:∀v pre,(G v pre)[i0]? = some (.obj l (.loop rec)))(f:Int)(hc:cycOK bs d f (n+1) f=true)(hY:∀v pre x,pre.length≤64→ARound Tryz.prog l rec (.box bd 231 [.val (.slice (some ⟨b1,0,none⟩) n n),.val (.slice (some ⟨b2,0,none⟩) n n)] :: .box b1 3 (bI d.sums) :: .box b2 3 (bI d.last)::G v pre) [.int .i64 x] (fun r H'=>r = .bool true∧∃v',H' = .box bd 231 [.val (.slice (some ⟨b1,0,none⟩) n n),.val (.slice (some ⟨b2,0,none⟩) n n)] :: .box b1 3 (bI d.sums) :: .box b2 3 (bI d.last)::G v' (pre++[x])))(v0:Value):ACall Tryz.prog 189 (.box bd 231 [.val (.slice (some ⟨b1,0,none⟩) n n),.val (.slice (some ⟨b2,0,none⟩) n n)] :: .box b1 3 (bI d.sums) :: .box b2 3 (bI d.last)::G v0 []) [.val (.func (.yield l) #[] #[]),.ptr [.int .i64 f],.ptr [.val (.pointer (some ⟨bd,0,none⟩))],.ptr (cZn (zn n bs))] (fun r H'=>r = .tuple []∧∃v' es,es≠[]∧H' = .box bd 231 [.val (.slice (some ⟨b1,0,none⟩) n n),.val (.slice (some ⟨b2,0,none⟩) n n)] :: .box b1 3 (bI d.sums) :: .box b2 3 (bI d.last)::G v' es):=by
 refine ACall.body (n:=31) tok Tryz.func189 rfl rfl rfl ?_
 refine Qsr (Qp Qli ?_)
 refine Qp Qai ?_
 refine Qnn (AW.block ?_)
 refine AW.loopS (fun (p:Int×List Int×Value)=>(⟨[(0,.val (.func (.yield l) #[] #[])),(1,.ptr [.int .i64 f]),(2,.ptr [.val (.pointer (some ⟨bd,0,none⟩))]),(3,.ptr (cZn (zn n bs))),(5,.int .i64 p.1)],.box bd 231 [.val (.slice (some ⟨b1,0,none⟩) n n),.val (.slice (some ⟨b2,0,none⟩) n n)] :: .box b1 3 (bI d.sums) :: .box b2 3 (bI d.last)::G p.2.2 p.2.1,31⟩:St)) (fun (p:Int×List Int×Value)=>p.2.1.length≤n∧cycOK bs d f (n+1 - p.2.1.length) p.1=true) (fun (p:Int×List Int×Value)=>n+1 - p.2.1.length) ((f,[],v0)) ?_ (GS.weaken ⟨rfl,rfl,rfl,rfl,rfl,trivial⟩ (.refl _)) ?_
 · exact ⟨Nat.zero_le _,hc⟩
 ·
  rintro p hR
  have hpl:=hR.1
  refine (okAt_iff (cyc_head hR.2)).elim fun c ok=>?_
  refine AW.seq (AW.seq ?_)
  refine AW.regionY rfl (by kernel_rfl) ?_
  refine Qp Qmv ?_
  refine Qp Qlv ?_
  refine Qp (P_nilCheck rfl) ?_
  refine Qp Qfv ?_
  refine AOL.pk (P_load_box (k:=0) (c:=.val _) tok rfl rfl rfl rfl) rfl rfl ?_
  refine Qp Qmi ?_
  refine Qp (P_indexAddr_val (o':=p.1.toNat) tok rfl rfl rfl rfl rfl (ok.a0) (by have:=ok.al;omega) (off0 _)) ?_
  refine AOL.pk (P_load_box (k:=2) (c:=.int .i64 (ixI d.last p.1)) tok rfl rfl rfl (bI_at ok.a0 ok.al)) rfl rfl ?_
  refine AOL.nil ?_
  refine ⟨l,rec,_,⟨i0+3,hi p.2.2 p.2.1⟩,rfl,hp.symm,rfl,hY p.2.2 p.2.1 (ixI d.last p.1) (by omega),?_⟩
  rintro _ _ ⟨rfl,v1,rfl⟩
  refine thenN (Qif (fun hc1=>?_) fun hc1=>?_)
  ·
   refine Qst (AW.block (AW.seq ?_))
   refine AW.draw mixed (fun H'=>_∈H'∧_∈H') ⟨(List.mem_of_getElem? (i:=0) rfl),(List.mem_of_getElem? (i:=2) rfl)⟩ (by kernel_rfl) ?_
   refine Qn 0 rfl (Qf [_]) ?_
   refine Qn 1 rfl Qls ?_
   refine Qn 2 rfl Qlv ?_
   refine Qn 3 rfl (P_nilCheck rfl) ?_
   refine Qn 4 rfl Qfv ?_
   refine Qn 5 rfl (OpP.mem (fun k=>P_load_box (k:=k) (c:=.val _) tok rfl rfl rfl rfl) (fun _ h=>h.1)) ?_
   refine Qn 6 rfl Qmi ?_
   refine Qn 7 rfl (P_indexAddr_val (o':=p.1.toNat) tok rfl rfl rfl rfl rfl (ok.a0) (by have:=ok.al;omega) (off0 _)) ?_
   refine Qn 8 rfl (OpP.mem (fun k=>P_load_box (k:=k) (c:=.int .i64 (ixI d.last p.1)) tok rfl rfl rfl (bI_at ok.a0 ok.al)) (fun _ h=>h.2)) ?_
   refine Qn 9 rfl (P_indexAddr (c:=[.int .i64 c.x,.int .i64 c.y,.int .i64 c.most]) tok rfl rfl rfl rfl rfl rfl (ok.l0) (cBd_at ok.at_)) ?_
   refine Qn 10 rfl (Qf [.int .i64 _,.int .i64 _]) ?_
   refine Qn 11 rfl Qli ?_
   refine Qn 12 rfl Qai ?_
   refine Canon.done _ _ (by kernel_rfl) ?_
   refine thenN (Qsr (Qp Qmi ?_))
   refine Qp Qli ?_
   refine Qp Qceq ?_
   refine Qnn (Qif (fun hc2=>?_) fun hc2=>?_)
   ·
    refine AW.ret (blkR (thenR (blkR ?_)))
    refine ⟨.inr rfl,[],.nil,_,.refl _,?_⟩
    exact ⟨rfl,v1,p.2.1++[ixI d.last p.1],by simp,rfl⟩
   ·
    refine AW.skip (blkN (thenN ?_))
    refine ⟨(c.y,p.2.1++[ixI d.last p.1],v1),?_,?_,GS.weaken ⟨rfl,rfl,rfl,rfl,rfl,trivial⟩ (.refl _)⟩
    ·
     have h9:=cyc_next hR.2 ok hc2
     exact ⟨by simp only [List.length_append,List.length_singleton];omega,by simp only [List.length_append,List.length_singleton];rw [show n+1 - (p.2.1.length+1)=n+1 - p.2.1.length - 1 by omega];exact h9.1⟩
    ·
     have h9:=cyc_next hR.2 ok hc2
     simp only [List.length_append,List.length_singleton];omega
  ·
   cases hc1

end Go.Proofs.YtkddpedfbicbeaaGreatDoor

namespace Go.Proofs.YtkddpedfbicbeaaGreatDoor
open Go Go.Aw
set_option maxHeartbeats 3200000
set_option maxRecDepth 20000
set_option linter.unusedVariables false
set_option linter.unusedSimpArgs false

theorem f_solve (n:Nat)(bs:List Bd)(hz:znOK n bs)(hW:decide ((endS (zn n bs)).2 < 0)=false→walkOK n bs=true)(H:List HO):ACall Tryz.prog 168 H [.agg (cZn (zn n bs))] (fun r H'=>if decide ((endS (zn n bs)).2 < 0) then (∃b,r = .tuple [.val (.slice (some ⟨b,0,none⟩) n n),.val (.slice none 0 0)]∧H' = .box b 3 (bI (endS (zn n bs)).1.sums)::H) else (∃es,es≠[]∧r = .tuple [.val (.slice none 0 0),.sl 1 es]∧H'=H)):=by
 have hmx:1048576≤maxLen:=by decide
 have hn1:=hz.n1
 have hn64:=hz.n64
 have hzn:(zn n bs).n=(n:Int):=rfl
 have hbb:big=140737488355329:=rfl
 refine ACall.bodyX (n:=59) tok Tryz.func168 rfl rfl rfl ?_
 refine AWX.seq ?_
 refine AW.region (Qp (Qbx [.int .i64 _,_]) ?_)
 refine Qp Qav ?_
 refine Qp Qav ?_
 refine Qnn ?_
 refine AWX.cut (fun (u:Nat×Nat×Nat)=>(⟨[(1,.ptr (cZn (zn n bs))),(4,.val (.pointer (some ⟨u.1,0,none⟩)))],.box u.1 231 [.val (.slice (some ⟨u.2.1,0,none⟩) n n),.val (.slice (some ⟨u.2.2,0,none⟩) n n)] :: .box u.2.1 3 (bI (⟨List.replicate n 0,none1 n⟩:Ds).sums) :: .box u.2.2 3 (bI (⟨List.replicate n 0,none1 n⟩:Ds).last)::H,59⟩:St)) (fun (u:Nat×Nat×Nat)=>True) ?_ ?_
 ·
  refine AW.draw mixed (fun _=>True) trivial (by kernel_rfl) ?_
  refine Qn 0 rfl (Qf [.int .i64 _,_]) ?_
  refine Qn 1 rfl Qli ?_
  refine Qn 3 rfl (P_buildSlice (es:=[[.int .i64 _]]) tok rfl rfl rfl rfl rfl rfl rfl rfl rfl) ?_
  refine Qn 4 rfl (Qf [.int .i64 _,_]) ?_
  refine Qn 5 rfl Qli ?_
  refine Canon.two _ _ 2 6 _ _ _ _ rfl rfl (by kernel_rfl) rfl rfl rfl rfl (E_makeSlice (n:=n) tok rfl rfl rfl rfl rfl rfl rfl (by show 8*n≤_;omega) (by omega)) (E_callf (by kernel_rfl) rfl rfl (s_repeat _ n hn1 (by omega))) (by rintro _ _ ⟨b10,rfl,rfl⟩;trivial) (by rintro _ _ ⟨b14,rfl,rfl⟩;trivial) ?_ ?_
  ·
   rintro _ _ ⟨b10,rfl,rfl⟩
   refine Canon.eff _ _ 6 _ _ rfl (by kernel_rfl) rfl rfl (E_callf (by kernel_rfl) rfl rfl (s_repeat _ n hn1 (by omega))) (fun _ _ _=>trivial) ?_
   rintro _ _ ⟨b14,rfl,rfl⟩
   refine Qn 7 rfl (Qbd [_,_]) ?_
   refine Canon.eff _ _ 8 _ _ rfl (by kernel_rfl) rfl rfl (E_box (v:=.agg _) (cs:=[_,_]) rfl rfl (rfl)) (fun _ _ _=>trivial) ?_
   rintro _ _ ⟨b16,rfl,rfl⟩
   refine Qn 9 rfl Qav ?_
   refine Canon.done _ _ (by kernel_rfl) ?_
   refine thenN ?_
   refine ⟨(b16,b10,b14),?_,GS.trans (GS.cells 2 rfl (bI_zero n)) (GS.trans (GS.perm (List.Perm.cons _ (List.Perm.swap _ _ _))) (GS.weaken ⟨rfl,rfl,trivial⟩ (.refl _)))⟩
   trivial
  ·
   rintro _ _ ⟨b14,rfl,rfl⟩
   refine Canon.eff _ _ 2 _ _ rfl (by kernel_rfl) rfl rfl (E_makeSlice (n:=n) tok rfl rfl rfl rfl rfl rfl rfl (by show 8*n≤_;omega) (by omega)) (fun _ _ _=>trivial) ?_
   rintro _ _ ⟨b10,rfl,rfl⟩
   refine Qn 7 rfl (Qbd [_,_]) ?_
   refine Canon.eff _ _ 8 _ _ rfl (by kernel_rfl) rfl rfl (E_box (v:=.agg _) (cs:=[_,_]) rfl rfl (rfl)) (fun _ _ _=>trivial) ?_
   rintro _ _ ⟨b16,rfl,rfl⟩
   refine Qn 9 rfl Qav ?_
   refine Canon.done _ _ (by kernel_rfl) ?_
   refine thenN ?_
   refine ⟨(b16,b10,b14),?_,GS.trans (GS.cells 1 rfl (bI_zero n)) (GS.trans (GS.refl _) (GS.weaken ⟨rfl,rfl,trivial⟩ (.refl _)))⟩
   trivial
 ·
  rintro u _
  refine AWX.seq ?_
  refine AW.region (Qp Qai ?_)
  refine Qnn ?_
  refine AWX.seq ?_
  refine Qsr (Qp (Qf [.int .i64 _,_]) ?_)
  refine Qp Qli ?_
  refine Qp Qad ?_
  refine Qp Qmi ?_
  refine Qnn (AW.block ?_)
  refine AW.loopS (fun (p:Nat×Ds×Int)=>(⟨[(1,.ptr (cZn (zn n bs))),(4,.val (.pointer (some ⟨u.1,0,none⟩))),(5,.int .i64 p.2.2),(19,.int .i64 ((n:Int)+1)),(20,.int .i64 (p.1:Int))],.box u.1 231 [.val (.slice (some ⟨u.2.1,0,none⟩) n n),.val (.slice (some ⟨u.2.2,0,none⟩) n n)] :: .box u.2.1 3 (bI p.2.1.sums) :: .box u.2.2 3 (bI p.2.1.last)::H,59⟩:St)) (fun (p:Nat×Ds×Int)=>p.1≤n+1∧endS (zn n bs)=roundsS bs (n+1 - p.1) p.2∧dsOK n ((p.1:Int)*(256*big)) p.2.1∧(0 < p.1→0≤p.2.2)) (fun (p:Nat×Ds×Int)=>n+1 - p.1) ((0,⟨List.replicate n 0,none1 n⟩,-1)) ?_ (GS.weaken ⟨rfl,rfl,rfl,rfl,rfl,trivial⟩ (.refl _)) ?_
  · exact ⟨Nat.zero_le _,endS_eq n bs,by simpa using start_ok n,fun h=>absurd h (by simp)⟩
  ·
   rintro p hR
   have hd2:=hR.2.2.1
   have hpl:=hR.1
   have hC0:(0:Int)≤(p.1:Int)*(256*big):=by unfold big;omega
   have hC2:(p.1:Int)*(256*big)≤4000000000000000000:=by unfold big;omega
   have hks:((p.1+1:Nat):Int)*(256*big)=(p.1:Int)*(256*big)+256*big:=by push_cast;rw [Int.add_mul];omega
   refine Qsr (Qp Qclt ?_)
   refine Qnn (AW.seq (Qif (fun hc1=>?_) fun hc1=>?_))
   ·
    have hlt:p.1 < n+1:=by have:=of_decide_eq_true hc1;omega
    refine Qst (AW.seq (AW.block (Qsr (Qp Qmv ?_))))
    refine Qp (Qlg [.int .i64 _,_]) ?_
    refine Qe (E_callf (by kernel_rfl) rfl rfl (ACall.front3 (R:=_) 2 1 0 rfl rfl rfl rfl (f_relax u.1 u.2.1 u.2.2 n bs hz _ hC0 hC2 p.2.1 hd2 _))) ?_
    rintro _ _ ⟨rfl,rfl⟩
    refine Qp Qai ?_
    refine Qns (Qp Qmi ?_)
    refine Qp Qclt ?_
    refine Qnn (Qif (fun hc2=>?_) fun hc2=>?_)
    ·
     have hend:=end_stop hR.2.1 hlt hc2
     refine Qsr (Qp Qmv ?_)
     refine Qp (P_nilCheck rfl) ?_
     refine Qp Qfv ?_
     refine AOL.pk (P_load_box (k:=0) (c:=.val _) tok rfl rfl rfl rfl) rfl rfl ?_
     refine Qp Qav ?_
     refine Qp Qav ?_
     refine Qnn (AW.ret (blkR (thenR (thenR (blkR (thenR ?_))))))
     refine ⟨.inr rfl,[.val _,.val _],.cons (.tmp _ _ rfl) <| .cons (.tmp _ _ rfl) <| .nil,_,.cons _ (.cons_cons _ (.cons _ (.refl _))),?_⟩
     exact Eq.mpr (if_pos (by rw [hend];exact hc2)) ⟨_,rfl,congrArg (fun q:Ds×Int=>(.box u.2.1 3 (bI q.1.sums)::H:List HO)) hend.symm⟩
    ·
     refine AW.skip (blkN (thenN (AW.region (Qp Qad ?_))))
     refine Qp Qmi ?_
     refine Qnn ?_
     refine ⟨(p.1+1,rlxS bs p.2.1),?_,?_,GS.weaken ⟨rfl,rfl,rfl,rfl,rfl,trivial⟩ (.refl _)⟩
     · exact ⟨hlt,end_on hR.2.1 hlt hc2,(rlxS_ok hz hd2).mono (by simp only [hks];omega),fun _=>by simpa using hc2⟩
     · simp only;omega
   ·
    have hge1:n+1≤p.1:=by have:=of_decide_eq_false hc1;omega
    have hend:=end_all hR.2.1 hge1
    have hge:decide ((endS (zn n bs)).2 < 0)=false:=by rw [hend];have:=hR.2.2.2 (by omega);simpa using this
    have hws:=walk_split (hW hge) hend
    have hcy:=hws.2
    refine AW.exit ?_
    refine thenE (thenE (blkHit (thenN ?_)))
    refine AWX.seq ?_
    refine Qsr (Qp (Qf [.int .i64 _,_]) ?_)
    refine Qp Qli ?_
    refine Qp Qmi ?_
    refine Qnn (AW.block ?_)
    refine AW.loopS (fun (q:Nat×Int)=>(⟨[(1,.ptr (cZn (zn n bs))),(4,.val (.pointer (some ⟨u.1,0,none⟩))),(5,.int .i64 q.2),(33,.int .i64 (n:Int)),(34,.int .i64 (q.1:Int))],.box u.1 231 [.val (.slice (some ⟨u.2.1,0,none⟩) n n),.val (.slice (some ⟨u.2.2,0,none⟩) n n)] :: .box u.2.1 3 (bI p.2.1.sums) :: .box u.2.2 3 (bI p.2.1.last)::H,59⟩:St)) (fun (q:Nat×Int)=>q.1≤n∧backN bs p.2.1 n p.2.2=backN bs p.2.1 (n - q.1) q.2∧backOK bs p.2.1 (n - q.1) q.2=true) (fun (q:Nat×Int)=>n - q.1) ((0,p.2.2)) ?_ (GS.weaken ⟨rfl,rfl,rfl,rfl,rfl,trivial⟩ (.refl _)) ?_
    · exact ⟨Nat.zero_le _,rfl,hws.1⟩
    ·
     rintro q hQ
     refine Qsr (Qp Qclt ?_)
     refine Qnn (AW.seq (Qif (fun hc3=>?_) fun hc3=>?_))
     ·
      have hlt3:q.1 < n:=by have:=of_decide_eq_true hc3;omega
      have hb9:=back_head hQ.2.2 hlt3
      refine (okAt_iff hb9.1).elim fun c ok=>?_
      have hdl:=hd2.l
      refine Qst (AW.seq (AW.block ?_))
      refine AW.draw mixed (fun H'=>_∈H'∧_∈H') ⟨(List.mem_of_getElem? (i:=0) rfl),(List.mem_of_getElem? (i:=2) rfl)⟩ (by kernel_rfl) ?_
      refine Qn 0 rfl (Qf [_]) ?_
      refine Qn 1 rfl Qls ?_
      refine Qn 2 rfl Qmv ?_
      refine Qn 3 rfl (P_nilCheck rfl) ?_
      refine Qn 4 rfl Qfv ?_
      refine Qn 5 rfl (OpP.mem (fun k=>P_load_box (k:=k) (c:=.val _) tok rfl rfl rfl rfl) (fun _ h=>h.1)) ?_
      refine Qn 6 rfl Qmi ?_
      refine Qn 7 rfl (P_indexAddr_val (o':=q.2.toNat) tok rfl rfl rfl rfl rfl (ok.a0) (by have:=ok.al;omega) (off0 _)) ?_
      refine Qn 8 rfl (OpP.mem (fun k=>P_load_box (k:=k) (c:=.int .i64 (ixI p.2.1.last q.2)) tok rfl rfl rfl (bI_at ok.a0 ok.al)) (fun _ h=>h.2)) ?_
      refine Qn 9 rfl (P_indexAddr (c:=[.int .i64 c.x,.int .i64 c.y,.int .i64 c.most]) tok rfl rfl rfl rfl rfl rfl (ok.l0) (cBd_at ok.at_)) ?_
      refine Qn 10 rfl (Qf [.int .i64 _,.int .i64 _]) ?_
      refine Qn 11 rfl Qli ?_
      refine Qn 12 rfl Qai ?_
      refine Canon.done _ _ (by kernel_rfl) ?_
      refine blkN (thenN (AW.region (Qp Qad ?_)))
      refine Qp Qmi ?_
      refine Qnn ?_
      refine ⟨(q.1+1,c.y),?_,?_,GS.weaken ⟨rfl,rfl,rfl,rfl,rfl,trivial⟩ (.refl _)⟩
      · exact ⟨hlt3,back_next hQ.2.1 hlt3 ok,by have:=hb9.2;rw [ok.pred] at this;exact this⟩
      · simp only;omega
     ·
      have hge3:n≤q.1:=by have:=of_decide_eq_false hc3;omega
      have hfr:backN bs p.2.1 n p.2.2=q.2:=hQ.2.1.trans (by rw [show n - q.1=0 by omega];rfl)
      refine AW.exit ?_
      refine thenE (thenE (blkHit (thenN ?_)))
      refine AWX.seq ?_
      refine AW.region (Qe (E_alloc (l:=[.val (.slice none 0 0)]) (by kernel_rfl)) ?_)
      rintro _ _ ⟨b6,rfl,rfl⟩
      refine AOL.ghost (GS.cellRow 0 0 3 1 rfl rfl rfl rfl) ?_
      refine Qnn ?_
      refine AWX.assoc ?_
      refine AW.region (Qp Qmv ?_)
      refine Qp (Qlg [.int .i64 _,_]) ?_
      refine Qp Qmi ?_
      refine Qp (Qc rfl (f_back u.1 n bs q.2)) ?_
      refine Qnn ?_
      refine AWX.rangeTail tok (fun H2=>∃v es,es≠[]∧H2 = .row v es.length 3 1 :: .box b6 154 [.row v 1 es]::(.box u.1 231 [.val (.slice (some ⟨u.2.1,0,none⟩) n n),.val (.slice (some ⟨u.2.2,0,none⟩) n n)] :: .box u.2.1 3 (bI p.2.1.sums) :: .box u.2.2 3 (bI p.2.1.last)::H)) rfl (by kernel_rfl) (fun rec D l hst hpe hps has hbo hsz htm=>?_) (fun D H2 hZ=>?_)
      ·
       have h6:=htm 6 _ rfl
       refine ACall.post (ACall.perm (List.perm_append_comm.append_right _:(([_,_,_,_]++[_,_,_])++H).Perm _) (f_back1 l rec u.1 u.2.1 u.2.2 n bs p.2.1 hz.n64 hd2.l (fun v pre=>.obj l (.loop rec) :: .obj D (.deferred (some [])) :: .row v ((pre.map cI)).length 3 1 :: .box b6 154 [.row v 1 ((pre.map cI))]::H) (by rw [hps];rfl) 0 (fun _ _=>rfl) q.2 (by rw [←hfr];exact hcy) (fun v pre x hpl=>?_) (.slice none 0 0))) ?_
       ·
        refine ARound.of (sl:=[(53,.int .i64 x),(6,.val (.pointer (some ⟨b6,0,none⟩)))]) hst hpe hsz (by rw [hps];exact one_params hsz rfl h6) ?_
        rw [has,hbo]
        refine AWr.region (by kernel_rfl) ?_
        refine Qp Qai ?_
        refine AOL.nil ?_
        refine ⟨rfl,3,rfl,?_⟩
        refine AWr.block (AWr.region (by kernel_rfl) ?_)
        refine AOL.pk (P_load_box (k:=6) (c:=.row _ _ _) tok rfl rfl rfl rfl) rfl rfl ?_
        refine Qp Qmi ?_
        refine Qp (P_buildSlice (es:=[[.int .i64 _]]) tok rfl rfl rfl rfl rfl rfl rfl rfl rfl) ?_
        refine Qe (E_append (k:=5) tok rfl rfl rfl rfl rfl rfl rfl rfl (sc_one rfl) (sc_map fun _=>rfl) (by simp;omega) (by simp [maxLen];omega)) ?_
        rintro _ _ ⟨v57,rfl,rfl⟩
        refine Qe (E_store (k:=6) (v:=.row _ _ _) (cs':=[_]) (H2:=_::_::_::_::_::_::_::_) tok rfl rfl rfl rfl (rfl) rfl rfl rfl rfl) ?_
        rintro _ _ ⟨rfl,rfl⟩
        refine AOL.nil ?_
        exact ⟨rfl,3,rfl,rfl,v57,congrArg (fun es:List (List AV)=>(.box u.1 231 [.val (.slice (some ⟨u.2.1,0,none⟩) n n),.val (.slice (some ⟨u.2.2,0,none⟩) n n)] :: .box u.2.1 3 (bI p.2.1.sums) :: .box u.2.2 3 (bI p.2.1.last) :: .obj l (.loop rec) :: .obj D (.deferred (some [])) :: .row v57 (es).length 3 1 :: .box b6 154 [.row v57 1 (es)]::H:List HO)) (List.map_append (f:=cI) (l₁:=pre) (l₂:=[x])).symm⟩
       ·
        rintro r K ⟨rfl,v,es,hne,rfl⟩
        exact ⟨_,(List.perm_append_comm.append_right _:(([_,_,_]++[_,_,_,_])++H).Perm _),rec,_,rfl,by rw [hst];decide,hpe,v,es.map cI,fun h=>hne (List.map_eq_nil_iff.1 h),rfl⟩
      ·
       obtain ⟨v,es,hne,rfl⟩:=hZ
       refine ⟨_,GS.cell (H2:=_::_::_::_::_::_::_) 2 0 rfl rfl rfl rfl unrow_cell,?_⟩
       refine AWD.draw mixed (fun H'=>_∈H') (List.mem_of_getElem? (i:=2) rfl) (by kernel_rfl) ?_
       refine Qn 0 rfl (OpP.mem (fun k=>P_load_box (k:=k) (c:=.sl _ _) tok rfl rfl rfl rfl) (fun _ h=>h)) ?_
       refine Qn 1 rfl Qav ?_
       refine Qn 2 rfl Qas ?_
       refine Canon.done _ _ (by kernel_rfl) ?_
       refine ⟨0,rfl,[_,_],.cons (.tmp _ _ rfl) (.cons (.tmp _ _ rfl) .nil),H,.cons _ (.cons _ (.cons _ (.cons _ (.cons _ (.cons _ (.refl _)))))),?_⟩
       exact Eq.mpr (if_neg (by rw [hge];decide)) ⟨es,hne,rfl,rfl⟩

end Go.Proofs.YtkddpedfbicbeaaGreatDoor

namespace Go.Proofs.YtkddpedfbicbeaaGreatDoor
open Go Go.Aw
set_option maxHeartbeats 1600000
set_option maxRecDepth 20000
set_option linter.unusedVariables false
set_option linter.unusedSimpArgs false

theorem f_SolveY (n:Nat)(bs:List Bd)(hm:∀b∈bs,-big≤b.most∧b.most≤big)(hW:(zoneE (zn n bs) != 0)=false→decide ((endS (zn n bs)).2 < 0)=false→walkOK n bs=true)(hE:decide ((endS (zn n bs)).2 < 0)=true):APure Tryz.prog 145 [.agg (cZn (zn n bs))] (.tuple [.bool (SolveD (zn n bs)).ok,.sl 1 ((SolveD (zn n bs)).values.map cI),.junk,.int .i64 (SolveD (zn n bs)).err]):=by
 refine APure.body (n:=41) tok Tryz.func145 rfl rfl rfl fun H=>?_
 refine Qsr (Qp (Qbx [.int .i64 _,_]) ?_)
 refine Qp Qab ?_
 refine Qp Qav ?_
 refine Qp Qav ?_
 refine Qp Qai ?_
 refine Qnn (AW.seq (Qsr (Qp (Qlg [.int .i64 _,_]) ?_)))
 refine Qp (Qc rfl (f_Check (zn n bs))) ?_
 refine Qp Qai ?_
 refine Qns (Qp Qmi ?_)
 refine Qp Qcne ?_
 refine Qnn (Qif (fun hc1=>?_) fun hc1=>?_)
 ·
  refine Qsr (Qp Qmi ?_)
  refine Qp Qab ?_
  refine Qp (P_assign_nil (z:=1) rfl) ?_
  refine Qp (P_assign_nil (z:=1) rfl) ?_
  refine Qp Qai ?_
  refine AOL.ghost (GS.weaken (sl':=[(2,_),(3,_),(5,_)]) ⟨rfl,rfl,rfl,trivial⟩ (.refl _)) ?_
  refine Qnn (Qrt ?_)
  refine ⟨.inr rfl,[.bool _,.sl _ _,.junk,.int .i64 _],.cons (.tmp _ _ rfl) <| .cons (.tmp _ _ rfl) <| .cons (.tmp _ _ rfl) <| .cons (.tmp _ _ rfl) <| .nil,.refl _,?_⟩
  exact Eq.trans rfl (congrArg (fun q:So=>AV.tuple [.bool q.ok,.sl 1 (q.values.map cI),.junk,.int .i64 q.err]) (Solve_1 hc1)).symm
 ·
  have hz:=zn_ok hc1 hm
  have hn1:=hz.n1
  have hn64:=hz.n64
  have hok:=end_ok hz
  have hi0:=hok.ix (Int.le_refl 0) (by omega)
  refine Qst (Qsr (Qp (Qlg [.int .i64 _,_]) ?_))
  refine Qe (E_callf (by kernel_rfl) rfl rfl ((f_solve n bs hz (fun h=>absurd (hE.symm.trans h) (by decide)) _).mono' (fun r K h=>Eq.mp (if_pos hE) h))) ?_
  rintro _ _ ⟨b18,rfl,rfl⟩
  refine Qp Qmu ?_
  refine Qp Qxv ?_
  refine Qp Qxv ?_
  refine Qp Qav ?_
  refine Qp Qav ?_
  refine Qnn (AW.seq (Qsr (Qp Qmv ?_)))
  refine Qp (P_neqNil0 tok rfl rfl rfl) ?_
  refine Qnn (Qif (fun hc2=>?_) fun hc2=>?_)
  ·
   cases hc2
  ·
   refine Qst (Qsr (Qp Qmv ?_))
   refine Qp (P_indexAddr_val tok rfl rfl rfl rfl rfl (Int.le_refl 0) (by omega) (rfl)) ?_
   refine AOL.pk (P_load_box (k:=0) (c:=.int .i64 (ixI (endS (zn n bs)).1.sums 0)) tok rfl rfl rfl (bI_at (Int.le_refl 0) (by rw [hok.s];omega))) rfl rfl ?_
   refine Qp Qai ?_
   refine Qnn (AW.seq (Qsr (Qp Qmv ?_)))
   refine Qp (P_len_val tok rfl rfl rfl) ?_
   refine Qp Qmi ?_
   refine Qnn (AW.block ?_)
   refine AW.loopS (fun (p:Nat)=>(⟨[(7,.val (.slice (some ⟨b18,0,none⟩) n n)),(9,.int .i64 (ixI (endS (zn n bs)).1.sums 0)),(28,.int .i64 (n:Int)),(29,.int .i64 (p:Int))],.box b18 3 (bI (subL (endS (zn n bs)).1.sums p))::H,41⟩:St)) (fun (p:Nat)=>p≤n) (fun (p:Nat)=>n - p) (0) ?_ (GS.weaken ⟨rfl,rfl,rfl,rfl,trivial⟩ (.refl _)) ?_
   · exact Nat.zero_le _
   ·
    rintro p hR
    refine Qsr (Qp Qclt ?_)
    refine Qnn (AW.seq (Qif (fun hc3=>?_) fun hc3=>?_))
    ·
     have hlt:p < n:=by have:=of_decide_eq_true hc3;omega
     have hi1:=hok.ix (k:=(p:Int)) (by omega) (by omega)
     refine Qst (AW.seq (AW.block (Qsr (Qp Qmi ?_))))
     refine Qp Qai ?_
     refine Qnn (AW.region (Qp Qmv ?_))
     refine Qp Qmi ?_
     refine Qp (P_indexAddr_val (o':=(p:Int).toNat) tok rfl rfl rfl rfl rfl (by omega) (by omega) (off0 _)) ?_
     refine AOL.pk (P_load_box (k:=0) (c:=.int .i64 (ixI (endS (zn n bs)).1.sums (p:Int))) tok rfl rfl rfl ((bI_at (k:=(p:Int)) (by omega) (by rw [subL_len (by rw [hok.s];omega),hok.s];omega)).trans (congrArg (fun v=>some (AV.int .i64 v)) (subL_at (by rw [hok.s];exact hlt))))) rfl rfl ?_
     refine Qp Qmi ?_
     refine Qp (P_sub rfl rfl rfl (by constructor <;> omega)) ?_
     refine Qp (P_indexAddr_val (o':=p) tok rfl rfl rfl rfl rfl (by omega) (by omega) (off0 _)) ?_
     refine Qe (E_store (k:=0) (v:=.int .i64 _) (cs':=bI (subL (endS (zn n bs)).1.sums (p+1))) (H2:=_::_) tok rfl rfl rfl rfl rfl rfl (bI_fits (by rw [subL_len (by rw [hok.s];omega),hok.s];exact hlt)) ((bI_set (by rw [subL_len (by rw [hok.s];omega),hok.s];exact hlt)).trans (congrArg bI (subL_set (by rw [hok.s];exact hlt)))) rfl) ?_
     rintro _ _ ⟨rfl,rfl⟩
     refine AOL.nil (blkN (thenN (AW.region (Qp Qad ?_))))
     refine Qp Qmi ?_
     refine Qnn ?_
     refine ⟨p+1,?_,?_,GS.weaken ⟨rfl,rfl,rfl,rfl,trivial⟩ (.refl _)⟩
     · exact hlt
     · omega
    ·
     have hkn:(endS (zn n bs)).1.sums.length≤p:=by rw [hok.s];have:=of_decide_eq_false hc3;omega
     refine AW.exit ?_
     refine thenE (thenE (blkHit (thenN (Qsr (Qp Qmv ?_)))))
     refine Qp Qab ?_
     refine Qp Qav ?_
     refine Qp Qav ?_
     refine Qp Qai ?_
     refine AOL.ghost (GS.freezeSl (t:=3) (z:=1) (es:=((endS (zn n bs)).1.sums.map (fun v=>v - ixI (endS (zn n bs)).1.sums 0)).map cI) 0 rfl rfl ((bI_flat _).trans (congrArg bI (subL_full hkn).symm)) (by rw [List.length_map,List.length_map];exact hok.s.symm) (Nat.le_refl _) (by unfold maxLen;omega) (one_each (fun _=>rfl) _) slot_is) ?_
     refine AOL.ghost (GS.weaken (sl':=[(2,_),(3,_),(5,_)]) ⟨rfl,rfl,rfl,trivial⟩ (.refl _)) ?_
     refine Qnn (AW.ret ?_)
     refine ⟨.inr rfl,[.bool _,.sl _ _,.junk,.int .i64 _],.cons (.tmp _ _ rfl) <| .cons (.tmp _ _ rfl) <| .cons (.tmp _ _ rfl) <| .cons (.tmp _ _ rfl) <| .nil,.refl _,?_⟩
     exact Eq.trans rfl (congrArg (fun q:So=>AV.tuple [.bool q.ok,.sl 1 (q.values.map cI),.junk,.int .i64 q.err]) (Solve_2 hc1 hE)).symm
theorem f_SolveN (n:Nat)(bs:List Bd)(hm:∀b∈bs,-big≤b.most∧b.most≤big)(hW:(zoneE (zn n bs) != 0)=false→decide ((endS (zn n bs)).2 < 0)=false→walkOK n bs=true)(hE:decide ((endS (zn n bs)).2 < 0)=false):APure Tryz.prog 145 [.agg (cZn (zn n bs))] (.tuple [.bool (SolveD (zn n bs)).ok,.sl 1 ((SolveD (zn n bs)).values.map cI),.junk,.int .i64 (SolveD (zn n bs)).err]):=by
 refine APure.body (n:=41) tok Tryz.func145 rfl rfl rfl fun H=>?_
 refine Qsr (Qp (Qbx [.int .i64 _,_]) ?_)
 refine Qp Qab ?_
 refine Qp (P_assign_nil (z:=1) rfl) ?_
 refine Qp (P_assign_nil (z:=1) rfl) ?_
 refine Qp Qai ?_
 refine Qnn (AW.seq (Qsr (Qp (Qlg [.int .i64 _,_]) ?_)))
 refine Qp (Qc rfl (f_Check (zn n bs))) ?_
 refine Qp Qai ?_
 refine Qns (Qp Qmi ?_)
 refine Qp Qcne ?_
 refine Qnn (Qif (fun hc1=>?_) fun hc1=>?_)
 ·
  refine Qsr (Qp Qmi ?_)
  refine Qp Qab ?_
  refine Qp (P_assign_nil (z:=1) rfl) ?_
  refine Qp (P_assign_nil (z:=1) rfl) ?_
  refine Qp Qai ?_
  refine AOL.ghost (GS.weaken (sl':=[(2,_),(3,_),(5,_)]) ⟨rfl,rfl,rfl,trivial⟩ (.refl _)) ?_
  refine Qnn (Qrt ?_)
  refine ⟨.inr rfl,[.bool _,.sl _ _,.junk,.int .i64 _],.cons (.tmp _ _ rfl) <| .cons (.tmp _ _ rfl) <| .cons (.tmp _ _ rfl) <| .cons (.tmp _ _ rfl) <| .nil,.refl _,?_⟩
  exact Eq.trans rfl (congrArg (fun q:So=>AV.tuple [.bool q.ok,.sl 1 (q.values.map cI),.junk,.int .i64 q.err]) (Solve_1 hc1)).symm
 ·
  have hz:=zn_ok hc1 hm
  refine Qst (Qsr (Qp (Qlg [.int .i64 _,_]) ?_))
  refine Qe (E_callf (by kernel_rfl) rfl rfl ((f_solve n bs hz (fun h=>hW hc1 h) _).mono' (fun r K h=>Eq.mp (if_neg (by rw [hE];decide)) h))) ?_
  rintro _ _ ⟨es,hne,rfl,rfl⟩
  refine Qp Qmu ?_
  refine Qp Qxv ?_
  refine Qp Qxs ?_
  refine Qp Qav ?_
  refine Qp Qas ?_
  refine Qnn (AW.seq (Qsr (Qp Qms ?_)))
  refine Qp (P_neqNil1 tok rfl hne rfl rfl) ?_
  refine Qnn (Qif (fun hc2=>?_) fun hc2=>?_)
  ·
   refine Qsr (Qp Qms ?_)
   refine Qp Qab ?_
   refine Qp (P_assign_nil (z:=1) rfl) ?_
   refine Qp Qas ?_
   refine Qp Qai ?_
   refine AOL.ghost (GS.weaken (sl':=[(2,_),(3,_),(5,_)]) ⟨rfl,rfl,rfl,trivial⟩ (.refl _)) ?_
   refine Qnn (Qrt ?_)
   refine ⟨.inr rfl,[.bool _,.sl _ _,.junk,.int .i64 _],.cons (.tmp _ _ rfl) <| .cons (.tmp _ _ rfl) <| .cons (.tmp _ _ rfl) <| .cons (.tmp _ _ rfl) <| .nil,.refl _,?_⟩
   exact Eq.trans rfl (congrArg (fun q:So=>AV.tuple [.bool q.ok,.sl 1 (q.values.map cI),.junk,.int .i64 q.err]) (Solve_3 hc1 hE)).symm
  ·
   cases hc2
theorem f_Solve (n:Nat)(bs:List Bd)(hm:∀b∈bs,-big≤b.most∧b.most≤big)(hW:(zoneE (zn n bs) != 0)=false→decide ((endS (zn n bs)).2 < 0)=false→walkOK n bs=true):APure Tryz.prog 145 [.agg (cZn (zn n bs))] (.tuple [.bool (SolveD (zn n bs)).ok,.sl 1 ((SolveD (zn n bs)).values.map cI),.junk,.int .i64 (SolveD (zn n bs)).err]):=by
  cases hE:decide ((endS (zn n bs)).2 < 0) with
  | true=>exact f_SolveY n bs hm hW hE
  | false=>exact f_SolveN n bs hm hW hE

end Go.Proofs.YtkddpedfbicbeaaGreatDoor

namespace Go.Proofs.YtkddpedfbicbeaaGreatDoor
open Go Go.Aw
set_option maxHeartbeats 1600000
set_option maxRecDepth 20000
set_option linter.unusedVariables false
set_option linter.unusedSimpArgs false

theorem d_strings (T:List Sc)(V:List Va)(l:List Lit)(hlk:LOK T V l)(H:List HO):ACall Tryz.prog 144 H [.agg (cScene T V),.sl 9 (l.map cLit)] (fun r H'=>∃m,r = .tuple [.val (.map (some m)),.bool (stringsS T V l).2]∧H' = .kmap m (wE (stringsS T V l).1)::H):=by
 refine ACall.body (n:=20) tok Tryz.func144 rfl rfl rfl ?_
 refine Qsr (Qp (Qbx [_,_]) ?_)
 refine Qp (P_box (v:=.sl _ _) (cs:=[_]) rfl rfl rfl) ?_
 refine Qp Qav ?_
 refine Qp Qab ?_
 refine Qns (Qe (E_makeKMap) ?_)
 rintro _ _ ⟨b9,rfl,rfl⟩
 refine Qe (E_alloc (l:=[.val (.map none)]) (by kernel_rfl)) ?_
 rintro _ _ ⟨b6,rfl,rfl⟩
 refine Qe (E_store (k:=0) (v:=.val _) (cs':=[_]) (H2:=_::_::_) tok rfl rfl rfl rfl (rfl) rfl rfl rfl rfl) ?_
 rintro _ _ ⟨rfl,rfl⟩
 refine Qns (Qp (P_makeFunc (l:=[]) (l':=[.ptr _,.ptr _,.val _]) rfl rfl) ?_)
 refine Qp (P_assign (v:=.fn _ _ _) rfl) ?_
 refine Qns (Qp (P_move (v:=.fn _ _ _) rfl) ?_)
 refine Qp (P_makeFunc (l:=[]) (l':=[.val _]) rfl rfl) ?_
 refine Qe (E_call (by kernel_rfl) rfl rfl rfl (ACall.front2 (R:=_) 1 0 rfl rfl rfl (d_eachT T V l hlk b6 b9 _))) ?_
 rintro _ _ ⟨rfl,rfl⟩
 refine Qp Qab ?_
 refine Qnn (AW.seq ?_)
 refine AW.draw mixed (fun H'=>_∈H') (List.mem_of_getElem? (i:=0) rfl) (by kernel_rfl) ?_
 refine Qn 0 rfl (OpP.mem (fun k=>P_load_box (k:=k) (c:=.val _) tok rfl rfl rfl rfl) (fun _ h=>h)) ?_
 refine Qn 1 rfl Qmb ?_
 refine Qn 2 rfl Qmb ?_
 refine Canon.pure _ _ 3 _ _ rfl (by kernel_rfl) (by kernel_rfl) rfl (.opt _ (.fn _ _ _) [] rfl (EntL.all trivial) (fun hG=>P_move (v:=.fn _ _ _) rfl) rfl) ?_
 refine Canon.effg _ _ 4 _ _ [(17,_)] _ _ rfl (by kernel_rfl) rfl rfl (EntL.all ⟨Ent.self _ _,trivial⟩) (fun hG=>E_call (by kernel_rfl) rfl rfl rfl (ACall.front2 (R:=_) 1 0 rfl rfl rfl (d_eachF T V l hlk b6 b9 (eqGo T V l []).1 (eqGo_ok l [] wOK_nil) _))) (fun hG=>rfl) (List.mem_of_getElem? (i:=0) rfl) ?_
 refine Qn 5 rfl Qpa ?_
 refine Qn 6 rfl Qav ?_
 refine Qn 7 rfl Qab ?_
 refine Canon.done _ _ (by kernel_rfl) ?_
 refine thenN (AW.ret ?_)
 refine ⟨.inr rfl,[.val _,.bool _],.cons (.tmp _ _ rfl) <| .cons (.tmp _ _ rfl) <| .nil,_,.cons _ (.refl _),?_⟩
 exact ⟨b9,rfl,rfl⟩
theorem f_SolveZ (T:List Sc)(V:List Va)(l:List Lit)(hlk:LOK T V l)(hs:SOLV T V l):APure Tryz.prog 145 [.agg (cZn (zoneS T V l))] (.tuple [.bool (SolveD (zoneS T V l)).ok,.sl 1 ((SolveD (zoneS T V l)).values.map cI),.junk,.int .i64 (SolveD (zoneS T V l)).err]):=
  f_Solve (zN T V l) (zoneS T V l).bs (zone_most hlk) hs
theorem d_solve (T:List Sc)(V:List Va)(l:List Lit)(hlk:LOK T V l)(hll:l.length≤4096)(hs:SOLV T V l)(H:List HO):ACall Tryz.prog 103 H [.agg (cScene T V),.sl 9 (l.map cLit)] (fun r H'=>∃m mo,(fitsS (zoneS T V l)=true→mo=some m)∧r = .tuple [.agg [.ptr (cSy T V l),.sl 1 ((solV T V l).map cI),.val (.map mo)],.bool (solK T V l)]∧H' = .kmap m (wE (stringsS T V l).1)::H):=by
 refine ACall.body (n:=45) tok Tryz.func103 rfl rfl rfl ?_
 refine Qsr (Qp (Qbx [_,_]) ?_)
 refine Qe (E_alloc (l:=[.val (.pointer none),.sl 1 [],.val (.map none)]) (by kernel_rfl)) ?_
 rintro _ _ ⟨b4,rfl,rfl⟩
 refine Qp Qab ?_
 refine Qns (Qp (Qlg [_,_]) ?_)
 refine Qp Qms ?_
 refine Qp (Qc rfl (d_system T V l hll hlk)) ?_
 refine Qp Qap ?_
 refine Qns (Qp (Qlg [_,_]) ?_)
 refine Qp Qms ?_
 refine Qe (E_callf (by kernel_rfl) rfl rfl (d_strings T V l hlk _)) ?_
 rintro _ _ ⟨m,rfl,rfl⟩
 refine Qp Qmu ?_
 refine Qp Qxv ?_
 refine Qp Qxb ?_
 refine Qp Qav ?_
 refine Qp Qab ?_
 refine Qnn (AW.seq (Qsr (Qp Qmp ?_)))
 refine Qp (Qc rfl (d_fits T V l)) ?_
 refine Qp Qnt ?_
 refine Qnn (Qif (fun hc1=>?_) fun hc1=>?_)
 ·
  refine Qsr (Qp Qmp ?_)
  refine Qp (Qbd [_,_,_]) ?_
  refine Qe (E_store (k:=1) (v:=.agg _) (cs':=[_,_,_]) (H2:=_::_::_) tok rfl rfl rfl rfl (rfl) rfl rfl rfl rfl) ?_
  rintro _ _ ⟨rfl,rfl⟩
  refine Qp Qab ?_
  refine Qnn (Qrt ?_)
  refine ⟨.inr rfl,[.agg [_,_,_],.bool _],.cons (.box _ _ _ 1 _ _ _ _ rfl rfl rfl rfl rfl rfl) <| .cons (.tmp _ _ rfl) <| .nil,_,.cons_cons _ (.cons _ (.refl _)),?_⟩
  exact ⟨m,_,fun h=>absurd ((Bool.not_eq_true' _).mp hc1) (by rw [h];decide),Eq.trans rfl (congrArg (fun q:List Int×Bool=>AV.tuple [.agg [.ptr (cSy T V l),.sl 1 (q.1.map cI),.val (.map none)],.bool q.2]) (Prod.ext (solV_1 hc1) (solK_1 hc1):(solV T V l,solK T V l)=([],true))).symm,rfl⟩
 ·
  refine Qst (Qsr (Qp Qmp ?_))
  refine Qp (P_nilCheck_ptr rfl) ?_
  refine Qp (Qf [.int .i64 _,_,_,_]) ?_
  refine Qp (Qlg [.int .i64 _,_]) ?_
  refine Qp (Qc rfl (f_SolveZ T V l hlk hs)) ?_
  refine Qp Qmu ?_
  refine Qp Qxb ?_
  refine Qp Qxs ?_
  refine Qp (P_extract (v:=.junk) rfl rfl) ?_
  refine Qp Qxi ?_
  refine Qp Qab ?_
  refine Qp Qas ?_
  refine Qp (P_assign (v:=.junk) rfl) ?_
  refine Qp Qai ?_
  refine Qns (Qp Qmp ?_)
  refine Qp Qms ?_
  refine Qp Qmv ?_
  refine Qp (Qbd [_,_,_]) ?_
  refine Qp Qmb ?_
  refine Qp Qmb ?_
  refine Qg [] Qw Qmb ?_
  refine Qp Qpa ?_
  refine Qe (E_store (k:=1) (v:=.agg _) (cs':=[_,_,_]) (H2:=_::_::_) tok rfl rfl rfl rfl (rfl) rfl rfl rfl rfl) ?_
  rintro _ _ ⟨rfl,rfl⟩
  refine Qp Qab ?_
  refine Qnn (AW.ret ?_)
  refine ⟨.inr rfl,[.agg [_,_,_],.bool _],.cons (.box _ _ _ 1 _ _ _ _ rfl rfl rfl rfl rfl rfl) <| .cons (.tmp _ _ rfl) <| .nil,_,.cons_cons _ (.cons _ (.refl _)),?_⟩
  exact ⟨m,_,fun _=>rfl,Eq.trans rfl (congrArg (fun q:List Int×Bool=>AV.tuple [.agg [.ptr (cSy T V l),.sl 1 (q.1.map cI),.val (.map (some m))],.bool q.2]) (Prod.ext (solV_2 hc1) (solK_2 hc1):(solV T V l,solK T V l)=(_,_))).symm,rfl⟩
theorem d_certain (T:List Sc)(V:List Va)(l:List Lit)(hlk:LOK T V l)(hll:l.length≤1048576)(v:List Int)(mo:Option Nat):APure Tryz.prog 104 [.agg (cScene T V),.sl 9 (l.map cLit),.agg [.ptr (cSy T V l),.sl 1 (v.map cI),.val (.map mo)]] (.bool (certS T V l)):=by
 refine APure.body (n:=29) tok Tryz.func104 rfl rfl rfl fun H=>?_
 refine Qsr (Qp (Qbx [_,_]) ?_)
 refine Qp (Qbx [_,_,_]) ?_
 refine Qp Qab ?_
 refine Qnn (AW.seq (Qsr (Qp Qms ?_)))
 refine Qp (P_len_sl (n:=l.length) tok rfl rfl rfl (by simp)) ?_
 refine Qp Qmi ?_
 refine Qnn (AW.block ?_)
 refine AW.loopS (fun (k:Nat)=>(⟨[(1,.sl 9 (l.map cLit)),(3,.ptr (cScene T V)),(5,.ptr [.ptr (cSy T V l),.sl 1 (v.map cI),.val (.map mo)]),(9,.sl 9 (l.map cLit)),(10,.int .i64 l.length),(11,.int .i64 (k:Int))],H,29⟩:St)) (fun (k:Nat)=>k≤l.length∧(l.take k).all (fun c=>simpleS T V c.cond)=true) (fun (k:Nat)=>l.length - k) (0) ?_ (GS.weaken ⟨rfl,rfl,rfl,rfl,rfl,rfl,trivial⟩ (.refl _)) ?_
 · simp
 ·
  rintro k hR
  refine Qsr (Qp Qclt ?_)
  refine Qnn (AW.seq (Qif (fun hc1=>?_) fun hc1=>?_))
  ·
   obtain ⟨c,hc⟩:=get_lt hc1
   have hlt:=get_lt' hc
   have hcm:=List.mem_of_getElem? hc
   have hck:=(hlk c hcm).1
   have hcs:=Nat.le_trans (hlk c hcm).2 (by decide:64≤1048576)
   refine Qst (AW.seq (AW.block (Qsr (Qp (P_indexAddr (c:=[.int .i64 _,_,.int .i64 _,.int .i64 _,.int .i64 _,.int .i64 _,.int .i64 _,.str _,.bool _]) tok rfl rfl rfl rfl rfl rfl (by omega) (map_at hc)) ?_))))
   refine Qp (Qlg [.int .i64 _,_,.int .i64 _,.int .i64 _,.int .i64 _,.int .i64 _,.int .i64 _,.str _,.bool _]) ?_
   refine Qe (E_alloc (l:=[.int .i64 0,.sl 8 [],.int .i64 0,.int .i64 0,.int .i64 0,.int .i64 0,.int .i64 0,.str [],.bool false]) (by kernel_rfl)) ?_
   rintro _ _ ⟨b8,rfl,rfl⟩
   refine Qe (E_store (k:=0) (v:=.agg _) (cs':=[.int .i64 _,_,.int .i64 _,.int .i64 _,.int .i64 _,.int .i64 _,.int .i64 _,.str _,.bool _]) (H2:=_::_) tok rfl rfl rfl rfl (rfl) rfl rfl rfl rfl) ?_
   rintro _ _ ⟨rfl,rfl⟩
   refine AOL.ghost (GS.freeze (t:=8) 0 rfl rfl) ?_
   refine Qns (Qp (Qlg [_,_]) ?_)
   refine Qp (Qf [.int .i64 _,_,.int .i64 _,.int .i64 _,.int .i64 _,.int .i64 _,.int .i64 _,.str _,.bool _]) ?_
   refine Qp Qle ?_
   refine Qp (Qc rfl (d_simple T V c.cond hck hcs)) ?_
   refine Qp Qnt ?_
   refine Qnn (Qif (fun hc2=>?_) fun hc2=>?_)
   ·
    refine Qsr (Qp Qab ?_)
    refine Qnn (AW.ret (blkR (thenR (thenR (blkR (thenR (Qr (.bool _) ?_)))))))
    exact Eq.trans rfl (congrArg AV.bool (cert_no hc ((Bool.not_eq_true' _).mp hc2))).symm
   ·
    refine AW.skip (blkN (thenN (AW.region (Qp Qad ?_))))
    refine Qp Qmi ?_
    refine Qnn ?_
    refine ⟨k+1,?_,?_,GS.weaken ⟨rfl,rfl,rfl,rfl,rfl,rfl,trivial⟩ (.refl _)⟩
    · exact ⟨hlt,by rw [take_get hc,List.all_append,hR.2];simpa using hc2⟩
    · omega
  ·
   have hte:=take_end hc1
   have hall:=hR.2
   rw [hte] at hall
   refine AW.exit ?_
   refine thenE (thenE (blkHit (thenN (Qsr (Qp (Qf [_,_,_]) ?_)))))
   refine Qp Qlp ?_
   refine Qp (Qc rfl (d_fits T V l)) ?_
   refine Qp Qmb ?_
   refine Qg [] Qw Qms ?_
   refine AOL.g (y:=.int .i64 _) _ [(25,_)] rfl (EntL.all ⟨Ent.self _ _,trivial⟩) (fun hG=>P_len_sl (n:=l.length) tok rfl rfl rfl (by simp)) rfl ?_
   refine Qg [(26,_)] Qw Qclq ?_
   refine Qp Qpa ?_
   refine Qp Qab ?_
   refine Qnn (AW.ret (Qr (.bool _) ?_))
   exact Eq.trans rfl (congrArg AV.bool (cert_all hall)).symm

end Go.Proofs.YtkddpedfbicbeaaGreatDoor

namespace Go.Proofs.YtkddpedfbicbeaaGreatDoor
open Go Go.Aw
set_option maxHeartbeats 1600000
set_option maxRecDepth 20000
set_option linter.unusedVariables false
set_option linter.unusedSimpArgs false

theorem d_events1 (T:List Sc)(V:List Va)(bo:Nat)(v:Value)(l:Es)(hev:evOK T V (l.map Prod.fst))(t:Tm)(ht:tmOK T V t)(ho1:t.op=1)(s:Str1)(R:List HO):ACall Tryz.prog 147 (evH bo v l R) [.agg (cTm t),.str s,.val (.pointer (some ⟨bo,0,none⟩))] (fun r H'=>r = .tuple []∧H'=evH bo v (l.modify t.v.toNat fun p=>(atV p.1 t.field.toNat (fun y=>{ y with text:=s }),p.2)) R):=by
 refine ACall.body (n:=16) tok Tryz.func147 rfl rfl rfl ?_
 refine AW.ghostPost ?_
 refine Qsr (Qp (Qbx [.int .i64 _,.int .i64 _,.int .i64 _]) ?_)
 refine Qnn ?_
 refine (es_get hev ht).elim fun e he=>he.elim fun u hu=>?_
 have hj:=hu.1
 have hel:=hu.2.1
 have hll:=hu.2.2
 have hv0:=ht.v0
 have hv1:=ht.v1
 have hfr:=ht.f ho1
 refine (val_get ht ho1 hel).elim fun y hy=>?_
 have hyl:=get_lt' hy
 refine AW.ghost (GS.perm (ev_out hj)) ?_
 refine AW.unbuf (v:=u) (es:=e.values.map cV) (E:=28) (z:=3) 0 rfl (map_ne hy) fun bi capi Ji hui hcapi hcmi hJi hzi=>?_
 subst hui
 refine AW.unbuf (v:=v) (es:=l.map evRow) (E:=67) (z:=5) 1 rfl (map_ne hj) fun bb cap J hub hcap hcm hJ hzo=>?_
 subst hub
 have hrow:(l.map evRow)[t.v.toNat]? = some (evRow (e,.slice (some ⟨bi,0,none⟩) (e.values.map cV).length capi)):=by rw [List.getElem?_map,hj];rfl
 refine AW.draw mixed (fun H'=>_∈H'∧_∈H') ⟨(List.mem_of_getElem? (i:=2) rfl),(List.mem_of_getElem? (i:=1) rfl)⟩ (by kernel_rfl) ?_
 refine Qn 0 rfl (OpP.mem (fun k=>P_load_box (k:=k) (c:=.val _) tok rfl rfl rfl rfl) (fun _ h=>h.1)) ?_
 refine Qn 1 rfl (Qf [.int .i64 _,.int .i64 _]) ?_
 refine Qn 2 rfl Qli ?_
 refine Qn 3 rfl (P_indexAddr_val (o':=t.v.toNat*5) tok rfl rfl rfl rfl rfl (hv0) (by rw [List.length_map];omega) (Nat.zero_add _)) ?_
 refine Qn 4 rfl Qfv ?_
 refine Qn 5 rfl (OpP.mem (fun k=>P_load_box (k:=k) (c:=.val (.slice (some ⟨bi,0,none⟩) (e.values.map cV).length capi)) tok rfl rfl rfl (flat_get (o:=4) (evRow_five l) hrow rfl)) (fun _ h=>h.2)) ?_
 refine Qn 6 rfl (Qf [.int .i64 _]) ?_
 refine Qn 7 rfl Qli ?_
 refine Qn 8 rfl Qmt ?_
 refine Qn 9 rfl (P_indexAddr_val (o':=t.field.toNat*3) tok rfl rfl rfl rfl rfl (hfr.1) (by rw [List.length_map];omega) (Nat.zero_add _)) ?_
 refine Qn 10 rfl Qfv ?_
 refine Canon.last _ _ 11 _ _ rfl (by kernel_rfl) rfl rfl (E_store (k:=0) (v:=.str _) (cs':=_) (H2:=_::_::_::_) tok rfl rfl rfl rfl rfl rfl (flat_fits (o:=2) (cV_three _) (by rw [List.getElem?_map,hy];rfl) (by decide)) (flat_put (o:=2) (e:=cV y) (x:=.str s) (cV_three _) (by rw [List.getElem?_map,hy];rfl) (by decide)) rfl) (by kernel_rfl) ?_
 rintro _ _ ⟨rfl,rfl⟩
 refine ⟨_,evDone hj hy (f:=fun y=>{ y with text:=s }) rfl hcap hcm hJ hcapi hcmi hJi,.inl rfl,[],.nil,_,.refl _,?_⟩
 exact ⟨rfl,rfl⟩

end Go.Proofs.YtkddpedfbicbeaaGreatDoor
