/-
  Several texts in one: W3, W5, W6. No condition.
-/
import Derived.Test.YtkddpedfbicbeaaGreatDoorK01
import Derived.Test.YtkddpedfbicbeaaGreatDoorK05
import Derived.KernelRfl
set_option linter.unusedVariables false
set_option linter.unusedSimpArgs false
namespace Go.Proofs.YtkddpedfbicbeaaGreatDoor
open Go Go.Aw
set_option maxHeartbeats 400000
set_option maxRecDepth 20000

theorem c120 (a:Ac)(o:Vl):APure Tryz.prog 185 [.agg (cAc a),.agg (cV o)] (.tuple [.agg (cV (resultS a o).1),.int .i64 (resultS a o).2]):=by
  refine APure.body (n:=41) tok Tryz.func185 rfl rfl rfl fun H=>?_
  refine AW.seq (AW.region (Qp (Qbx [.int .i64 _,.int .i64 _,.int .i64 _,.int .i64 _,.str _]) (Qp (Qbx [.int .i64 _,.int .i64 _,.str _]) ?_)))
  refine Qe (E_alloc (l:=[.int .i64 0,.int .i64 0,.str []]) (by kernel_rfl)) ?_
  rintro _ _ ⟨b4,rfl,rfl⟩
  refine Qp Qai (AOL.nil (thenN (AW.seq (AW.seq (AW.region (Qp (Qlg [.int .i64 _,.int .i64 _,.int .i64 _,.int .i64 _,.str _]) ?_))))))
  refine Qp (Qc rfl (c126 a)) ?_
  refine Qp Qai (AOL.nil (thenN (AW.seq (AW.region (Qp Qmi (Qp Qcne (AOL.nil (thenN (Qif (fun hc1=>?_) fun hc1=>?_)))))))))
  · skip
    refine AW.seq (AW.region (Qp (Qbd [.int .i64 _,.int .i64 _,.str _]) (Qp Qmi ?_)))
    refine Qe (E_store (k:=0) (v:=.agg _) (cs':=[.int .i64 _,.int .i64 _,.str _]) (H2:=_::_) tok rfl rfl rfl rfl (rfl) rfl rfl rfl rfl) ?_
    rintro _ _ ⟨rfl,rfl⟩
    refine Qp Qai (AOL.nil (thenN (Qrt ?_)))
    refine ⟨.inr rfl,[.agg [.int .i64 _,.int .i64 _,.str _],.int .i64 _],.cons (.box _ _ _ 0 _ _ _ _ rfl rfl rfl rfl rfl rfl) <| .cons (.tmp _ _ rfl) <| .nil,.cons _ (.refl _),?_⟩
    try simp only [str0,Bool.and_true] at *
    first
      | (simp only [resOf,resultS,cV,v0];(first | rw [if_pos hc1] | skip);first | done | rfl)
      | (try simp only [Bool.not_eq_true',Bool.not_eq_false'] at *
         first
         | (simp only [resOf,resultS,cV,v0, *,Bool.false_eq_true,↓reduceIte,Bool.true_or,Bool.or_true,Bool.false_or,Bool.or_false,Bool.true_and,Bool.and_true,Bool.false_and,Bool.and_false,Bool.not_true,Bool.not_false];done)
         | (simp [resOf,resultS,cV,v0, *];done)
         | (simp_all [resOf,resultS,cV,v0];done))
      | skip
  · skip
    refine Qst (AW.seq (AW.seq (AW.region (Qp Qf3 (Qp Qli (Qp (Qlg [.int .i64 _,.int .i64 _,.str _]) ?_))))))
    refine Qp (Qc rfl (c115 a.kind o)) ?_
    refine Qp Qai (AOL.nil (thenN (AW.seq (AW.region (Qp Qmi (Qp Qcne (AOL.nil (thenN (Qif (fun hc2=>?_) fun hc2=>?_)))))))))
    · skip
      refine AW.seq (AW.region (Qp (Qbd [.int .i64 _,.int .i64 _,.str _]) (Qp Qmi ?_)))
      refine Qe (E_store (k:=0) (v:=.agg _) (cs':=[.int .i64 _,.int .i64 _,.str _]) (H2:=_::_) tok rfl rfl rfl rfl (rfl) rfl rfl rfl rfl) ?_
      rintro _ _ ⟨rfl,rfl⟩
      refine Qp Qai (AOL.nil (thenN (Qrt ?_)))
      refine ⟨.inr rfl,[.agg [.int .i64 _,.int .i64 _,.str _],.int .i64 _],.cons (.box _ _ _ 0 _ _ _ _ rfl rfl rfl rfl rfl rfl) <| .cons (.tmp _ _ rfl) <| .nil,.cons _ (.refl _),?_⟩
      try simp only [str0,Bool.and_true] at *
      first
        | (simp only [resOf,resultS,cV,v0];(first | rw [if_neg (Bool.eq_false_iff.mp hc1)] | skip);(first | rw [if_pos hc2] | skip);first | done | rfl)
        | (try simp only [Bool.not_eq_true',Bool.not_eq_false'] at *
           first
           | (simp only [resOf,resultS,cV,v0, *,Bool.false_eq_true,↓reduceIte,Bool.true_or,Bool.or_true,Bool.false_or,Bool.or_false,Bool.true_and,Bool.and_true,Bool.false_and,Bool.and_false,Bool.not_true,Bool.not_false];done)
           | (simp [resOf,resultS,cV,v0, *];done)
           | (simp_all [resOf,resultS,cV,v0];done))
        | skip
    · skip
      refine Qst (AW.seq (AW.block (AW.seq (AW.region (Qp Qf3 (Qp Qli (Qp Qceq (Qp Qab (AOL.nil ?_)))))))))
      refine thenN (Qif (fun hc3=>?_) fun hc3=>?_)
      · skip
        refine AW.seq (AW.region (Qp Qf4 (Qp Qli (Qp (Qbd [.int .i64 _,.int .i64 _,.str _]) ?_))))
        refine Qe (E_store (k:=0) (v:=.agg _) (cs':=[.int .i64 _,.int .i64 _,.str _]) (H2:=_::_) tok rfl rfl rfl rfl (rfl) rfl rfl rfl rfl) ?_
        rintro _ _ ⟨rfl,rfl⟩
        refine Qp Qai (AOL.nil (thenN (AW.ret (blkR (thenR ?_)))))
        refine ⟨.inr rfl,[.agg [.int .i64 _,.int .i64 _,.str _],.int .i64 _],.cons (.box _ _ _ 0 _ _ _ _ rfl rfl rfl rfl rfl rfl) <| .cons (.tmp _ _ rfl) <| .nil,.cons _ (.refl _),?_⟩
        try simp only [str0,Bool.and_true] at *
        first
          | (simp only [resOf,resultS,cV,v0];(first | rw [if_neg (Bool.eq_false_iff.mp hc1)] | skip);(first | rw [if_neg (Bool.eq_false_iff.mp hc2)] | skip);(first | rw [if_pos hc3] | skip);first | done | rfl)
          | (try simp only [Bool.not_eq_true',Bool.not_eq_false'] at *
             first
             | (simp only [resOf,resultS,cV,v0, *,Bool.false_eq_true,↓reduceIte,Bool.true_or,Bool.or_true,Bool.false_or,Bool.or_false,Bool.true_and,Bool.and_true,Bool.false_and,Bool.and_false,Bool.not_true,Bool.not_false];done)
             | (simp [resOf,resultS,cV,v0, *];done)
             | (simp_all [resOf,resultS,cV,v0];done))
          | skip
      · skip
        refine AW.seq (AW.region (Qp Qf4 (Qp Qli (Qp Qceq (Qp Qmb (Qg [] Qw Qf3 (Qg [(34,_)] Qw Qli (Qg [(35,_)] Qw Qcne (Qp Qpa ?_)))))))))
        refine Qp Qab (AOL.nil (thenN (Qif (fun hc4=>?_) fun hc4=>?_)))
        · skip
          refine AW.seq (AW.region (Qp (Qlg [.int .i64 _,.int .i64 _,.str _]) ?_))
          refine Qe (E_store (k:=0) (v:=.agg _) (cs':=[.int .i64 _,.int .i64 _,.str _]) (H2:=_::_) tok rfl rfl rfl rfl (rfl) rfl rfl rfl rfl) ?_
          rintro _ _ ⟨rfl,rfl⟩
          refine Qp Qai (AOL.nil (thenN (AW.ret (blkR (thenR ?_)))))
          refine ⟨.inr rfl,[.agg [.int .i64 _,.int .i64 _,.str _],.int .i64 _],.cons (.box _ _ _ 0 _ _ _ _ rfl rfl rfl rfl rfl rfl) <| .cons (.tmp _ _ rfl) <| .nil,.cons _ (.refl _),?_⟩
          try simp only [str0,Bool.and_true] at *
          first
            | (simp only [resOf,resultS,cV,v0];(first | rw [if_neg (Bool.eq_false_iff.mp hc1)] | skip);(first | rw [if_neg (Bool.eq_false_iff.mp hc2)] | skip);(first | rw [if_neg (Bool.eq_false_iff.mp hc3)] | skip);(first | rw [if_pos hc4] | skip);first | done | rfl)
            | (try simp only [Bool.not_eq_true',Bool.not_eq_false'] at *
               first
               | (simp only [resOf,resultS,cV,v0, *,Bool.false_eq_true,↓reduceIte,Bool.true_or,Bool.or_true,Bool.false_or,Bool.or_false,Bool.true_and,Bool.and_true,Bool.false_and,Bool.and_false,Bool.not_true,Bool.not_false];done)
               | (simp [resOf,resultS,cV,v0, *];done)
               | (simp_all [resOf,resultS,cV,v0];done))
            | skip
        · skip
          refine AW.skip (blkN (thenN (AW.seq (AW.region (Qp Qf5 (Qp (Qlg [.int .i64 _,.int .i64 _,.str _]) ?_))))))
          refine Qe (E_store (k:=0) (v:=.agg _) (cs':=[.int .i64 _,.int .i64 _,.str _]) (H2:=_::_) tok rfl rfl rfl rfl (rfl) rfl rfl rfl rfl) ?_
          rintro _ _ ⟨rfl,rfl⟩
          refine Qp Qai (AOL.nil (thenN (AW.ret ?_)))
          refine ⟨.inr rfl,[.agg [.int .i64 _,.int .i64 _,.str _],.int .i64 _],.cons (.box _ _ _ 0 _ _ _ _ rfl rfl rfl rfl rfl rfl) <| .cons (.tmp _ _ rfl) <| .nil,.cons _ (.refl _),?_⟩
          try simp only [str0,Bool.and_true] at *
          first
            | (simp only [resOf,resultS,cV,v0];(first | rw [if_neg (Bool.eq_false_iff.mp hc1)] | skip);(first | rw [if_neg (Bool.eq_false_iff.mp hc2)] | skip);(first | rw [if_neg (Bool.eq_false_iff.mp hc3)] | skip);(first | rw [if_neg (Bool.eq_false_iff.mp hc4)] | skip);first | done | rfl)
            | (try simp only [Bool.not_eq_true',Bool.not_eq_false'] at *
               first
               | (simp only [resOf,resultS,cV,v0, *,Bool.false_eq_true,↓reduceIte,Bool.true_or,Bool.or_true,Bool.false_or,Bool.or_false,Bool.true_and,Bool.and_true,Bool.false_and,Bool.and_false,Bool.not_true,Bool.not_false];done)
               | (simp [resOf,resultS,cV,v0, *];done)
               | (simp_all [resOf,resultS,cV,v0];done))
            | skip
theorem c117 (k:Int)(a:Ac)(v:Vl)(h:knownS a.kind=true):APure Tryz.prog 182 [.agg (cAc a),.agg (cV v),.ptr [.int .i64 k]] (.agg (cAc (stepS k a v))):=by
 refine APure.body (n:=13) tok Tryz.func182 rfl rfl rfl fun H=>?_
 refine Qsr (Qp (Qbx [.int .i64 _,.int .i64 _,.int .i64 _,.int .i64 _,.str _]) (Qp (Qbx [.int .i64 _,.int .i64 _,.str _]) ?_))
 refine Qe (E_alloc (l:=[.int .i64 0,.int .i64 0,.int .i64 0,.int .i64 0,.str []]) (by kernel_rfl)) ?_
 rintro _ _ ⟨b5,rfl,rfl⟩
 refine Qnn (AW.seq ?_)
 refine AW.draw mixed (fun _=>True) trivial (by kernel_rfl) ?_
 refine Qn 0 rfl (Qlg [.int .i64 _,.int .i64 _,.int .i64 _,.int .i64 _,.str _]) (Qn 1 rfl Qli (Qn 2 rfl Qli (Qn 3 rfl (Qlg [.int .i64 _,.int .i64 _,.str _]) ?_)))
 refine Qn 4 rfl (Qc rfl (c119 k v)) ?_
 refine Qn 5 rfl (Qbd [.int .i64 _,.int .i64 _,.int .i64 _,.int .i64 _,.str _]) ?_
 refine Qn 6 rfl (Qc rfl (c118 a ⟨k,1,singleS k v⟩ h)) ?_
 refine Canon.eff _ _ 7 _ _ rfl (by kernel_rfl) rfl rfl (E_store (k:=0) (v:=.agg _) (cs':=[.int .i64 _,.int .i64 _,.int .i64 _,.int .i64 _,.str _]) (H2:=_::_) tok rfl rfl rfl rfl (rfl) rfl rfl rfl rfl) (fun _ _ _=>trivial) ?_
 rintro _ _ ⟨rfl,rfl⟩
 refine Canon.done _ _ (by kernel_rfl) ?_
 refine thenN (AW.ret ?_)
 refine ⟨.inr rfl,[.agg [.int .i64 _,.int .i64 _,.int .i64 _,.int .i64 _,.str _]],.cons (.box _ _ _ 0 _ _ _ _ rfl rfl rfl rfl rfl rfl) <| .nil,.cons _ (.refl _),?_⟩
 rfl
theorem c116 (k:Int)(hk:knownS k=true)(a:Ac)(l:List Vl)(h:knownS a.kind=true):APure Tryz.prog 181 [.agg (cAc a),.sl 3 (l.map cV),.fn (.func 182) [] [.ptr [.int .i64 k]]] (.agg (cAc (l.foldl (stepS k) a))):=by
 refine APure.body (n:=21) tok Tryz.func181 rfl rfl rfl fun H=>?_
 refine Qsr ?_
 refine Qe (E_box (v:=.agg _) (cs:=[.int .i64 _,.int .i64 _,.int .i64 _,.int .i64 _,.str _]) rfl rfl (rfl)) ?_
 rintro _ _ ⟨b3,rfl,rfl⟩
 refine Qe (E_alloc (l:=[.int .i64 0,.int .i64 0,.int .i64 0,.int .i64 0,.str []]) (by kernel_rfl)) ?_
 rintro _ _ ⟨b6,rfl,rfl⟩
 refine Qnn (AW.seq (Qsr (Qp Qms ?_)))
 refine Qp (P_len_sl (n:=l.length) tok rfl rfl rfl (by simp)) ?_
 refine Qp Qmi (Qnn (AW.block ?_))
 refine AW.sllen 9 rfl fun hlen=>?_
 simp only [List.length_map,maxLen] at hlen
 refine AW.loopS (fun (p:Nat×Ac)=>(⟨[(2,.fn (.func 182) [] [.ptr [.int .i64 k]]),(9,.sl 3 (l.map cV)),(10,.int .i64 l.length),(11,.int .i64 (p.1:Int)),(3,.val (.pointer (some ⟨b3,0,none⟩))),(6,.val (.pointer (some ⟨b6,0,none⟩)))],.box b6 239 [.int .i64 0,.int .i64 0,.int .i64 0,.int .i64 0,.str []] :: .box b3 239 (cAc p.2)::H,21⟩:St)) (fun (p:Nat×Ac)=>p.1≤l.length∧l.foldl (stepS k) a=(l.drop p.1).foldl (stepS k) p.2∧knownS p.2.kind=true) (fun (p:Nat×Ac)=>l.length-p.1) ((0,a)) ?_ (GS.weaken ⟨rfl,rfl,rfl,rfl,rfl,rfl,trivial⟩ (.refl _)) ?_
 · exact ⟨Nat.zero_le _,by simp,h⟩
 ·
  rintro p hR
  refine Qsr (Qp Qclt (Qnn (AW.seq (Qif (fun hc1=>?_) fun hc1=>?_))))
  ·
   obtain ⟨v,hv⟩:=get_lt hc1
   have hlt:=get_lt' hv
   refine Qst (AW.seq (AW.block (Qsr ?_)))
   refine Qp (P_indexAddr (c:=[.int .i64 _,.int .i64 _,.str _]) tok rfl rfl rfl rfl rfl rfl (by omega) (map_at hv)) ?_
   refine Qp (Qlg [.int .i64 _,.int .i64 _,.str _]) ?_
   refine Qe (E_alloc (l:=[.int .i64 0,.int .i64 0,.str []]) (by kernel_rfl)) ?_
   rintro _ _ ⟨b8,rfl,rfl⟩
   refine Qe (E_store (k:=0) (v:=.agg _) (cs':=[.int .i64 _,.int .i64 _,.str _]) (H2:=_::_::_::_) tok rfl rfl rfl rfl (rfl) rfl rfl rfl rfl) ?_
   rintro _ _ ⟨rfl,rfl⟩
   refine AOL.ghost (GS.freeze (t:=8) 0 rfl rfl) ?_
   refine Qnn (AW.region ?_)
   refine Qp (P_move (v:=.fn _ _ _) rfl) ?_
   refine AOL.pk (P_load_box_agg (k:=1) (l:=[.int .i64 _,.int .i64 _,.int .i64 _,.int .i64 _,.str _]) tok rfl rfl rfl rfl rfl) rfl rfl ?_
   refine Qp (Qlg [.int .i64 _,.int .i64 _,.str _]) ?_
   refine Qp (P_call (by kernel_rfl) rfl rfl rfl (c117 k p.2 v hR.2.2)) ?_
   refine Qe (E_store (k:=1) (v:=.agg _) (cs':=[.int .i64 _,.int .i64 _,.int .i64 _,.int .i64 _,.str _]) (H2:=_::_::_) tok rfl rfl rfl rfl (rfl) rfl rfl rfl rfl) ?_
   rintro _ _ ⟨rfl,rfl⟩
   refine AOL.nil (blkN (thenN (AW.region (Qp Qad (Qp Qmi (Qnn ?_))))))
   refine ⟨(p.1+1,stepS k p.2 v),?_,?_,GS.weaken ⟨rfl,rfl,rfl,rfl,rfl,rfl,trivial⟩ (.refl _)⟩
   · exact ⟨get_lt' hv,by rw [hR.2.1,drop_cons hv];rfl,step_kind k _ v hR.2.2 hk⟩
   · have:=get_lt' hv;first | omega | (simp only;omega)
  ·
   have hd:=get_end hc1
   refine AW.exit ?_
   refine thenE (thenE (blkHit (thenN (Qsr ?_))))
   refine AOL.pk (P_load_box_agg (k:=1) (l:=[.int .i64 _,.int .i64 _,.int .i64 _,.int .i64 _,.str _]) tok rfl rfl rfl rfl rfl) rfl rfl ?_
   refine Qe (E_store (k:=0) (v:=.agg _) (cs':=[.int .i64 _,.int .i64 _,.int .i64 _,.int .i64 _,.str _]) (H2:=_::_::_) tok rfl rfl rfl rfl (rfl) rfl rfl rfl rfl) ?_
   rintro _ _ ⟨rfl,rfl⟩
   refine Qnn (AW.ret ?_)
   refine ⟨.inr rfl,[.agg [.int .i64 _,.int .i64 _,.int .i64 _,.int .i64 _,.str _]],.cons (.box _ _ _ 0 _ _ _ _ rfl rfl rfl rfl rfl rfl) <| .nil,.cons _ (.cons _ (.refl _)),?_⟩
   show AV.agg (cAc _)=_
   rw [hR.2.1,hd];rfl
theorem c106 (k:Int)(l:List Vl)(o:Vl):APure Tryz.prog 170 [.int .i64 k,.sl 3 (l.map cV),.agg (cV o)] (.tuple [.agg (cV (ofS k l o).1),.int .i64 (ofS k l o).2]):=by
  refine APure.body (n:=46) tok Tryz.func170 rfl rfl rfl fun H=>?_
  refine AW.seq (AW.region ?_)
  refine Qp (P_box (v:=.int .i64 _) (cs:=[.int .i64 _]) rfl rfl rfl) ?_
  refine Qp (Qbx [.int .i64 _,.int .i64 _,.str _]) ?_
  refine Qe (E_alloc (l:=[.int .i64 0,.int .i64 0,.str []]) (by kernel_rfl)) ?_
  rintro _ _ ⟨b6,rfl,rfl⟩
  refine Qp Qai (AOL.nil (thenN (AW.seq (AW.block (AW.seq (AW.region (Qp Qli ?_)))))))
  refine Qp (Qc rfl (c114 k)) ?_
  refine Qp Qnt (Qp Qab (AOL.nil (thenN (Qif (fun hc1=>?_) fun hc1=>?_))))
  · skip
    refine AW.seq (AW.region (Qp (Qbd [.int .i64 _,.int .i64 _,.str _]) ?_))
    refine Qe (E_store (k:=0) (v:=.agg _) (cs':=[.int .i64 _,.int .i64 _,.str _]) (H2:=_::_) tok rfl rfl rfl rfl (rfl) rfl rfl rfl rfl) ?_
    rintro _ _ ⟨rfl,rfl⟩
    refine Qp Qai (AOL.nil (thenN (AW.ret (blkR (thenR ?_)))))
    refine ⟨.inr rfl,[.agg [.int .i64 _,.int .i64 _,.str _],.int .i64 _],.cons (.box _ _ _ 0 _ _ _ _ rfl rfl rfl rfl rfl rfl) <| .cons (.tmp _ _ rfl) <| .nil,.cons _ (.refl _),?_⟩
    try simp only [str0,Bool.and_true] at *
    first
      | (simp only [resOf,ofS,cV,v0];(first | rw [if_pos hc1] | skip);first | done | rfl)
      | (try simp only [Bool.not_eq_true',Bool.not_eq_false'] at *
         first
         | (simp only [resOf,ofS,cV,v0, *,Bool.false_eq_true,↓reduceIte,Bool.true_or,Bool.or_true,Bool.false_or,Bool.or_false,Bool.true_and,Bool.and_true,Bool.false_and,Bool.and_false,Bool.not_true,Bool.not_false];done)
         | (simp [resOf,ofS,cV,v0, *];done)
         | (simp_all [resOf,ofS,cV,v0];done))
      | skip
  · skip
    have hkn:knownS k=true:=by simpa using hc1
    refine AW.seq (AW.region (Qp Qms ?_))
    refine Qp (P_len_sl (n:=l.length) tok rfl rfl rfl (by simp)) ?_
    refine Qp Qcgt (Qp Qab (AOL.nil (thenN (Qif (fun hc2=>?_) fun hc2=>?_))))
    · skip
      refine AW.seq (AW.region (Qp (Qbd [.int .i64 _,.int .i64 _,.str _]) ?_))
      refine Qe (E_store (k:=0) (v:=.agg _) (cs':=[.int .i64 _,.int .i64 _,.str _]) (H2:=_::_) tok rfl rfl rfl rfl (rfl) rfl rfl rfl rfl) ?_
      rintro _ _ ⟨rfl,rfl⟩
      refine Qp Qai (AOL.nil (thenN (AW.ret (blkR (thenR ?_)))))
      refine ⟨.inr rfl,[.agg [.int .i64 _,.int .i64 _,.str _],.int .i64 _],.cons (.box _ _ _ 0 _ _ _ _ rfl rfl rfl rfl rfl rfl) <| .cons (.tmp _ _ rfl) <| .nil,.cons _ (.refl _),?_⟩
      try simp only [str0,Bool.and_true] at *
      first
        | (simp only [resOf,ofS,cV,v0];(first | rw [if_neg (Bool.eq_false_iff.mp hc1)] | skip);(first | rw [if_pos hc2] | skip);first | done | rfl)
        | (try simp only [Bool.not_eq_true',Bool.not_eq_false'] at *
           first
           | (simp only [resOf,ofS,cV,v0, *,Bool.false_eq_true,↓reduceIte,Bool.true_or,Bool.or_true,Bool.false_or,Bool.or_false,Bool.true_and,Bool.and_true,Bool.false_and,Bool.and_false,Bool.not_true,Bool.not_false];done)
           | (simp [resOf,ofS,cV,v0, *];done)
           | (simp_all [resOf,ofS,cV,v0];done))
        | skip
    · skip
      refine AW.skip (blkN (thenN (AW.seq (AW.seq (AW.region (Qp Qms ?_))))))
      refine Qp (P_len_sl (n:=l.length) tok rfl rfl rfl (by simp)) ?_
      refine Qp Qmi (AOL.nil (thenN (AW.block ?_)))
      have hlen:(l.length:Int)≤4096:=by simpa using hc2
      refine AW.loopS (fun (p:Nat)=>(⟨[(1,.sl 3 (l.map cV)),(3,.ptr [.int .i64 k]),(5,.ptr (cV o)),(22,.sl 3 (l.map cV)),(23,.int .i64 l.length),(24,.int .i64 (p:Int)),(6,.val (.pointer (some ⟨b6,0,none⟩)))],.box b6 28 [.int .i64 0,.int .i64 0,.str []]::H,46⟩:St)) (fun (p:Nat)=>p≤l.length∧firstS (wrongS k) l=firstS (wrongS k) (l.drop p)) (fun (p:Nat)=>l.length-p) (0) ?_ (GS.weaken ⟨rfl,rfl,rfl,rfl,rfl,rfl,rfl,trivial⟩ (.refl _)) ?_
      · exact ⟨Nat.zero_le _,by simp⟩
      · rintro p hR
        refine AW.seq (AW.region (Qp Qclt (AOL.nil (thenN (AW.seq (Qif (fun hc3=>?_) fun hc3=>?_))))))
        · skip
          obtain ⟨v,hv⟩:=get_lt hc3
          have hlt:=get_lt' hv
          refine Qst (AW.seq (AW.block (AW.seq (AW.region ?_))))
          refine Qp (P_indexAddr (c:=[.int .i64 _,.int .i64 _,.str _]) tok rfl rfl rfl rfl rfl rfl (by omega) (map_at hv)) ?_
          refine Qp (Qlg [.int .i64 _,.int .i64 _,.str _]) ?_
          refine Qe (E_alloc (l:=[.int .i64 0,.int .i64 0,.str []]) (by kernel_rfl)) ?_
          rintro _ _ ⟨b9,rfl,rfl⟩
          refine Qe (E_store (k:=0) (v:=.agg _) (cs':=[.int .i64 _,.int .i64 _,.str _]) (H2:=_::_::_) tok rfl rfl rfl rfl (rfl) rfl rfl rfl rfl) ?_
          rintro _ _ ⟨rfl,rfl⟩
          refine AOL.ghost (GS.freeze (t:=9) 0 rfl rfl) ?_
          refine AOL.nil (thenN (AW.seq (AW.region (Qp Qli (Qp (Qlg [.int .i64 _,.int .i64 _,.str _]) ?_)))))
          refine Qp (Qc rfl (c115 k v)) ?_
          refine Qp Qai (AOL.nil (thenN (AW.seq (AW.region (Qp Qmi (Qp Qcne (AOL.nil (thenN (Qif (fun hc4=>?_) fun hc4=>?_)))))))))
          · skip
            have hf:firstS (wrongS k) l=wrongS k v:=by rw [hR.2,drop_cons hv,firstS,if_pos hc4]
            refine AW.seq (AW.region (Qp (Qbd [.int .i64 _,.int .i64 _,.str _]) (Qp Qmi ?_)))
            refine Qe (E_store (k:=0) (v:=.agg _) (cs':=[.int .i64 _,.int .i64 _,.str _]) (H2:=_::_) tok rfl rfl rfl rfl (rfl) rfl rfl rfl rfl) ?_
            rintro _ _ ⟨rfl,rfl⟩
            refine Qp Qai (AOL.nil (thenN (AW.ret (blkR (thenR (thenR (blkR (thenR ?_))))))))
            refine ⟨.inr rfl,[.agg [.int .i64 _,.int .i64 _,.str _],.int .i64 _],.cons (.box _ _ _ 0 _ _ _ _ rfl rfl rfl rfl rfl rfl) <| .cons (.tmp _ _ rfl) <| .nil,.cons _ (.refl _),?_⟩
            simp only [Bool.not_eq_false'] at hc1
            have hc2':decide (4096<(l.length:Int))=false:=by simpa using hc2
            simp only [resOf,ofS,hf,hc1,hc2',hkn, *,Bool.false_eq_true,↓reduceIte,Bool.not_true]
            first | rfl | simp [foldS,cV,v0]
          · skip
            refine AW.skip (blkN (thenN (AW.region (Qp Qad (Qp Qmi (AOL.nil (thenN ?_)))))))
            refine ⟨p+1,?_,?_,GS.weaken ⟨rfl,rfl,rfl,rfl,rfl,rfl,rfl,trivial⟩ (.refl _)⟩
            · exact ⟨get_lt' hv,by rw [hR.2,drop_cons hv,firstS,if_neg (by simpa using hc4)]⟩
            · have:=get_lt' hv;first | omega | (simp only;omega)
        · skip
          have hd:=get_end hc3
          have hf:firstS (wrongS k) l=0:=by rw [hR.2,hd];rfl
          refine AW.exit ?_
          refine thenE (thenE (blkHit (thenN (AW.seq (AW.region (Qp Qli (Qp (Qbd [.int .i64 _,.int .i64 _,.int .i64 _,.int .i64 _,.str _]) (Qp Qms ?_))))))))
          refine Qp (P_makeFunc (l:=[]) (l':=[.ptr _]) rfl rfl) ?_
          refine Qp (Qc rfl (c116 k hkn ⟨k,0,v0⟩ l hkn)) ?_
          refine Qe (E_alloc (l:=[.int .i64 0,.int .i64 0,.int .i64 0,.int .i64 0,.str []]) (by kernel_rfl)) ?_
          rintro _ _ ⟨b11,rfl,rfl⟩
          refine Qe (E_store (k:=0) (v:=.agg _) (cs':=[.int .i64 _,.int .i64 _,.int .i64 _,.int .i64 _,.str _]) (H2:=_::_::_) tok rfl rfl rfl rfl (rfl) rfl rfl rfl rfl) ?_
          rintro _ _ ⟨rfl,rfl⟩
          refine AOL.ghost (GS.freeze (t:=11) 0 rfl rfl) ?_
          refine AOL.nil (thenN (AW.seq (AW.region (Qp (Qlg [.int .i64 _,.int .i64 _,.int .i64 _,.int .i64 _,.str _]) (Qp (Qlg [.int .i64 _,.int .i64 _,.str _]) ?_)))))
          refine Qp (Qc rfl (c120 (l.foldl (stepS k) ⟨k,0,v0⟩) o)) ?_
          refine Qp (P_extract (v:=.agg [.int .i64 _,.int .i64 _,.str _]) rfl rfl) ?_
          refine Qp Qxi ?_
          refine Qe (E_store (k:=0) (v:=.agg _) (cs':=[.int .i64 _,.int .i64 _,.str _]) (H2:=_::_) tok rfl rfl rfl rfl (rfl) rfl rfl rfl rfl) ?_
          rintro _ _ ⟨rfl,rfl⟩
          refine Qp Qai (AOL.nil (thenN (AW.ret ?_)))
          refine ⟨.inr rfl,[.agg [.int .i64 _,.int .i64 _,.str _],.int .i64 _],.cons (.box _ _ _ 0 _ _ _ _ rfl rfl rfl rfl rfl rfl) <| .cons (.tmp _ _ rfl) <| .nil,.cons _ (.refl _),?_⟩
          simp only [Bool.not_eq_false'] at hc1
          have hc2':decide (4096<(l.length:Int))=false:=by simpa using hc2
          simp only [resOf,ofS,hf,hc1,hc2',hkn, *,Bool.false_eq_true,↓reduceIte,Bool.not_true]
          first | rfl | simp [foldS,cV,v0]
set_option maxHeartbeats 400000
set_option maxRecDepth 20000

theorem c91 (x:Evr)(v:Int):APure Tryz.prog 152 [.agg (cX x),.int .i64 v] (.sl 5 ((eventsS x.vars v).map cEv)):=by
 refine APure.body (n:=21) tok Tryz.func152 rfl rfl rfl fun H=>?_
 refine Qsr (Qp (Qbx [_,.int .i64 _,.int .i64 _,.int .i64 _,.int .i64 _,.int .i64 _,_,_]) ?_)
 refine Qp (P_assign_nil (z:=5) rfl) ?_
 refine Qnn (AW.seq (Qsr (Qp Qmi (Qp Qclt (Qp Qmb (Qg [] Qw Qmi (Qg [] Qw (Qf [_,.int .i64 _,.int .i64 _,.int .i64 _,.int .i64 _,.int .i64 _,_,_]) (Qg [(9,_)] Qw (Qf [_,.int .i64 _,.int .i64 _,.int .i64 _,.int .i64 _,.int .i64 _,_,_]) (Qg [(10,_)] Qw Qls ?_)))))))))
 refine AOL.g (y:=.int .i64 _) _ [(11,_)] rfl (EntL.all ⟨Ent.self _ _,trivial⟩) (fun hG=>P_len_sl (n:=x.vars.length) tok rfl rfl rfl (by simp)) rfl ?_
 refine AOL.g (y:=.bool _) _ [(8,_),(12,_)] rfl (EntL.all ⟨Ent.self _ _,Ent.self _ _,trivial⟩) (fun hG=>P_geq rfl rfl) rfl ?_
 refine Qp Qpo (Qnn (Qif (fun hc1=>?_) fun hc1=>?_))
 ·
  refine Qsr ?_
  refine Qp (P_assign_nil (z:=5) rfl) ?_
  refine Qnn (Qrt ?_)
  refine Qr (.sl _ _) ?_
  simp only [resOf,eventsS]
  rw [if_pos hc1];rfl
 ·
  have hv:0≤v∧v<(x.vars.length:Int):=by simp at hc1;omega
  obtain ⟨l,hl⟩:=get_int hv.1 hv.2
  refine Qst (Qsr (Qp (Qf [_,.int .i64 _,.int .i64 _,.int .i64 _,.int .i64 _,.int .i64 _,_,_]) (Qp (Qf [_,.int .i64 _,.int .i64 _,.int .i64 _,.int .i64 _,.int .i64 _,_,_]) (Qp Qls (Qp Qmi ?_)))))
  refine Qp (P_indexAddr (c:=[_]) tok rfl rfl rfl rfl rfl rfl (hv.1) (map_at hl)) ?_
  refine Qp Qls (Qp Qas (Qnn (AW.ret ?_)))
  refine Qr (.sl _ _) ?_
  simp only [resOf,eventsS]
  rw [if_neg (by simpa using hc1),hl];rfl
theorem c93 (e:Ev)(k:Int)(hk:0≤k):APure Tryz.prog 154 [.agg (cEv e),.int .i64 k] (.tuple [.agg (cV (fieldS e k).1),.int .i64 (fieldS e k).2]):=by
 refine APure.body (n:=17) tok Tryz.func154 rfl rfl rfl fun H=>?_
 refine Qsr (Qp (Qbx [.int .i64 _,.int .i64 _,.int .i64 _,.int .i64 _,_]) ?_)
 refine Qe (E_alloc (l:=[.int .i64 0,.int .i64 0,.str []]) (by kernel_rfl)) ?_
 rintro _ _ ⟨b4,rfl,rfl⟩
 refine Qp Qai (Qnn (AW.seq (Qsr (Qp Qmi (Qp (Qf [_]) (Qp Qls ?_))))))
 refine Qp (P_len_sl (n:=e.values.length) tok rfl rfl rfl (by simp)) ?_
 refine Qp Qcgq (Qnn (Qif (fun hc1=>?_) fun hc1=>?_))
 ·
  refine Qsr (Qp (Qbd [.int .i64 _,.int .i64 _,.str _]) ?_)
  refine Qe (E_store (k:=0) (v:=.agg _) (cs':=[.int .i64 _,.int .i64 _,.str _]) (H2:=_::_) tok rfl rfl rfl rfl (rfl) rfl rfl rfl rfl) ?_
  rintro _ _ ⟨rfl,rfl⟩
  refine Qp Qai (Qnn (Qrt ?_))
  refine ⟨.inr rfl,[.agg [.int .i64 _,.int .i64 _,.str _],.int .i64 _],.cons (.box _ _ _ 0 _ _ _ _ rfl rfl rfl rfl rfl rfl) <| .cons (.tmp _ _ rfl) <| .nil,.cons _ (.refl _),?_⟩
  simp only [resOf,fieldS]
  rw [if_pos hc1];rfl
 ·
  obtain ⟨v,hv⟩:=get_int (l:=e.values) hk (by simp at hc1;omega)
  refine Qst (Qsr (Qp (Qf [_]) (Qp Qls (Qp Qmi ?_))))
  refine Qp (P_indexAddr (c:=[.int .i64 _,.int .i64 _,.str _]) tok rfl rfl rfl rfl rfl rfl (hk) (map_at hv)) ?_
  refine Qp (Qlg [.int .i64 _,.int .i64 _,.str _]) ?_
  refine Qe (E_store (k:=0) (v:=.agg _) (cs':=[.int .i64 _,.int .i64 _,.str _]) (H2:=_::_) tok rfl rfl rfl rfl (rfl) rfl rfl rfl rfl) ?_
  rintro _ _ ⟨rfl,rfl⟩
  refine Qp Qai (Qnn (AW.ret ?_))
  refine ⟨.inr rfl,[.agg [.int .i64 _,.int .i64 _,.str _],.int .i64 _],.cons (.box _ _ _ 0 _ _ _ _ rfl rfl rfl rfl rfl rfl) <| .cons (.tmp _ _ rfl) <| .nil,.cons _ (.refl _),?_⟩
  simp only [resOf,fieldS]
  rw [if_neg (by simpa using hc1),hv];rfl
theorem c92 (x:Evr)(hx:x.ok)(e:Ex)(hk:0≤e.field):APure Tryz.prog 153 [.agg (cX x),.agg (cE e)] (.tuple [.agg (cV (totalS x e).1),.int .i64 (totalS x e).2]):=by
 refine APure.body (n:=44) tok Tryz.func153 rfl rfl rfl fun H=>?_
 refine Qsr (Qp (Qbx [_,.int .i64 _,.int .i64 _,.int .i64 _,.int .i64 _,.int .i64 _,_,_]) (Qp Qbe ?_))
 refine Qe (E_alloc (l:=[.int .i64 0,.int .i64 0,.str []]) (by kernel_rfl)) ?_
 rintro _ _ ⟨b4,rfl,rfl⟩
 refine Qp Qai (Qns (Qp Qav ?_))
 refine AOL.ghost (GS.row (t:=6) 28 3 rfl) ?_
 refine Qnn (AW.seq (Qsr (Qp (Qlg [_,.int .i64 _,.int .i64 _,.int .i64 _,.int .i64 _,.int .i64 _,_,_]) (Qp Qf2 (Qp Qli ?_)))))
 refine Qp (Qc rfl (c91 x e.var)) ?_
 refine Qp (P_len_sl (n:=(eventsS x.vars e.var).length) tok rfl rfl rfl (by simp)) ?_
 refine Qp Qmi (Qnn (AW.block ?_))
 have hlen:=events_le hx e.var
 refine AW.loopS (fun (p:Nat×List (List AV)×Value)=>(⟨[(2,.ptr (cX x)),(3,.ptr (cE e)),(4,.val (.pointer (some ⟨b4,0,none⟩))),(6,.row p.2.2 3 p.2.1),(14,.sl 5 ((eventsS x.vars e.var).map cEv)),(15,.int .i64 (eventsS x.vars e.var).length),(16,.int .i64 (p.1:Int))],.row p.2.2 p.2.1.length 28 3 :: .box b4 28 [.int .i64 0,.int .i64 0,.str []]::H,44⟩:St)) (fun (p:Nat×List (List AV)×Value)=>p.1≤(eventsS x.vars e.var).length∧firstS (fun v=>(fieldS v e.field).2) (eventsS x.vars e.var)=firstS (fun v=>(fieldS v e.field).2) ((eventsS x.vars e.var).drop p.1)∧p.2.1=(((eventsS x.vars e.var).take p.1).map fun v=>(fieldS v e.field).1).map cV) (fun (p:Nat×List (List AV)×Value)=>(eventsS x.vars e.var).length-p.1) ((0,[],.slice none 0 0)) ?_ (GS.weaken ⟨rfl,rfl,rfl,rfl,rfl,rfl,rfl,trivial⟩ (.refl _)) ?_
 · exact ⟨Nat.zero_le _,by simp,by simp⟩
 ·
  rintro p hR
  have hsc:∀c∈p.2.1,scalars c=true:=by rw [hR.2.2];exact sc_map fun _=>rfl
  refine Qsr (Qp Qclt (Qnn (AW.seq (Qif (fun hc1=>?_) fun hc1=>?_))))
  ·
   obtain ⟨a,ha⟩:=get_lt hc1
   have hlt:=get_lt' ha
   have hm:=List.mem_of_getElem? ha
   refine Qst (AW.seq (AW.block (Qsr ?_)))
   refine Qp (P_indexAddr (c:=[.int .i64 _,.int .i64 _,.int .i64 _,.int .i64 _,_]) tok rfl rfl rfl rfl rfl rfl (by omega) (map_at ha)) ?_
   refine Qp (Qlg [.int .i64 _,.int .i64 _,.int .i64 _,.int .i64 _,_]) ?_
   refine Qe (E_alloc (l:=[.int .i64 0,.int .i64 0,.int .i64 0,.int .i64 0,.sl 3 []]) (by kernel_rfl)) ?_
   rintro _ _ ⟨b8,rfl,rfl⟩
   refine Qe (E_store (k:=0) (v:=.agg _) (cs':=[.int .i64 _,.int .i64 _,.int .i64 _,.int .i64 _,_]) (H2:=_::_::_::_) tok rfl rfl rfl rfl (rfl) rfl rfl rfl rfl) ?_
   rintro _ _ ⟨rfl,rfl⟩
   refine AOL.ghost (GS.freeze (t:=8) 0 rfl rfl) ?_
   refine Qns (Qp (Qlg [.int .i64 _,.int .i64 _,.int .i64 _,.int .i64 _,_]) (Qp Qf3 (Qp Qli ?_)))
   refine Qp (Qc rfl (c93 a e.field hk)) ?_
   refine Qp Qmu ?_
   refine Qp (P_extract (v:=.agg [.int .i64 _,.int .i64 _,.str _]) rfl rfl) ?_
   refine Qp Qxi ?_
   refine Qe (E_alloc (l:=[.int .i64 0,.int .i64 0,.str []]) (by kernel_rfl)) ?_
   rintro _ _ ⟨b9,rfl,rfl⟩
   refine Qe (E_store (k:=0) (v:=.agg _) (cs':=[.int .i64 _,.int .i64 _,.str _]) (H2:=_::_::_::_) tok rfl rfl rfl rfl (rfl) rfl rfl rfl rfl) ?_
   rintro _ _ ⟨rfl,rfl⟩
   refine Qp Qai ?_
   refine AOL.ghost (GS.freeze (t:=9) 0 rfl rfl) ?_
   refine Qnn (AW.seq (Qsr (Qp Qmi (Qp Qcne (Qnn (Qif (fun hc2=>?_) fun hc2=>?_))))))
   ·
    refine Qsr (Qp (Qbd [.int .i64 _,.int .i64 _,.str _]) (Qp Qmi ?_))
    refine Qe (E_store (k:=1) (v:=.agg _) (cs':=[.int .i64 _,.int .i64 _,.str _]) (H2:=_::_::_) tok rfl rfl rfl rfl (rfl) rfl rfl rfl rfl) ?_
    rintro _ _ ⟨rfl,rfl⟩
    refine Qp Qai (Qnn (Qrt (blkR (thenR (thenR (blkR (thenR ?_)))))))
    refine ⟨.inr rfl,[.agg [.int .i64 _,.int .i64 _,.str _],.int .i64 _],.cons (.box _ _ _ 1 _ _ _ _ rfl rfl rfl rfl rfl rfl) <| .cons (.tmp _ _ rfl) <| .nil,.cons _ (.cons _ (.refl _)),?_⟩
    have hf:firstS (fun v=>(fieldS v e.field).2) (eventsS x.vars e.var)=(fieldS a e.field).2:=by rw [hR.2.1,drop_cons ha,firstS,if_pos hc2]
    simp only [resOf,totalS,hf,hc2,↓reduceIte];rfl
   ·
    refine Qst (AW.region ?_)
    refine Qp (P_move (v:=.row _ _ _) rfl) ?_
    refine Qp (Qlg [.int .i64 _,.int .i64 _,.str _]) ?_
    refine Qp (P_buildSlice (es:=[[.int .i64 _,.int .i64 _,.str _]]) tok rfl rfl rfl rfl rfl rfl rfl rfl rfl) ?_
    refine Qe (E_append (k:=0) tok rfl rfl rfl rfl rfl rfl rfl rfl (sc_one rfl) (hsc) (by simp [hR.2.2];omega) (by simp [hR.2.2,maxLen];omega)) ?_
    rintro _ _ ⟨v34,rfl,rfl⟩
    refine Qp (P_assign (v:=.row _ _ _) rfl) ?_
    refine AOL.nil (blkN (thenN (AW.region (Qp Qad (Qp Qmi (Qnn ?_))))))
    refine ⟨(p.1+1,p.2.1 ++ [cV (fieldS a e.field).1],v34),?_,?_,GS.weaken ⟨rfl,rfl,rfl,rfl,rfl,rfl,rfl,trivial⟩ (.refl _)⟩
    · simp only;exact ⟨hlt,by rw [hR.2.1,drop_cons ha,firstS,if_neg (by simpa using hc2)],by rw [take_get ha,hR.2.2];simp⟩
    · first | omega | (simp only;omega)
  ·
   have hte:=take_end hc1
   have hd:=get_end hc1
   have hf:firstS (fun v=>(fieldS v e.field).2) (eventsS x.vars e.var)=0:=by rw [hR.2.1,hd];rfl
   obtain ⟨k,es,rv⟩:=p
   simp only at hR hte
   obtain rfl:es=((eventsS x.vars e.var).map fun v=>(fieldS v e.field).1).map cV:=by rw [hR.2.2,hte]
   refine AW.exit ?_
   refine thenE (thenE (blkHit (thenN (Qsr (Qp Qf4 (Qp Qli ?_))))))
   refine AOL.ghost (GS.unrow 6 rfl) ?_
   refine Qp Qms (Qp Qf5 (Qp (Qlg [.int .i64 _,.int .i64 _,.str _]) ?_))
   refine Qp (Qc rfl (c106 e.kind ((eventsS x.vars e.var).map fun v=>(fieldS v e.field).1) e.val)) ?_
   refine Qp (P_extract (v:=.agg [.int .i64 _,.int .i64 _,.str _]) rfl rfl) ?_
   refine Qp Qxi ?_
   refine Qe (E_store (k:=1) (v:=.agg _) (cs':=[.int .i64 _,.int .i64 _,.str _]) (H2:=_::_::_) tok rfl rfl rfl rfl (rfl) rfl rfl rfl rfl) ?_
   rintro _ _ ⟨rfl,rfl⟩
   refine Qp Qai (Qnn (AW.ret ?_))
   refine ⟨.inr rfl,[.agg [.int .i64 _,.int .i64 _,.str _],.int .i64 _],.cons (.box _ _ _ 1 _ _ _ _ rfl rfl rfl rfl rfl rfl) <| .cons (.tmp _ _ rfl) <| .nil,.cons _ (.cons _ (.refl _)),?_⟩
   simp only [resOf,totalS,hf];rfl
theorem c71 (op:Int)(ks:List Int):APure Tryz.prog 127 [.int .i64 op,.sl 1 (ks.map fun k=>[.int .i64 k])] (.int .i64 (operandsS op ks)):=by
 refine APure.body (n:=38) tok Tryz.func127 rfl rfl rfl fun H=>?_
 refine Qsr (Qp Qai (Qnn (AW.seq (Qsr (Qp Qms ?_)))))
 refine Qp (P_len_sl (n:=ks.length) tok rfl rfl rfl (by simp)) ?_
 refine Qp Qmi (Qnn (AW.block ?_))
 refine AW.sllen 8 rfl fun hlen=>?_
 simp only [List.length_map,maxLen] at hlen
 refine AW.loopS (fun (p:Nat)=>(⟨[(0,.int .i64 op),(1,.sl 1 (ks.map fun k=>[.int .i64 k])),(8,.sl 1 (ks.map fun k=>[.int .i64 k])),(9,.int .i64 ks.length),(10,.int .i64 (p:Int))],H,38⟩:St)) (fun (p:Nat)=>p≤ks.length∧operandsS op ks=firstS (fun k=>if okS op k (ks.headD 0) then 0 else 9) (ks.drop p)) (fun (p:Nat)=>ks.length-p) (0) ?_ (GS.weaken ⟨rfl,rfl,rfl,rfl,rfl,trivial⟩ (.refl _)) ?_
 · exact ⟨Nat.zero_le _,rfl⟩
 ·
  rintro p hR
  refine Qsr (Qp Qclt (Qnn (AW.seq (Qif (fun hc1=>?_) fun hc1=>?_))))
  ·
   obtain ⟨a,ha⟩:=get_lt hc1
   have hlt:=get_lt' ha
   have hm:=List.mem_of_getElem? ha
   obtain ⟨a0,ha0⟩:∃a0,ks[0]? = some a0:=⟨_,List.getElem?_eq_getElem (by omega)⟩
   have hhd:ks.headD 0=a0:=by cases ks <;> simp_all
   refine Qst (AW.seq (AW.block (Qsr ?_)))
   refine Qp (P_indexAddr (c:=[.int .i64 _]) tok rfl rfl rfl rfl rfl rfl (by omega) (map_at (f:=fun k=>[AV.int .i64 k]) ha)) ?_
   refine Qp Qli (Qp Qai (Qns (Qp Qab (Qnn ?_))))
   refine AW.cut (fun (_:Unit)=>(⟨[(0,.int .i64 op),(1,.sl 1 (ks.map fun k=>[.int .i64 k])),(8,.sl 1 (ks.map fun k=>[.int .i64 k])),(9,.int .i64 ks.length),(10,.int .i64 (p:Int)),(7,.bool (okS op a a0))],H,38⟩:St)) (fun (_:Unit)=>True) ?_ ?_
   ·
    refine Qsr (Qp Qmi (Qnn (AW.block ?_)))
    refine AW.cut (fun (_:Unit)=>(⟨[(0,.int .i64 op),(1,.sl 1 (ks.map fun k=>[.int .i64 k])),(6,.int .i64 a),(7,.bool true),(8,.sl 1 (ks.map fun k=>[.int .i64 k])),(9,.int .i64 ks.length),(10,.int .i64 (p:Int)),(14,.int .i64 op),(15,.bool (op==5||op==6||op==7||op==8))],H,38⟩:St)) (fun (_:Unit)=>True) ?_ ?_
    ·
     refine Qsr (Qp Qceq (Qp Qab (Qnn (Qif (fun hc2=>?_) fun hc2=>?_))))
     ·
      refine Qst ?_
      refine ⟨(),?_,GS.weaken ⟨rfl,rfl,rfl,rfl,rfl,rfl,rfl,rfl,congrArg AV.bool (by simp [okS, *]),trivial⟩ (.refl _)⟩
      trivial
     ·
      refine Qsr (Qp Qceq (Qp Qab (Qnn (Qif (fun hc3=>?_) fun hc3=>?_))))
      ·
       refine Qst ?_
       refine ⟨(),?_,GS.weaken ⟨rfl,rfl,rfl,rfl,rfl,rfl,rfl,rfl,congrArg AV.bool (by simp [okS, *]),trivial⟩ (.refl _)⟩
       trivial
      ·
       refine Qsr (Qp Qceq (Qp Qab (Qnn (Qif (fun hc4=>?_) fun hc4=>?_))))
       ·
        refine Qst ?_
        refine ⟨(),?_,GS.weaken ⟨rfl,rfl,rfl,rfl,rfl,rfl,rfl,rfl,congrArg AV.bool (by simp [okS, *]),trivial⟩ (.refl _)⟩
        trivial
       ·
        refine AW.region (Qp Qceq (Qp Qab (Qnn ?_)))
        refine ⟨(),?_,GS.weaken ⟨rfl,rfl,rfl,rfl,rfl,rfl,rfl,rfl,congrArg AV.bool (by simp [okS, *]),trivial⟩ (.refl _)⟩
        trivial
    ·
     rintro _ _
     refine Qif (fun hc5=>?_) fun hc5=>?_
     ·
      refine AW.region (Qp Qmi (Qp Qceq (Qp Qab (AOL.nil (blkN (thenN ?_))))))
      refine ⟨(),?_,GS.weaken ⟨rfl,rfl,rfl,rfl,rfl,congrArg AV.bool (by simp [okS, *]),trivial⟩ (.refl _)⟩
      trivial
     ·
      refine AW.cut (fun (_:Unit)=>(⟨[(0,.int .i64 op),(1,.sl 1 (ks.map fun k=>[.int .i64 k])),(6,.int .i64 a),(7,.bool true),(8,.sl 1 (ks.map fun k=>[.int .i64 k])),(9,.int .i64 ks.length),(10,.int .i64 (p:Int)),(14,.int .i64 op),(22,.bool (op==10||op==11||op==12))],H,38⟩:St)) (fun (_:Unit)=>True) ?_ ?_
      ·
       refine Qsr (Qp Qceq (Qp Qab (Qnn (Qif (fun hc6=>?_) fun hc6=>?_))))
       ·
        refine Qst ?_
        refine ⟨(),?_,GS.weaken ⟨rfl,rfl,rfl,rfl,rfl,rfl,rfl,rfl,congrArg AV.bool (by simp [okS, *]),trivial⟩ (.refl _)⟩
        trivial
       ·
        refine Qsr (Qp Qceq (Qp Qab (Qnn (Qif (fun hc7=>?_) fun hc7=>?_))))
        ·
         refine Qst ?_
         refine ⟨(),?_,GS.weaken ⟨rfl,rfl,rfl,rfl,rfl,rfl,rfl,rfl,congrArg AV.bool (by simp [okS, *]),trivial⟩ (.refl _)⟩
         trivial
        ·
         refine AW.region (Qp Qceq (Qp Qab (Qnn ?_)))
         refine ⟨(),?_,GS.weaken ⟨rfl,rfl,rfl,rfl,rfl,rfl,rfl,rfl,congrArg AV.bool (by simp [okS, *]),trivial⟩ (.refl _)⟩
         trivial
      ·
       rintro _ _
       refine Qif (fun hc8=>?_) fun hc8=>?_
       ·
        refine AW.region (Qp Qmi (Qp Qceq (Qp Qab (AOL.nil (blkN (thenN ?_))))))
        refine ⟨(),?_,GS.weaken ⟨rfl,rfl,rfl,rfl,rfl,congrArg AV.bool (by simp [okS, *]),trivial⟩ (.refl _)⟩
        trivial
       ·
        refine Qsr (Qp Qceq (Qp Qab (Qnn (Qif (fun hc9=>?_) fun hc9=>?_))))
        ·
         refine AW.region (Qp Qmi (Qp Qms ?_))
         refine Qp (P_indexAddr (c:=[.int .i64 _]) tok rfl rfl rfl rfl rfl rfl (by omega) (map_at (f:=fun k=>[AV.int .i64 k]) ha0)) ?_
         refine Qp Qli (Qp Qceq (Qp Qab (AOL.nil (blkN (thenN ?_)))))
         refine ⟨(),?_,GS.weaken ⟨rfl,rfl,rfl,rfl,rfl,congrArg AV.bool (by simp [okS, *]),trivial⟩ (.refl _)⟩
         trivial
        ·
         refine AW.skip (blkN (thenN ?_))
         refine ⟨(),?_,GS.weaken ⟨rfl,rfl,rfl,rfl,rfl,congrArg AV.bool (by simp [okS, *]),trivial⟩ (.refl _)⟩
         trivial
   ·
    rintro _ _
    refine Qsr (Qp Qmb (Qp Qnt (Qnn (Qif (fun hc10=>?_) fun hc10=>?_))))
    ·
     have hok:okS op a a0=false:=by simpa using hc10
     refine Qsr (Qp Qai (Qnn (AW.ret (blkR (thenR (thenR (blkR (thenR ?_))))))))
     refine Qr (.int .i64 _) ?_
     simp only [resOf,AV.int.injEq,true_and]
     rw [hR.2,drop_cons ha,firstS,hhd];simp [hok]
    ·
     have hok:okS op a a0=true:=by simpa using hc10
     refine AW.skip (blkN (thenN (AW.region (Qp Qad (Qp Qmi (Qnn ?_))))))
     refine ⟨p+1,?_,?_,GS.weaken ⟨rfl,rfl,rfl,rfl,rfl,trivial⟩ (.refl _)⟩
     · exact ⟨hlt,by rw [hR.2,drop_cons ha,firstS,hhd];simp [hok]⟩
     · first | omega | (simp only;omega)
  ·
   have hd:=get_end hc1
   refine AW.exit ?_
   refine thenE (thenE (blkHit (thenN (Qsr (Qp Qai (Qnn (AW.ret ?_)))))))
   refine Qr (.int .i64 _) ?_
   simp only [resOf,AV.int.injEq,true_and]
   rw [hR.2,hd];rfl

set_option maxHeartbeats 400000
set_option maxRecDepth 20000

theorem c98 (op:Int):APure Tryz.prog 151 [.int .i64 op] (.int .i64 (demandS op)):=by
  refine APure.body (n:=13) tok Tryz.func151 rfl rfl rfl fun H=>?_
  refine AW.seq (AW.region (Qp Qai (AOL.nil (thenN (AW.seq (AW.seq (AW.region (Qp Qmi (AOL.nil ?_)))))))))
  refine thenN (AW.block ?_)
  refine AW.cut (fun (_:Unit)=>(⟨[(0,.int .i64 op),(3,.int .i64 op),(4,.bool (op==5||op==6||op==7||op==8))],H,13⟩:St)) (fun (_:Unit)=>True) ?_ ?_
  · skip
    refine AW.seq (AW.region (Qp Qceq (Qp Qab (AOL.nil (thenN (Qif (fun hc1=>?_) fun hc1=>?_))))))
    · skip
      refine Qst ?_
      refine ⟨(),?_,GS.weaken ⟨rfl,rfl,congrArg AV.bool (by simp [okS, *]),trivial⟩ (.refl _)⟩
      trivial
    · skip
      refine AW.seq (AW.region (Qp Qceq (Qp Qab (AOL.nil (thenN (Qif (fun hc2=>?_) fun hc2=>?_))))))
      · skip
        refine Qst ?_
        refine ⟨(),?_,GS.weaken ⟨rfl,rfl,congrArg AV.bool (by simp [okS, *]),trivial⟩ (.refl _)⟩
        trivial
      · skip
        refine AW.seq (AW.region (Qp Qceq (Qp Qab (AOL.nil (thenN (Qif (fun hc3=>?_) fun hc3=>?_))))))
        · skip
          refine Qst ?_
          refine ⟨(),?_,GS.weaken ⟨rfl,rfl,congrArg AV.bool (by simp [okS, *]),trivial⟩ (.refl _)⟩
          trivial
        · skip
          refine AW.region (Qp Qceq (Qp Qab (AOL.nil (thenN ?_))))
          refine ⟨(),?_,GS.weaken ⟨rfl,rfl,congrArg AV.bool (by simp [okS, *]),trivial⟩ (.refl _)⟩
          trivial
  · rintro _ _
    refine Qif (fun hc4=>?_) fun hc4=>?_
    · skip
      refine AW.seq (AW.region (Qp Qai (AOL.nil (thenN (AW.ret (blkR (thenR ?_)))))))
      refine Qr (.int .i64 _) ?_
      try simp only [str0,Bool.and_true] at *
      first
        | (simp only [resOf,demandS];(first | rw [if_pos hc4] | skip);first | done | rfl)
        | (try simp only [Bool.not_eq_true',Bool.not_eq_false'] at *
           first
           | (simp only [resOf,demandS, *,Bool.false_eq_true,↓reduceIte,Bool.true_or,Bool.or_true,Bool.false_or,Bool.or_false,Bool.true_and,Bool.and_true,Bool.false_and,Bool.and_false,Bool.not_true,Bool.not_false];done)
           | (simp [resOf,demandS, *];done)
           | (simp_all [resOf,demandS];done))
        | skip
    · skip
      refine AW.cut (fun (_:Unit)=>(⟨[(0,.int .i64 op),(3,.int .i64 op),(9,.bool (op==10||op==11||op==12))],H,13⟩:St)) (fun (_:Unit)=>True) ?_ ?_
      · skip
        refine AW.seq (AW.region (Qp Qceq (Qp Qab (AOL.nil (thenN (Qif (fun hc5=>?_) fun hc5=>?_))))))
        · skip
          refine Qst ?_
          refine ⟨(),?_,GS.weaken ⟨rfl,rfl,congrArg AV.bool (by simp [okS, *]),trivial⟩ (.refl _)⟩
          trivial
        · skip
          refine AW.seq (AW.region (Qp Qceq (Qp Qab (AOL.nil (thenN (Qif (fun hc6=>?_) fun hc6=>?_))))))
          · skip
            refine Qst ?_
            refine ⟨(),?_,GS.weaken ⟨rfl,rfl,congrArg AV.bool (by simp [okS, *]),trivial⟩ (.refl _)⟩
            trivial
          · skip
            refine AW.region (Qp Qceq (Qp Qab (AOL.nil (thenN ?_))))
            refine ⟨(),?_,GS.weaken ⟨rfl,rfl,congrArg AV.bool (by simp [okS, *]),trivial⟩ (.refl _)⟩
            trivial
      · rintro _ _
        refine Qif (fun hc7=>?_) fun hc7=>?_
        · skip
          refine AW.seq (AW.region (Qp Qai (AOL.nil (thenN (AW.ret (blkR (thenR ?_)))))))
          refine Qr (.int .i64 _) ?_
          try simp only [str0,Bool.and_true] at *
          first
            | (simp only [resOf,demandS];(first | rw [if_neg (Bool.eq_false_iff.mp hc4)] | skip);(first | rw [if_pos hc7] | skip);first | done | rfl)
            | (try simp only [Bool.not_eq_true',Bool.not_eq_false'] at *
               first
               | (simp only [resOf,demandS, *,Bool.false_eq_true,↓reduceIte,Bool.true_or,Bool.or_true,Bool.false_or,Bool.or_false,Bool.true_and,Bool.and_true,Bool.false_and,Bool.and_false,Bool.not_true,Bool.not_false];done)
               | (simp [resOf,demandS, *];done)
               | (simp_all [resOf,demandS];done))
            | skip
        · skip
          refine AW.skip (blkN (thenN (AW.seq (AW.region (Qp Qai (AOL.nil (thenN (AW.ret ?_))))))))
          refine Qr (.int .i64 _) ?_
          try simp only [str0,Bool.and_true] at *
          first
            | (simp only [resOf,demandS];(first | rw [if_neg (Bool.eq_false_iff.mp hc4)] | skip);(first | rw [if_neg (Bool.eq_false_iff.mp hc7)] | skip);first | done | rfl)
            | (try simp only [Bool.not_eq_true',Bool.not_eq_false'] at *
               first
               | (simp only [resOf,demandS, *,Bool.false_eq_true,↓reduceIte,Bool.true_or,Bool.or_true,Bool.false_or,Bool.or_false,Bool.true_and,Bool.and_true,Bool.false_and,Bool.and_false,Bool.not_true,Bool.not_false];done)
               | (simp [resOf,demandS, *];done)
               | (simp_all [resOf,demandS];done))
            | skip
theorem c73 (op:Int)(ks:List Int):APure Tryz.prog 116 [.int .i64 op,.sl 1 (ks.map fun k=>[.int .i64 k])] (.int .i64 (operandsS op ks)):=by
 refine APure.body (n:=39) tok Tryz.func116 rfl rfl rfl fun H=>?_
 refine Qsr (Qp Qai (Qnn (AW.seq (Qsr (Qp Qai (Qnn (AW.block ?_)))))))
 refine AW.sllen 1 rfl fun hlen=>?_
 simp only [List.length_map,maxLen] at hlen
 refine AW.loopS (fun (p:Nat)=>(⟨[(0,.int .i64 op),(1,.sl 1 (ks.map fun k=>[.int .i64 k])),(5,.int .i64 (p:Int))],H,39⟩:St)) (fun (p:Nat)=>p≤ks.length∧operandsS op ks=firstS (fun k=>if okS op k (ks.headD 0) then 0 else 9) (ks.drop p)) (fun (p:Nat)=>ks.length-p) (0) ?_ (GS.weaken ⟨rfl,rfl,rfl,trivial⟩ (.refl _)) ?_
 · exact ⟨Nat.zero_le _,rfl⟩
 ·
  rintro p hR
  refine AW.seq (Qsr (Qp Qmi (Qp Qms ?_)))
  refine Qp (P_len_sl (n:=ks.length) tok rfl rfl rfl (by simp)) ?_
  refine Qp Qclt (Qnn (Qif (fun hc1=>?_) fun hc1=>?_))
  ·
   obtain ⟨a,ha⟩:=get_lt hc1
   have hlt:=get_lt' ha
   have hm:=List.mem_of_getElem? ha
   obtain ⟨a0,ha0⟩:∃a0,ks[0]? = some a0:=⟨_,List.getElem?_eq_getElem (by omega)⟩
   have hhd:ks.headD 0=a0:=by cases ks <;> simp_all
   refine Qst (AW.seq (AW.block (Qsr (Qp Qmi ?_))))
   refine Qp (Qc rfl (c98 op)) ?_
   refine Qp Qai (Qnn (AW.seq ?_))
   refine AW.draw mixed (fun _=>True) trivial (by kernel_rfl) ?_
   refine Qn 0 rfl Qmi (Qn 1 rfl Qcgq (Qn 2 rfl Qmb (Qo 3 rfl [] Qw Qms (Qo 4 rfl [] Qw Qmi ?_))))
   refine Canon.pure _ _ 5 _ _ rfl (by kernel_rfl) (by kernel_rfl) rfl (.opt _ (.ptr _) [(18,_),(19,_)] rfl (EntL.all ⟨Ent.self _ _,Ent.self _ _,trivial⟩) (fun hG=>P_indexAddr (c:=[.int .i64 _]) tok rfl rfl rfl rfl rfl rfl (by omega) (map_at (f:=fun k=>[AV.int .i64 k]) ha)) rfl) ?_
   refine Qo 6 rfl [(20,_)] Qw Qli (Qo 7 rfl [] Qw Qmi ?_)
   refine Canon.pure _ _ 8 _ _ rfl (by kernel_rfl) (by kernel_rfl) rfl (.opt _ (.bool _) [(21,_),(22,_)] rfl (EntL.all ⟨Ent.self _ _,Ent.self _ _,trivial⟩) (fun hG=>P_neq rfl rfl) rfl) ?_
   refine Qn 9 rfl Qpa (Qn 10 rfl Qmb (Qo 11 rfl [] Qw Qmi (Qo 12 rfl [(26,_)] Qw Qceq (Qo 13 rfl [(27,_)] Qw Qmb (Qo 14 rfl [] Qw Qms (Qo 15 rfl [] Qw Qmi ?_))))))
   refine Canon.pure _ _ 16 _ _ rfl (by kernel_rfl) (by kernel_rfl) rfl (.opt _ (.ptr _) [(29,_),(30,_)] rfl (EntL.all ⟨Ent.self _ _,Ent.self _ _,trivial⟩) (fun hG=>P_indexAddr (c:=[.int .i64 _]) tok rfl rfl rfl rfl rfl rfl (by omega) (map_at (f:=fun k=>[AV.int .i64 k]) ha)) rfl) ?_
   refine Qo 17 rfl [(31,_)] Qw Qli (Qo 18 rfl [] Qw Qms ?_)
   refine Canon.pure _ _ 19 _ _ rfl (by kernel_rfl) (by kernel_rfl) rfl (.opt _ (.ptr _) [(33,_)] rfl (EntL.all ⟨Ent.self _ _,trivial⟩) (fun hG=>P_indexAddr (c:=[.int .i64 _]) tok rfl rfl rfl rfl rfl rfl (by omega) (map_at (f:=fun k=>[AV.int .i64 k]) ha0)) rfl) ?_
   refine Qo 20 rfl [(34,_)] Qw Qli ?_
   refine Canon.pure _ _ 21 _ _ rfl (by kernel_rfl) (by kernel_rfl) rfl (.opt _ (.bool _) [(32,_),(35,_)] rfl (EntL.all ⟨Ent.self _ _,Ent.self _ _,trivial⟩) (fun hG=>P_neq rfl rfl) rfl) ?_
   refine Qo 22 rfl [(28,_),(36,_)] Qw Qpa (Qn 23 rfl Qpo ?_)
   refine Canon.done _ _ (by kernel_rfl) ?_
   refine thenN (Qif (fun hc2=>?_) fun hc2=>?_)
   ·
    rw [demand_ok] at hc2
    have hok:okS op a a0=false:=by simpa using hc2
    refine Qsr (Qp Qai (Qnn (AW.ret (blkR (thenR (thenR (blkR (thenR ?_))))))))
    refine Qr (.int .i64 _) ?_
    simp only [resOf,AV.int.injEq,true_and]
    rw [hR.2,drop_cons ha,firstS,hhd];simp [hok]
   ·
    rw [demand_ok] at hc2
    have hok:okS op a a0=true:=by simpa using hc2
    refine AW.skip (blkN (thenN (AW.region (Qp Qmi (Qp Qad (Qp Qai (Qnn ?_)))))))
    refine ⟨p+1,?_,?_,GS.weaken ⟨rfl,rfl,rfl,trivial⟩ (.refl _)⟩
    · exact ⟨hlt,by rw [hR.2,drop_cons ha,firstS,hhd];simp [hok]⟩
    · first | omega | (simp only;omega)
  ·
   have hd:=get_end hc1
   refine AW.exit ?_
   refine thenE (thenE (blkHit (thenN (Qsr (Qp Qai (Qnn (AW.ret ?_)))))))
   refine Qr (.int .i64 _) ?_
   simp only [resOf,AV.int.injEq,true_and]
   rw [hR.2,hd];rfl
theorem c65 (a b:Int):APure Tryz.prog 121 [.int .i64 a,.int .i64 b] (.agg (cV (applyS 7 a b))):=by
 refine APure.body (n:=9) tok Tryz.func121 rfl rfl rfl fun H=>?_
 refine Qsr ?_
 refine Qe (E_alloc (l:=[.int .i64 0,.int .i64 0,.str []]) (by kernel_rfl)) ?_
 rintro _ _ ⟨b4,rfl,rfl⟩
 refine Qns (Qp Qmi (Qp Qmi (Qp Qclt ?_)))
 refine Qp (Qc rfl (c42 _)) ?_
 refine Qe (E_store (k:=0) (v:=.agg _) (cs':=[.int .i64 _,.int .i64 _,.str _]) (H2:=_::_) tok rfl rfl rfl rfl (rfl) rfl rfl rfl rfl) ?_
 rintro _ _ ⟨rfl,rfl⟩
 refine Qnn (AW.ret ?_)
 refine ⟨.inr rfl,[.agg [.int .i64 _,.int .i64 _,.str _]],.cons (.box _ _ _ 0 _ _ _ _ rfl rfl rfl rfl rfl rfl) <| .nil,.cons _ (.refl _),?_⟩
 rfl
theorem c66 (a b:Int):APure Tryz.prog 122 [.int .i64 a,.int .i64 b] (.agg (cV (applyS 8 a b))):=by
 refine APure.body (n:=9) tok Tryz.func122 rfl rfl rfl fun H=>?_
 refine Qsr ?_
 refine Qe (E_alloc (l:=[.int .i64 0,.int .i64 0,.str []]) (by kernel_rfl)) ?_
 rintro _ _ ⟨b4,rfl,rfl⟩
 refine Qns (Qp Qmi (Qp Qmi (Qp Qclq ?_)))
 refine Qp (Qc rfl (c42 _)) ?_
 refine Qe (E_store (k:=0) (v:=.agg _) (cs':=[.int .i64 _,.int .i64 _,.str _]) (H2:=_::_) tok rfl rfl rfl rfl (rfl) rfl rfl rfl rfl) ?_
 rintro _ _ ⟨rfl,rfl⟩
 refine Qnn (AW.ret ?_)
 refine ⟨.inr rfl,[.agg [.int .i64 _,.int .i64 _,.str _]],.cons (.box _ _ _ 0 _ _ _ _ rfl rfl rfl rfl rfl rfl) <| .nil,.cons _ (.refl _),?_⟩
 rfl
theorem c67 (a b:Int):APure Tryz.prog 123 [.int .i64 a,.int .i64 b] (.agg (cV (applyS 10 a b))):=by
 refine APure.body (n:=12) tok Tryz.func123 rfl rfl rfl fun H=>?_
 refine Qsr ?_
 refine Qe (E_alloc (l:=[.int .i64 0,.int .i64 0,.str []]) (by kernel_rfl)) ?_
 rintro _ _ ⟨b4,rfl,rfl⟩
 refine Qns (Qp Qmi (Qp Qceq (Qp Qmb (Qg [] Qw Qmi (Qg [(8,_)] Qw Qceq (Qp Qpa ?_))))))
 refine Qp (Qc rfl (c42 _)) ?_
 refine Qe (E_store (k:=0) (v:=.agg _) (cs':=[.int .i64 _,.int .i64 _,.str _]) (H2:=_::_) tok rfl rfl rfl rfl (rfl) rfl rfl rfl rfl) ?_
 rintro _ _ ⟨rfl,rfl⟩
 refine Qnn (AW.ret ?_)
 refine ⟨.inr rfl,[.agg [.int .i64 _,.int .i64 _,.str _]],.cons (.box _ _ _ 0 _ _ _ _ rfl rfl rfl rfl rfl rfl) <| .nil,.cons _ (.refl _),?_⟩
 rfl
theorem c68 (a b:Int):APure Tryz.prog 124 [.int .i64 a,.int .i64 b] (.agg (cV (applyS 11 a b))):=by
 refine APure.body (n:=12) tok Tryz.func124 rfl rfl rfl fun H=>?_
 refine Qsr ?_
 refine Qe (E_alloc (l:=[.int .i64 0,.int .i64 0,.str []]) (by kernel_rfl)) ?_
 rintro _ _ ⟨b4,rfl,rfl⟩
 refine Qns (Qp Qmi (Qp Qceq (Qp Qmb (Qg [] Qw Qmi (Qg [(8,_)] Qw Qceq (Qp Qpo ?_))))))
 refine Qp (Qc rfl (c42 _)) ?_
 refine Qe (E_store (k:=0) (v:=.agg _) (cs':=[.int .i64 _,.int .i64 _,.str _]) (H2:=_::_) tok rfl rfl rfl rfl (rfl) rfl rfl rfl rfl) ?_
 rintro _ _ ⟨rfl,rfl⟩
 refine Qnn (AW.ret ?_)
 refine ⟨.inr rfl,[.agg [.int .i64 _,.int .i64 _,.str _]],.cons (.box _ _ _ 0 _ _ _ _ rfl rfl rfl rfl rfl rfl) <| .nil,.cons _ (.refl _),?_⟩
 rfl
theorem c69 (a b:Int):APure Tryz.prog 125 [.int .i64 a,.int .i64 b] (.agg (cV (applyS 12 a b))):=by
 refine APure.body (n:=8) tok Tryz.func125 rfl rfl rfl fun H=>?_
 refine Qsr ?_
 refine Qe (E_alloc (l:=[.int .i64 0,.int .i64 0,.str []]) (by kernel_rfl)) ?_
 rintro _ _ ⟨b4,rfl,rfl⟩
 refine Qns (Qp Qmi (Qp Qcne ?_))
 refine Qp (Qc rfl (c42 _)) ?_
 refine Qe (E_store (k:=0) (v:=.agg _) (cs':=[.int .i64 _,.int .i64 _,.str _]) (H2:=_::_) tok rfl rfl rfl rfl (rfl) rfl rfl rfl rfl) ?_
 rintro _ _ ⟨rfl,rfl⟩
 refine Qnn (AW.ret ?_)
 refine ⟨.inr rfl,[.agg [.int .i64 _,.int .i64 _,.str _]],.cons (.box _ _ _ 0 _ _ _ _ rfl rfl rfl rfl rfl rfl) <| .nil,.cons _ (.refl _),?_⟩
 rfl
theorem c62 (n:Int):APure Tryz.prog 118 [.int .i64 n] (.agg (cV ⟨0,n,[]⟩)):=by
 refine APure.body (n:=5) tok Tryz.func118 rfl rfl rfl fun H=>?_
 refine Qsr ?_
 refine Qe (E_alloc (l:=[.int .i64 0,.int .i64 0,.str []]) (by kernel_rfl)) ?_
 rintro _ _ ⟨b2,rfl,rfl⟩
 refine Qns (Qp Qmi (Qp (Qbd [.int .i64 _,.int .i64 _,.str _]) ?_))
 refine Qe (E_store (k:=0) (v:=.agg _) (cs':=[.int .i64 _,.int .i64 _,.str _]) (H2:=_::_) tok rfl rfl rfl rfl (rfl) rfl rfl rfl rfl) ?_
 rintro _ _ ⟨rfl,rfl⟩
 refine Qnn (AW.ret ?_)
 refine ⟨.inr rfl,[.agg [.int .i64 _,.int .i64 _,.str _]],.cons (.box _ _ _ 0 _ _ _ _ rfl rfl rfl rfl rfl rfl) <| .nil,.cons _ (.refl _),?_⟩
 rfl
theorem c63 (a b:Int):APure Tryz.prog 119 [.int .i64 a,.int .i64 b,.ptr [.fn (.func 118) [] []]] (.agg (cV (applyS 5 a b))):=by
 refine APure.body (n:=11) tok Tryz.func119 rfl rfl rfl fun H=>?_
 refine Qsr ?_
 refine Qe (E_alloc (l:=[.int .i64 0,.int .i64 0,.str []]) (by kernel_rfl)) ?_
 rintro _ _ ⟨b5,rfl,rfl⟩
 refine Qns ?_
 refine Qp (P_load_ptr (c:=.fn _ _ _) tok rfl rfl rfl) ?_
 refine Qp Qmi (Qp Qmi ?_)
 refine Qp (P_addw rfl rfl) ?_
 refine Qp (P_call (by kernel_rfl) rfl rfl rfl (c62 _)) ?_
 refine Qe (E_store (k:=0) (v:=.agg _) (cs':=[.int .i64 _,.int .i64 _,.str _]) (H2:=_::_) tok rfl rfl rfl rfl (rfl) rfl rfl rfl rfl) ?_
 rintro _ _ ⟨rfl,rfl⟩
 refine Qnn (AW.ret ?_)
 refine ⟨.inr rfl,[.agg [.int .i64 _,.int .i64 _,.str _]],.cons (.box _ _ _ 0 _ _ _ _ rfl rfl rfl rfl rfl rfl) <| .nil,.cons _ (.refl _),?_⟩
 rfl
theorem c64 (a b:Int):APure Tryz.prog 120 [.int .i64 a,.int .i64 b,.ptr [.fn (.func 118) [] []]] (.agg (cV (applyS 6 a b))):=by
 refine APure.body (n:=11) tok Tryz.func120 rfl rfl rfl fun H=>?_
 refine Qsr ?_
 refine Qe (E_alloc (l:=[.int .i64 0,.int .i64 0,.str []]) (by kernel_rfl)) ?_
 rintro _ _ ⟨b5,rfl,rfl⟩
 refine Qns ?_
 refine Qp (P_load_ptr (c:=.fn _ _ _) tok rfl rfl rfl) ?_
 refine Qp Qmi (Qp Qmi ?_)
 refine Qp (P_subw rfl rfl) ?_
 refine Qp (P_call (by kernel_rfl) rfl rfl rfl (c62 _)) ?_
 refine Qe (E_store (k:=0) (v:=.agg _) (cs':=[.int .i64 _,.int .i64 _,.str _]) (H2:=_::_) tok rfl rfl rfl rfl (rfl) rfl rfl rfl rfl) ?_
 rintro _ _ ⟨rfl,rfl⟩
 refine Qnn (AW.ret ?_)
 refine ⟨.inr rfl,[.agg [.int .i64 _,.int .i64 _,.str _]],.cons (.box _ _ _ 0 _ _ _ _ rfl rfl rfl rfl rfl rfl) <| .nil,.cons _ (.refl _),?_⟩
 rfl
theorem c39  : APure Tryz.prog 76 [] (.mapv OPS):=by
 refine APure.body (n:=6) tok Tryz.func76 rfl rfl rfl fun H=>?_
 refine Qsr (Qp Qav (Qns ?_))
 refine Qe (E_alloc (l:=[.val .nilFunc]) (by kernel_rfl)) ?_
 rintro _ _ ⟨b1,rfl,rfl⟩
 refine Qe (E_store (k:=0) (v:=.fn _ _ _) (cs':=[_]) (H2:=_::_) tok rfl rfl rfl rfl (rfl) rfl rfl rfl rfl) ?_
 rintro _ _ ⟨rfl,rfl⟩
 refine AOL.ghost (GS.freeze (t:=1) 0 rfl rfl) ?_
 refine Qns ?_
 refine Qe (E_makeMap) ?_
 rintro _ _ ⟨b2,rfl,rfl⟩
 refine Qp (P_makeFunc (l:=[]) (l':=[.ptr _]) rfl rfl) ?_
 refine Qe (E_insert (i:=0) (x:=.fn _ _ _) (H2:=_::_) tok rfl rfl rfl rfl rfl rfl rfl rfl rfl rfl) ?_
 rintro _ _ ⟨rfl,rfl⟩
 refine Qp (P_makeFunc (l:=[]) (l':=[.ptr _]) rfl rfl) ?_
 refine Qe (E_insert (i:=0) (x:=.fn _ _ _) (H2:=_::_) tok rfl rfl rfl rfl rfl rfl rfl rfl rfl rfl) ?_
 rintro _ _ ⟨rfl,rfl⟩
 refine Qe (E_insert (i:=0) (x:=.fn _ _ _) (H2:=_::_) tok rfl rfl rfl rfl rfl rfl rfl rfl rfl rfl) ?_
 rintro _ _ ⟨rfl,rfl⟩
 refine Qe (E_insert (i:=0) (x:=.fn _ _ _) (H2:=_::_) tok rfl rfl rfl rfl rfl rfl rfl rfl rfl rfl) ?_
 rintro _ _ ⟨rfl,rfl⟩
 refine Qe (E_insert (i:=0) (x:=.fn _ _ _) (H2:=_::_) tok rfl rfl rfl rfl rfl rfl rfl rfl rfl rfl) ?_
 rintro _ _ ⟨rfl,rfl⟩
 refine Qe (E_insert (i:=0) (x:=.fn _ _ _) (H2:=_::_) tok rfl rfl rfl rfl rfl rfl rfl rfl rfl rfl) ?_
 rintro _ _ ⟨rfl,rfl⟩
 refine Qe (E_insert (i:=0) (x:=.fn _ _ _) (H2:=_::_) tok rfl rfl rfl rfl rfl rfl rfl rfl rfl rfl) ?_
 rintro _ _ ⟨rfl,rfl⟩
 refine AOL.ghost (GS.freezeMap (t:=2) 0 rfl rfl) ?_
 refine Qp (P_move (v:=.mapv _) rfl) ?_
 refine Qp (P_assign (v:=.mapv _) rfl) ?_
 refine Qnn (AW.ret ?_)
 refine Qr (.mapv _) ?_
 rfl

end Go.Proofs.YtkddpedfbicbeaaGreatDoor
