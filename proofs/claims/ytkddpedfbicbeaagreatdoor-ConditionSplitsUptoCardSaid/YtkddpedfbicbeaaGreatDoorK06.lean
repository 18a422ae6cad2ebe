/-
  Several texts in one: W2, W3. No condition.
-/
import Derived.Test.YtkddpedfbicbeaaGreatDoorK01
import Derived.Test.YtkddpedfbicbeaaGreatDoorW1
import Derived.KernelRfl
set_option linter.unusedVariables false
set_option linter.unusedSimpArgs false
namespace Go.Proofs.YtkddpedfbicbeaaGreatDoor
open Go Go.Aw
set_option maxHeartbeats 400000
set_option maxRecDepth 20000

theorem c127  : APure Tryz.prog 200 [] (.agg (cV v0)):=by
 refine APure.body (n:=2) tok Tryz.func200 rfl rfl rfl fun H=>?_
 refine Qsr ?_
 refine Qe (E_alloc (l:=[.int .i64 0,.int .i64 0,.str []]) (by kernel_rfl)) ?_
 rintro _ _ ⟨b0,rfl,rfl⟩
 refine Qns (Qp (Qbd [.int .i64 _,.int .i64 _,.str _]) ?_)
 refine Qe (E_store (k:=0) (v:=.agg _) (cs':=[.int .i64 _,.int .i64 _,.str _]) (H2:=_::_) tok rfl rfl rfl rfl (rfl) rfl rfl rfl rfl) ?_
 rintro _ _ ⟨rfl,rfl⟩
 refine Qnn (AW.ret ?_)
 refine ⟨.inr rfl,[.agg [.int .i64 _,.int .i64 _,.str _]],.cons (.box _ _ _ 0 _ _ _ _ rfl rfl rfl rfl rfl rfl) <| .nil,.cons _ (.refl _),?_⟩
 rfl
theorem c128 (v w:Vl):APure Tryz.prog 201 [.ptr (cV v),.ptr (cV w)] (.agg (cV (combS 1 v w))):=by
 refine APure.body (n:=9) tok Tryz.func201 rfl rfl rfl fun H=>?_
 refine Qsr ?_
 refine Qe (E_alloc (l:=[.int .i64 0,.int .i64 0,.str []]) (by kernel_rfl)) ?_
 rintro _ _ ⟨b2,rfl,rfl⟩
 refine Qns (Qp Qf6 (Qp Qli (Qp Qf6 (Qp Qli ?_))))
 refine Qp (P_addw rfl rfl) ?_
 refine Qp (Qbd [.int .i64 _,.int .i64 _,.str _]) ?_
 refine Qe (E_store (k:=0) (v:=.agg _) (cs':=[.int .i64 _,.int .i64 _,.str _]) (H2:=_::_) tok rfl rfl rfl rfl (rfl) rfl rfl rfl rfl) ?_
 rintro _ _ ⟨rfl,rfl⟩
 refine Qnn (AW.ret ?_)
 refine ⟨.inr rfl,[.agg [.int .i64 _,.int .i64 _,.str _]],.cons (.box _ _ _ 0 _ _ _ _ rfl rfl rfl rfl rfl rfl) <| .nil,.cons _ (.refl _),?_⟩
 rfl
theorem c129 (v w:Vl):APure Tryz.prog 202 [.ptr (cV v),.ptr (cV w)] (.agg (cV (combS 2 v w))):=by
 refine APure.body (n:=9) tok Tryz.func202 rfl rfl rfl fun H=>?_
 refine Qsr ?_
 refine Qe (E_alloc (l:=[.int .i64 0,.int .i64 0,.str []]) (by kernel_rfl)) ?_
 rintro _ _ ⟨b2,rfl,rfl⟩
 refine Qns (Qp Qf6 (Qp Qli (Qp Qf6 (Qp Qli ?_))))
 refine Qp (P_min rfl rfl) ?_
 refine Qp (Qbd [.int .i64 _,.int .i64 _,.str _]) ?_
 refine Qe (E_store (k:=0) (v:=.agg _) (cs':=[.int .i64 _,.int .i64 _,.str _]) (H2:=_::_) tok rfl rfl rfl rfl (rfl) rfl rfl rfl rfl) ?_
 rintro _ _ ⟨rfl,rfl⟩
 refine Qnn (AW.ret ?_)
 refine ⟨.inr rfl,[.agg [.int .i64 _,.int .i64 _,.str _]],.cons (.box _ _ _ 0 _ _ _ _ rfl rfl rfl rfl rfl rfl) <| .nil,.cons _ (.refl _),?_⟩
 rfl
theorem c130 (v w:Vl):APure Tryz.prog 203 [.ptr (cV v),.ptr (cV w)] (.agg (cV (combS 3 v w))):=by
 refine APure.body (n:=9) tok Tryz.func203 rfl rfl rfl fun H=>?_
 refine Qsr ?_
 refine Qe (E_alloc (l:=[.int .i64 0,.int .i64 0,.str []]) (by kernel_rfl)) ?_
 rintro _ _ ⟨b2,rfl,rfl⟩
 refine Qns (Qp Qf6 (Qp Qli (Qp Qf6 (Qp Qli ?_))))
 refine Qp (P_max rfl rfl) ?_
 refine Qp (Qbd [.int .i64 _,.int .i64 _,.str _]) ?_
 refine Qe (E_store (k:=0) (v:=.agg _) (cs':=[.int .i64 _,.int .i64 _,.str _]) (H2:=_::_) tok rfl rfl rfl rfl (rfl) rfl rfl rfl rfl) ?_
 rintro _ _ ⟨rfl,rfl⟩
 refine Qnn (AW.ret ?_)
 refine ⟨.inr rfl,[.agg [.int .i64 _,.int .i64 _,.str _]],.cons (.box _ _ _ 0 _ _ _ _ rfl rfl rfl rfl rfl rfl) <| .nil,.cons _ (.refl _),?_⟩
 rfl
theorem c131 (v:Vl):APure Tryz.prog 204 [.ptr (cV v)] (.agg (cV v)):=by
 refine APure.body (n:=3) tok Tryz.func204 rfl rfl rfl fun H=>?_
 refine Qsr ?_
 refine Qe (E_alloc (l:=[.int .i64 0,.int .i64 0,.str []]) (by kernel_rfl)) ?_
 rintro _ _ ⟨b1,rfl,rfl⟩
 refine Qns (Qp (Qlg [.int .i64 _,.int .i64 _,.str _]) ?_)
 refine Qe (E_store (k:=0) (v:=.agg _) (cs':=[.int .i64 _,.int .i64 _,.str _]) (H2:=_::_) tok rfl rfl rfl rfl (rfl) rfl rfl rfl rfl) ?_
 rintro _ _ ⟨rfl,rfl⟩
 refine Qnn (AW.ret ?_)
 refine ⟨.inr rfl,[.agg [.int .i64 _,.int .i64 _,.str _]],.cons (.box _ _ _ 0 _ _ _ _ rfl rfl rfl rfl rfl rfl) <| .nil,.cons _ (.refl _),?_⟩
 rfl
theorem c132 (v:Vl):APure Tryz.prog 205 [.ptr (cV v)] (.agg (cV v)):=by
 refine APure.body (n:=3) tok Tryz.func205 rfl rfl rfl fun H=>?_
 refine Qsr ?_
 refine Qe (E_alloc (l:=[.int .i64 0,.int .i64 0,.str []]) (by kernel_rfl)) ?_
 rintro _ _ ⟨b1,rfl,rfl⟩
 refine Qns (Qp (Qlg [.int .i64 _,.int .i64 _,.str _]) ?_)
 refine Qe (E_store (k:=0) (v:=.agg _) (cs':=[.int .i64 _,.int .i64 _,.str _]) (H2:=_::_) tok rfl rfl rfl rfl (rfl) rfl rfl rfl rfl) ?_
 rintro _ _ ⟨rfl,rfl⟩
 refine Qnn (AW.ret ?_)
 refine ⟨.inr rfl,[.agg [.int .i64 _,.int .i64 _,.str _]],.cons (.box _ _ _ 0 _ _ _ _ rfl rfl rfl rfl rfl rfl) <| .nil,.cons _ (.refl _),?_⟩
 rfl
theorem c125_0 (v w:Vl):APure Tryz.prog 192 [.int .i64 0,.agg (cV v),.agg (cV w)] (.agg (cV (combS 0 v w))):=by
 refine APure.body (n:=16) tok Tryz.func192 rfl rfl rfl fun H=>?_
 refine Qsr (Qp (Qbx [.int .i64 _,.int .i64 _,.str _]) (Qp (Qbx [.int .i64 _,.int .i64 _,.str _]) ?_))
 refine Qe (E_alloc (l:=[.int .i64 0,.int .i64 0,.str []]) (by kernel_rfl)) ?_
 rintro _ _ ⟨b6,rfl,rfl⟩
 refine Qns ?_
 refine Qp (P_makeFunc (l:=[]) (l':=[.ptr _,.ptr _]) rfl rfl) ?_
 refine Qp (P_makeFunc (l:=[]) (l':=[.ptr _,.ptr _]) rfl rfl) ?_
 refine Qp (P_makeFunc (l:=[]) (l':=[.ptr _,.ptr _]) rfl rfl) ?_
 refine Qp (P_makeFunc (l:=[]) (l':=[.ptr _]) rfl rfl) ?_
 refine Qp (P_makeFunc (l:=[]) (l':=[.ptr _]) rfl rfl) ?_
 refine Qp (P_buildArr (l:=[_,_,_,_,_,_]) tok rfl rfl rfl rfl) ?_
 refine Qp Qmi ?_
 refine Qp (P_index_agg (c:=_) tok rfl rfl rfl rfl rfl rfl rfl (by omega) (by omega) (rfl)) ?_
 refine Qp (P_call (by kernel_rfl) rfl rfl rfl (c127)) ?_
 refine Qe (E_store (k:=0) (v:=.agg _) (cs':=[.int .i64 _,.int .i64 _,.str _]) (H2:=_::_) tok rfl rfl rfl rfl (rfl) rfl rfl rfl rfl) ?_
 rintro _ _ ⟨rfl,rfl⟩
 refine Qnn (AW.ret ?_)
 refine ⟨.inr rfl,[.agg [.int .i64 _,.int .i64 _,.str _]],.cons (.box _ _ _ 0 _ _ _ _ rfl rfl rfl rfl rfl rfl) <| .nil,.cons _ (.refl _),?_⟩
 rfl
theorem c125_1 (v w:Vl):APure Tryz.prog 192 [.int .i64 1,.agg (cV v),.agg (cV w)] (.agg (cV (combS 1 v w))):=by
 refine APure.body (n:=16) tok Tryz.func192 rfl rfl rfl fun H=>?_
 refine Qsr (Qp (Qbx [.int .i64 _,.int .i64 _,.str _]) (Qp (Qbx [.int .i64 _,.int .i64 _,.str _]) ?_))
 refine Qe (E_alloc (l:=[.int .i64 0,.int .i64 0,.str []]) (by kernel_rfl)) ?_
 rintro _ _ ⟨b6,rfl,rfl⟩
 refine Qns ?_
 refine Qp (P_makeFunc (l:=[]) (l':=[.ptr _,.ptr _]) rfl rfl) ?_
 refine Qp (P_makeFunc (l:=[]) (l':=[.ptr _,.ptr _]) rfl rfl) ?_
 refine Qp (P_makeFunc (l:=[]) (l':=[.ptr _,.ptr _]) rfl rfl) ?_
 refine Qp (P_makeFunc (l:=[]) (l':=[.ptr _]) rfl rfl) ?_
 refine Qp (P_makeFunc (l:=[]) (l':=[.ptr _]) rfl rfl) ?_
 refine Qp (P_buildArr (l:=[_,_,_,_,_,_]) tok rfl rfl rfl rfl) ?_
 refine Qp Qmi ?_
 refine Qp (P_index_agg (c:=_) tok rfl rfl rfl rfl rfl rfl rfl (by omega) (by omega) (rfl)) ?_
 refine Qp (P_call (by kernel_rfl) rfl rfl rfl (c128 v w)) ?_
 refine Qe (E_store (k:=0) (v:=.agg _) (cs':=[.int .i64 _,.int .i64 _,.str _]) (H2:=_::_) tok rfl rfl rfl rfl (rfl) rfl rfl rfl rfl) ?_
 rintro _ _ ⟨rfl,rfl⟩
 refine Qnn (AW.ret ?_)
 refine ⟨.inr rfl,[.agg [.int .i64 _,.int .i64 _,.str _]],.cons (.box _ _ _ 0 _ _ _ _ rfl rfl rfl rfl rfl rfl) <| .nil,.cons _ (.refl _),?_⟩
 rfl
theorem c125_2 (v w:Vl):APure Tryz.prog 192 [.int .i64 2,.agg (cV v),.agg (cV w)] (.agg (cV (combS 2 v w))):=by
 refine APure.body (n:=16) tok Tryz.func192 rfl rfl rfl fun H=>?_
 refine Qsr (Qp (Qbx [.int .i64 _,.int .i64 _,.str _]) (Qp (Qbx [.int .i64 _,.int .i64 _,.str _]) ?_))
 refine Qe (E_alloc (l:=[.int .i64 0,.int .i64 0,.str []]) (by kernel_rfl)) ?_
 rintro _ _ ⟨b6,rfl,rfl⟩
 refine Qns ?_
 refine Qp (P_makeFunc (l:=[]) (l':=[.ptr _,.ptr _]) rfl rfl) ?_
 refine Qp (P_makeFunc (l:=[]) (l':=[.ptr _,.ptr _]) rfl rfl) ?_
 refine Qp (P_makeFunc (l:=[]) (l':=[.ptr _,.ptr _]) rfl rfl) ?_
 refine Qp (P_makeFunc (l:=[]) (l':=[.ptr _]) rfl rfl) ?_
 refine Qp (P_makeFunc (l:=[]) (l':=[.ptr _]) rfl rfl) ?_
 refine Qp (P_buildArr (l:=[_,_,_,_,_,_]) tok rfl rfl rfl rfl) ?_
 refine Qp Qmi ?_
 refine Qp (P_index_agg (c:=_) tok rfl rfl rfl rfl rfl rfl rfl (by omega) (by omega) (rfl)) ?_
 refine Qp (P_call (by kernel_rfl) rfl rfl rfl (c129 v w)) ?_
 refine Qe (E_store (k:=0) (v:=.agg _) (cs':=[.int .i64 _,.int .i64 _,.str _]) (H2:=_::_) tok rfl rfl rfl rfl (rfl) rfl rfl rfl rfl) ?_
 rintro _ _ ⟨rfl,rfl⟩
 refine Qnn (AW.ret ?_)
 refine ⟨.inr rfl,[.agg [.int .i64 _,.int .i64 _,.str _]],.cons (.box _ _ _ 0 _ _ _ _ rfl rfl rfl rfl rfl rfl) <| .nil,.cons _ (.refl _),?_⟩
 rfl
theorem c125_3 (v w:Vl):APure Tryz.prog 192 [.int .i64 3,.agg (cV v),.agg (cV w)] (.agg (cV (combS 3 v w))):=by
 refine APure.body (n:=16) tok Tryz.func192 rfl rfl rfl fun H=>?_
 refine Qsr (Qp (Qbx [.int .i64 _,.int .i64 _,.str _]) (Qp (Qbx [.int .i64 _,.int .i64 _,.str _]) ?_))
 refine Qe (E_alloc (l:=[.int .i64 0,.int .i64 0,.str []]) (by kernel_rfl)) ?_
 rintro _ _ ⟨b6,rfl,rfl⟩
 refine Qns ?_
 refine Qp (P_makeFunc (l:=[]) (l':=[.ptr _,.ptr _]) rfl rfl) ?_
 refine Qp (P_makeFunc (l:=[]) (l':=[.ptr _,.ptr _]) rfl rfl) ?_
 refine Qp (P_makeFunc (l:=[]) (l':=[.ptr _,.ptr _]) rfl rfl) ?_
 refine Qp (P_makeFunc (l:=[]) (l':=[.ptr _]) rfl rfl) ?_
 refine Qp (P_makeFunc (l:=[]) (l':=[.ptr _]) rfl rfl) ?_
 refine Qp (P_buildArr (l:=[_,_,_,_,_,_]) tok rfl rfl rfl rfl) ?_
 refine Qp Qmi ?_
 refine Qp (P_index_agg (c:=_) tok rfl rfl rfl rfl rfl rfl rfl (by omega) (by omega) (rfl)) ?_
 refine Qp (P_call (by kernel_rfl) rfl rfl rfl (c130 v w)) ?_
 refine Qe (E_store (k:=0) (v:=.agg _) (cs':=[.int .i64 _,.int .i64 _,.str _]) (H2:=_::_) tok rfl rfl rfl rfl (rfl) rfl rfl rfl rfl) ?_
 rintro _ _ ⟨rfl,rfl⟩
 refine Qnn (AW.ret ?_)
 refine ⟨.inr rfl,[.agg [.int .i64 _,.int .i64 _,.str _]],.cons (.box _ _ _ 0 _ _ _ _ rfl rfl rfl rfl rfl rfl) <| .nil,.cons _ (.refl _),?_⟩
 rfl
theorem c125_4 (v w:Vl):APure Tryz.prog 192 [.int .i64 4,.agg (cV v),.agg (cV w)] (.agg (cV (combS 4 v w))):=by
 refine APure.body (n:=16) tok Tryz.func192 rfl rfl rfl fun H=>?_
 refine Qsr (Qp (Qbx [.int .i64 _,.int .i64 _,.str _]) (Qp (Qbx [.int .i64 _,.int .i64 _,.str _]) ?_))
 refine Qe (E_alloc (l:=[.int .i64 0,.int .i64 0,.str []]) (by kernel_rfl)) ?_
 rintro _ _ ⟨b6,rfl,rfl⟩
 refine Qns ?_
 refine Qp (P_makeFunc (l:=[]) (l':=[.ptr _,.ptr _]) rfl rfl) ?_
 refine Qp (P_makeFunc (l:=[]) (l':=[.ptr _,.ptr _]) rfl rfl) ?_
 refine Qp (P_makeFunc (l:=[]) (l':=[.ptr _,.ptr _]) rfl rfl) ?_
 refine Qp (P_makeFunc (l:=[]) (l':=[.ptr _]) rfl rfl) ?_
 refine Qp (P_makeFunc (l:=[]) (l':=[.ptr _]) rfl rfl) ?_
 refine Qp (P_buildArr (l:=[_,_,_,_,_,_]) tok rfl rfl rfl rfl) ?_
 refine Qp Qmi ?_
 refine Qp (P_index_agg (c:=_) tok rfl rfl rfl rfl rfl rfl rfl (by omega) (by omega) (rfl)) ?_
 refine Qp (P_call (by kernel_rfl) rfl rfl rfl (c131 v)) ?_
 refine Qe (E_store (k:=0) (v:=.agg _) (cs':=[.int .i64 _,.int .i64 _,.str _]) (H2:=_::_) tok rfl rfl rfl rfl (rfl) rfl rfl rfl rfl) ?_
 rintro _ _ ⟨rfl,rfl⟩
 refine Qnn (AW.ret ?_)
 refine ⟨.inr rfl,[.agg [.int .i64 _,.int .i64 _,.str _]],.cons (.box _ _ _ 0 _ _ _ _ rfl rfl rfl rfl rfl rfl) <| .nil,.cons _ (.refl _),?_⟩
 rfl
theorem c125_5 (v w:Vl):APure Tryz.prog 192 [.int .i64 5,.agg (cV v),.agg (cV w)] (.agg (cV (combS 5 v w))):=by
 refine APure.body (n:=16) tok Tryz.func192 rfl rfl rfl fun H=>?_
 refine Qsr (Qp (Qbx [.int .i64 _,.int .i64 _,.str _]) (Qp (Qbx [.int .i64 _,.int .i64 _,.str _]) ?_))
 refine Qe (E_alloc (l:=[.int .i64 0,.int .i64 0,.str []]) (by kernel_rfl)) ?_
 rintro _ _ ⟨b6,rfl,rfl⟩
 refine Qns ?_
 refine Qp (P_makeFunc (l:=[]) (l':=[.ptr _,.ptr _]) rfl rfl) ?_
 refine Qp (P_makeFunc (l:=[]) (l':=[.ptr _,.ptr _]) rfl rfl) ?_
 refine Qp (P_makeFunc (l:=[]) (l':=[.ptr _,.ptr _]) rfl rfl) ?_
 refine Qp (P_makeFunc (l:=[]) (l':=[.ptr _]) rfl rfl) ?_
 refine Qp (P_makeFunc (l:=[]) (l':=[.ptr _]) rfl rfl) ?_
 refine Qp (P_buildArr (l:=[_,_,_,_,_,_]) tok rfl rfl rfl rfl) ?_
 refine Qp Qmi ?_
 refine Qp (P_index_agg (c:=_) tok rfl rfl rfl rfl rfl rfl rfl (by omega) (by omega) (rfl)) ?_
 refine Qp (P_call (by kernel_rfl) rfl rfl rfl (c132 w)) ?_
 refine Qe (E_store (k:=0) (v:=.agg _) (cs':=[.int .i64 _,.int .i64 _,.str _]) (H2:=_::_) tok rfl rfl rfl rfl (rfl) rfl rfl rfl rfl) ?_
 rintro _ _ ⟨rfl,rfl⟩
 refine Qnn (AW.ret ?_)
 refine ⟨.inr rfl,[.agg [.int .i64 _,.int .i64 _,.str _]],.cons (.box _ _ _ 0 _ _ _ _ rfl rfl rfl rfl rfl rfl) <| .nil,.cons _ (.refl _),?_⟩
 rfl
theorem c125 (k:Int)(v w:Vl)(h:knownS k=true):APure Tryz.prog 192 [.int .i64 k,.agg (cV v),.agg (cV w)] (.agg (cV (combS k v w))):=by
 simp only [knownS,Bool.and_eq_true,decide_eq_true_eq] at h
 have:k=0∨k=1∨k=2∨k=3∨k=4∨k=5:=by omega
 rcases this with rfl | rfl | rfl | rfl | rfl | rfl
 · exact c125_0 v w
 · exact c125_1 v w
 · exact c125_2 v w
 · exact c125_3 v w
 · exact c125_4 v w
 · exact c125_5 v w
theorem c118 (a c:Ac)(h:knownS a.kind=true):APure Tryz.prog 183 [.agg (cAc a),.agg (cAc c)] (.agg (cAc (mergedS a c))):=by
  refine APure.body (n:=30) tok Tryz.func183 rfl rfl rfl fun H=>?_
  refine AW.seq (AW.region (Qp (Qbx [.int .i64 _,.int .i64 _,.int .i64 _,.int .i64 _,.str _]) (Qp (Qbx [.int .i64 _,.int .i64 _,.int .i64 _,.int .i64 _,.str _]) ?_)))
  refine Qe (E_alloc (l:=[.int .i64 0,.int .i64 0,.int .i64 0,.int .i64 0,.str []]) (by kernel_rfl)) ?_
  rintro _ _ ⟨b4,rfl,rfl⟩
  refine AOL.nil (thenN (AW.seq (AW.block (AW.seq (AW.region (Qp Qf4 (Qp Qli (Qp Qceq (Qp Qab ?_)))))))))
  refine AOL.nil (thenN (Qif (fun hc1=>?_) fun hc1=>?_))
  · skip
    refine AW.seq (AW.region (Qp (Qlg [.int .i64 _,.int .i64 _,.int .i64 _,.int .i64 _,.str _]) ?_))
    refine Qe (E_store (k:=0) (v:=.agg _) (cs':=[.int .i64 _,.int .i64 _,.int .i64 _,.int .i64 _,.str _]) (H2:=_::_) tok rfl rfl rfl rfl (rfl) rfl rfl rfl rfl) ?_
    rintro _ _ ⟨rfl,rfl⟩
    refine AOL.nil (thenN (AW.ret (blkR (thenR ?_))))
    refine ⟨.inr rfl,[.agg [.int .i64 _,.int .i64 _,.int .i64 _,.int .i64 _,.str _]],.cons (.box _ _ _ 0 _ _ _ _ rfl rfl rfl rfl rfl rfl) <| .nil,.cons _ (.refl _),?_⟩
    try simp only [str0,Bool.and_true] at *
    first
      | (simp only [resOf,mergedS,cAc,cV];(first | rw [if_pos hc1] | skip);first | done | rfl)
      | (try simp only [Bool.not_eq_true',Bool.not_eq_false'] at *
         first
         | (simp only [resOf,mergedS,cAc,cV, *,Bool.false_eq_true,↓reduceIte,Bool.true_or,Bool.or_true,Bool.false_or,Bool.or_false,Bool.true_and,Bool.and_true,Bool.false_and,Bool.and_false,Bool.not_true,Bool.not_false];done)
         | (simp [resOf,mergedS,cAc,cV, *];done)
         | (simp_all [resOf,mergedS,cAc,cV];done))
      | skip
  · skip
    refine AW.seq (AW.region (Qp Qf4 (Qp Qli (Qp Qceq (Qp Qab (AOL.nil (thenN (Qif (fun hc2=>?_) fun hc2=>?_))))))))
    · skip
      refine AW.seq (AW.region (Qp (Qlg [.int .i64 _,.int .i64 _,.int .i64 _,.int .i64 _,.str _]) ?_))
      refine Qe (E_store (k:=0) (v:=.agg _) (cs':=[.int .i64 _,.int .i64 _,.int .i64 _,.int .i64 _,.str _]) (H2:=_::_) tok rfl rfl rfl rfl (rfl) rfl rfl rfl rfl) ?_
      rintro _ _ ⟨rfl,rfl⟩
      refine AOL.nil (thenN (AW.ret (blkR (thenR ?_))))
      refine ⟨.inr rfl,[.agg [.int .i64 _,.int .i64 _,.int .i64 _,.int .i64 _,.str _]],.cons (.box _ _ _ 0 _ _ _ _ rfl rfl rfl rfl rfl rfl) <| .nil,.cons _ (.refl _),?_⟩
      try simp only [str0,Bool.and_true] at *
      first
        | (simp only [resOf,mergedS,cAc,cV];(first | rw [if_neg (Bool.eq_false_iff.mp hc1)] | skip);(first | rw [if_pos hc2] | skip);first | done | rfl)
        | (try simp only [Bool.not_eq_true',Bool.not_eq_false'] at *
           first
           | (simp only [resOf,mergedS,cAc,cV, *,Bool.false_eq_true,↓reduceIte,Bool.true_or,Bool.or_true,Bool.false_or,Bool.or_false,Bool.true_and,Bool.and_true,Bool.false_and,Bool.and_false,Bool.not_true,Bool.not_false];done)
           | (simp [resOf,mergedS,cAc,cV, *];done)
           | (simp_all [resOf,mergedS,cAc,cV];done))
        | skip
    · skip
      refine AW.skip (blkN (thenN (AW.seq ?_)))
      refine AW.draw mixed (fun _=>True) trivial (by kernel_rfl) ?_
      refine Qn 0 rfl Qf3 (Qn 1 rfl Qli (Qn 2 rfl Qf4 (Qn 3 rfl Qli (Qn 4 rfl Qf4 (Qn 5 rfl Qli ?_)))))
      refine Qn 6 rfl (P_addw rfl rfl) ?_
      refine Qn 7 rfl Qf3 (Qn 8 rfl Qli (Qn 9 rfl Qf5 (Qn 10 rfl (Qlg [.int .i64 _,.int .i64 _,.str _]) (Qn 11 rfl Qf5 (Qn 12 rfl (Qlg [.int .i64 _,.int .i64 _,.str _]) ?_)))))
      refine Qn 13 rfl (Qc rfl (c125 a.kind a.val c.val h)) ?_
      refine Qn 14 rfl (Qbd [.int .i64 _,.int .i64 _,.int .i64 _,.int .i64 _,.str _]) ?_
      refine Canon.eff _ _ 15 _ _ rfl (by kernel_rfl) rfl rfl (E_store (k:=0) (v:=.agg _) (cs':=[.int .i64 _,.int .i64 _,.int .i64 _,.int .i64 _,.str _]) (H2:=_::_) tok rfl rfl rfl rfl (rfl) rfl rfl rfl rfl) (fun _ _ _=>trivial) ?_
      rintro _ _ ⟨rfl,rfl⟩
      refine Canon.done _ _ (by kernel_rfl) ?_
      refine thenN (AW.ret ?_)
      refine ⟨.inr rfl,[.agg [.int .i64 _,.int .i64 _,.int .i64 _,.int .i64 _,.str _]],.cons (.box _ _ _ 0 _ _ _ _ rfl rfl rfl rfl rfl rfl) <| .nil,.cons _ (.refl _),?_⟩
      try simp only [str0,Bool.and_true] at *
      first
        | (simp only [resOf,mergedS,cAc,cV];(first | rw [if_neg (Bool.eq_false_iff.mp hc1)] | skip);(first | rw [if_neg (Bool.eq_false_iff.mp hc2)] | skip);first | done | rfl)
        | (try simp only [Bool.not_eq_true',Bool.not_eq_false'] at *
           first
           | (simp only [resOf,mergedS,cAc,cV, *,Bool.false_eq_true,↓reduceIte,Bool.true_or,Bool.or_true,Bool.false_or,Bool.or_false,Bool.true_and,Bool.and_true,Bool.false_and,Bool.and_false,Bool.not_true,Bool.not_false];done)
           | (simp [resOf,mergedS,cAc,cV, *];done)
           | (simp_all [resOf,mergedS,cAc,cV];done))
        | skip
theorem c126 (a:Ac):APure Tryz.prog 193 [.agg (cAc a)] (.int .i64 (acheckS a)):=by
  refine APure.body (n:=77) tok Tryz.func193 rfl rfl rfl fun H=>?_
  refine AW.seq (AW.region (Qp (Qbx [.int .i64 _,.int .i64 _,.int .i64 _,.int .i64 _,.str _]) (Qp Qai (AOL.nil (thenN (AW.seq (AW.block (AW.seq (AW.region ?_)))))))))
  refine Qp Qf3 (Qp Qli ?_)
  refine Qp (Qc rfl (c114 a.kind)) ?_
  refine Qp Qnt (Qp Qab (AOL.nil (thenN (Qif (fun hc1=>?_) fun hc1=>?_))))
  · skip
    refine AW.seq (AW.region (Qp Qai (AOL.nil (thenN (AW.ret (blkR (thenR ?_)))))))
    refine Qr (.int .i64 _) ?_
    try simp only [str0,Bool.and_true] at *
    first
      | (simp only [resOf,acheckS];(first | rw [if_pos hc1] | skip);first | done | rfl)
      | (try simp only [Bool.not_eq_true',Bool.not_eq_false'] at *
         first
         | (simp only [resOf,acheckS,isV0, *,Bool.false_eq_true,↓reduceIte,Bool.true_or,Bool.or_true,Bool.false_or,Bool.or_false,Bool.true_and,Bool.and_true,Bool.false_and,Bool.and_false,Bool.not_true,Bool.not_false];done)
         | (simp [resOf,acheckS,isV0, *];done)
         | (simp_all [resOf,acheckS,isV0];done))
      | skip
  · skip
    refine AW.seq (AW.region (Qp Qf4 (Qp Qli (Qp Qclt (Qp Qmb (Qg [] Qw Qf4 (Qg [(15,_)] Qw Qli (Qg [(16,_)] Qw Qcgt (Qp Qpo ?_)))))))))
    refine Qp Qab (AOL.nil (thenN (Qif (fun hc2=>?_) fun hc2=>?_)))
    · skip
      refine AW.seq (AW.region (Qp Qai (AOL.nil (thenN (AW.ret (blkR (thenR ?_)))))))
      refine Qr (.int .i64 _) ?_
      try simp only [str0,Bool.and_true] at *
      first
        | (simp only [resOf,acheckS];(first | rw [if_neg (Bool.eq_false_iff.mp hc1)] | skip);(first | rw [if_pos hc2] | skip);first | done | rfl)
        | (try simp only [Bool.not_eq_true',Bool.not_eq_false'] at *
           first
           | (simp only [resOf,acheckS,isV0, *,Bool.false_eq_true,↓reduceIte,Bool.true_or,Bool.or_true,Bool.false_or,Bool.or_false,Bool.true_and,Bool.and_true,Bool.false_and,Bool.and_false,Bool.not_true,Bool.not_false];done)
           | (simp [resOf,acheckS,isV0, *];done)
           | (simp_all [resOf,acheckS,isV0];done))
        | skip
    · skip
      refine AW.skip (blkN (thenN (AW.seq (AW.region (Qp Qab (AOL.nil (thenN (AW.seq (AW.block ?_)))))))))
      refine AW.seq (AW.region (Qp Qf4 (Qp Qli (Qp Qceq (Qp Qmb (Qg [] Qw Qf3 (Qg [(35,_)] Qw Qli (Qg [(36,_)] Qw Qceq (Qp Qpo ?_)))))))))
      refine Qp Qab (AOL.nil (thenN (Qif (fun hc3=>?_) fun hc3=>?_)))
      · skip
        refine AW.region (Qp Qf5 (Qp (Qlg [.int .i64 _,.int .i64 _,.str _]) (Qp (Qbd [.int .i64 _,.int .i64 _,.str _]) ?_)))
        refine Qp (P_eql_agg tok rfl rfl rfl rfl rfl) ?_
        refine Qp Qab (AOL.nil (blkN (thenN (AW.seq (AW.seq (AW.region (Qp Qmb (Qp Qnt (AOL.nil ?_)))))))))
        refine thenN (Qif (fun hc4=>?_) fun hc4=>?_)
        · skip
          refine AW.seq (AW.region (Qp Qai (AOL.nil (thenN (Qrt ?_)))))
          refine Qr (.int .i64 _) ?_
          try simp only [str0,Bool.and_true] at *
          first
            | (simp only [resOf,acheckS];(first | rw [if_neg (Bool.eq_false_iff.mp hc1)] | skip);(first | rw [if_neg (Bool.eq_false_iff.mp hc2)] | skip);(first | rw [if_pos hc3] | skip);(first | rw [if_pos hc4] | skip);first | done | rfl)
            | (try simp only [Bool.not_eq_true',Bool.not_eq_false'] at *
               first
               | (simp only [resOf,acheckS,isV0, *,Bool.false_eq_true,↓reduceIte,Bool.true_or,Bool.or_true,Bool.false_or,Bool.or_false,Bool.true_and,Bool.and_true,Bool.false_and,Bool.and_false,Bool.not_true,Bool.not_false];done)
               | (simp [resOf,acheckS,isV0, *];done)
               | (simp_all [resOf,acheckS,isV0];done))
            | skip
        · skip
          refine Qst (AW.seq (AW.region (Qp Qai (AOL.nil (thenN (AW.ret ?_))))))
          refine Qr (.int .i64 _) ?_
          try simp only [str0,Bool.and_true] at *
          first
            | (simp only [resOf,acheckS];(first | rw [if_neg (Bool.eq_false_iff.mp hc1)] | skip);(first | rw [if_neg (Bool.eq_false_iff.mp hc2)] | skip);(first | rw [if_pos hc3] | skip);(first | rw [if_neg (Bool.eq_false_iff.mp hc4)] | skip);first | done | rfl)
            | (try simp only [Bool.not_eq_true',Bool.not_eq_false'] at *
               first
               | (simp only [resOf,acheckS,isV0, *,Bool.false_eq_true,↓reduceIte,Bool.true_or,Bool.or_true,Bool.false_or,Bool.or_false,Bool.true_and,Bool.and_true,Bool.false_and,Bool.and_false,Bool.not_true,Bool.not_false];done)
               | (simp [resOf,acheckS,isV0, *];done)
               | (simp_all [resOf,acheckS,isV0];done))
            | skip
      · skip
        refine AW.seq (AW.region (Qp Qf3 (Qp Qli (Qp Qceq (Qp Qab (AOL.nil (thenN (Qif (fun hc5=>?_) fun hc5=>?_))))))))
        · skip
          refine AW.seq (AW.region (Qp Qf4 (Qp Qli ?_)))
          refine Qp (P_mul rfl rfl rfl (by have j0:=hc2;simp only [Bool.or_eq_false_iff,Bool.and_eq_true,decide_eq_false_iff_not,decide_eq_true_eq] at j0;constructor <;> omega)) ?_
          refine Qp Qai (AOL.nil (thenN (AW.region (Qp Qf5 (Qp Qf5 (Qp Qli (Qp Qceq (Qp Qmb (Qg [] Qw Qf5 ?_)))))))))
          refine Qg [(55,_)] Qw Qf7 (Qg [(56,_)] Qw Qlt ?_)
          refine AOL.g (y:=.bool _) _ [(57,_)] rfl (EntL.all ⟨Ent.self _ _,trivial⟩) (fun hG=>P_eql_str rfl rfl) rfl ?_
          refine Qp Qpa (Qp Qmb (Qg [] Qw Qf5 (Qg [(61,_)] Qw Qf6 (Qg [(62,_)] Qw Qli (Qg [] Qw Qmi ?_)))))
          refine AOL.g (y:=.int .i64 _) _ [(64,_)] rfl (EntL.all ⟨Ent.self _ _,trivial⟩) (fun hG=>P_neg rfl rfl (by have j0:=hc2;simp only [Bool.or_eq_false_iff,Bool.and_eq_true,decide_eq_false_iff_not,decide_eq_true_eq] at j0;constructor <;> omega)) rfl ?_
          refine AOL.g (y:=.bool _) _ [(63,_),(65,_)] rfl (EntL.all ⟨Ent.self _ _,Ent.self _ _,trivial⟩) (fun hG=>P_geq rfl rfl) rfl ?_
          refine Qp Qpa (Qp Qmb (Qg [] Qw Qf5 (Qg [(69,_)] Qw Qf6 (Qg [(70,_)] Qw Qli (Qg [] Qw Qmi ?_)))))
          refine AOL.g (y:=.bool _) _ [(71,_),(72,_)] rfl (EntL.all ⟨Ent.self _ _,Ent.self _ _,trivial⟩) (fun hG=>P_leq rfl rfl) rfl ?_
          refine Qp Qpa (Qp Qab (AOL.nil (blkN (thenN (AW.seq (AW.seq (AW.region (Qp Qmb (Qp Qnt ?_)))))))))
          refine AOL.nil (thenN (Qif (fun hc6=>?_) fun hc6=>?_))
          · skip
            refine AW.seq (AW.region (Qp Qai (AOL.nil (thenN (Qrt ?_)))))
            refine Qr (.int .i64 _) ?_
            try simp only [str0,Bool.and_true] at *
            first
              | (simp only [resOf,acheckS];(first | rw [if_neg (Bool.eq_false_iff.mp hc1)] | skip);(first | rw [if_neg (Bool.eq_false_iff.mp hc2)] | skip);(first | rw [if_neg (Bool.eq_false_iff.mp hc3)] | skip);(first | rw [if_pos hc5] | skip);(first | rw [if_pos hc6] | skip);first | done | rfl)
              | (try simp only [Bool.not_eq_true',Bool.not_eq_false'] at *
                 first
                 | (simp only [resOf,acheckS,isV0, *,Bool.false_eq_true,↓reduceIte,Bool.true_or,Bool.or_true,Bool.false_or,Bool.or_false,Bool.true_and,Bool.and_true,Bool.false_and,Bool.and_false,Bool.not_true,Bool.not_false];done)
                 | (simp [resOf,acheckS,isV0, *];done)
                 | (simp_all [resOf,acheckS,isV0];done))
              | skip
          · skip
            refine Qst (AW.seq (AW.region (Qp Qai (AOL.nil (thenN (AW.ret ?_))))))
            refine Qr (.int .i64 _) ?_
            try simp only [str0,Bool.and_true] at *
            first
              | (simp only [resOf,acheckS];(first | rw [if_neg (Bool.eq_false_iff.mp hc1)] | skip);(first | rw [if_neg (Bool.eq_false_iff.mp hc2)] | skip);(first | rw [if_neg (Bool.eq_false_iff.mp hc3)] | skip);(first | rw [if_pos hc5] | skip);(first | rw [if_neg (Bool.eq_false_iff.mp hc6)] | skip);first | done | rfl)
              | (try simp only [Bool.not_eq_true',Bool.not_eq_false'] at *
                 first
                 | (simp only [resOf,acheckS,isV0, *,Bool.false_eq_true,↓reduceIte,Bool.true_or,Bool.or_true,Bool.false_or,Bool.or_false,Bool.true_and,Bool.and_true,Bool.false_and,Bool.and_false,Bool.not_true,Bool.not_false];done)
                 | (simp [resOf,acheckS,isV0, *];done)
                 | (simp_all [resOf,acheckS,isV0];done))
              | skip
        · skip
          refine AW.region (Qp Qf5 (Qp (Qlg [.int .i64 _,.int .i64 _,.str _]) ?_))
          refine Qp (Qc rfl (c94 a.val)) ?_
          refine Qp Qceq (Qp Qmb (Qg [] Qw Qf3 (Qg [(24,_)] Qw Qli (Qg [] Qw Qf5 (Qg [(26,_)] Qw (Qlg [.int .i64 _,.int .i64 _,.str _]) ?_)))))
          refine AOL.g (y:=.bool _) _ [(25,_),(27,_)] rfl (EntL.all ⟨Ent.self _ _,Ent.self _ _,trivial⟩) (fun hG=>P_callf (by kernel_rfl) rfl rfl (c124 a.kind a.val)) rfl ?_
          refine Qp Qpa (Qp Qab (AOL.nil (blkN (thenN (AW.seq (AW.seq (AW.region (Qp Qmb (Qp Qnt ?_)))))))))
          refine AOL.nil (thenN (Qif (fun hc7=>?_) fun hc7=>?_))
          · skip
            refine AW.seq (AW.region (Qp Qai (AOL.nil (thenN (Qrt ?_)))))
            refine Qr (.int .i64 _) ?_
            try simp only [str0,Bool.and_true] at *
            first
              | (simp only [resOf,acheckS];(first | rw [if_neg (Bool.eq_false_iff.mp hc1)] | skip);(first | rw [if_neg (Bool.eq_false_iff.mp hc2)] | skip);(first | rw [if_neg (Bool.eq_false_iff.mp hc3)] | skip);(first | rw [if_neg (Bool.eq_false_iff.mp hc5)] | skip);(first | rw [if_pos hc7] | skip);first | done | rfl)
              | (try simp only [Bool.not_eq_true',Bool.not_eq_false'] at *
                 first
                 | (simp only [resOf,acheckS,isV0, *,Bool.false_eq_true,↓reduceIte,Bool.true_or,Bool.or_true,Bool.false_or,Bool.or_false,Bool.true_and,Bool.and_true,Bool.false_and,Bool.and_false,Bool.not_true,Bool.not_false];done)
                 | (simp [resOf,acheckS,isV0, *];done)
                 | (simp_all [resOf,acheckS,isV0];done))
              | skip
          · skip
            refine Qst (AW.seq (AW.region (Qp Qai (AOL.nil (thenN (AW.ret ?_))))))
            refine Qr (.int .i64 _) ?_
            try simp only [str0,Bool.and_true] at *
            first
              | (simp only [resOf,acheckS];(first | rw [if_neg (Bool.eq_false_iff.mp hc1)] | skip);(first | rw [if_neg (Bool.eq_false_iff.mp hc2)] | skip);(first | rw [if_neg (Bool.eq_false_iff.mp hc3)] | skip);(first | rw [if_neg (Bool.eq_false_iff.mp hc5)] | skip);(first | rw [if_neg (Bool.eq_false_iff.mp hc7)] | skip);first | done | rfl)
              | (try simp only [Bool.not_eq_true',Bool.not_eq_false'] at *
                 first
                 | (simp only [resOf,acheckS,isV0, *,Bool.false_eq_true,↓reduceIte,Bool.true_or,Bool.or_true,Bool.false_or,Bool.or_false,Bool.true_and,Bool.and_true,Bool.false_and,Bool.and_false,Bool.not_true,Bool.not_false];done)
                 | (simp [resOf,acheckS,isV0, *];done)
                 | (simp_all [resOf,acheckS,isV0];done))
              | skip

set_option maxHeartbeats 400000
set_option maxRecDepth 20000

theorem c120 (a:Ac)(o:Vl):APure Tryz.prog 185 [.agg (cAc a),.agg (cV o)] (.tuple [.agg (cV (resultS a o).1),.int .i64 (resultS a o).2]):=by
  refine APure.body (n:=41) tok Tryz.func185 rfl rfl rfl fun H=>?_
  refine AW.seq (AW.region (Qp (Qbx [.int .i64 _,.int .i64 _,.int .i64 _,.int .i64 _,.str _]) (Qp (Qbx [.int .i64 _,.int .i64 _,.str _]) ?_)))
  refine Qe (E_alloc (l:=[.int .i64 0,.int .i64 0,.str []]) (by kernel_rfl)) ?_
  rintro _ _ ⟨b4,rfl,rfl⟩
  refine Qp Qai (AOL.nil (thenN (AW.seq (AW.seq (AW.region (Qp (Qlg [.int .i64 _,.int .i64 _,.int .i64 _,.int .i64 _,.str _]) ?_))))))
  refine Qp (Qc rfl (c126 a)) ?_
  refine Qp Qai (AOL.nil (thenN (AW.seq (AW.region (Qp Qmi (Qp Qcne (AOL.nil (thenN (Qif (fun hc1=>?_) fun hc1=>?_)))))))))
  · skip
    refine AW.seq (AW.region (Qp (Qbd [.int .i64 _,.int .i64 _,.str _]) (Qp Qmi ?_)))
    refine Qe (E_store (k:=0) (v:=.agg _) (cs':=[.int .i64 _,.int .i64 _,.str _]) (H2:=_::_) tok rfl rfl rfl rfl (rfl) rfl rfl rfl rfl) ?_
    rintro _ _ ⟨rfl,rfl⟩
    refine Qp Qai (AOL.nil (thenN (Qrt ?_)))
    refine ⟨.inr rfl,[.agg [.int .i64 _,.int .i64 _,.str _],.int .i64 _],.cons (.box _ _ _ 0 _ _ _ _ rfl rfl rfl rfl rfl rfl) <| .cons (.tmp _ _ rfl) <| .nil,.cons _ (.refl _),?_⟩
    try simp only [str0,Bool.and_true] at *
    first
      | (simp only [resOf,resultS,cV,v0];(first | rw [if_pos hc1] | skip);first | done | rfl)
      | (try simp only [Bool.not_eq_true',Bool.not_eq_false'] at *
         first
         | (simp only [resOf,resultS,cV,v0, *,Bool.false_eq_true,↓reduceIte,Bool.true_or,Bool.or_true,Bool.false_or,Bool.or_false,Bool.true_and,Bool.and_true,Bool.false_and,Bool.and_false,Bool.not_true,Bool.not_false];done)
         | (simp [resOf,resultS,cV,v0, *];done)
         | (simp_all [resOf,resultS,cV,v0];done))
      | skip
  · skip
    refine Qst (AW.seq (AW.seq (AW.region (Qp Qf3 (Qp Qli (Qp (Qlg [.int .i64 _,.int .i64 _,.str _]) ?_))))))
    refine Qp (Qc rfl (c115 a.kind o)) ?_
    refine Qp Qai (AOL.nil (thenN (AW.seq (AW.region (Qp Qmi (Qp Qcne (AOL.nil (thenN (Qif (fun hc2=>?_) fun hc2=>?_)))))))))
    · skip
      refine AW.seq (AW.region (Qp (Qbd [.int .i64 _,.int .i64 _,.str _]) (Qp Qmi ?_)))
      refine Qe (E_store (k:=0) (v:=.agg _) (cs':=[.int .i64 _,.int .i64 _,.str _]) (H2:=_::_) tok rfl rfl rfl rfl (rfl) rfl rfl rfl rfl) ?_
      rintro _ _ ⟨rfl,rfl⟩
      refine Qp Qai (AOL.nil (thenN (Qrt ?_)))
      refine ⟨.inr rfl,[.agg [.int .i64 _,.int .i64 _,.str _],.int .i64 _],.cons (.box _ _ _ 0 _ _ _ _ rfl rfl rfl rfl rfl rfl) <| .cons (.tmp _ _ rfl) <| .nil,.cons _ (.refl _),?_⟩
      try simp only [str0,Bool.and_true] at *
      first
        | (simp only [resOf,resultS,cV,v0];(first | rw [if_neg (Bool.eq_false_iff.mp hc1)] | skip);(first | rw [if_pos hc2] | skip);first | done | rfl)
        | (try simp only [Bool.not_eq_true',Bool.not_eq_false'] at *
           first
           | (simp only [resOf,resultS,cV,v0, *,Bool.false_eq_true,↓reduceIte,Bool.true_or,Bool.or_true,Bool.false_or,Bool.or_false,Bool.true_and,Bool.and_true,Bool.false_and,Bool.and_false,Bool.not_true,Bool.not_false];done)
           | (simp [resOf,resultS,cV,v0, *];done)
           | (simp_all [resOf,resultS,cV,v0];done))
        | skip
    · skip
      refine Qst (AW.seq (AW.block (AW.seq (AW.region (Qp Qf3 (Qp Qli (Qp Qceq (Qp Qab (AOL.nil ?_)))))))))
      refine thenN (Qif (fun hc3=>?_) fun hc3=>?_)
      · skip
        refine AW.seq (AW.region (Qp Qf4 (Qp Qli (Qp (Qbd [.int .i64 _,.int .i64 _,.str _]) ?_))))
        refine Qe (E_store (k:=0) (v:=.agg _) (cs':=[.int .i64 _,.int .i64 _,.str _]) (H2:=_::_) tok rfl rfl rfl rfl (rfl) rfl rfl rfl rfl) ?_
        rintro _ _ ⟨rfl,rfl⟩
        refine Qp Qai (AOL.nil (thenN (AW.ret (blkR (thenR ?_)))))
        refine ⟨.inr rfl,[.agg [.int .i64 _,.int .i64 _,.str _],.int .i64 _],.cons (.box _ _ _ 0 _ _ _ _ rfl rfl rfl rfl rfl rfl) <| .cons (.tmp _ _ rfl) <| .nil,.cons _ (.refl _),?_⟩
        try simp only [str0,Bool.and_true] at *
        first
          | (simp only [resOf,resultS,cV,v0];(first | rw [if_neg (Bool.eq_false_iff.mp hc1)] | skip);(first | rw [if_neg (Bool.eq_false_iff.mp hc2)] | skip);(first | rw [if_pos hc3] | skip);first | done | rfl)
          | (try simp only [Bool.not_eq_true',Bool.not_eq_false'] at *
             first
             | (simp only [resOf,resultS,cV,v0, *,Bool.false_eq_true,↓reduceIte,Bool.true_or,Bool.or_true,Bool.false_or,Bool.or_false,Bool.true_and,Bool.and_true,Bool.false_and,Bool.and_false,Bool.not_true,Bool.not_false];done)
             | (simp [resOf,resultS,cV,v0, *];done)
             | (simp_all [resOf,resultS,cV,v0];done))
          | skip
      · skip
        refine AW.seq (AW.region (Qp Qf4 (Qp Qli (Qp Qceq (Qp Qmb (Qg [] Qw Qf3 (Qg [(34,_)] Qw Qli (Qg [(35,_)] Qw Qcne (Qp Qpa ?_)))))))))
        refine Qp Qab (AOL.nil (thenN (Qif (fun hc4=>?_) fun hc4=>?_)))
        · skip
          refine AW.seq (AW.region (Qp (Qlg [.int .i64 _,.int .i64 _,.str _]) ?_))
          refine Qe (E_store (k:=0) (v:=.agg _) (cs':=[.int .i64 _,.int .i64 _,.str _]) (H2:=_::_) tok rfl rfl rfl rfl (rfl) rfl rfl rfl rfl) ?_
          rintro _ _ ⟨rfl,rfl⟩
          refine Qp Qai (AOL.nil (thenN (AW.ret (blkR (thenR ?_)))))
          refine ⟨.inr rfl,[.agg [.int .i64 _,.int .i64 _,.str _],.int .i64 _],.cons (.box _ _ _ 0 _ _ _ _ rfl rfl rfl rfl rfl rfl) <| .cons (.tmp _ _ rfl) <| .nil,.cons _ (.refl _),?_⟩
          try simp only [str0,Bool.and_true] at *
          first
            | (simp only [resOf,resultS,cV,v0];(first | rw [if_neg (Bool.eq_false_iff.mp hc1)] | skip);(first | rw [if_neg (Bool.eq_false_iff.mp hc2)] | skip);(first | rw [if_neg (Bool.eq_false_iff.mp hc3)] | skip);(first | rw [if_pos hc4] | skip);first | done | rfl)
            | (try simp only [Bool.not_eq_true',Bool.not_eq_false'] at *
               first
               | (simp only [resOf,resultS,cV,v0, *,Bool.false_eq_true,↓reduceIte,Bool.true_or,Bool.or_true,Bool.false_or,Bool.or_false,Bool.true_and,Bool.and_true,Bool.false_and,Bool.and_false,Bool.not_true,Bool.not_false];done)
               | (simp [resOf,resultS,cV,v0, *];done)
               | (simp_all [resOf,resultS,cV,v0];done))
            | skip
        · skip
          refine AW.skip (blkN (thenN (AW.seq (AW.region (Qp Qf5 (Qp (Qlg [.int .i64 _,.int .i64 _,.str _]) ?_))))))
          refine Qe (E_store (k:=0) (v:=.agg _) (cs':=[.int .i64 _,.int .i64 _,.str _]) (H2:=_::_) tok rfl rfl rfl rfl (rfl) rfl rfl rfl rfl) ?_
          rintro _ _ ⟨rfl,rfl⟩
          refine Qp Qai (AOL.nil (thenN (AW.ret ?_)))
          refine ⟨.inr rfl,[.agg [.int .i64 _,.int .i64 _,.str _],.int .i64 _],.cons (.box _ _ _ 0 _ _ _ _ rfl rfl rfl rfl rfl rfl) <| .cons (.tmp _ _ rfl) <| .nil,.cons _ (.refl _),?_⟩
          try simp only [str0,Bool.and_true] at *
          first
            | (simp only [resOf,resultS,cV,v0];(first | rw [if_neg (Bool.eq_false_iff.mp hc1)] | skip);(first | rw [if_neg (Bool.eq_false_iff.mp hc2)] | skip);(first | rw [if_neg (Bool.eq_false_iff.mp hc3)] | skip);(first | rw [if_neg (Bool.eq_false_iff.mp hc4)] | skip);first | done | rfl)
            | (try simp only [Bool.not_eq_true',Bool.not_eq_false'] at *
               first
               | (simp only [resOf,resultS,cV,v0, *,Bool.false_eq_true,↓reduceIte,Bool.true_or,Bool.or_true,Bool.false_or,Bool.or_false,Bool.true_and,Bool.and_true,Bool.false_and,Bool.and_false,Bool.not_true,Bool.not_false];done)
               | (simp [resOf,resultS,cV,v0, *];done)
               | (simp_all [resOf,resultS,cV,v0];done))
            | skip
theorem c117 (k:Int)(a:Ac)(v:Vl)(h:knownS a.kind=true):APure Tryz.prog 182 [.agg (cAc a),.agg (cV v),.ptr [.int .i64 k]] (.agg (cAc (stepS k a v))):=by
 refine APure.body (n:=13) tok Tryz.func182 rfl rfl rfl fun H=>?_
 refine Qsr (Qp (Qbx [.int .i64 _,.int .i64 _,.int .i64 _,.int .i64 _,.str _]) (Qp (Qbx [.int .i64 _,.int .i64 _,.str _]) ?_))
 refine Qe (E_alloc (l:=[.int .i64 0,.int .i64 0,.int .i64 0,.int .i64 0,.str []]) (by kernel_rfl)) ?_
 rintro _ _ ⟨b5,rfl,rfl⟩
 refine Qnn (AW.seq ?_)
 refine AW.draw mixed (fun _=>True) trivial (by kernel_rfl) ?_
 refine Qn 0 rfl (Qlg [.int .i64 _,.int .i64 _,.int .i64 _,.int .i64 _,.str _]) (Qn 1 rfl Qli (Qn 2 rfl Qli (Qn 3 rfl (Qlg [.int .i64 _,.int .i64 _,.str _]) ?_)))
 refine Qn 4 rfl (Qc rfl (c119 k v)) ?_
 refine Qn 5 rfl (Qbd [.int .i64 _,.int .i64 _,.int .i64 _,.int .i64 _,.str _]) ?_
 refine Qn 6 rfl (Qc rfl (c118 a ⟨k,1,singleS k v⟩ h)) ?_
 refine Canon.eff _ _ 7 _ _ rfl (by kernel_rfl) rfl rfl (E_store (k:=0) (v:=.agg _) (cs':=[.int .i64 _,.int .i64 _,.int .i64 _,.int .i64 _,.str _]) (H2:=_::_) tok rfl rfl rfl rfl (rfl) rfl rfl rfl rfl) (fun _ _ _=>trivial) ?_
 rintro _ _ ⟨rfl,rfl⟩
 refine Canon.done _ _ (by kernel_rfl) ?_
 refine thenN (AW.ret ?_)
 refine ⟨.inr rfl,[.agg [.int .i64 _,.int .i64 _,.int .i64 _,.int .i64 _,.str _]],.cons (.box _ _ _ 0 _ _ _ _ rfl rfl rfl rfl rfl rfl) <| .nil,.cons _ (.refl _),?_⟩
 rfl
theorem c116 (k:Int)(hk:knownS k=true)(a:Ac)(l:List Vl)(h:knownS a.kind=true):APure Tryz.prog 181 [.agg (cAc a),.sl 3 (l.map cV),.fn (.func 182) [] [.ptr [.int .i64 k]]] (.agg (cAc (l.foldl (stepS k) a))):=by
 refine APure.body (n:=21) tok Tryz.func181 rfl rfl rfl fun H=>?_
 refine Qsr ?_
 refine Qe (E_box (v:=.agg _) (cs:=[.int .i64 _,.int .i64 _,.int .i64 _,.int .i64 _,.str _]) rfl rfl (rfl)) ?_
 rintro _ _ ⟨b3,rfl,rfl⟩
 refine Qe (E_alloc (l:=[.int .i64 0,.int .i64 0,.int .i64 0,.int .i64 0,.str []]) (by kernel_rfl)) ?_
 rintro _ _ ⟨b6,rfl,rfl⟩
 refine Qnn (AW.seq (Qsr (Qp Qms ?_)))
 refine Qp (P_len_sl (n:=l.length) tok rfl rfl rfl (by simp)) ?_
 refine Qp Qmi (Qnn (AW.block ?_))
 refine AW.sllen 9 rfl fun hlen=>?_
 simp only [List.length_map,maxLen] at hlen
 refine AW.loopS (fun (p:Nat×Ac)=>(⟨[(2,.fn (.func 182) [] [.ptr [.int .i64 k]]),(9,.sl 3 (l.map cV)),(10,.int .i64 l.length),(11,.int .i64 (p.1:Int)),(3,.val (.pointer (some ⟨b3,0,none⟩))),(6,.val (.pointer (some ⟨b6,0,none⟩)))],.box b6 239 [.int .i64 0,.int .i64 0,.int .i64 0,.int .i64 0,.str []] :: .box b3 239 (cAc p.2)::H,21⟩:St)) (fun (p:Nat×Ac)=>p.1≤l.length∧l.foldl (stepS k) a=(l.drop p.1).foldl (stepS k) p.2∧knownS p.2.kind=true) (fun (p:Nat×Ac)=>l.length-p.1) ((0,a)) ?_ (GS.weaken ⟨rfl,rfl,rfl,rfl,rfl,rfl,trivial⟩ (.refl _)) ?_
 · exact ⟨Nat.zero_le _,by simp,h⟩
 ·
  rintro p hR
  refine Qsr (Qp Qclt (Qnn (AW.seq (Qif (fun hc1=>?_) fun hc1=>?_))))
  ·
   obtain ⟨v,hv⟩:=get_lt hc1
   have hlt:=get_lt' hv
   refine Qst (AW.seq (AW.block (Qsr ?_)))
   refine Qp (P_indexAddr (c:=[.int .i64 _,.int .i64 _,.str _]) tok rfl rfl rfl rfl rfl rfl (by omega) (map_at hv)) ?_
   refine Qp (Qlg [.int .i64 _,.int .i64 _,.str _]) ?_
   refine Qe (E_alloc (l:=[.int .i64 0,.int .i64 0,.str []]) (by kernel_rfl)) ?_
   rintro _ _ ⟨b8,rfl,rfl⟩
   refine Qe (E_store (k:=0) (v:=.agg _) (cs':=[.int .i64 _,.int .i64 _,.str _]) (H2:=_::_::_::_) tok rfl rfl rfl rfl (rfl) rfl rfl rfl rfl) ?_
   rintro _ _ ⟨rfl,rfl⟩
   refine AOL.ghost (GS.freeze (t:=8) 0 rfl rfl) ?_
   refine Qnn (AW.region ?_)
   refine Qp (P_move (v:=.fn _ _ _) rfl) ?_
   refine AOL.pk (P_load_box_agg (k:=1) (l:=[.int .i64 _,.int .i64 _,.int .i64 _,.int .i64 _,.str _]) tok rfl rfl rfl rfl rfl) rfl rfl ?_
   refine Qp (Qlg [.int .i64 _,.int .i64 _,.str _]) ?_
   refine Qp (P_call (by kernel_rfl) rfl rfl rfl (c117 k p.2 v hR.2.2)) ?_
   refine Qe (E_store (k:=1) (v:=.agg _) (cs':=[.int .i64 _,.int .i64 _,.int .i64 _,.int .i64 _,.str _]) (H2:=_::_::_) tok rfl rfl rfl rfl (rfl) rfl rfl rfl rfl) ?_
   rintro _ _ ⟨rfl,rfl⟩
   refine AOL.nil (blkN (thenN (AW.region (Qp Qad (Qp Qmi (Qnn ?_))))))
   refine ⟨(p.1+1,stepS k p.2 v),?_,?_,GS.weaken ⟨rfl,rfl,rfl,rfl,rfl,rfl,trivial⟩ (.refl _)⟩
   · exact ⟨get_lt' hv,by rw [hR.2.1,drop_cons hv];rfl,step_kind k _ v hR.2.2 hk⟩
   · have:=get_lt' hv;first | omega | (simp only;omega)
  ·
   have hd:=get_end hc1
   refine AW.exit ?_
   refine thenE (thenE (blkHit (thenN (Qsr ?_))))
   refine AOL.pk (P_load_box_agg (k:=1) (l:=[.int .i64 _,.int .i64 _,.int .i64 _,.int .i64 _,.str _]) tok rfl rfl rfl rfl rfl) rfl rfl ?_
   refine Qe (E_store (k:=0) (v:=.agg _) (cs':=[.int .i64 _,.int .i64 _,.int .i64 _,.int .i64 _,.str _]) (H2:=_::_::_) tok rfl rfl rfl rfl (rfl) rfl rfl rfl rfl) ?_
   rintro _ _ ⟨rfl,rfl⟩
   refine Qnn (AW.ret ?_)
   refine ⟨.inr rfl,[.agg [.int .i64 _,.int .i64 _,.int .i64 _,.int .i64 _,.str _]],.cons (.box _ _ _ 0 _ _ _ _ rfl rfl rfl rfl rfl rfl) <| .nil,.cons _ (.cons _ (.refl _)),?_⟩
   show AV.agg (cAc _)=_
   rw [hR.2.1,hd];rfl
theorem c106 (k:Int)(l:List Vl)(o:Vl):APure Tryz.prog 170 [.int .i64 k,.sl 3 (l.map cV),.agg (cV o)] (.tuple [.agg (cV (ofS k l o).1),.int .i64 (ofS k l o).2]):=by
  refine APure.body (n:=46) tok Tryz.func170 rfl rfl rfl fun H=>?_
  refine AW.seq (AW.region ?_)
  refine Qp (P_box (v:=.int .i64 _) (cs:=[.int .i64 _]) rfl rfl rfl) ?_
  refine Qp (Qbx [.int .i64 _,.int .i64 _,.str _]) ?_
  refine Qe (E_alloc (l:=[.int .i64 0,.int .i64 0,.str []]) (by kernel_rfl)) ?_
  rintro _ _ ⟨b6,rfl,rfl⟩
  refine Qp Qai (AOL.nil (thenN (AW.seq (AW.block (AW.seq (AW.region (Qp Qli ?_)))))))
  refine Qp (Qc rfl (c114 k)) ?_
  refine Qp Qnt (Qp Qab (AOL.nil (thenN (Qif (fun hc1=>?_) fun hc1=>?_))))
  · skip
    refine AW.seq (AW.region (Qp (Qbd [.int .i64 _,.int .i64 _,.str _]) ?_))
    refine Qe (E_store (k:=0) (v:=.agg _) (cs':=[.int .i64 _,.int .i64 _,.str _]) (H2:=_::_) tok rfl rfl rfl rfl (rfl) rfl rfl rfl rfl) ?_
    rintro _ _ ⟨rfl,rfl⟩
    refine Qp Qai (AOL.nil (thenN (AW.ret (blkR (thenR ?_)))))
    refine ⟨.inr rfl,[.agg [.int .i64 _,.int .i64 _,.str _],.int .i64 _],.cons (.box _ _ _ 0 _ _ _ _ rfl rfl rfl rfl rfl rfl) <| .cons (.tmp _ _ rfl) <| .nil,.cons _ (.refl _),?_⟩
    try simp only [str0,Bool.and_true] at *
    first
      | (simp only [resOf,ofS,cV,v0];(first | rw [if_pos hc1] | skip);first | done | rfl)
      | (try simp only [Bool.not_eq_true',Bool.not_eq_false'] at *
         first
         | (simp only [resOf,ofS,cV,v0, *,Bool.false_eq_true,↓reduceIte,Bool.true_or,Bool.or_true,Bool.false_or,Bool.or_false,Bool.true_and,Bool.and_true,Bool.false_and,Bool.and_false,Bool.not_true,Bool.not_false];done)
         | (simp [resOf,ofS,cV,v0, *];done)
         | (simp_all [resOf,ofS,cV,v0];done))
      | skip
  · skip
    have hkn:knownS k=true:=by simpa using hc1
    refine AW.seq (AW.region (Qp Qms ?_))
    refine Qp (P_len_sl (n:=l.length) tok rfl rfl rfl (by simp)) ?_
    refine Qp Qcgt (Qp Qab (AOL.nil (thenN (Qif (fun hc2=>?_) fun hc2=>?_))))
    · skip
      refine AW.seq (AW.region (Qp (Qbd [.int .i64 _,.int .i64 _,.str _]) ?_))
      refine Qe (E_store (k:=0) (v:=.agg _) (cs':=[.int .i64 _,.int .i64 _,.str _]) (H2:=_::_) tok rfl rfl rfl rfl (rfl) rfl rfl rfl rfl) ?_
      rintro _ _ ⟨rfl,rfl⟩
      refine Qp Qai (AOL.nil (thenN (AW.ret (blkR (thenR ?_)))))
      refine ⟨.inr rfl,[.agg [.int .i64 _,.int .i64 _,.str _],.int .i64 _],.cons (.box _ _ _ 0 _ _ _ _ rfl rfl rfl rfl rfl rfl) <| .cons (.tmp _ _ rfl) <| .nil,.cons _ (.refl _),?_⟩
      try simp only [str0,Bool.and_true] at *
      first
        | (simp only [resOf,ofS,cV,v0];(first | rw [if_neg (Bool.eq_false_iff.mp hc1)] | skip);(first | rw [if_pos hc2] | skip);first | done | rfl)
        | (try simp only [Bool.not_eq_true',Bool.not_eq_false'] at *
           first
           | (simp only [resOf,ofS,cV,v0, *,Bool.false_eq_true,↓reduceIte,Bool.true_or,Bool.or_true,Bool.false_or,Bool.or_false,Bool.true_and,Bool.and_true,Bool.false_and,Bool.and_false,Bool.not_true,Bool.not_false];done)
           | (simp [resOf,ofS,cV,v0, *];done)
           | (simp_all [resOf,ofS,cV,v0];done))
        | skip
    · skip
      refine AW.skip (blkN (thenN (AW.seq (AW.seq (AW.region (Qp Qms ?_))))))
      refine Qp (P_len_sl (n:=l.length) tok rfl rfl rfl (by simp)) ?_
      refine Qp Qmi (AOL.nil (thenN (AW.block ?_)))
      have hlen:(l.length:Int)≤4096:=by simpa using hc2
      refine AW.loopS (fun (p:Nat)=>(⟨[(1,.sl 3 (l.map cV)),(3,.ptr [.int .i64 k]),(5,.ptr (cV o)),(22,.sl 3 (l.map cV)),(23,.int .i64 l.length),(24,.int .i64 (p:Int)),(6,.val (.pointer (some ⟨b6,0,none⟩)))],.box b6 28 [.int .i64 0,.int .i64 0,.str []]::H,46⟩:St)) (fun (p:Nat)=>p≤l.length∧firstS (wrongS k) l=firstS (wrongS k) (l.drop p)) (fun (p:Nat)=>l.length-p) (0) ?_ (GS.weaken ⟨rfl,rfl,rfl,rfl,rfl,rfl,rfl,trivial⟩ (.refl _)) ?_
      · exact ⟨Nat.zero_le _,by simp⟩
      · rintro p hR
        refine AW.seq (AW.region (Qp Qclt (AOL.nil (thenN (AW.seq (Qif (fun hc3=>?_) fun hc3=>?_))))))
        · skip
          obtain ⟨v,hv⟩:=get_lt hc3
          have hlt:=get_lt' hv
          refine Qst (AW.seq (AW.block (AW.seq (AW.region ?_))))
          refine Qp (P_indexAddr (c:=[.int .i64 _,.int .i64 _,.str _]) tok rfl rfl rfl rfl rfl rfl (by omega) (map_at hv)) ?_
          refine Qp (Qlg [.int .i64 _,.int .i64 _,.str _]) ?_
          refine Qe (E_alloc (l:=[.int .i64 0,.int .i64 0,.str []]) (by kernel_rfl)) ?_
          rintro _ _ ⟨b9,rfl,rfl⟩
          refine Qe (E_store (k:=0) (v:=.agg _) (cs':=[.int .i64 _,.int .i64 _,.str _]) (H2:=_::_::_) tok rfl rfl rfl rfl (rfl) rfl rfl rfl rfl) ?_
          rintro _ _ ⟨rfl,rfl⟩
          refine AOL.ghost (GS.freeze (t:=9) 0 rfl rfl) ?_
          refine AOL.nil (thenN (AW.seq (AW.region (Qp Qli (Qp (Qlg [.int .i64 _,.int .i64 _,.str _]) ?_)))))
          refine Qp (Qc rfl (c115 k v)) ?_
          refine Qp Qai (AOL.nil (thenN (AW.seq (AW.region (Qp Qmi (Qp Qcne (AOL.nil (thenN (Qif (fun hc4=>?_) fun hc4=>?_)))))))))
          · skip
            have hf:firstS (wrongS k) l=wrongS k v:=by rw [hR.2,drop_cons hv,firstS,if_pos hc4]
            refine AW.seq (AW.region (Qp (Qbd [.int .i64 _,.int .i64 _,.str _]) (Qp Qmi ?_)))
            refine Qe (E_store (k:=0) (v:=.agg _) (cs':=[.int .i64 _,.int .i64 _,.str _]) (H2:=_::_) tok rfl rfl rfl rfl (rfl) rfl rfl rfl rfl) ?_
            rintro _ _ ⟨rfl,rfl⟩
            refine Qp Qai (AOL.nil (thenN (AW.ret (blkR (thenR (thenR (blkR (thenR ?_))))))))
            refine ⟨.inr rfl,[.agg [.int .i64 _,.int .i64 _,.str _],.int .i64 _],.cons (.box _ _ _ 0 _ _ _ _ rfl rfl rfl rfl rfl rfl) <| .cons (.tmp _ _ rfl) <| .nil,.cons _ (.refl _),?_⟩
            simp only [Bool.not_eq_false'] at hc1
            have hc2':decide (4096<(l.length:Int))=false:=by simpa using hc2
            simp only [resOf,ofS,hf,hc1,hc2',hkn, *,Bool.false_eq_true,↓reduceIte,Bool.not_true]
            first | rfl | simp [foldS,cV,v0]
          · skip
            refine AW.skip (blkN (thenN (AW.region (Qp Qad (Qp Qmi (AOL.nil (thenN ?_)))))))
            refine ⟨p+1,?_,?_,GS.weaken ⟨rfl,rfl,rfl,rfl,rfl,rfl,rfl,trivial⟩ (.refl _)⟩
            · exact ⟨get_lt' hv,by rw [hR.2,drop_cons hv,firstS,if_neg (by simpa using hc4)]⟩
            · have:=get_lt' hv;first | omega | (simp only;omega)
        · skip
          have hd:=get_end hc3
          have hf:firstS (wrongS k) l=0:=by rw [hR.2,hd];rfl
          refine AW.exit ?_
          refine thenE (thenE (blkHit (thenN (AW.seq (AW.region (Qp Qli (Qp (Qbd [.int .i64 _,.int .i64 _,.int .i64 _,.int .i64 _,.str _]) (Qp Qms ?_))))))))
          refine Qp (P_makeFunc (l:=[]) (l':=[.ptr _]) rfl rfl) ?_
          refine Qp (Qc rfl (c116 k hkn ⟨k,0,v0⟩ l hkn)) ?_
          refine Qe (E_alloc (l:=[.int .i64 0,.int .i64 0,.int .i64 0,.int .i64 0,.str []]) (by kernel_rfl)) ?_
          rintro _ _ ⟨b11,rfl,rfl⟩
          refine Qe (E_store (k:=0) (v:=.agg _) (cs':=[.int .i64 _,.int .i64 _,.int .i64 _,.int .i64 _,.str _]) (H2:=_::_::_) tok rfl rfl rfl rfl (rfl) rfl rfl rfl rfl) ?_
          rintro _ _ ⟨rfl,rfl⟩
          refine AOL.ghost (GS.freeze (t:=11) 0 rfl rfl) ?_
          refine AOL.nil (thenN (AW.seq (AW.region (Qp (Qlg [.int .i64 _,.int .i64 _,.int .i64 _,.int .i64 _,.str _]) (Qp (Qlg [.int .i64 _,.int .i64 _,.str _]) ?_)))))
          refine Qp (Qc rfl (c120 (l.foldl (stepS k) ⟨k,0,v0⟩) o)) ?_
          refine Qp (P_extract (v:=.agg [.int .i64 _,.int .i64 _,.str _]) rfl rfl) ?_
          refine Qp Qxi ?_
          refine Qe (E_store (k:=0) (v:=.agg _) (cs':=[.int .i64 _,.int .i64 _,.str _]) (H2:=_::_) tok rfl rfl rfl rfl (rfl) rfl rfl rfl rfl) ?_
          rintro _ _ ⟨rfl,rfl⟩
          refine Qp Qai (AOL.nil (thenN (AW.ret ?_)))
          refine ⟨.inr rfl,[.agg [.int .i64 _,.int .i64 _,.str _],.int .i64 _],.cons (.box _ _ _ 0 _ _ _ _ rfl rfl rfl rfl rfl rfl) <| .cons (.tmp _ _ rfl) <| .nil,.cons _ (.refl _),?_⟩
          simp only [Bool.not_eq_false'] at hc1
          have hc2':decide (4096<(l.length:Int))=false:=by simpa using hc2
          simp only [resOf,ofS,hf,hc1,hc2',hkn, *,Bool.false_eq_true,↓reduceIte,Bool.not_true]
          first | rfl | simp [foldS,cV,v0]
end Go.Proofs.YtkddpedfbicbeaaGreatDoor
