/-
  Several texts in one: W8, W9, W10. No condition.
-/
import Derived.Test.YtkddpedfbicbeaaGreatDoorK01
import Derived.Test.YtkddpedfbicbeaaGreatDoorK06
import Derived.KernelRfl
import Derived.Test.YtkddpedfbicbeaaGreatDoorK04
set_option linter.unusedVariables false
set_option linter.unusedSimpArgs false
namespace Go.Proofs.YtkddpedfbicbeaaGreatDoor
open Go Go.Aw
set_option maxHeartbeats 800000
set_option maxRecDepth 20000

theorem c70 (x:Evr)(hx:x.ok)(e:Ex)(hk:0≤e.field):APure Tryz.prog 126 [.agg (cX x),.agg (cE e)] (.tuple [.agg (cV (leafS x e).1),.int .i64 (leafS x e).2]):=by
 refine APure.body (n:=71) tok Tryz.func126 rfl rfl rfl fun H=>?_
 refine Qsr (Qp (Qbx [_,.int .i64 _,.int .i64 _,.int .i64 _,.int .i64 _,.int .i64 _,_,_]) (Qp Qbe ?_))
 refine Qe (E_alloc (l:=[.int .i64 0,.int .i64 0,.str []]) (by kernel_rfl)) ?_
 rintro _ _ ⟨b4,rfl,rfl⟩
 refine Qp Qai (Qns (Qp (Qlg [_,.int .i64 _,.int .i64 _,.int .i64 _,.int .i64 _,.int .i64 _,_,_]) (Qp Qf2 (Qp Qli ?_))))
 refine Qp (Qc rfl (c91 x e.var)) ?_
 refine Qp Qas (Qnn (AW.seq (Qsr (Qp Qf0 (Qp Qli (Qnn (AW.block (Qsr (Qp Qceq ?_)))))))))
 refine Qp Qab (Qnn (Qif (fun hc1=>?_) fun hc1=>?_))
 ·
  refine Qsr (Qp Qf5 (Qp (Qlg [.int .i64 _,.int .i64 _,.str _]) ?_))
  refine Qe (E_store (k:=0) (v:=.agg _) (cs':=[.int .i64 _,.int .i64 _,.str _]) (H2:=_::_) tok rfl rfl rfl rfl (rfl) rfl rfl rfl rfl) ?_
  rintro _ _ ⟨rfl,rfl⟩
  refine Qp Qai (Qnn (AW.ret (blkR (thenR ?_))))
  refine ⟨.inr rfl,[.agg [.int .i64 _,.int .i64 _,.str _],.int .i64 _],.cons (.box _ _ _ 0 _ _ _ _ rfl rfl rfl rfl rfl rfl) <| .cons (.tmp _ _ rfl) <| .nil,.cons _ (.refl _),?_⟩
  simp only [resOf,leafS,readS]
  try simp only [hgd]
  (first | rw [if_pos hc1] | skip)
  first | done | rfl | (exfalso;simp_all;done) | skip
 ·
  refine Qsr (Qp Qceq (Qp Qab (Qnn (Qif (fun hc2=>?_) fun hc2=>?_))))
  ·
   refine Qsr (Qp Qms ?_)
   refine Qp (P_len_sl (n:=(eventsS x.vars e.var).length) tok rfl rfl rfl (by simp)) ?_
   refine Qp (Qbd [.int .i64 _,.int .i64 _,.str _]) ?_
   refine Qe (E_store (k:=0) (v:=.agg _) (cs':=[.int .i64 _,.int .i64 _,.str _]) (H2:=_::_) tok rfl rfl rfl rfl (rfl) rfl rfl rfl rfl) ?_
   rintro _ _ ⟨rfl,rfl⟩
   refine Qp Qai (Qnn (AW.ret (blkR (thenR ?_))))
   refine ⟨.inr rfl,[.agg [.int .i64 _,.int .i64 _,.str _],.int .i64 _],.cons (.box _ _ _ 0 _ _ _ _ rfl rfl rfl rfl rfl rfl) <| .cons (.tmp _ _ rfl) <| .nil,.cons _ (.refl _),?_⟩
   simp only [resOf,leafS,readS]
   try simp only [hgd]
   (first | rw [if_neg (Bool.eq_false_iff.mp hc1)] | skip);(first | rw [if_pos hc2] | skip)
   first | done | rfl | (exfalso;simp_all;done) | skip
  ·
   refine Qsr (Qp Qceq (Qp Qab (Qnn (Qif (fun hc3=>?_) fun hc3=>?_))))
   ·
    refine Qsr (Qp (Qlg [_,.int .i64 _,.int .i64 _,.int .i64 _,.int .i64 _,.int .i64 _,_,_]) (Qp Qle ?_))
    refine Qp (Qc rfl (c92 x hx e hk)) ?_
    refine Qp (P_extract (v:=.agg [.int .i64 _,.int .i64 _,.str _]) rfl rfl) ?_
    refine Qp Qxi ?_
    refine Qe (E_store (k:=0) (v:=.agg _) (cs':=[.int .i64 _,.int .i64 _,.str _]) (H2:=_::_) tok rfl rfl rfl rfl (rfl) rfl rfl rfl rfl) ?_
    rintro _ _ ⟨rfl,rfl⟩
    refine Qp Qai (Qnn (AW.ret (blkR (thenR ?_))))
    refine ⟨.inr rfl,[.agg [.int .i64 _,.int .i64 _,.str _],.int .i64 _],.cons (.box _ _ _ 0 _ _ _ _ rfl rfl rfl rfl rfl rfl) <| .cons (.tmp _ _ rfl) <| .nil,.cons _ (.refl _),?_⟩
    simp only [resOf,leafS,readS]
    try simp only [hgd]
    (first | rw [if_neg (Bool.eq_false_iff.mp hc1)] | skip);(first | rw [if_neg (Bool.eq_false_iff.mp hc2)] | skip);(first | rw [if_pos hc3] | skip)
    first | done | rfl | (exfalso;simp_all;done) | skip
   ·
    refine AW.skip (blkN (thenN (Qsr (Qp (Qf [.int .i64 _,.int .i64 _,.int .i64 _,.int .i64 _,_,_]) (Qp (Qlg [.int .i64 _,.int .i64 _,.int .i64 _,.int .i64 _,_]) ?_)))))
    refine Qe (E_alloc (l:=[.int .i64 0,.int .i64 0,.int .i64 0,.int .i64 0,.sl 3 []]) (by kernel_rfl)) ?_
    rintro _ _ ⟨b7,rfl,rfl⟩
    refine Qe (E_store (k:=0) (v:=.agg _) (cs':=[.int .i64 _,.int .i64 _,.int .i64 _,.int .i64 _,_]) (H2:=_::_::_) tok rfl rfl rfl rfl (rfl) rfl rfl rfl rfl) ?_
    rintro _ _ ⟨rfl,rfl⟩
    refine Qnn (AW.seq (Qsr (Qp Qf2 (Qp Qli (Qp (Qf [.int .i64 _,.int .i64 _,.int .i64 _,.int .i64 _,.int .i64 _,_,_]) (Qp Qli (Qp Qcne (Qnn (Qif (fun hc4=>?_) fun hc4=>?_)))))))))
    ·
     refine AW.seq (Qsr (Qp Qms ?_))
     refine Qp (P_len_sl (n:=(eventsS x.vars e.var).length) tok rfl rfl rfl (by simp)) ?_
     refine Qp Qceq (Qnn (Qif (fun hc5=>?_) fun hc5=>?_))
     ·
      refine Qsr (Qp (Qbd [.int .i64 _,.int .i64 _,.str _]) ?_)
      refine Qe (E_store (k:=1) (v:=.agg _) (cs':=[.int .i64 _,.int .i64 _,.str _]) (H2:=_::_::_) tok rfl rfl rfl rfl (rfl) rfl rfl rfl rfl) ?_
      rintro _ _ ⟨rfl,rfl⟩
      refine Qp Qai (Qnn (Qrt (thenR ?_)))
      refine ⟨.inr rfl,[.agg [.int .i64 _,.int .i64 _,.str _],.int .i64 _],.cons (.box _ _ _ 1 _ _ _ _ rfl rfl rfl rfl rfl rfl) <| .cons (.tmp _ _ rfl) <| .nil,.cons _ (.cons _ (.refl _)),?_⟩
      simp only [resOf,leafS,readS]
      try simp only [hgd]
      (first | rw [if_neg (Bool.eq_false_iff.mp hc1)] | skip);(first | rw [if_neg (Bool.eq_false_iff.mp hc2)] | skip);(first | rw [if_neg (Bool.eq_false_iff.mp hc3)] | skip);(first | rw [if_pos hc4] | skip);(first | rw [if_pos hc5] | skip)
      first | done | rfl | (exfalso;simp_all;done) | skip
     ·
      have hlg:=last_get hc5
      have hle:=events_le hx e.var
      have hne:(eventsS x.vars e.var).length≠0:=by simpa using hc5
      refine hlg.elim fun a hal=>?_
      have ha:=hal.1
      have hl:=hal.2
      have hgd:(eventsS x.vars e.var).getLast?.getD ev0=a:=by rw [hl];rfl
      refine Qst (AW.region (Qp Qms (Qp Qms ?_)))
      refine Qp (P_len_sl (n:=(eventsS x.vars e.var).length) tok rfl rfl rfl (by simp)) ?_
      refine Qp (P_sub rfl rfl rfl (by constructor <;> omega)) ?_
      refine Qp (P_indexAddr (c:=[.int .i64 _,.int .i64 _,.int .i64 _,.int .i64 _,_]) tok rfl rfl rfl rfl rfl rfl (by omega) (map_at ha)) ?_
      refine Qp (Qlg [.int .i64 _,.int .i64 _,.int .i64 _,.int .i64 _,_]) ?_
      refine Qe (E_store (k:=0) (v:=.agg _) (cs':=[.int .i64 _,.int .i64 _,.int .i64 _,.int .i64 _,_]) (H2:=_::_::_) tok rfl rfl rfl rfl (rfl) rfl rfl rfl rfl) ?_
      rintro _ _ ⟨rfl,rfl⟩
      refine Qnn (AW.seq (Qsr (Qp Qf0 (Qp Qli (Qp Qceq (Qnn (Qif (fun hc6=>?_) fun hc6=>?_)))))))
      ·
       refine Qsr (Qp Qfv ?_)
       refine AOL.pk (P_load_box (k:=0) (c:=.int .i64 _) tok rfl rfl rfl rfl) rfl rfl ?_
       refine Qp (Qbd [.int .i64 _,.int .i64 _,.str _]) ?_
       refine Qe (E_store (k:=1) (v:=.agg _) (cs':=[.int .i64 _,.int .i64 _,.str _]) (H2:=_::_::_) tok rfl rfl rfl rfl (rfl) rfl rfl rfl rfl) ?_
       rintro _ _ ⟨rfl,rfl⟩
       refine Qp Qai (Qnn (Qrt ?_))
       refine ⟨.inr rfl,[.agg [.int .i64 _,.int .i64 _,.str _],.int .i64 _],.cons (.box _ _ _ 1 _ _ _ _ rfl rfl rfl rfl rfl rfl) <| .cons (.tmp _ _ rfl) <| .nil,.cons _ (.cons _ (.refl _)),?_⟩
       simp only [resOf,leafS,readS]
       try simp only [hgd]
       (first | rw [if_neg (Bool.eq_false_iff.mp hc1)] | skip);(first | rw [if_neg (Bool.eq_false_iff.mp hc2)] | skip);(first | rw [if_neg (Bool.eq_false_iff.mp hc3)] | skip);(first | rw [if_pos hc4] | skip);(first | rw [if_neg (Bool.eq_false_iff.mp hc5)] | skip);(first | rw [if_pos hc6] | skip)
       first | done | rfl | (exfalso;simp_all;done) | skip
      ·
       refine Qst (Qsr ?_)
       refine AOL.pk (P_load_box_agg (k:=0) (l:=[.int .i64 _,.int .i64 _,.int .i64 _,.int .i64 _,_]) tok rfl rfl rfl rfl rfl) rfl rfl ?_
       refine Qp Qf3 (Qp Qli ?_)
       refine Qp (Qc rfl (c93 _ e.field hk)) ?_
       refine Qp Qmu ?_
       refine Qp (P_extract (v:=.agg [.int .i64 _,.int .i64 _,.str _]) rfl rfl) ?_
       refine Qp Qxi ?_
       refine Qe (E_alloc (l:=[.int .i64 0,.int .i64 0,.str []]) (by kernel_rfl)) ?_
       rintro _ _ ⟨b8,rfl,rfl⟩
       refine Qe (E_store (k:=0) (v:=.agg _) (cs':=[.int .i64 _,.int .i64 _,.str _]) (H2:=_::_::_::_) tok rfl rfl rfl rfl (rfl) rfl rfl rfl rfl) ?_
       rintro _ _ ⟨rfl,rfl⟩
       refine Qp Qai ?_
       refine AOL.ghost (GS.freeze (t:=8) 0 rfl rfl) ?_
       refine Qnn (AW.seq (Qsr (Qp Qmi (Qp Qceq (Qnn (Qif (fun hc7=>?_) fun hc7=>?_))))))
       ·
        refine AW.region (Qp (Qlg [.int .i64 _,.int .i64 _,.str _]) ?_)
        refine Qp (Qc rfl (c94 _)) ?_
        refine Qp Qai (Qnn (AW.seq (Qsr (Qp Qmi (Qp Qcne (Qnn (Qif (fun hc8=>?_) fun hc8=>?_)))))))
        ·
         refine Qsr (Qp (Qbd [.int .i64 _,.int .i64 _,.str _]) (Qp Qmi ?_))
         refine Qe (E_store (k:=1) (v:=.agg _) (cs':=[.int .i64 _,.int .i64 _,.str _]) (H2:=_::_::_) tok rfl rfl rfl rfl (rfl) rfl rfl rfl rfl) ?_
         rintro _ _ ⟨rfl,rfl⟩
         refine Qp Qai (Qnn (Qrt ?_))
         refine ⟨.inr rfl,[.agg [.int .i64 _,.int .i64 _,.str _],.int .i64 _],.cons (.box _ _ _ 1 _ _ _ _ rfl rfl rfl rfl rfl rfl) <| .cons (.tmp _ _ rfl) <| .nil,.cons _ (.cons _ (.refl _)),?_⟩
         simp only [resOf,leafS,readS]
         try simp only [hgd]
         (first | rw [if_neg (Bool.eq_false_iff.mp hc1)] | skip);(first | rw [if_neg (Bool.eq_false_iff.mp hc2)] | skip);(first | rw [if_neg (Bool.eq_false_iff.mp hc3)] | skip);(first | rw [if_pos hc4] | skip);(first | rw [if_neg (Bool.eq_false_iff.mp hc5)] | skip);(first | rw [if_neg (Bool.eq_false_iff.mp hc6)] | skip);(first | rw [if_pos hc7] | skip);(first | rw [if_pos hc8] | skip)
         first | done | rfl | (exfalso;simp_all;done) | skip
        ·
         refine Qst (Qsr (Qp (Qlg [.int .i64 _,.int .i64 _,.str _]) ?_))
         refine Qe (E_store (k:=1) (v:=.agg _) (cs':=[.int .i64 _,.int .i64 _,.str _]) (H2:=_::_::_) tok rfl rfl rfl rfl (rfl) rfl rfl rfl rfl) ?_
         rintro _ _ ⟨rfl,rfl⟩
         refine Qp Qai (Qnn (AW.ret ?_))
         refine ⟨.inr rfl,[.agg [.int .i64 _,.int .i64 _,.str _],.int .i64 _],.cons (.box _ _ _ 1 _ _ _ _ rfl rfl rfl rfl rfl rfl) <| .cons (.tmp _ _ rfl) <| .nil,.cons _ (.cons _ (.refl _)),?_⟩
         simp only [resOf,leafS,readS]
         try simp only [hgd]
         (first | rw [if_neg (Bool.eq_false_iff.mp hc1)] | skip);(first | rw [if_neg (Bool.eq_false_iff.mp hc2)] | skip);(first | rw [if_neg (Bool.eq_false_iff.mp hc3)] | skip);(first | rw [if_pos hc4] | skip);(first | rw [if_neg (Bool.eq_false_iff.mp hc5)] | skip);(first | rw [if_neg (Bool.eq_false_iff.mp hc6)] | skip);(first | rw [if_pos hc7] | skip);(first | rw [if_neg (Bool.eq_false_iff.mp hc8)] | skip)
         first | done | rfl | (exfalso;simp_all;done) | skip
       ·
        refine Qst (AW.seq (Qsr (Qp Qmi (Qp Qcne (Qnn (Qif (fun hc9=>?_) fun hc9=>?_))))))
        ·
         refine Qsr (Qp (Qbd [.int .i64 _,.int .i64 _,.str _]) (Qp Qmi ?_))
         refine Qe (E_store (k:=1) (v:=.agg _) (cs':=[.int .i64 _,.int .i64 _,.str _]) (H2:=_::_::_) tok rfl rfl rfl rfl (rfl) rfl rfl rfl rfl) ?_
         rintro _ _ ⟨rfl,rfl⟩
         refine Qp Qai (Qnn (Qrt ?_))
         refine ⟨.inr rfl,[.agg [.int .i64 _,.int .i64 _,.str _],.int .i64 _],.cons (.box _ _ _ 1 _ _ _ _ rfl rfl rfl rfl rfl rfl) <| .cons (.tmp _ _ rfl) <| .nil,.cons _ (.cons _ (.refl _)),?_⟩
         simp only [resOf,leafS,readS]
         try simp only [hgd]
         (first | rw [if_neg (Bool.eq_false_iff.mp hc1)] | skip);(first | rw [if_neg (Bool.eq_false_iff.mp hc2)] | skip);(first | rw [if_neg (Bool.eq_false_iff.mp hc3)] | skip);(first | rw [if_pos hc4] | skip);(first | rw [if_neg (Bool.eq_false_iff.mp hc5)] | skip);(first | rw [if_neg (Bool.eq_false_iff.mp hc6)] | skip);(first | rw [if_neg (Bool.eq_false_iff.mp hc7)] | skip);(first | rw [if_pos hc9] | skip)
         first | done | rfl | (exfalso;simp_all;done) | skip
        ·
         refine Qst (Qsr (Qp (Qlg [.int .i64 _,.int .i64 _,.str _]) ?_))
         refine Qe (E_store (k:=1) (v:=.agg _) (cs':=[.int .i64 _,.int .i64 _,.str _]) (H2:=_::_::_) tok rfl rfl rfl rfl (rfl) rfl rfl rfl rfl) ?_
         rintro _ _ ⟨rfl,rfl⟩
         refine Qp Qai (Qnn (AW.ret ?_))
         refine ⟨.inr rfl,[.agg [.int .i64 _,.int .i64 _,.str _],.int .i64 _],.cons (.box _ _ _ 1 _ _ _ _ rfl rfl rfl rfl rfl rfl) <| .cons (.tmp _ _ rfl) <| .nil,.cons _ (.cons _ (.refl _)),?_⟩
         simp only [resOf,leafS,readS]
         try simp only [hgd]
         (first | rw [if_neg (Bool.eq_false_iff.mp hc1)] | skip);(first | rw [if_neg (Bool.eq_false_iff.mp hc2)] | skip);(first | rw [if_neg (Bool.eq_false_iff.mp hc3)] | skip);(first | rw [if_pos hc4] | skip);(first | rw [if_neg (Bool.eq_false_iff.mp hc5)] | skip);(first | rw [if_neg (Bool.eq_false_iff.mp hc6)] | skip);(first | rw [if_neg (Bool.eq_false_iff.mp hc7)] | skip);(first | rw [if_neg (Bool.eq_false_iff.mp hc9)] | skip)
         first | done | rfl | (exfalso;simp_all;done) | skip
    ·
     refine Qst (AW.seq (Qsr (Qp Qf0 (Qp Qli (Qp Qceq (Qnn (Qif (fun hc10=>?_) fun hc10=>?_)))))))
     ·
      refine Qsr (Qp Qfv ?_)
      refine AOL.pk (P_load_box (k:=0) (c:=.int .i64 _) tok rfl rfl rfl rfl) rfl rfl ?_
      refine Qp (Qbd [.int .i64 _,.int .i64 _,.str _]) ?_
      refine Qe (E_store (k:=1) (v:=.agg _) (cs':=[.int .i64 _,.int .i64 _,.str _]) (H2:=_::_::_) tok rfl rfl rfl rfl (rfl) rfl rfl rfl rfl) ?_
      rintro _ _ ⟨rfl,rfl⟩
      refine Qp Qai (Qnn (Qrt ?_))
      refine ⟨.inr rfl,[.agg [.int .i64 _,.int .i64 _,.str _],.int .i64 _],.cons (.box _ _ _ 1 _ _ _ _ rfl rfl rfl rfl rfl rfl) <| .cons (.tmp _ _ rfl) <| .nil,.cons _ (.cons _ (.refl _)),?_⟩
      simp only [resOf,leafS,readS]
      try simp only [hgd]
      (first | rw [if_neg (Bool.eq_false_iff.mp hc1)] | skip);(first | rw [if_neg (Bool.eq_false_iff.mp hc2)] | skip);(first | rw [if_neg (Bool.eq_false_iff.mp hc3)] | skip);(first | rw [if_neg (Bool.eq_false_iff.mp hc4)] | skip);(first | rw [if_pos hc10] | skip)
      first | done | rfl | (exfalso;simp_all;done) | skip
     ·
      refine Qst (Qsr ?_)
      refine AOL.pk (P_load_box_agg (k:=0) (l:=[.int .i64 _,.int .i64 _,.int .i64 _,.int .i64 _,_]) tok rfl rfl rfl rfl rfl) rfl rfl ?_
      refine Qp Qf3 (Qp Qli ?_)
      refine Qp (Qc rfl (c93 _ e.field hk)) ?_
      refine Qp Qmu ?_
      refine Qp (P_extract (v:=.agg [.int .i64 _,.int .i64 _,.str _]) rfl rfl) ?_
      refine Qp Qxi ?_
      refine Qe (E_alloc (l:=[.int .i64 0,.int .i64 0,.str []]) (by kernel_rfl)) ?_
      rintro _ _ ⟨b8,rfl,rfl⟩
      refine Qe (E_store (k:=0) (v:=.agg _) (cs':=[.int .i64 _,.int .i64 _,.str _]) (H2:=_::_::_::_) tok rfl rfl rfl rfl (rfl) rfl rfl rfl rfl) ?_
      rintro _ _ ⟨rfl,rfl⟩
      refine Qp Qai ?_
      refine AOL.ghost (GS.freeze (t:=8) 0 rfl rfl) ?_
      refine Qnn (AW.seq (Qsr (Qp Qmi (Qp Qceq (Qnn (Qif (fun hc11=>?_) fun hc11=>?_))))))
      ·
       refine AW.region (Qp (Qlg [.int .i64 _,.int .i64 _,.str _]) ?_)
       refine Qp (Qc rfl (c94 _)) ?_
       refine Qp Qai (Qnn (AW.seq (Qsr (Qp Qmi (Qp Qcne (Qnn (Qif (fun hc12=>?_) fun hc12=>?_)))))))
       ·
        refine Qsr (Qp (Qbd [.int .i64 _,.int .i64 _,.str _]) (Qp Qmi ?_))
        refine Qe (E_store (k:=1) (v:=.agg _) (cs':=[.int .i64 _,.int .i64 _,.str _]) (H2:=_::_::_) tok rfl rfl rfl rfl (rfl) rfl rfl rfl rfl) ?_
        rintro _ _ ⟨rfl,rfl⟩
        refine Qp Qai (Qnn (Qrt ?_))
        refine ⟨.inr rfl,[.agg [.int .i64 _,.int .i64 _,.str _],.int .i64 _],.cons (.box _ _ _ 1 _ _ _ _ rfl rfl rfl rfl rfl rfl) <| .cons (.tmp _ _ rfl) <| .nil,.cons _ (.cons _ (.refl _)),?_⟩
        simp only [resOf,leafS,readS]
        try simp only [hgd]
        (first | rw [if_neg (Bool.eq_false_iff.mp hc1)] | skip);(first | rw [if_neg (Bool.eq_false_iff.mp hc2)] | skip);(first | rw [if_neg (Bool.eq_false_iff.mp hc3)] | skip);(first | rw [if_neg (Bool.eq_false_iff.mp hc4)] | skip);(first | rw [if_neg (Bool.eq_false_iff.mp hc10)] | skip);(first | rw [if_pos hc11] | skip);(first | rw [if_pos hc12] | skip)
        first | done | rfl | (exfalso;simp_all;done) | skip
       ·
        refine Qst (Qsr (Qp (Qlg [.int .i64 _,.int .i64 _,.str _]) ?_))
        refine Qe (E_store (k:=1) (v:=.agg _) (cs':=[.int .i64 _,.int .i64 _,.str _]) (H2:=_::_::_) tok rfl rfl rfl rfl (rfl) rfl rfl rfl rfl) ?_
        rintro _ _ ⟨rfl,rfl⟩
        refine Qp Qai (Qnn (AW.ret ?_))
        refine ⟨.inr rfl,[.agg [.int .i64 _,.int .i64 _,.str _],.int .i64 _],.cons (.box _ _ _ 1 _ _ _ _ rfl rfl rfl rfl rfl rfl) <| .cons (.tmp _ _ rfl) <| .nil,.cons _ (.cons _ (.refl _)),?_⟩
        simp only [resOf,leafS,readS]
        try simp only [hgd]
        (first | rw [if_neg (Bool.eq_false_iff.mp hc1)] | skip);(first | rw [if_neg (Bool.eq_false_iff.mp hc2)] | skip);(first | rw [if_neg (Bool.eq_false_iff.mp hc3)] | skip);(first | rw [if_neg (Bool.eq_false_iff.mp hc4)] | skip);(first | rw [if_neg (Bool.eq_false_iff.mp hc10)] | skip);(first | rw [if_pos hc11] | skip);(first | rw [if_neg (Bool.eq_false_iff.mp hc12)] | skip)
        first | done | rfl | (exfalso;simp_all;done) | skip
      ·
       refine Qst (AW.seq (Qsr (Qp Qmi (Qp Qcne (Qnn (Qif (fun hc13=>?_) fun hc13=>?_))))))
       ·
        refine Qsr (Qp (Qbd [.int .i64 _,.int .i64 _,.str _]) (Qp Qmi ?_))
        refine Qe (E_store (k:=1) (v:=.agg _) (cs':=[.int .i64 _,.int .i64 _,.str _]) (H2:=_::_::_) tok rfl rfl rfl rfl (rfl) rfl rfl rfl rfl) ?_
        rintro _ _ ⟨rfl,rfl⟩
        refine Qp Qai (Qnn (Qrt ?_))
        refine ⟨.inr rfl,[.agg [.int .i64 _,.int .i64 _,.str _],.int .i64 _],.cons (.box _ _ _ 1 _ _ _ _ rfl rfl rfl rfl rfl rfl) <| .cons (.tmp _ _ rfl) <| .nil,.cons _ (.cons _ (.refl _)),?_⟩
        simp only [resOf,leafS,readS]
        try simp only [hgd]
        (first | rw [if_neg (Bool.eq_false_iff.mp hc1)] | skip);(first | rw [if_neg (Bool.eq_false_iff.mp hc2)] | skip);(first | rw [if_neg (Bool.eq_false_iff.mp hc3)] | skip);(first | rw [if_neg (Bool.eq_false_iff.mp hc4)] | skip);(first | rw [if_neg (Bool.eq_false_iff.mp hc10)] | skip);(first | rw [if_neg (Bool.eq_false_iff.mp hc11)] | skip);(first | rw [if_pos hc13] | skip)
        first | done | rfl | (exfalso;simp_all;done) | skip
       ·
        refine Qst (Qsr (Qp (Qlg [.int .i64 _,.int .i64 _,.str _]) ?_))
        refine Qe (E_store (k:=1) (v:=.agg _) (cs':=[.int .i64 _,.int .i64 _,.str _]) (H2:=_::_::_) tok rfl rfl rfl rfl (rfl) rfl rfl rfl rfl) ?_
        rintro _ _ ⟨rfl,rfl⟩
        refine Qp Qai (Qnn (AW.ret ?_))
        refine ⟨.inr rfl,[.agg [.int .i64 _,.int .i64 _,.str _],.int .i64 _],.cons (.box _ _ _ 1 _ _ _ _ rfl rfl rfl rfl rfl rfl) <| .cons (.tmp _ _ rfl) <| .nil,.cons _ (.cons _ (.refl _)),?_⟩
        simp only [resOf,leafS,readS]
        try simp only [hgd]
        (first | rw [if_neg (Bool.eq_false_iff.mp hc1)] | skip);(first | rw [if_neg (Bool.eq_false_iff.mp hc2)] | skip);(first | rw [if_neg (Bool.eq_false_iff.mp hc3)] | skip);(first | rw [if_neg (Bool.eq_false_iff.mp hc4)] | skip);(first | rw [if_neg (Bool.eq_false_iff.mp hc10)] | skip);(first | rw [if_neg (Bool.eq_false_iff.mp hc11)] | skip);(first | rw [if_neg (Bool.eq_false_iff.mp hc13)] | skip)
        first | done | rfl | (exfalso;simp_all;done) | skip

set_option maxHeartbeats 1600000
set_option maxRecDepth 20000

theorem ops_get (op:Int)(h:5≤op∧op≤12∧op≠9):∃f cap,mget OPS op=some (.fn (.func f) [] cap)∧fnB Tryz.prog f=true∧∀a b,APure Tryz.prog f (.int .i64 a :: .int .i64 b::cap) (.agg (cV (applyS op a b))):=by
 have h2:op=5∨op=6∨op=7∨op=8∨op=10∨op=11∨op=12:=by omega
 rcases h2 with rfl | rfl | rfl | rfl | rfl | rfl | rfl
 · exact ⟨119,_,rfl,by kernel_rfl,c63⟩
 · exact ⟨120,_,rfl,by kernel_rfl,c64⟩
 · exact ⟨121,_,rfl,by kernel_rfl,c65⟩
 · exact ⟨122,_,rfl,by kernel_rfl,c66⟩
 · exact ⟨123,_,rfl,by kernel_rfl,c67⟩
 · exact ⟨124,_,rfl,by kernel_rfl,c68⟩
 · exact ⟨125,_,rfl,by kernel_rfl,c69⟩

theorem ends_of {α:Type}{l:List α}(h:l.length≠0):∃a b,l[0]? = some a∧l[((l.length:Int)-1).toNat]? = some b∧∀d,l.headD d=a∧l.getLastD d=b:=by
 have e:((l.length:Int)-1).toNat=l.length-1:=by omega
 rw [e]
 refine ⟨l[0],l[l.length-1],List.getElem?_eq_getElem (by omega),List.getElem?_eq_getElem (by omega),fun d=>?_⟩
 cases l with
 | nil=>simp at h
 | cons x r=>simp [List.getLastD_eq_getLast?,List.getLast?_eq_getElem?]

theorem c40 (x:Evr)(hx:x.ok)(e:Ex)(hn:nodesS e=0)(hs:sizeN e≤1048576):APure Tryz.prog 77 [.agg (cX x),.agg (cE e)] (.tuple [.agg (cV (evalS x e).1),.int .i64 (evalS x e).2]):=by
 revert hn hs
 induction e using Ex.ind
 rename_i e ih
 intro hn hs
 have hz:=nodes_zero hn
 have hfl:=node_field hz.1
 have hal:=args_le e hs
 refine APure.body (n:=85) tok Tryz.func77 rfl rfl rfl fun H=>?_
 refine Qsr (Qp (Qbx [_,.int .i64 _,.int .i64 _,.int .i64 _,.int .i64 _,.int .i64 _,_,_]) (Qp Qbe ?_))
 refine Qe (E_alloc (l:=[.int .i64 0,.int .i64 0,.str []]) (by kernel_rfl)) ?_
 rintro _ _ ⟨b4,rfl,rfl⟩
 refine Qp Qai (Qnn (AW.seq (Qsr (Qp Qf1 (Qp Qls ?_)))))
 refine Qp (P_len_sl (n:=e.args.length) tok rfl rfl rfl (by simp)) ?_
 refine Qp Qceq (Qnn (Qif (fun hc1=>?_) fun hc1=>?_))
 ·
  refine Qsr (Qp (Qlg [_,.int .i64 _,.int .i64 _,.int .i64 _,.int .i64 _,.int .i64 _,_,_]) (Qp Qle ?_))
  refine Qp (Qc rfl (c70 x hx e hfl)) ?_
  refine Qp (P_extract (v:=.agg [.int .i64 _,.int .i64 _,.str _]) rfl rfl) ?_
  refine Qp Qxi ?_
  refine Qe (E_store (k:=0) (v:=.agg _) (cs':=[.int .i64 _,.int .i64 _,.str _]) (H2:=_::_) tok rfl rfl rfl rfl (rfl) rfl rfl rfl rfl) ?_
  rintro _ _ ⟨rfl,rfl⟩
  refine Qp Qai (Qnn (Qrt ?_))
  refine ⟨.inr rfl,[.agg [.int .i64 _,.int .i64 _,.str _],.int .i64 _],.cons (.box _ _ _ 0 _ _ _ _ rfl rfl rfl rfl rfl rfl) <| .cons (.tmp _ _ rfl) <| .nil,.cons _ (.refl _),?_⟩
  rw [evalS_eq x e,if_pos (by simpa [List.isEmpty_iff] using hc1)];rfl
 ·
  refine Qst (Qsr (Qp Qav ?_))
  refine AOL.ghost (GS.row (t:=6) 28 3 rfl) ?_
  refine Qns (Qp Qav ?_)
  refine AOL.ghost (GS.row (t:=7) 3 1 rfl) ?_
  refine Qnn (AW.seq (Qsr (Qp Qf1 (Qp Qls ?_))))
  refine Qp (P_len_sl (n:=e.args.length) tok rfl rfl rfl (by simp)) ?_
  refine Qp Qmi (Qnn (AW.block ?_))
  refine AW.loopS (fun (p:Nat×List (List AV)×Value×List (List AV)×Value)=>(⟨[(2,.ptr (cX x)),(3,.ptr (cE e)),(4,.val (.pointer (some ⟨b4,0,none⟩))),(6,.row p.2.2.1 3 p.2.1),(7,.row p.2.2.2.2 1 p.2.2.2.1),(23,.sl 8 (e.args.map encE)),(24,.int .i64 e.args.length),(25,.int .i64 (p.1:Int))],.row p.2.2.2.2 p.2.2.2.1.length 3 1 :: .row p.2.2.1 p.2.1.length 28 3 :: .box b4 28 [.int .i64 0,.int .i64 0,.str []]::H,85⟩:St)) (fun (p:Nat×List (List AV)×Value×List (List AV)×Value)=>p.1≤e.args.length∧firstS (fun a=>(evalS x a).2) e.args=firstS (fun a=>(evalS x a).2) (e.args.drop p.1)∧p.2.1=((e.args.take p.1).map (fun a=>(evalS x a).1)).map cV∧p.2.2.2.1=((e.args.take p.1).map (fun a=>(evalS x a).1.kind)).map (fun k=>[AV.int .i64 k])) (fun (p:Nat×List (List AV)×Value×List (List AV)×Value)=>e.args.length-p.1) ((0,[],.slice none 0 0,[],.slice none 0 0)) ?_ (GS.weaken ⟨rfl,rfl,rfl,rfl,rfl,rfl,rfl,rfl,trivial⟩ (.refl _)) ?_
  · exact ⟨Nat.zero_le _,by simp,by simp,by simp⟩
  ·
   rintro p hR
   have hsc:∀c∈p.2.1,scalars c=true:=by rw [hR.2.2.1];exact sc_map fun _=>rfl
   have hsc2:∀c∈p.2.2.2.1,scalars c=true:=by rw [hR.2.2.2];exact sc_map fun _=>rfl
   refine Qsr (Qp Qclt (Qnn (AW.seq (Qif (fun hc2=>?_) fun hc2=>?_))))
   ·
    obtain ⟨a,ha⟩:=get_lt hc2
    have hlt:=get_lt' ha
    have hm:=List.mem_of_getElem? ha
    refine Qst (AW.seq (AW.block (Qsr ?_)))
    refine Qp (P_indexAddr (c:=[.int .i64 _,_,.int .i64 _,.int .i64 _,.int .i64 _,.int .i64 _,.int .i64 _,.str _]) tok rfl rfl rfl rfl rfl rfl (by omega) (encE_at ha)) ?_
    refine Qp Qle ?_
    refine Qe (E_alloc (l:=[.int .i64 0,.sl 8 [],.int .i64 0,.int .i64 0,.int .i64 0,.int .i64 0,.int .i64 0,.str []]) (by kernel_rfl)) ?_
    rintro _ _ ⟨b9,rfl,rfl⟩
    refine Qe (E_store (k:=0) (v:=.agg _) (cs':=[.int .i64 _,_,.int .i64 _,.int .i64 _,.int .i64 _,.int .i64 _,.int .i64 _,.str _]) (H2:=_::_::_::_::_) tok rfl rfl rfl rfl (rfl) rfl rfl rfl rfl) ?_
    rintro _ _ ⟨rfl,rfl⟩
    refine AOL.ghost (GS.freeze (t:=9) 0 rfl rfl) ?_
    refine Qns (Qp (Qlg [_,.int .i64 _,.int .i64 _,.int .i64 _,.int .i64 _,.int .i64 _,_,_]) (Qp Qle ?_))
    refine Qp (Qc rfl (ih a hm (hz.2 a hm) (by have:=size_arg hm;omega))) ?_
    refine Qp Qmu ?_
    refine Qp (P_extract (v:=.agg [.int .i64 _,.int .i64 _,.str _]) rfl rfl) ?_
    refine Qp Qxi ?_
    refine Qe (E_alloc (l:=[.int .i64 0,.int .i64 0,.str []]) (by kernel_rfl)) ?_
    rintro _ _ ⟨b10,rfl,rfl⟩
    refine Qe (E_store (k:=0) (v:=.agg _) (cs':=[.int .i64 _,.int .i64 _,.str _]) (H2:=_::_::_::_::_) tok rfl rfl rfl rfl (rfl) rfl rfl rfl rfl) ?_
    rintro _ _ ⟨rfl,rfl⟩
    refine Qp Qai ?_
    refine AOL.ghost (GS.freeze (t:=10) 0 rfl rfl) ?_
    refine Qnn (AW.seq (Qsr (Qp Qmi (Qp Qcne (Qnn (Qif (fun hc3=>?_) fun hc3=>?_))))))
    ·
     refine Qsr (Qp (Qbd [.int .i64 _,.int .i64 _,.str _]) (Qp Qmi ?_))
     refine Qe (E_store (k:=2) (v:=.agg _) (cs':=[.int .i64 _,.int .i64 _,.str _]) (H2:=_::_::_::_) tok rfl rfl rfl rfl (rfl) rfl rfl rfl rfl) ?_
     rintro _ _ ⟨rfl,rfl⟩
     refine Qp Qai (Qnn (Qrt (blkR (thenR (thenR (blkR (thenR ?_)))))))
     refine ⟨.inr rfl,[.agg [.int .i64 _,.int .i64 _,.str _],.int .i64 _],.cons (.box _ _ _ 2 _ _ _ _ rfl rfl rfl rfl rfl rfl) <| .cons (.tmp _ _ rfl) <| .nil,.cons _ (.cons _ (.cons _ (.refl _))),?_⟩
     have hne:¬e.args.isEmpty=true:=by simpa [List.isEmpty_iff] using hc1
     have hfe:firstS (fun a=>(evalS x a).2) e.args=(evalS x a).2:=by rw [hR.2.1,drop_cons ha,firstS,if_pos hc3]
     rw [evalS_eq x e,if_neg hne,hfe,if_pos hc3];rfl
    ·
     refine Qst ?_
     refine AW.draw mixed (fun _=>True) trivial (by kernel_rfl) ?_
     refine Qn 0 rfl (P_move (v:=.row _ _ _) rfl) ?_
     refine Qn 1 rfl (Qlg [.int .i64 _,.int .i64 _,.str _]) ?_
     refine Qn 2 rfl (P_buildSlice (es:=[[.int .i64 _,.int .i64 _,.str _]]) tok rfl rfl rfl rfl rfl rfl rfl rfl rfl) ?_
     refine Qn 4 rfl (P_move (v:=.row _ _ _) rfl) ?_
     refine Qn 5 rfl Qf5 (Qn 6 rfl Qli ?_)
     refine Qn 7 rfl (P_buildSlice (es:=[[.int .i64 _]]) tok rfl rfl rfl rfl rfl rfl rfl rfl rfl) ?_
     refine Canon.eff _ _ 3 _ _ rfl (by kernel_rfl) rfl rfl (E_append (k:=1) tok rfl rfl rfl rfl rfl rfl rfl rfl (sc_one rfl) (hsc) (by simp [hR.2.2.1];omega) (by simp [hR.2.2.1,maxLen];omega)) (fun _ _ _=>trivial) ?_
     rintro _ _ ⟨v42,rfl,rfl⟩
     refine Canon.eff _ _ 8 _ _ rfl (by kernel_rfl) rfl rfl (E_append (k:=0) tok rfl rfl rfl rfl rfl rfl rfl rfl (sc_one rfl) (hsc2) (by simp [hR.2.2.2];omega) (by simp [hR.2.2.2,maxLen];omega)) (fun _ _ _=>trivial) ?_
     rintro _ _ ⟨v47,rfl,rfl⟩
     refine Qn 9 rfl (P_assign (v:=.row _ _ _) rfl) ?_
     refine Qn 10 rfl (P_assign (v:=.row _ _ _) rfl) ?_
     refine Canon.done _ _ (by kernel_rfl) ?_
     refine blkN (thenN (AW.region (Qp Qad (Qp Qmi (Qnn ?_)))))
     refine ⟨(p.1+1,p.2.1 ++ [cV (evalS x a).1],v42,p.2.2.2.1 ++ [[.int .i64 (evalS x a).1.kind]],v47),?_,?_,GS.weaken ⟨rfl,rfl,rfl,rfl,rfl,rfl,rfl,rfl,trivial⟩ (.refl _)⟩
     · simp only;exact ⟨hlt,by rw [hR.2.1,drop_cons ha,firstS,if_neg (by simpa using hc3)],by rw [take_get ha,hR.2.2.1];simp,by rw [take_get ha,hR.2.2.2];simp⟩
     · first | omega | (simp only;omega)
   ·
    have hte:=take_end hc2
    have hd:=get_end hc2
    have hf:firstS (fun a=>(evalS x a).2) e.args=0:=by rw [hR.2.1,hd];rfl
    obtain ⟨k,es,rv,es2,rv2⟩:=p
    simp only at hR hte
    have h6:es=(e.args.map (fun a=>(evalS x a).1)).map cV:=by rw [hR.2.2.1,hte]
    have h7:es2=(e.args.map (fun a=>(evalS x a).1.kind)).map (fun k=>[AV.int .i64 k]):=by rw [hR.2.2.2,hte]
    subst h6
    subst h7
    refine AW.exit ?_
    refine thenE (thenE (blkHit (thenN (AW.seq (Qsr (Qp Qf0 (Qp Qli ?_)))))))
    refine AOL.ghost (GS.unrow 7 rfl) ?_
    refine AOL.ghost (GS.unrow 6 rfl) ?_
    refine Qp Qms ?_
    refine Qp (Qc rfl (c71 e.op (e.args.map (fun a=>(evalS x a).1.kind)))) ?_
    refine Qp Qai (Qns (Qp Qmi (Qp Qcne (Qnn (Qif (fun hc4=>?_) fun hc4=>?_)))))
    ·
     refine Qsr (Qp (Qbd [.int .i64 _,.int .i64 _,.str _]) (Qp Qmi ?_))
     refine Qe (E_store (k:=2) (v:=.agg _) (cs':=[.int .i64 _,.int .i64 _,.str _]) (H2:=_::_::_::_) tok rfl rfl rfl rfl (rfl) rfl rfl rfl rfl) ?_
     rintro _ _ ⟨rfl,rfl⟩
     refine Qp Qai (Qnn (Qrt ?_))
     refine ⟨.inr rfl,[.agg [.int .i64 _,.int .i64 _,.str _],.int .i64 _],.cons (.box _ _ _ 2 _ _ _ _ rfl rfl rfl rfl rfl rfl) <| .cons (.tmp _ _ rfl) <| .nil,.cons _ (.cons _ (.cons _ (.refl _))),?_⟩
     have hne:¬e.args.isEmpty=true:=by simpa [List.isEmpty_iff] using hc1
     have hk:(e.args.map (fun a=>(evalS x a).1)).map (·.kind)=e.args.map (fun a=>(evalS x a).1.kind):=by simp
     rw [evalS_eq x e,if_neg hne,hf,if_neg (by decide),nodeV,hk,if_pos hc4];rfl
    ·
     have hsh:=node_args hz.1 hc1
     have hl0:(e.args.map (fun a=>(evalS x a).1)).length≠0:=by simp;intro h0;rw [h0] at hc1;simp at hc1
     have hl4:(e.args.map (fun a=>(evalS x a).1)).length≤1048576:=by simpa using hal
     refine (ends_of hl0).elim fun v hv=>hv.elim fun w hw=>?_
     have hv0:=hw.1
     have hvl:=hw.2.1
     have hvd:=hw.2.2
     refine Qst (AW.seq (Qsr (Qp Qf0 (Qp Qli (Qp Qceq (Qnn (Qif (fun hc5=>?_) fun hc5=>?_)))))))
     ·
      have h9:e.op=9:=by simpa using hc5
      have hl2:(e.args.map (fun a=>(evalS x a).1)).length=2:=by simp;omega
      have hv1:(e.args.map (fun a=>(evalS x a).1))[1]? = some w:=by rw [←hvl,hl2];rfl
      refine AW.seq ?_
      refine AW.draw mixed (fun _=>True) trivial (by kernel_rfl) ?_
      refine Qn 0 rfl Qms ?_
      refine Qn 1 rfl (P_indexAddr (c:=[.int .i64 _,.int .i64 _,.str _]) tok rfl rfl rfl rfl rfl rfl (by omega) (map_at hv0)) ?_
      refine Qn 2 rfl (Qlg [.int .i64 _,.int .i64 _,.str _]) (Qn 3 rfl Qms ?_)
      refine Qn 4 rfl (P_indexAddr (c:=[.int .i64 _,.int .i64 _,.str _]) tok rfl rfl rfl rfl rfl rfl (by omega) (map_at hv1)) ?_
      refine Qn 5 rfl (Qlg [.int .i64 _,.int .i64 _,.str _]) ?_
      refine Qn 6 rfl (P_eql_agg tok rfl rfl rfl rfl rfl) ?_
      refine Qn 7 rfl (Qc rfl (c42 _)) ?_
      refine Canon.eff _ _ 8 _ _ rfl (by kernel_rfl) rfl rfl (E_store (k:=2) (v:=.agg _) (cs':=[.int .i64 _,.int .i64 _,.str _]) (H2:=_::_::_::_) tok rfl rfl rfl rfl (rfl) rfl rfl rfl rfl) (fun _ _ _=>trivial) ?_
      rintro _ _ ⟨rfl,rfl⟩
      refine Qn 9 rfl Qai ?_
      refine Canon.done _ _ (by kernel_rfl) ?_
      refine thenN (Qrt ?_)
      refine ⟨.inr rfl,[.agg [.int .i64 _,.int .i64 _,.str _],.int .i64 _],.cons (.box _ _ _ 2 _ _ _ _ rfl rfl rfl rfl rfl rfl) <| .cons (.tmp _ _ rfl) <| .nil,.cons _ (.cons _ (.cons _ (.refl _))),?_⟩
      have hne:¬e.args.isEmpty=true:=by simpa [List.isEmpty_iff] using hc1
      have hk:(e.args.map (fun a=>(evalS x a).1)).map (·.kind)=e.args.map (fun a=>(evalS x a).1.kind):=by simp
      rw [evalS_eq x e,if_neg hne,hf,if_neg (by decide),nodeV,hk,if_neg (Bool.eq_false_iff.mp hc4),(hvd v0).1]
      first
      | (rw [if_pos hc5,hv1];simp only [Bool.and_true];first | done | rfl)
      | (rw [if_neg (Bool.eq_false_iff.mp hc5),(hvd v0).2] <;> rfl)
      | skip
     ·
      have h9:e.op≠9:=by simpa using hc5
      refine (ops_get e.op (by omega)).elim fun f hf1=>hf1.elim fun cap hf2=>?_
      have hmg:=hf2.1
      have hfn:=hf2.2.1
      have hap:=hf2.2.2
      refine Qst (AW.seq ?_)
      refine AW.draw mixed (fun _=>True) trivial (by kernel_rfl) ?_
      refine Qn 0 rfl (Qf [_]) ?_
      refine Qn 1 rfl (P_load_ptr (c:=.mapv _) tok rfl rfl rfl) ?_
      refine Qn 2 rfl Qf0 (Qn 3 rfl Qli ?_)
      refine Qn 4 rfl (P_lookup tok rfl rfl rfl rfl rfl rfl (hmg)) ?_
      refine Qn 5 rfl Qms ?_
      refine Qn 6 rfl (P_indexAddr (c:=[.int .i64 _,.int .i64 _,.str _]) tok rfl rfl rfl rfl rfl rfl (by omega) (map_at hv0)) ?_
      refine Qn 7 rfl Qf6 (Qn 8 rfl Qli (Qn 9 rfl Qms (Qn 10 rfl Qms ?_)))
      refine Qn 11 rfl (P_len_sl (n:=(e.args.map (fun a=>(evalS x a).1)).length) tok rfl rfl rfl (by simp)) ?_
      refine Qn 12 rfl (P_sub rfl rfl rfl (by constructor <;> omega)) ?_
      refine Qn 13 rfl (P_indexAddr (c:=[.int .i64 _,.int .i64 _,.str _]) tok rfl rfl rfl rfl rfl rfl (by simp at hl0 ⊢;omega) (map_at hvl)) ?_
      refine Qn 14 rfl Qf6 (Qn 15 rfl Qli ?_)
      refine Qn 16 rfl (P_call hfn rfl rfl rfl (hap _ _)) ?_
      refine Canon.eff _ _ 17 _ _ rfl (by kernel_rfl) rfl rfl (E_store (k:=2) (v:=.agg _) (cs':=[.int .i64 _,.int .i64 _,.str _]) (H2:=_::_::_::_) tok rfl rfl rfl rfl (rfl) rfl rfl rfl rfl) (fun _ _ _=>trivial) ?_
      rintro _ _ ⟨rfl,rfl⟩
      refine Qn 18 rfl Qai ?_
      refine Canon.done _ _ (by kernel_rfl) ?_
      refine thenN (AW.ret ?_)
      refine ⟨.inr rfl,[.agg [.int .i64 _,.int .i64 _,.str _],.int .i64 _],.cons (.box _ _ _ 2 _ _ _ _ rfl rfl rfl rfl rfl rfl) <| .cons (.tmp _ _ rfl) <| .nil,.cons _ (.cons _ (.cons _ (.refl _))),?_⟩
      have hne:¬e.args.isEmpty=true:=by simpa [List.isEmpty_iff] using hc1
      have hk:(e.args.map (fun a=>(evalS x a).1)).map (·.kind)=e.args.map (fun a=>(evalS x a).1.kind):=by simp
      rw [evalS_eq x e,if_neg hne,hf,if_neg (by decide),nodeV,hk,if_neg (Bool.eq_false_iff.mp hc4),(hvd v0).1]
      first
      | (rw [if_pos hc5,hv1];simp only [Bool.and_true];first | done | rfl)
      | (rw [if_neg (Bool.eq_false_iff.mp hc5),(hvd v0).2] <;> rfl)
      | skip

set_option maxHeartbeats 400000
set_option maxRecDepth 20000

theorem check_nodes {e:Ex}(h:checkS e=0):nodesS e=0:=by
 unfold checkS at h
 split at h
 · cases h
 split at h
 · cases h
 exact h

theorem c14 (vars:List (List Ev))(own:Int)(ev:Ev)(hx:∀l∈vars,l.length≤1048576)(e:Ex)(hs:sizeN e≤1048576):APure Tryz.prog 36 [.agg (cE e),.agg (cEnv vars),.int .i64 own,.agg (cEv ev)] (.tuple [.agg (cV (EvalS ⟨vars,own,ev⟩ e).1),.int .i64 (EvalS ⟨vars,own,ev⟩ e).2]):=by
 refine APure.body (n:=26) tok Tryz.func36 rfl rfl rfl fun H=>?_
 refine Qsr (Qp Qbe (Qp (Qbx [_]) (Qp (Qbx [.int .i64 _,.int .i64 _,.int .i64 _,.int .i64 _,_]) ?_)))
 refine Qe (E_alloc (l:=[.int .i64 0,.int .i64 0,.str []]) (by kernel_rfl)) ?_
 rintro _ _ ⟨b8,rfl,rfl⟩
 refine Qp Qai (Qnn (AW.seq (Qsr (Qp Qle ?_))))
 refine Qp (Qc rfl (c21 e hs)) ?_
 refine Qp Qai (Qns (Qp Qmi (Qp Qcne (Qnn (Qif (fun hc1=>?_) fun hc1=>?_)))))
 ·
  refine Qsr (Qp (Qbd [.int .i64 _,.int .i64 _,.str _]) (Qp Qmi ?_))
  refine Qe (E_store (k:=0) (v:=.agg _) (cs':=[.int .i64 _,.int .i64 _,.str _]) (H2:=_::_) tok rfl rfl rfl rfl (rfl) rfl rfl rfl rfl) ?_
  rintro _ _ ⟨rfl,rfl⟩
  refine Qp Qai (Qnn (Qrt ?_))
  refine ⟨.inr rfl,[.agg [.int .i64 _,.int .i64 _,.str _],.int .i64 _],.cons (.box _ _ _ 0 _ _ _ _ rfl rfl rfl rfl rfl rfl) <| .cons (.tmp _ _ rfl) <| .nil,.cons _ (.refl _),?_⟩
  simp only [resOf,EvalS]
  (first | rw [if_pos hc1] | skip)
  first | done | rfl
 ·
  refine Qst (AW.seq ?_)
  refine AW.draw mixed (fun _=>True) trivial (by kernel_rfl) ?_
  refine Qn 0 rfl (Qlg [_]) (Qn 1 rfl Qmi (Qn 2 rfl (Qlg [.int .i64 _,.int .i64 _,.int .i64 _,.int .i64 _,_]) ?_))
  refine Qn 3 rfl (Qc rfl (c39)) ?_
  refine Qn 4 rfl (Qbd [_,.int .i64 _,.int .i64 _,.int .i64 _,.int .i64 _,.int .i64 _,_,_]) (Qn 5 rfl Qle ?_)
  refine Qn 6 rfl (Qc rfl (c40 ⟨vars,own,ev⟩ hx e (check_nodes (by simpa using hc1)) hs)) ?_
  refine Qn 7 rfl (P_extract (v:=.agg [.int .i64 _,.int .i64 _,.str _]) rfl rfl) ?_
  refine Qn 8 rfl Qxi ?_
  refine Canon.eff _ _ 9 _ _ rfl (by kernel_rfl) rfl rfl (E_store (k:=0) (v:=.agg _) (cs':=[.int .i64 _,.int .i64 _,.str _]) (H2:=_::_) tok rfl rfl rfl rfl (rfl) rfl rfl rfl rfl) (fun _ _ _=>trivial) ?_
  rintro _ _ ⟨rfl,rfl⟩
  refine Qn 10 rfl Qai ?_
  refine Canon.done _ _ (by kernel_rfl) ?_
  refine thenN (AW.ret ?_)
  refine ⟨.inr rfl,[.agg [.int .i64 _,.int .i64 _,.str _],.int .i64 _],.cons (.box _ _ _ 0 _ _ _ _ rfl rfl rfl rfl rfl rfl) <| .cons (.tmp _ _ rfl) <| .nil,.cons _ (.refl _),?_⟩
  simp only [resOf,EvalS]
  (first | rw [if_neg (Bool.eq_false_iff.mp hc1)] | skip)
  first | done | rfl
end Go.Proofs.YtkddpedfbicbeaaGreatDoor
