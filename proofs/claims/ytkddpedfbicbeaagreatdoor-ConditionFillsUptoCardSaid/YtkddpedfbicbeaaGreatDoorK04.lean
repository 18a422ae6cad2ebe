/-
  Several texts in one: W4, W23. No condition.
-/
import Derived.Test.YtkddpedfbicbeaaGreatDoorK01
import Derived.Test.YtkddpedfbicbeaaGreatDoorW1
import Derived.KernelRfl
set_option linter.unusedVariables false
set_option linter.unusedSimpArgs false
namespace Go.Proofs.YtkddpedfbicbeaaGreatDoor
open Go Go.Aw
set_option maxHeartbeats 400000
set_option maxRecDepth 20000

theorem c82 (e:Ex):APure Tryz.prog 110 [.agg (cE e)] (.int .i64 (constS e)):=by
  refine APure.body (n:=32) tok Tryz.func110 rfl rfl rfl fun H=>?_
  refine AW.seq (AW.region (Qp Qbe (Qp Qai (AOL.nil (thenN (AW.seq (AW.seq (AW.region (Qp Qf5 ?_)))))))))
  refine Qp (Qlg [.int .i64 _,.int .i64 _,.str _]) ?_
  refine Qp (Qc rfl (c94 e.val)) ?_
  refine Qp Qai (AOL.nil (thenN (AW.seq (AW.region (Qp Qmi (Qp Qcne (AOL.nil (thenN (Qif (fun hc1=>?_) fun hc1=>?_)))))))))
  · skip
    refine AW.seq (AW.region (Qp Qmi (Qp Qai (AOL.nil (thenN (Qrt ?_))))))
    refine Qr (.int .i64 _) ?_
    try simp only [str0,Bool.and_true] at *
    first
      | (simp only [resOf,constS];(first | rw [if_pos hc1] | skip);first | done | rfl)
      | (try simp only [Bool.not_eq_true',Bool.not_eq_false'] at *
         first
         | (simp only [resOf,constS,isV0, *,Bool.false_eq_true,↓reduceIte,Bool.true_or,Bool.or_true,Bool.false_or,Bool.or_false,Bool.true_and,Bool.and_true,Bool.false_and,Bool.and_false,Bool.not_true,Bool.not_false];done)
         | (simp [resOf,constS,isV0, *];done)
         | (simp_all [resOf,constS,isV0];done))
      | skip
  · skip
    refine Qst (AW.seq (AW.seq (AW.region (Qp Qf0 (Qp Qli (Qp Qceq (Qp Qmb (Qg [] Qw Qf4 (Qg [(14,_)] Qw Qli ?_)))))))))
    refine Qg [] Qw Qf5 (Qg [(16,_)] Qw (Qlg [.int .i64 _,.int .i64 _,.str _]) ?_)
    refine AOL.g (y:=.bool _) _ [(15,_),(17,_)] rfl (EntL.all ⟨Ent.self _ _,Ent.self _ _,trivial⟩) (fun hG=>P_callf (by kernel_rfl) rfl rfl (c99 e.kind e.val)) rfl ?_
    refine Qg [(18,_)] Qw Qnt (Qg [(19,_)] Qw Qmb (Qg [] Qw Qf4 (Qg [(21,_)] Qw Qli (Qg [(22,_)] Qw Qceq (Qg [(23,_)] Qw Qmb (Qg [] Qw Qf5 (Qg [(25,_)] Qw (Qlg [.int .i64 _,.int .i64 _,.str _]) (Qg [] Qw (Qbd [.int .i64 _,.int .i64 _,.str _]) ?_))))))))
    refine AOL.g (y:=.bool _) _ [(26,_),(27,_)] rfl (EntL.all ⟨Ent.self _ _,Ent.self _ _,trivial⟩) (fun hG=>P_neq_agg tok rfl rfl rfl rfl rfl) rfl ?_
    refine Qg [(24,_),(28,_)] Qw Qpa (Qg [(20,_),(29,_)] Qw Qpo (Qp Qpa (AOL.nil (thenN (Qif (fun hc2=>?_) fun hc2=>?_)))))
    · skip
      refine AW.seq (AW.region (Qp Qai (AOL.nil (thenN (Qrt ?_)))))
      refine Qr (.int .i64 _) ?_
      try simp only [str0,Bool.and_true] at *
      first
        | (simp only [resOf,constS];(first | rw [if_neg (Bool.eq_false_iff.mp hc1)] | skip);(first | rw [if_pos hc2] | skip);first | done | rfl)
        | (try simp only [Bool.not_eq_true',Bool.not_eq_false'] at *
           first
           | (simp only [resOf,constS,isV0, *,Bool.false_eq_true,↓reduceIte,Bool.true_or,Bool.or_true,Bool.false_or,Bool.or_false,Bool.true_and,Bool.and_true,Bool.false_and,Bool.and_false,Bool.not_true,Bool.not_false];done)
           | (simp [resOf,constS,isV0, *];done)
           | (simp_all [resOf,constS,isV0];done))
        | skip
    · skip
      refine Qst (AW.seq (AW.region (Qp Qai (AOL.nil (thenN (AW.ret ?_))))))
      refine Qr (.int .i64 _) ?_
      try simp only [str0,Bool.and_true] at *
      first
        | (simp only [resOf,constS];(first | rw [if_neg (Bool.eq_false_iff.mp hc1)] | skip);(first | rw [if_neg (Bool.eq_false_iff.mp hc2)] | skip);first | done | rfl)
        | (try simp only [Bool.not_eq_true',Bool.not_eq_false'] at *
           first
           | (simp only [resOf,constS,isV0, *,Bool.false_eq_true,↓reduceIte,Bool.true_or,Bool.or_true,Bool.false_or,Bool.or_false,Bool.true_and,Bool.and_true,Bool.false_and,Bool.and_false,Bool.not_true,Bool.not_false];done)
           | (simp [resOf,constS,isV0, *];done)
           | (simp_all [resOf,constS,isV0];done))
        | skip
theorem c47 (e:Ex):APure Tryz.prog 69 [.agg (cE e)] (.int .i64 (nodeS e)):=by
  refine APure.body (n:=114) tok Tryz.func69 rfl rfl rfl fun H=>?_
  refine AW.seq (AW.region (Qp Qbe (Qp Qai (AOL.nil (thenN (AW.seq (AW.region (Qp Qf0 (Qp Qli ?_)))))))))
  refine Qp (Qc rfl (c81 e.op)) ?_
  refine Qp Qmu (Qp Qxi (Qp Qxb (Qp Qai (Qp Qab (AOL.nil (thenN (AW.seq (AW.seq (AW.region ?_)))))))))
  refine Qp Qmb (Qp Qnt (AOL.nil (thenN (Qif (fun hc1=>?_) fun hc1=>?_))))
  · skip
    refine AW.seq (AW.region (Qp Qai (AOL.nil (thenN (Qrt ?_)))))
    refine Qr (.int .i64 _) ?_
    try simp only [str0,Bool.and_true] at *
    first
      | (simp only [resOf,nodeS,formS];(first | rw [if_pos hc1] | skip);first | done | rfl)
      | (try simp only [Bool.not_eq_true',Bool.not_eq_false'] at *
         first
         | (simp only [resOf,nodeS,formS,isV0, *,Bool.false_eq_true,↓reduceIte,Bool.true_or,Bool.or_true,Bool.false_or,Bool.or_false,Bool.true_and,Bool.and_true,Bool.false_and,Bool.and_false,Bool.not_true,Bool.not_false];done)
         | (simp [resOf,nodeS,formS,isV0, *];done)
         | (simp_all [resOf,nodeS,formS,isV0];done))
      | skip
  · skip
    refine Qst (AW.seq (AW.seq (AW.region (Qp Qf1 (Qp Qls ?_)))))
    refine Qp (P_len_sl (n:=e.args.length) tok rfl rfl rfl (by simp)) ?_
    refine Qp Qmi (Qp Qcne (AOL.nil (thenN (Qif (fun hc2=>?_) fun hc2=>?_))))
    · skip
      refine AW.seq (AW.region (Qp Qai (AOL.nil (thenN (Qrt ?_)))))
      refine Qr (.int .i64 _) ?_
      try simp only [str0,Bool.and_true] at *
      first
        | (simp only [resOf,nodeS,formS];(first | rw [if_neg (Bool.eq_false_iff.mp hc1)] | skip);(first | rw [if_pos hc2] | skip);first | done | rfl)
        | (try simp only [Bool.not_eq_true',Bool.not_eq_false'] at *
           first
           | (simp only [resOf,nodeS,formS,isV0, *,Bool.false_eq_true,↓reduceIte,Bool.true_or,Bool.or_true,Bool.false_or,Bool.or_false,Bool.true_and,Bool.and_true,Bool.false_and,Bool.and_false,Bool.not_true,Bool.not_false];done)
           | (simp [resOf,nodeS,formS,isV0, *];done)
           | (simp_all [resOf,nodeS,formS,isV0];done))
        | skip
    · skip
      refine Qst (AW.seq (AW.region (Qp Qf0 (Qp Qli ?_))))
      refine Qp (Qc rfl (c52 e.op)) ?_
      refine Qp Qmu (Qp Qxb (Qp Qxb (Qp Qab (Qp Qab (AOL.nil (thenN (AW.seq (AW.seq (AW.region ?_)))))))))
      refine Qp Qmb (Qp Qmb (Qg [] Qw Qf2 (Qg [(31,_)] Qw Qli (Qg [(32,_)] Qw Qclt (Qg [(33,_)] Qw Qmb (Qg [] Qw Qf2 (Qg [(35,_)] Qw Qli (Qg [(36,_)] Qw Qcgq (Qg [(34,_),(37,_)] Qw Qpo ?_)))))))))
      refine Qp Qpa (Qp Qmb (Qg [] Qw Qmb (Qg [(41,_)] Qw Qmb (Qg [] Qw Qf3 (Qg [(43,_)] Qw Qli (Qg [(44,_)] Qw Qclt (Qg [(45,_)] Qw Qmb (Qg [] Qw Qf3 (Qg [(47,_)] Qw Qli ?_)))))))))
      refine Qg [(48,_)] Qw Qcgq (Qg [(46,_),(49,_)] Qw Qpo (Qg [(42,_),(50,_)] Qw Qpa (Qp Qpo (AOL.nil (thenN (Qif (fun hc3=>?_) fun hc3=>?_))))))
      · skip
        refine AW.seq (AW.region (Qp Qai (AOL.nil (thenN (Qrt ?_)))))
        refine Qr (.int .i64 _) ?_
        try simp only [str0,Bool.and_true] at *
        first
          | (simp only [resOf,nodeS,formS];(first | rw [if_neg (Bool.eq_false_iff.mp hc1)] | skip);(first | rw [if_neg (Bool.eq_false_iff.mp hc2)] | skip);(first | rw [if_pos hc3] | skip);first | done | rfl)
          | (try simp only [Bool.not_eq_true',Bool.not_eq_false'] at *
             first
             | (simp only [resOf,nodeS,formS,isV0, *,Bool.false_eq_true,↓reduceIte,Bool.true_or,Bool.or_true,Bool.false_or,Bool.or_false,Bool.true_and,Bool.and_true,Bool.false_and,Bool.and_false,Bool.not_true,Bool.not_false];done)
             | (simp [resOf,nodeS,formS,isV0, *];done)
             | (simp_all [resOf,nodeS,formS,isV0];done))
          | skip
      · skip
        refine Qst (AW.seq (AW.region (Qp Qf0 (Qp Qli (Qp Qceq (Qp Qab (AOL.nil (thenN (AW.seq ?_)))))))))
        refine AW.seq (AW.region (Qp Qmb (Qp Qmb (Qg [] Qw Qf4 (Qg [(58,_)] Qw Qli (Qg [(59,_)] Qw Qclt (Qg [(60,_)] Qw Qmb (Qg [] Qw Qf4 (Qg [(62,_)] Qw Qli ?_)))))))))
        refine Qg [(63,_)] Qw Qcgt (Qg [(61,_),(64,_)] Qw Qpo (Qp Qpa (AOL.nil (thenN (Qif (fun hc4=>?_) fun hc4=>?_)))))
        · skip
          refine AW.seq (AW.region (Qp Qai (AOL.nil (thenN (Qrt ?_)))))
          refine Qr (.int .i64 _) ?_
          try simp only [str0,Bool.and_true] at *
          first
            | (simp only [resOf,nodeS,formS];(first | rw [if_neg (Bool.eq_false_iff.mp hc1)] | skip);(first | rw [if_neg (Bool.eq_false_iff.mp hc2)] | skip);(first | rw [if_neg (Bool.eq_false_iff.mp hc3)] | skip);(first | rw [if_pos hc4] | skip);first | done | rfl)
            | (try simp only [Bool.not_eq_true',Bool.not_eq_false'] at *
               first
               | (simp only [resOf,nodeS,formS,isV0, *,Bool.false_eq_true,↓reduceIte,Bool.true_or,Bool.or_true,Bool.false_or,Bool.or_false,Bool.true_and,Bool.and_true,Bool.false_and,Bool.and_false,Bool.not_true,Bool.not_false];done)
               | (simp [resOf,nodeS,formS,isV0, *];done)
               | (simp_all [resOf,nodeS,formS,isV0];done))
            | skip
        · skip
          refine Qst (AW.seq (AW.region (Qp Qmb (Qp Qmb (Qg [] Qw Qf0 (Qg [(69,_)] Qw Qli (Qg [(70,_)] Qw Qceq (Qp Qpo (Qp Qab ?_)))))))))
          refine AOL.nil (thenN (AW.seq (AW.seq (AW.region (Qp Qmb (AOL.nil (thenN (Qif (fun hc5=>?_) fun hc5=>?_))))))))
          · skip
            refine AW.seq (AW.region (Qp Qle ?_))
            refine Qp (Qc rfl (c82 e)) ?_
            refine Qp Qai (AOL.nil (thenN (AW.seq (AW.region (Qp Qmi (Qp Qcne (AOL.nil (thenN (Qif (fun hc6=>?_) fun hc6=>?_)))))))))
            · skip
              refine AW.seq (AW.region (Qp Qmi (Qp Qai (AOL.nil (thenN (Qrt ?_))))))
              refine Qr (.int .i64 _) ?_
              try simp only [str0,Bool.and_true] at *
              first
                | (simp only [resOf,nodeS,formS];(first | rw [if_neg (Bool.eq_false_iff.mp hc1)] | skip);(first | rw [if_neg (Bool.eq_false_iff.mp hc2)] | skip);(first | rw [if_neg (Bool.eq_false_iff.mp hc3)] | skip);(first | rw [if_neg (Bool.eq_false_iff.mp hc4)] | skip);(first | rw [if_pos hc5] | skip);(first | rw [if_pos hc6] | skip);first | done | rfl)
                | (try simp only [Bool.not_eq_true',Bool.not_eq_false'] at *
                   first
                   | (simp only [resOf,nodeS,formS,isV0, *,Bool.false_eq_true,↓reduceIte,Bool.true_or,Bool.or_true,Bool.false_or,Bool.or_false,Bool.true_and,Bool.and_true,Bool.false_and,Bool.and_false,Bool.not_true,Bool.not_false];done)
                   | (simp [resOf,nodeS,formS,isV0, *];done)
                   | (simp_all [resOf,nodeS,formS,isV0];done))
                | skip
            · skip
              refine Qst (AW.seq (AW.seq (AW.region (Qp Qmb (Qp Qnt (Qp Qmb (Qg [] Qw Qf2 (Qg [(82,_)] Qw Qli (Qg [(83,_)] Qw Qcne ?_)))))))))
              refine Qp Qpa (Qp Qmb (Qg [] Qw Qmb (Qg [(87,_)] Qw Qnt (Qg [(88,_)] Qw Qmb (Qg [] Qw Qf3 (Qg [(90,_)] Qw Qli (Qg [(91,_)] Qw Qcne (Qg [(89,_),(92,_)] Qw Qpa (Qp Qpo ?_)))))))))
              refine Qp Qmb (Qg [] Qw Qmb (Qg [(96,_)] Qw Qnt (Qg [(97,_)] Qw Qmb (Qg [] Qw Qf4 (Qg [(99,_)] Qw Qli (Qg [(100,_)] Qw Qcne (Qg [(98,_),(101,_)] Qw Qpa (Qp Qpo (Qp Qmb ?_)))))))))
              refine Qg [] Qw Qmb (Qg [(105,_)] Qw Qnt (Qg [(106,_)] Qw Qmb (Qg [] Qw Qf5 (Qg [(108,_)] Qw (Qlg [.int .i64 _,.int .i64 _,.str _]) (Qg [] Qw (Qbd [.int .i64 _,.int .i64 _,.str _]) ?_)))))
              refine AOL.g (y:=.bool _) _ [(109,_),(110,_)] rfl (EntL.all ⟨Ent.self _ _,Ent.self _ _,trivial⟩) (fun hG=>P_neq_agg tok rfl rfl rfl rfl rfl) rfl ?_
              refine Qg [(107,_),(111,_)] Qw Qpa (Qp Qpo (AOL.nil (thenN (Qif (fun hc7=>?_) fun hc7=>?_))))
              · skip
                refine AW.seq (AW.region (Qp Qai (AOL.nil (thenN (Qrt ?_)))))
                refine Qr (.int .i64 _) ?_
                try simp only [str0,Bool.and_true] at *
                first
                  | (simp only [resOf,nodeS,formS];(first | rw [if_neg (Bool.eq_false_iff.mp hc1)] | skip);(first | rw [if_neg (Bool.eq_false_iff.mp hc2)] | skip);(first | rw [if_neg (Bool.eq_false_iff.mp hc3)] | skip);(first | rw [if_neg (Bool.eq_false_iff.mp hc4)] | skip);(first | rw [if_pos hc5] | skip);(first | rw [if_neg (Bool.eq_false_iff.mp hc6)] | skip);(first | rw [if_pos hc7] | skip);first | done | rfl)
                  | (try simp only [Bool.not_eq_true',Bool.not_eq_false'] at *
                     first
                     | (simp only [resOf,nodeS,formS,isV0, *,Bool.false_eq_true,↓reduceIte,Bool.true_or,Bool.or_true,Bool.false_or,Bool.or_false,Bool.true_and,Bool.and_true,Bool.false_and,Bool.and_false,Bool.not_true,Bool.not_false];done)
                     | (simp [resOf,nodeS,formS,isV0, *];done)
                     | (simp_all [resOf,nodeS,formS,isV0];done))
                  | skip
              · skip
                refine Qst (AW.seq (AW.region (Qp Qai (AOL.nil (thenN (AW.ret ?_))))))
                refine Qr (.int .i64 _) ?_
                try simp only [str0,Bool.and_true] at *
                first
                  | (simp only [resOf,nodeS,formS];(first | rw [if_neg (Bool.eq_false_iff.mp hc1)] | skip);(first | rw [if_neg (Bool.eq_false_iff.mp hc2)] | skip);(first | rw [if_neg (Bool.eq_false_iff.mp hc3)] | skip);(first | rw [if_neg (Bool.eq_false_iff.mp hc4)] | skip);(first | rw [if_pos hc5] | skip);(first | rw [if_neg (Bool.eq_false_iff.mp hc6)] | skip);(first | rw [if_neg (Bool.eq_false_iff.mp hc7)] | skip);first | done | rfl)
                  | (try simp only [Bool.not_eq_true',Bool.not_eq_false'] at *
                     first
                     | (simp only [resOf,nodeS,formS,isV0, *,Bool.false_eq_true,↓reduceIte,Bool.true_or,Bool.or_true,Bool.false_or,Bool.or_false,Bool.true_and,Bool.and_true,Bool.false_and,Bool.and_false,Bool.not_true,Bool.not_false];done)
                     | (simp [resOf,nodeS,formS,isV0, *];done)
                     | (simp_all [resOf,nodeS,formS,isV0];done))
                  | skip
          · skip
            refine Qst (AW.seq (AW.seq (AW.region (Qp Qmb (Qp Qnt (Qp Qmb (Qg [] Qw Qf2 (Qg [(82,_)] Qw Qli (Qg [(83,_)] Qw Qcne ?_)))))))))
            refine Qp Qpa (Qp Qmb (Qg [] Qw Qmb (Qg [(87,_)] Qw Qnt (Qg [(88,_)] Qw Qmb (Qg [] Qw Qf3 (Qg [(90,_)] Qw Qli (Qg [(91,_)] Qw Qcne (Qg [(89,_),(92,_)] Qw Qpa (Qp Qpo ?_)))))))))
            refine Qp Qmb (Qg [] Qw Qmb (Qg [(96,_)] Qw Qnt (Qg [(97,_)] Qw Qmb (Qg [] Qw Qf4 (Qg [(99,_)] Qw Qli (Qg [(100,_)] Qw Qcne (Qg [(98,_),(101,_)] Qw Qpa (Qp Qpo (Qp Qmb ?_)))))))))
            refine Qg [] Qw Qmb (Qg [(105,_)] Qw Qnt (Qg [(106,_)] Qw Qmb (Qg [] Qw Qf5 (Qg [(108,_)] Qw (Qlg [.int .i64 _,.int .i64 _,.str _]) (Qg [] Qw (Qbd [.int .i64 _,.int .i64 _,.str _]) ?_)))))
            refine AOL.g (y:=.bool _) _ [(109,_),(110,_)] rfl (EntL.all ⟨Ent.self _ _,Ent.self _ _,trivial⟩) (fun hG=>P_neq_agg tok rfl rfl rfl rfl rfl) rfl ?_
            refine Qg [(107,_),(111,_)] Qw Qpa (Qp Qpo (AOL.nil (thenN (Qif (fun hc8=>?_) fun hc8=>?_))))
            · skip
              refine AW.seq (AW.region (Qp Qai (AOL.nil (thenN (Qrt ?_)))))
              refine Qr (.int .i64 _) ?_
              try simp only [str0,Bool.and_true] at *
              first
                | (simp only [resOf,nodeS,formS];(first | rw [if_neg (Bool.eq_false_iff.mp hc1)] | skip);(first | rw [if_neg (Bool.eq_false_iff.mp hc2)] | skip);(first | rw [if_neg (Bool.eq_false_iff.mp hc3)] | skip);(first | rw [if_neg (Bool.eq_false_iff.mp hc4)] | skip);(first | rw [if_neg (Bool.eq_false_iff.mp hc5)] | skip);(first | rw [if_pos hc8] | skip);first | done | rfl)
                | (try simp only [Bool.not_eq_true',Bool.not_eq_false'] at *
                   first
                   | (simp only [resOf,nodeS,formS,isV0, *,Bool.false_eq_true,↓reduceIte,Bool.true_or,Bool.or_true,Bool.false_or,Bool.or_false,Bool.true_and,Bool.and_true,Bool.false_and,Bool.and_false,Bool.not_true,Bool.not_false];done)
                   | (simp [resOf,nodeS,formS,isV0, *];done)
                   | (simp_all [resOf,nodeS,formS,isV0];done))
                | skip
            · skip
              refine Qst (AW.seq (AW.region (Qp Qai (AOL.nil (thenN (AW.ret ?_))))))
              refine Qr (.int .i64 _) ?_
              try simp only [str0,Bool.and_true] at *
              first
                | (simp only [resOf,nodeS,formS];(first | rw [if_neg (Bool.eq_false_iff.mp hc1)] | skip);(first | rw [if_neg (Bool.eq_false_iff.mp hc2)] | skip);(first | rw [if_neg (Bool.eq_false_iff.mp hc3)] | skip);(first | rw [if_neg (Bool.eq_false_iff.mp hc4)] | skip);(first | rw [if_neg (Bool.eq_false_iff.mp hc5)] | skip);(first | rw [if_neg (Bool.eq_false_iff.mp hc8)] | skip);first | done | rfl)
                | (try simp only [Bool.not_eq_true',Bool.not_eq_false'] at *
                   first
                   | (simp only [resOf,nodeS,formS,isV0, *,Bool.false_eq_true,↓reduceIte,Bool.true_or,Bool.or_true,Bool.false_or,Bool.or_false,Bool.true_and,Bool.and_true,Bool.false_and,Bool.and_false,Bool.not_true,Bool.not_false];done)
                   | (simp [resOf,nodeS,formS,isV0, *];done)
                   | (simp_all [resOf,nodeS,formS,isV0];done))
                | skip
theorem c83 (e:Ex):APure Tryz.prog 142 [.agg (cE e)] (.int .i64 (nodeS e)):=by
  refine APure.body (n:=131) tok Tryz.func142 rfl rfl rfl fun H=>?_
  refine AW.seq (AW.region (Qp Qbe (Qp Qai (AOL.nil (thenN (AW.seq (AW.region (Qp Qf0 (Qp Qli ?_)))))))))
  refine Qp (Qc rfl (c100 e.op)) ?_
  refine Qp Qai (AOL.nil (thenN (AW.seq (AW.seq (AW.region (Qp Qmi (Qp Qclt (AOL.nil (thenN (Qif (fun hc1=>?_) fun hc1=>?_))))))))))
  · skip
    refine AW.seq (AW.region (Qp Qai (AOL.nil (thenN (Qrt ?_)))))
    refine Qr (.int .i64 _) ?_
    rw [←rnode_eq]
    try simp only [str0,Bool.and_true] at *
    first
      | (simp only [resOf,rnodeS,formS];(first | rw [if_pos hc1] | skip);first | done | rfl)
      | (try simp only [Bool.not_eq_true',Bool.not_eq_false'] at *
         first
         | (simp only [resOf,rnodeS,formS,isV0, *,Bool.false_eq_true,↓reduceIte,Bool.true_or,Bool.or_true,Bool.false_or,Bool.or_false,Bool.true_and,Bool.and_true,Bool.false_and,Bool.and_false,Bool.not_true,Bool.not_false];done)
         | (simp [resOf,rnodeS,formS,isV0, *];done)
         | (simp_all [resOf,rnodeS,formS,isV0];done))
      | skip
  · skip
    refine Qst (AW.seq (AW.seq (AW.region (Qp Qf1 (Qp Qls ?_)))))
    refine Qp (P_len_sl (n:=e.args.length) tok rfl rfl rfl (by simp)) ?_
    refine Qp Qmi (Qp Qcne (AOL.nil (thenN (Qif (fun hc2=>?_) fun hc2=>?_))))
    · skip
      refine AW.seq (AW.region (Qp Qai (AOL.nil (thenN (Qrt ?_)))))
      refine Qr (.int .i64 _) ?_
      rw [←rnode_eq]
      try simp only [str0,Bool.and_true] at *
      first
        | (simp only [resOf,rnodeS,formS];(first | rw [if_neg (Bool.eq_false_iff.mp hc1)] | skip);(first | rw [if_pos hc2] | skip);first | done | rfl)
        | (try simp only [Bool.not_eq_true',Bool.not_eq_false'] at *
           first
           | (simp only [resOf,rnodeS,formS,isV0, *,Bool.false_eq_true,↓reduceIte,Bool.true_or,Bool.or_true,Bool.false_or,Bool.or_false,Bool.true_and,Bool.and_true,Bool.false_and,Bool.and_false,Bool.not_true,Bool.not_false];done)
           | (simp [resOf,rnodeS,formS,isV0, *];done)
           | (simp_all [resOf,rnodeS,formS,isV0];done))
        | skip
    · skip
      refine Qst (AW.seq (AW.region (Qp Qf0 (Qp Qli ?_))))
      refine Qp (Qc rfl (c84 e.op)) ?_
      refine Qp Qmu (Qp Qxb (Qp Qxb (Qp Qab (Qp Qab (AOL.nil (thenN (AW.seq (AW.seq (AW.region ?_)))))))))
      refine Qp Qmb (Qp Qmb (Qg [] Qw Qf2 (Qg [(27,_)] Qw Qli (Qg [(28,_)] Qw Qclt (Qg [(29,_)] Qw Qmb (Qg [] Qw Qf2 (Qg [(31,_)] Qw Qli (Qg [(32,_)] Qw Qcgq (Qg [(30,_),(33,_)] Qw Qpo ?_)))))))))
      refine Qp Qpa (Qp Qmb (Qg [] Qw Qmb (Qg [(37,_)] Qw Qmb (Qg [] Qw Qf3 (Qg [(39,_)] Qw Qli (Qg [(40,_)] Qw Qclt (Qg [(41,_)] Qw Qmb (Qg [] Qw Qf3 (Qg [(43,_)] Qw Qli ?_)))))))))
      refine Qg [(44,_)] Qw Qcgq (Qg [(42,_),(45,_)] Qw Qpo (Qg [(38,_),(46,_)] Qw Qpa (Qp Qpo (AOL.nil (thenN (Qif (fun hc3=>?_) fun hc3=>?_))))))
      · skip
        refine AW.seq (AW.region (Qp Qai (AOL.nil (thenN (Qrt ?_)))))
        refine Qr (.int .i64 _) ?_
        rw [←rnode_eq]
        try simp only [str0,Bool.and_true] at *
        first
          | (simp only [resOf,rnodeS,formS];(first | rw [if_neg (Bool.eq_false_iff.mp hc1)] | skip);(first | rw [if_neg (Bool.eq_false_iff.mp hc2)] | skip);(first | rw [if_pos hc3] | skip);first | done | rfl)
          | (try simp only [Bool.not_eq_true',Bool.not_eq_false'] at *
             first
             | (simp only [resOf,rnodeS,formS,isV0, *,Bool.false_eq_true,↓reduceIte,Bool.true_or,Bool.or_true,Bool.false_or,Bool.or_false,Bool.true_and,Bool.and_true,Bool.false_and,Bool.and_false,Bool.not_true,Bool.not_false];done)
             | (simp [resOf,rnodeS,formS,isV0, *];done)
             | (simp_all [resOf,rnodeS,formS,isV0];done))
          | skip
      · skip
        refine Qst (AW.seq (AW.region (Qp Qf0 (Qp Qli (Qp Qceq (Qp Qab (AOL.nil (thenN (AW.seq ?_)))))))))
        refine AW.seq (AW.region (Qp Qmb (Qp Qmb (Qg [] Qw Qf4 (Qg [(54,_)] Qw Qli (Qg [(55,_)] Qw Qclt (Qg [(56,_)] Qw Qmb (Qg [] Qw Qf4 (Qg [(58,_)] Qw Qli ?_)))))))))
        refine Qg [(59,_)] Qw Qcgt (Qg [(57,_),(60,_)] Qw Qpo (Qp Qpa (AOL.nil (thenN (Qif (fun hc4=>?_) fun hc4=>?_)))))
        · skip
          refine AW.seq (AW.region (Qp Qai (AOL.nil (thenN (Qrt ?_)))))
          refine Qr (.int .i64 _) ?_
          rw [←rnode_eq]
          try simp only [str0,Bool.and_true] at *
          first
            | (simp only [resOf,rnodeS,formS];(first | rw [if_neg (Bool.eq_false_iff.mp hc1)] | skip);(first | rw [if_neg (Bool.eq_false_iff.mp hc2)] | skip);(first | rw [if_neg (Bool.eq_false_iff.mp hc3)] | skip);(first | rw [if_pos hc4] | skip);first | done | rfl)
            | (try simp only [Bool.not_eq_true',Bool.not_eq_false'] at *
               first
               | (simp only [resOf,rnodeS,formS,isV0, *,Bool.false_eq_true,↓reduceIte,Bool.true_or,Bool.or_true,Bool.false_or,Bool.or_false,Bool.true_and,Bool.and_true,Bool.false_and,Bool.and_false,Bool.not_true,Bool.not_false];done)
               | (simp [resOf,rnodeS,formS,isV0, *];done)
               | (simp_all [resOf,rnodeS,formS,isV0];done))
            | skip
        · skip
          refine Qst (AW.seq (AW.region (Qp Qmb (Qp Qmb (Qg [] Qw Qf0 (Qg [(65,_)] Qw Qli (Qg [(66,_)] Qw Qceq (Qp Qpo (Qp Qab ?_)))))))))
          refine AOL.nil (thenN (AW.seq (AW.seq (AW.region (Qp Qmb (AOL.nil (thenN (Qif (fun hc5=>?_) fun hc5=>?_))))))))
          · skip
            refine AW.seq (AW.region (Qp Qf5 (Qp (Qlg [.int .i64 _,.int .i64 _,.str _]) ?_)))
            refine Qp (Qc rfl (c79 e.val)) ?_
            refine Qp Qai (AOL.nil (thenN (AW.seq (AW.region (Qp Qmi (Qp Qcne (AOL.nil (thenN (Qif (fun hc6=>?_) fun hc6=>?_)))))))))
            · skip
              refine AW.seq (AW.region (Qp Qmi (Qp Qai (AOL.nil (thenN (Qrt ?_))))))
              refine Qr (.int .i64 _) ?_
              rw [←rnode_eq]
              try simp only [str0,Bool.and_true] at *
              first
                | (simp only [resOf,rnodeS,formS];(first | rw [if_neg (Bool.eq_false_iff.mp hc1)] | skip);(first | rw [if_neg (Bool.eq_false_iff.mp hc2)] | skip);(first | rw [if_neg (Bool.eq_false_iff.mp hc3)] | skip);(first | rw [if_neg (Bool.eq_false_iff.mp hc4)] | skip);(first | rw [if_pos hc5] | skip);(first | rw [if_pos hc6] | skip);first | done | rfl)
                | (try simp only [Bool.not_eq_true',Bool.not_eq_false'] at *
                   first
                   | (simp only [resOf,rnodeS,formS,isV0, *,Bool.false_eq_true,↓reduceIte,Bool.true_or,Bool.or_true,Bool.false_or,Bool.or_false,Bool.true_and,Bool.and_true,Bool.false_and,Bool.and_false,Bool.not_true,Bool.not_false];done)
                   | (simp [resOf,rnodeS,formS,isV0, *];done)
                   | (simp_all [resOf,rnodeS,formS,isV0];done))
                | skip
            · skip
              refine Qst (AW.seq (AW.seq (AW.region (Qp Qmb (Qp Qmb (Qg [] Qw Qf4 (Qg [(78,_)] Qw Qli (Qg [] Qw Qf5 (Qg [(80,_)] Qw (Qlg [.int .i64 _,.int .i64 _,.str _]) ?_)))))))))
              refine AOL.g (y:=.bool _) _ [(79,_),(81,_)] rfl (EntL.all ⟨Ent.self _ _,Ent.self _ _,trivial⟩) (fun hG=>P_callf (by kernel_rfl) rfl rfl (c101 e.kind e.val)) rfl ?_
              refine Qg [(82,_)] Qw Qnt (Qg [(83,_)] Qw Qmb (Qg [] Qw Qf4 (Qg [(85,_)] Qw Qli (Qg [(86,_)] Qw Qceq (Qg [(87,_)] Qw Qmb (Qg [] Qw Qf5 (Qg [(89,_)] Qw (Qlg [.int .i64 _,.int .i64 _,.str _]) (Qg [] Qw (Qbd [.int .i64 _,.int .i64 _,.str _]) ?_))))))))
              refine AOL.g (y:=.bool _) _ [(90,_),(91,_)] rfl (EntL.all ⟨Ent.self _ _,Ent.self _ _,trivial⟩) (fun hG=>P_neq_agg tok rfl rfl rfl rfl rfl) rfl ?_
              refine Qg [(88,_),(92,_)] Qw Qpa (Qg [(84,_),(93,_)] Qw Qpo (Qp Qpa (AOL.nil (thenN (Qif (fun hc7=>?_) fun hc7=>?_)))))
              · skip
                refine AW.seq (AW.region (Qp Qai (AOL.nil (thenN (Qrt ?_)))))
                refine Qr (.int .i64 _) ?_
                rw [←rnode_eq]
                try simp only [str0,Bool.and_true] at *
                first
                  | (simp only [resOf,rnodeS,formS];(first | rw [if_neg (Bool.eq_false_iff.mp hc1)] | skip);(first | rw [if_neg (Bool.eq_false_iff.mp hc2)] | skip);(first | rw [if_neg (Bool.eq_false_iff.mp hc3)] | skip);(first | rw [if_neg (Bool.eq_false_iff.mp hc4)] | skip);(first | rw [if_pos hc5] | skip);(first | rw [if_neg (Bool.eq_false_iff.mp hc6)] | skip);(first | rw [if_pos hc7] | skip);first | done | rfl)
                  | (try simp only [Bool.not_eq_true',Bool.not_eq_false'] at *
                     first
                     | (simp only [resOf,rnodeS,formS,isV0, *,Bool.false_eq_true,↓reduceIte,Bool.true_or,Bool.or_true,Bool.false_or,Bool.or_false,Bool.true_and,Bool.and_true,Bool.false_and,Bool.and_false,Bool.not_true,Bool.not_false];done)
                     | (simp [resOf,rnodeS,formS,isV0, *];done)
                     | (simp_all [resOf,rnodeS,formS,isV0];done))
                  | skip
              · skip
                refine Qst (AW.seq (AW.seq (AW.region (Qp Qmb (Qp Qnt (Qp Qmb (Qg [] Qw Qf2 (Qg [(99,_)] Qw Qli (Qg [(100,_)] Qw Qcne ?_)))))))))
                refine Qp Qpa (Qp Qmb (Qg [] Qw Qmb (Qg [(104,_)] Qw Qnt (Qg [(105,_)] Qw Qmb (Qg [] Qw Qf3 (Qg [(107,_)] Qw Qli (Qg [(108,_)] Qw Qcne (Qg [(106,_),(109,_)] Qw Qpa (Qp Qpo ?_)))))))))
                refine Qp Qmb (Qg [] Qw Qmb (Qg [(113,_)] Qw Qnt (Qg [(114,_)] Qw Qmb (Qg [] Qw Qf4 (Qg [(116,_)] Qw Qli (Qg [(117,_)] Qw Qcne (Qg [(115,_),(118,_)] Qw Qpa (Qp Qpo (Qp Qmb ?_)))))))))
                refine Qg [] Qw Qmb (Qg [(122,_)] Qw Qnt (Qg [(123,_)] Qw Qmb (Qg [] Qw Qf5 (Qg [(125,_)] Qw (Qlg [.int .i64 _,.int .i64 _,.str _]) (Qg [] Qw (Qbd [.int .i64 _,.int .i64 _,.str _]) ?_)))))
                refine AOL.g (y:=.bool _) _ [(126,_),(127,_)] rfl (EntL.all ⟨Ent.self _ _,Ent.self _ _,trivial⟩) (fun hG=>P_neq_agg tok rfl rfl rfl rfl rfl) rfl ?_
                refine Qg [(124,_),(128,_)] Qw Qpa (Qp Qpo (AOL.nil (thenN (Qif (fun hc8=>?_) fun hc8=>?_))))
                · skip
                  refine AW.seq (AW.region (Qp Qai (AOL.nil (thenN (Qrt ?_)))))
                  refine Qr (.int .i64 _) ?_
                  rw [←rnode_eq]
                  try simp only [str0,Bool.and_true] at *
                  first
                    | (simp only [resOf,rnodeS,formS];(first | rw [if_neg (Bool.eq_false_iff.mp hc1)] | skip);(first | rw [if_neg (Bool.eq_false_iff.mp hc2)] | skip);(first | rw [if_neg (Bool.eq_false_iff.mp hc3)] | skip);(first | rw [if_neg (Bool.eq_false_iff.mp hc4)] | skip);(first | rw [if_pos hc5] | skip);(first | rw [if_neg (Bool.eq_false_iff.mp hc6)] | skip);(first | rw [if_neg (Bool.eq_false_iff.mp hc7)] | skip);(first | rw [if_pos hc8] | skip);first | done | rfl)
                    | (try simp only [Bool.not_eq_true',Bool.not_eq_false'] at *
                       first
                       | (simp only [resOf,rnodeS,formS,isV0, *,Bool.false_eq_true,↓reduceIte,Bool.true_or,Bool.or_true,Bool.false_or,Bool.or_false,Bool.true_and,Bool.and_true,Bool.false_and,Bool.and_false,Bool.not_true,Bool.not_false];done)
                       | (simp [resOf,rnodeS,formS,isV0, *];done)
                       | (simp_all [resOf,rnodeS,formS,isV0];done))
                    | skip
                · skip
                  refine Qst (AW.seq (AW.region (Qp Qai (AOL.nil (thenN (AW.ret ?_))))))
                  refine Qr (.int .i64 _) ?_
                  rw [←rnode_eq]
                  try simp only [str0,Bool.and_true] at *
                  first
                    | (simp only [resOf,rnodeS,formS];(first | rw [if_neg (Bool.eq_false_iff.mp hc1)] | skip);(first | rw [if_neg (Bool.eq_false_iff.mp hc2)] | skip);(first | rw [if_neg (Bool.eq_false_iff.mp hc3)] | skip);(first | rw [if_neg (Bool.eq_false_iff.mp hc4)] | skip);(first | rw [if_pos hc5] | skip);(first | rw [if_neg (Bool.eq_false_iff.mp hc6)] | skip);(first | rw [if_neg (Bool.eq_false_iff.mp hc7)] | skip);(first | rw [if_neg (Bool.eq_false_iff.mp hc8)] | skip);first | done | rfl)
                    | (try simp only [Bool.not_eq_true',Bool.not_eq_false'] at *
                       first
                       | (simp only [resOf,rnodeS,formS,isV0, *,Bool.false_eq_true,↓reduceIte,Bool.true_or,Bool.or_true,Bool.false_or,Bool.or_false,Bool.true_and,Bool.and_true,Bool.false_and,Bool.and_false,Bool.not_true,Bool.not_false];done)
                       | (simp [resOf,rnodeS,formS,isV0, *];done)
                       | (simp_all [resOf,rnodeS,formS,isV0];done))
                    | skip
          · skip
            refine Qst (AW.seq (AW.seq (AW.region (Qp Qmb (Qp Qmb (Qg [] Qw Qf4 (Qg [(78,_)] Qw Qli (Qg [] Qw Qf5 (Qg [(80,_)] Qw (Qlg [.int .i64 _,.int .i64 _,.str _]) ?_)))))))))
            refine AOL.g (y:=.bool _) _ [(79,_),(81,_)] rfl (EntL.all ⟨Ent.self _ _,Ent.self _ _,trivial⟩) (fun hG=>P_callf (by kernel_rfl) rfl rfl (c101 e.kind e.val)) rfl ?_
            refine Qg [(82,_)] Qw Qnt (Qg [(83,_)] Qw Qmb (Qg [] Qw Qf4 (Qg [(85,_)] Qw Qli (Qg [(86,_)] Qw Qceq (Qg [(87,_)] Qw Qmb (Qg [] Qw Qf5 (Qg [(89,_)] Qw (Qlg [.int .i64 _,.int .i64 _,.str _]) (Qg [] Qw (Qbd [.int .i64 _,.int .i64 _,.str _]) ?_))))))))
            refine AOL.g (y:=.bool _) _ [(90,_),(91,_)] rfl (EntL.all ⟨Ent.self _ _,Ent.self _ _,trivial⟩) (fun hG=>P_neq_agg tok rfl rfl rfl rfl rfl) rfl ?_
            refine Qg [(88,_),(92,_)] Qw Qpa (Qg [(84,_),(93,_)] Qw Qpo (Qp Qpa (AOL.nil (thenN (Qif (fun hc9=>?_) fun hc9=>?_)))))
            · skip
              refine AW.seq (AW.region (Qp Qai (AOL.nil (thenN (Qrt ?_)))))
              refine Qr (.int .i64 _) ?_
              rw [←rnode_eq]
              try simp only [str0,Bool.and_true] at *
              first
                | (simp only [resOf,rnodeS,formS];(first | rw [if_neg (Bool.eq_false_iff.mp hc1)] | skip);(first | rw [if_neg (Bool.eq_false_iff.mp hc2)] | skip);(first | rw [if_neg (Bool.eq_false_iff.mp hc3)] | skip);(first | rw [if_neg (Bool.eq_false_iff.mp hc4)] | skip);(first | rw [if_neg (Bool.eq_false_iff.mp hc5)] | skip);(first | rw [if_pos hc9] | skip);first | done | rfl)
                | (try simp only [Bool.not_eq_true',Bool.not_eq_false'] at *
                   first
                   | (simp only [resOf,rnodeS,formS,isV0, *,Bool.false_eq_true,↓reduceIte,Bool.true_or,Bool.or_true,Bool.false_or,Bool.or_false,Bool.true_and,Bool.and_true,Bool.false_and,Bool.and_false,Bool.not_true,Bool.not_false];done)
                   | (simp [resOf,rnodeS,formS,isV0, *];done)
                   | (simp_all [resOf,rnodeS,formS,isV0];done))
                | skip
            · skip
              refine Qst (AW.seq (AW.seq (AW.region (Qp Qmb (Qp Qnt (Qp Qmb (Qg [] Qw Qf2 (Qg [(99,_)] Qw Qli (Qg [(100,_)] Qw Qcne ?_)))))))))
              refine Qp Qpa (Qp Qmb (Qg [] Qw Qmb (Qg [(104,_)] Qw Qnt (Qg [(105,_)] Qw Qmb (Qg [] Qw Qf3 (Qg [(107,_)] Qw Qli (Qg [(108,_)] Qw Qcne (Qg [(106,_),(109,_)] Qw Qpa (Qp Qpo ?_)))))))))
              refine Qp Qmb (Qg [] Qw Qmb (Qg [(113,_)] Qw Qnt (Qg [(114,_)] Qw Qmb (Qg [] Qw Qf4 (Qg [(116,_)] Qw Qli (Qg [(117,_)] Qw Qcne (Qg [(115,_),(118,_)] Qw Qpa (Qp Qpo (Qp Qmb ?_)))))))))
              refine Qg [] Qw Qmb (Qg [(122,_)] Qw Qnt (Qg [(123,_)] Qw Qmb (Qg [] Qw Qf5 (Qg [(125,_)] Qw (Qlg [.int .i64 _,.int .i64 _,.str _]) (Qg [] Qw (Qbd [.int .i64 _,.int .i64 _,.str _]) ?_)))))
              refine AOL.g (y:=.bool _) _ [(126,_),(127,_)] rfl (EntL.all ⟨Ent.self _ _,Ent.self _ _,trivial⟩) (fun hG=>P_neq_agg tok rfl rfl rfl rfl rfl) rfl ?_
              refine Qg [(124,_),(128,_)] Qw Qpa (Qp Qpo (AOL.nil (thenN (Qif (fun hc10=>?_) fun hc10=>?_))))
              · skip
                refine AW.seq (AW.region (Qp Qai (AOL.nil (thenN (Qrt ?_)))))
                refine Qr (.int .i64 _) ?_
                rw [←rnode_eq]
                try simp only [str0,Bool.and_true] at *
                first
                  | (simp only [resOf,rnodeS,formS];(first | rw [if_neg (Bool.eq_false_iff.mp hc1)] | skip);(first | rw [if_neg (Bool.eq_false_iff.mp hc2)] | skip);(first | rw [if_neg (Bool.eq_false_iff.mp hc3)] | skip);(first | rw [if_neg (Bool.eq_false_iff.mp hc4)] | skip);(first | rw [if_neg (Bool.eq_false_iff.mp hc5)] | skip);(first | rw [if_neg (Bool.eq_false_iff.mp hc9)] | skip);(first | rw [if_pos hc10] | skip);first | done | rfl)
                  | (try simp only [Bool.not_eq_true',Bool.not_eq_false'] at *
                     first
                     | (simp only [resOf,rnodeS,formS,isV0, *,Bool.false_eq_true,↓reduceIte,Bool.true_or,Bool.or_true,Bool.false_or,Bool.or_false,Bool.true_and,Bool.and_true,Bool.false_and,Bool.and_false,Bool.not_true,Bool.not_false];done)
                     | (simp [resOf,rnodeS,formS,isV0, *];done)
                     | (simp_all [resOf,rnodeS,formS,isV0];done))
                  | skip
              · skip
                refine Qst (AW.seq (AW.region (Qp Qai (AOL.nil (thenN (AW.ret ?_))))))
                refine Qr (.int .i64 _) ?_
                rw [←rnode_eq]
                try simp only [str0,Bool.and_true] at *
                first
                  | (simp only [resOf,rnodeS,formS];(first | rw [if_neg (Bool.eq_false_iff.mp hc1)] | skip);(first | rw [if_neg (Bool.eq_false_iff.mp hc2)] | skip);(first | rw [if_neg (Bool.eq_false_iff.mp hc3)] | skip);(first | rw [if_neg (Bool.eq_false_iff.mp hc4)] | skip);(first | rw [if_neg (Bool.eq_false_iff.mp hc5)] | skip);(first | rw [if_neg (Bool.eq_false_iff.mp hc9)] | skip);(first | rw [if_neg (Bool.eq_false_iff.mp hc10)] | skip);first | done | rfl)
                  | (try simp only [Bool.not_eq_true',Bool.not_eq_false'] at *
                     first
                     | (simp only [resOf,rnodeS,formS,isV0, *,Bool.false_eq_true,↓reduceIte,Bool.true_or,Bool.or_true,Bool.false_or,Bool.or_false,Bool.true_and,Bool.and_true,Bool.false_and,Bool.and_false,Bool.not_true,Bool.not_false];done)
                     | (simp [resOf,rnodeS,formS,isV0, *];done)
                     | (simp_all [resOf,rnodeS,formS,isV0];done))
                  | skip
theorem c23 (e:Ex)(hs:sizeN e≤1048576):APure Tryz.prog 67 [.agg (cE e)] (.tuple [.int .i64 (sizeN e),.int .i64 (depthN e)]):=by
 revert hs
 induction e using Ex.ind
 rename_i e ih
 intro hs
 refine APure.body (n:=32) tok Tryz.func67 rfl rfl rfl fun H=>?_
 refine Qsr (Qp Qbe (Qp Qai (Qp Qai (Qns (Qp Qai (Qp Qai (Qnn (AW.seq (Qsr ?_)))))))))
 refine Qp Qf1 (Qp Qls ?_)
 refine Qp (P_len_sl (n:=e.args.length) tok rfl rfl rfl (by simp)) ?_
 refine Qp Qmi (Qnn (AW.block ?_))
 refine AW.sllen 11 rfl fun hlen=>?_
 simp only [List.length_map,maxLen] at hlen
 refine AW.loopS (fun (p:Nat×Nat×Nat)=>(⟨[(4,.int .i64 (p.2.1:Int)),(5,.int .i64 (p.2.2:Int)),(11,.sl 8 (e.args.map encE)),(12,.int .i64 e.args.length),(13,.int .i64 (p.1:Int))],H,32⟩:St)) (fun (p:Nat×Nat×Nat)=>p.1≤e.args.length∧sizeN e=p.2.1+((e.args.drop p.1).map sizeN).sum∧depthN e=max p.2.2 (((e.args.drop p.1).map depthN).foldr max 0)+1∧p.2.2≤1048576) (fun (p:Nat×Nat×Nat)=>e.args.length-p.1) ((0,1,0)) ?_ (GS.weaken ⟨rfl,rfl,rfl,rfl,rfl,trivial⟩ (.refl _)) ?_
 · exact ⟨Nat.zero_le _,by simpa using sizeN_eq e,by simpa using depthN_eq e,Nat.zero_le _⟩
 ·
  rintro p hR
  refine Qsr (Qp Qclt (Qnn (AW.seq (Qif (fun hc1=>?_) fun hc1=>?_))))
  ·
   obtain ⟨a,ha⟩:=get_lt hc1
   have hlt:=get_lt' ha
   have hm:=List.mem_of_getElem? ha
   have hsa:=size_arg hm
   have hda:=depth_le_size a
   have h1:=sum_drop p.2.1 ha
   have h2:=foldr_max_drop p.2.2 ha
   refine Qst (AW.seq (AW.block (Qsr ?_)))
   refine Qp (P_indexAddr (c:=[.int .i64 _,_,.int .i64 _,.int .i64 _,.int .i64 _,.int .i64 _,.int .i64 _,.str _]) tok rfl rfl rfl rfl rfl rfl (by omega) (encE_at ha)) ?_
   refine Qp Qle ?_
   refine Qe (E_alloc (l:=[.int .i64 0,.sl 8 [],.int .i64 0,.int .i64 0,.int .i64 0,.int .i64 0,.int .i64 0,.str []]) (by kernel_rfl)) ?_
   rintro _ _ ⟨b7,rfl,rfl⟩
   refine Qe (E_store (k:=0) (v:=.agg _) (cs':=[.int .i64 _,_,.int .i64 _,.int .i64 _,.int .i64 _,.int .i64 _,.int .i64 _,.str _]) (H2:=_::_) tok rfl rfl rfl rfl (rfl) rfl rfl rfl rfl) ?_
   rintro _ _ ⟨rfl,rfl⟩
   refine AOL.ghost (GS.freeze (t:=7) 0 rfl rfl) ?_
   refine Qns (Qp Qle ?_)
   refine Qp (Qc rfl (ih a hm (by have:=size_arg hm;omega))) ?_
   refine Qp Qmu (Qp Qxi (Qp Qxi (Qp Qai (Qp Qai (Qnn (AW.region (Qp Qmi (Qp Qmi (Qp Qad ?_)))))))))
   refine Qp Qmi (Qp Qmi ?_)
   refine Qp (P_max rfl rfl) ?_
   refine Qp Qai (Qp Qai (AOL.nil (blkN (thenN (AW.region (Qp Qad (Qp Qmi (Qnn ?_))))))))
   refine ⟨(p.1+1,p.2.1+sizeN a,max p.2.2 (depthN a)),?_,?_,GS.weaken ⟨rfl,congrArg (AV.int .i64) (by simp only;omega),rfl,rfl,rfl,trivial⟩ (.refl _)⟩
   · simp only;exact ⟨hlt,by omega,by omega,by omega⟩
   · first | omega | (simp only;omega)
  ·
   have hd:=get_end hc1
   refine AW.exit ?_
   refine thenE (thenE (blkHit (thenN (Qsr (Qp Qmi (Qp Qmi ?_))))))
   refine Qp (P_add rfl rfl rfl (by have:=depth_le_size e;constructor <;> omega)) ?_
   refine Qp Qai (Qp Qai (Qnn (AW.ret ?_)))
   refine Qrr (.int .i64 _) (.int .i64 _) ?_
   rw [hd] at hR
   simp only [List.map_nil,List.sum_nil,List.foldr_nil] at hR
   simp only [resOf,AV.tuple.injEq,List.cons.injEq,AV.int.injEq,true_and,and_true]
   omega
theorem c48 (L:Nat)(e:Ex)(hs:sizeN e≤1048576):APure Tryz.prog 56 [.agg (cE e),.int .i64 (L:Int)] (.int .i64 (countN L e)):=by
 revert hs
 induction e using Ex.ind
 rename_i e ih
 intro hs
 refine APure.body (n:=29) tok Tryz.func56 rfl rfl rfl fun H=>?_
 refine Qsr (Qp Qbe (Qp Qai (Qns (Qp Qai (Qnn (AW.seq (Qsr (Qp Qai (Qnn ?_)))))))))
 refine AW.block ?_
 refine AW.loopS (fun (p:Nat×Nat)=>(⟨[(1,.int .i64 (L:Int)),(2,.ptr (cE e)),(5,.int .i64 (p.2:Int)),(6,.int .i64 (p.1:Int))],H,29⟩:St)) (fun (p:Nat×Nat)=>p.1≤e.args.length∧countN L e=countNs L (e.args.drop p.1) p.2∧p.2+((e.args.drop p.1).map sizeN).sum≤sizeN e∧e.args.length≤1048576) (fun (p:Nat×Nat)=>e.args.length-p.1) ((0,1)) ?_ (GS.weaken ⟨rfl,rfl,rfl,rfl,trivial⟩ (.refl _)) ?_
 · exact ⟨Nat.zero_le _,by simpa using countN_eq L e,by simpa using Nat.le_of_eq (sizeN_eq e).symm,args_le e hs⟩
 ·
  rintro p hR
  refine AW.seq (Qsr (Qp Qmi (Qp Qf1 (Qp Qls ?_))))
  refine Qp (P_len_sl (n:=e.args.length) tok rfl rfl rfl (by simp)) ?_
  refine Qp Qclt (Qp Qmb (Qg [] Qw Qmi (Qg [] Qw Qmi ?_)))
  refine AOL.g (y:=.bool _) _ [(13,_),(14,_)] rfl (EntL.all ⟨Ent.self _ _,Ent.self _ _,trivial⟩) (fun hG=>P_leq rfl rfl) rfl ?_
  refine Qp Qpa (Qnn (Qif (fun hc1=>?_) fun hc1=>?_))
  ·
   simp only [Bool.and_eq_true] at hc1
   obtain ⟨a,ha⟩:=get_lt hc1.1
   have hlt:=get_lt' ha
   have hm:=List.mem_of_getElem? ha
   have hsa:=size_arg hm
   have hle:p.2≤L:=by simpa using hc1.2
   have h1:=sum_drop p.2 ha
   have h2:=count_spec L a
   have h3:=hR.2.1
   rw [drop_cons ha,countNs,if_pos hle] at h3
   refine Qst (AW.seq (AW.block (AW.region (Qp Qmi (Qp Qf1 (Qp Qls (Qp Qmi ?_)))))))
   refine Qp (P_indexAddr (c:=[.int .i64 _,_,.int .i64 _,.int .i64 _,.int .i64 _,.int .i64 _,.int .i64 _,.str _]) tok rfl rfl rfl rfl rfl rfl (by omega) (encE_at ha)) ?_
   refine Qp Qle (Qp Qmi ?_)
   refine Qp (Qc rfl (ih a hm (by have:=size_arg hm;omega))) ?_
   refine Qp Qad (Qp Qai (AOL.nil (blkN (thenN (AW.region (Qp Qmi (Qp Qad (Qp Qai (Qnn ?_)))))))))
   refine ⟨(p.1+1,p.2+countN L a),?_,?_,GS.weaken ⟨rfl,rfl,rfl,rfl,trivial⟩ (.refl _)⟩
   · simp only;exact ⟨hlt,h3,by omega,hR.2.2.2⟩
   · first | omega | (simp only;omega)
  ·
   refine AW.exit ?_
   refine thenE (thenE (blkHit (thenN (Qsr (Qp Qmi (Qp Qai (Qnn (AW.ret ?_))))))))
   refine Qr (.int .i64 _) ?_
   simp only [resOf,AV.int.injEq,true_and]
   rw [hR.2.1]
   simp only [Bool.and_eq_false_iff] at hc1
   rcases hc1 with hc1 | hc1
   · rw [get_end hc1,countNs]
   · rw [countNs_stop (by simpa using hc1)]
theorem c49 (e:Ex)(hs:sizeN e≤1048576):APure Tryz.prog 57 [.agg (cE e)] (.int .i64 (depthN e)):=by
 revert hs
 induction e using Ex.ind
 rename_i e ih
 intro hs
 refine APure.body (n:=22) tok Tryz.func57 rfl rfl rfl fun H=>?_
 refine Qsr (Qp Qbe (Qp Qai (Qns (Qp Qai (Qnn (AW.seq (Qsr (Qp Qai (Qnn ?_)))))))))
 refine AW.block ?_
 refine AW.loopS (fun (p:Nat×Nat)=>(⟨[(1,.ptr (cE e)),(3,.int .i64 (p.2:Int)),(4,.int .i64 (p.1:Int))],H,22⟩:St)) (fun (p:Nat×Nat)=>p.1≤e.args.length∧depthN e=max p.2 (((e.args.drop p.1).map depthN).foldr max 0)+1∧p.2≤1048576∧e.args.length≤1048576) (fun (p:Nat×Nat)=>e.args.length-p.1) ((0,0)) ?_ (GS.weaken ⟨rfl,rfl,rfl,trivial⟩ (.refl _)) ?_
 · exact ⟨Nat.zero_le _,by simpa using depthN_eq e,Nat.zero_le _,args_le e hs⟩
 ·
  rintro p hR
  refine AW.seq (Qsr (Qp Qmi (Qp Qf1 (Qp Qls ?_))))
  refine Qp (P_len_sl (n:=e.args.length) tok rfl rfl rfl (by simp)) ?_
  refine Qp Qclt (Qnn (Qif (fun hc1=>?_) fun hc1=>?_))
  ·
   obtain ⟨a,ha⟩:=get_lt hc1
   have hlt:=get_lt' ha
   have hm:=List.mem_of_getElem? ha
   have hsa:=size_arg hm
   have hda:=depth_le_size a
   have h2:=foldr_max_drop p.2 ha
   refine Qst (AW.seq (AW.block (AW.region (Qp Qmi (Qp Qf1 (Qp Qls (Qp Qmi ?_)))))))
   refine Qp (P_indexAddr (c:=[.int .i64 _,_,.int .i64 _,.int .i64 _,.int .i64 _,.int .i64 _,.int .i64 _,.str _]) tok rfl rfl rfl rfl rfl rfl (by omega) (encE_at ha)) ?_
   refine Qp Qle ?_
   refine Qp (Qc rfl (ih a hm (by have:=size_arg hm;omega))) ?_
   refine Qp (P_max rfl rfl) ?_
   refine Qp Qai (AOL.nil (blkN (thenN (AW.region (Qp Qmi (Qp Qad (Qp Qai (Qnn ?_))))))))
   refine ⟨(p.1+1,max p.2 (depthN a)),?_,?_,GS.weaken ⟨rfl,congrArg (AV.int .i64) (by simp only;omega),rfl,trivial⟩ (.refl _)⟩
   · simp only;exact ⟨hlt,by omega,by omega,hR.2.2.2⟩
   · first | omega | (simp only;omega)
  ·
   have hd:=get_end hc1
   refine AW.exit ?_
   refine thenE (thenE (blkHit (thenN (Qsr (Qp Qmi ?_)))))
   refine Qp (P_add rfl rfl rfl (by have:=depth_le_size e;constructor <;> omega)) ?_
   refine Qp Qai (Qnn (AW.ret ?_))
   refine Qr (.int .i64 _) ?_
   rw [hd] at hR
   simp only [List.map_nil,List.foldr_nil] at hR
   simp only [resOf,AV.int.injEq,true_and]
   omega
theorem c50 (e:Ex)(hs:sizeN e≤1048576):APure Tryz.prog 97 [.agg (cE e)] (.int .i64 (nodesS e)):=by
 revert hs
 induction e using Ex.ind
 rename_i e ih
 intro hs
 refine APure.body (n:=27) tok Tryz.func97 rfl rfl rfl fun H=>?_
 refine Qsr (Qp Qbe (Qp Qai (Qnn (AW.seq (Qsr (Qp Qle ?_))))))
 refine Qp (Qc rfl (c83 e)) ?_
 refine Qp Qai (Qns (Qp Qmi (Qp Qcne (Qnn (Qif (fun hc1=>?_) fun hc1=>?_)))))
 ·
  refine Qsr (Qp Qmi (Qp Qai (Qnn (Qrt ?_))))
  refine Qr (.int .i64 _) ?_
  simp only [resOf,AV.int.injEq,true_and]
  rw [nodesS_eq,if_pos hc1]
 ·
  have hn:nodesS e=firstS nodesS e.args:=by rw [nodesS_eq,if_neg (by simpa using hc1)]
  refine Qst (AW.seq (Qsr (Qp Qai (Qnn (AW.block ?_)))))
  have hlen:=args_le e hs
  refine AW.loopS (fun (p:Nat)=>(⟨[(1,.ptr (cE e)),(4,.int .i64 (p:Int))],H,27⟩:St)) (fun (p:Nat)=>p≤e.args.length∧nodesS e=firstS nodesS (e.args.drop p)) (fun (p:Nat)=>e.args.length-p) (0) ?_ (GS.weaken ⟨rfl,rfl,trivial⟩ (.refl _)) ?_
  · exact ⟨Nat.zero_le _,by simpa using hn⟩
  ·
   rintro p hR
   refine AW.seq (Qsr (Qp Qmi (Qp Qf1 (Qp Qls ?_))))
   refine Qp (P_len_sl (n:=e.args.length) tok rfl rfl rfl (by simp)) ?_
   refine Qp Qclt (Qnn (Qif (fun hc2=>?_) fun hc2=>?_))
   ·
    obtain ⟨a,ha⟩:=get_lt hc2
    have hlt:=get_lt' ha
    have hm:=List.mem_of_getElem? ha
    refine Qst (AW.seq (AW.block (Qsr (Qp Qf1 (Qp Qls (Qp Qmi ?_))))))
    refine Qp (P_indexAddr (c:=[.int .i64 _,_,.int .i64 _,.int .i64 _,.int .i64 _,.int .i64 _,.int .i64 _,.str _]) tok rfl rfl rfl rfl rfl rfl (by omega) (encE_at ha)) ?_
    refine Qp Qle ?_
    refine Qp (Qc rfl (ih a hm (by have:=size_arg hm;omega))) ?_
    refine Qp Qai (Qns (Qp Qmi (Qp Qcne (Qnn (Qif (fun hc3=>?_) fun hc3=>?_)))))
    ·
     refine Qsr (Qp Qmi (Qp Qai (Qnn (AW.ret (blkR (thenR (thenR (blkR (thenR ?_)))))))))
     refine Qr (.int .i64 _) ?_
     simp only [resOf,AV.int.injEq,true_and]
     rw [hR.2,drop_cons ha,firstS,if_pos hc3]
    ·
     refine AW.skip (blkN (thenN (AW.region (Qp Qmi (Qp Qad (Qp Qai (Qnn ?_)))))))
     refine ⟨p+1,?_,?_,GS.weaken ⟨rfl,rfl,trivial⟩ (.refl _)⟩
     · exact ⟨hlt,by rw [hR.2,drop_cons ha,firstS,if_neg (by simpa using hc3)]⟩
     · first | omega | (simp only;omega)
   ·
    have hd:=get_end hc2
    refine AW.exit ?_
    refine thenE (thenE (blkHit (thenN (Qsr (Qp Qai (Qnn (AW.ret ?_)))))))
    refine Qr (.int .i64 _) ?_
    simp only [resOf,AV.int.injEq,true_and]
    rw [hR.2,hd];rfl
theorem c46 (f:Nat)(hfn:fnB Tryz.prog f=true)(cap:List AV)(fs:Ex→Int)(Pr:Ex→Prop)(hp:∀a,Pr a→∀b∈a.args,Pr b)(hf:∀a,Pr a→APure Tryz.prog f (.agg (cE a)::cap) (.int .i64 (fs a)))(e:Ex)(he:Pr e):APure Tryz.prog 68 [.agg (cE e),.fn (.func f) [] cap] (.int .i64 (visitS fs e)):=by
 revert he
 induction e using Ex.ind
 rename_i e ih
 intro he
 refine APure.body (n:=29) tok Tryz.func68 rfl rfl rfl fun H=>?_
 refine Qsr (Qp Qbe (Qp Qai (Qnn (AW.seq (Qsr ?_)))))
 refine Qp (P_move (v:=.fn _ _ _) rfl) ?_
 refine Qp Qle ?_
 refine Qp (P_call hfn rfl rfl rfl (hf e he)) ?_
 refine Qp Qai (Qns (Qp Qmi (Qp Qcne (Qnn (Qif (fun hc1=>?_) fun hc1=>?_)))))
 ·
  refine Qsr (Qp Qmi (Qp Qai (Qnn (Qrt ?_))))
  refine Qr (.int .i64 _) ?_
  simp only [resOf,AV.int.injEq,true_and]
  rw [visitS_eq,if_pos hc1]
 ·
  have hn:visitS fs e=firstS (visitS fs) e.args:=by rw [visitS_eq,if_neg (by simpa using hc1)]
  refine Qst (AW.seq (Qsr (Qp Qf1 (Qp Qls ?_))))
  refine Qp (P_len_sl (n:=e.args.length) tok rfl rfl rfl (by simp)) ?_
  refine Qp Qmi (Qnn (AW.block ?_))
  refine AW.sllen 16 rfl fun hlen=>?_
  simp only [List.length_map,maxLen] at hlen
  refine AW.loopS (fun (p:Nat)=>(⟨[(1,.fn (.func f) [] cap),(16,.sl 8 (e.args.map encE)),(17,.int .i64 e.args.length),(18,.int .i64 (p:Int))],H,29⟩:St)) (fun (p:Nat)=>p≤e.args.length∧visitS fs e=firstS (visitS fs) (e.args.drop p)) (fun (p:Nat)=>e.args.length-p) (0) ?_ (GS.weaken ⟨rfl,rfl,rfl,rfl,trivial⟩ (.refl _)) ?_
  · exact ⟨Nat.zero_le _,by simpa using hn⟩
  ·
   rintro p hR
   refine Qsr (Qp Qclt (Qnn (AW.seq (Qif (fun hc2=>?_) fun hc2=>?_))))
   ·
    obtain ⟨a,ha⟩:=get_lt hc2
    have hlt:=get_lt' ha
    have hm:=List.mem_of_getElem? ha
    refine Qst (AW.seq (AW.block (Qsr ?_)))
    refine Qp (P_indexAddr (c:=[.int .i64 _,_,.int .i64 _,.int .i64 _,.int .i64 _,.int .i64 _,.int .i64 _,.str _]) tok rfl rfl rfl rfl rfl rfl (by omega) (encE_at ha)) ?_
    refine Qp Qle ?_
    refine Qe (E_alloc (l:=[.int .i64 0,.sl 8 [],.int .i64 0,.int .i64 0,.int .i64 0,.int .i64 0,.int .i64 0,.str []]) (by kernel_rfl)) ?_
    rintro _ _ ⟨b7,rfl,rfl⟩
    refine Qe (E_store (k:=0) (v:=.agg _) (cs':=[.int .i64 _,_,.int .i64 _,.int .i64 _,.int .i64 _,.int .i64 _,.int .i64 _,.str _]) (H2:=_::_) tok rfl rfl rfl rfl (rfl) rfl rfl rfl rfl) ?_
    rintro _ _ ⟨rfl,rfl⟩
    refine AOL.ghost (GS.freeze (t:=7) 0 rfl rfl) ?_
    refine Qns (Qp Qle ?_)
    refine Qp (P_move (v:=.fn _ _ _) rfl) ?_
    refine Qp (Qc rfl (ih a hm (hp e he a hm))) ?_
    refine Qp Qai (Qns (Qp Qmi (Qp Qcne (Qnn (Qif (fun hc3=>?_) fun hc3=>?_)))))
    ·
     refine Qsr (Qp Qmi (Qp Qai (Qnn (AW.ret (blkR (thenR (thenR (blkR (thenR ?_)))))))))
     refine Qr (.int .i64 _) ?_
     simp only [resOf,AV.int.injEq,true_and]
     rw [hR.2,drop_cons ha,firstS,if_pos hc3]
    ·
     refine AW.skip (blkN (thenN (AW.region (Qp Qad (Qp Qmi (Qnn ?_))))))
     refine ⟨p+1,?_,?_,GS.weaken ⟨rfl,rfl,rfl,rfl,trivial⟩ (.refl _)⟩
     · exact ⟨hlt,by rw [hR.2,drop_cons ha,firstS,if_neg (by simpa using hc3)]⟩
     · first | omega | (simp only;omega)
   ·
    have hd:=get_end hc2
    refine AW.exit ?_
    refine thenE (thenE (blkHit (thenN (Qsr (Qp Qai (Qnn (AW.ret ?_)))))))
    refine Qr (.int .i64 _) ?_
    simp only [resOf,AV.int.injEq,true_and]
    rw [hR.2,hd];rfl
theorem c21 (e:Ex)(hs:sizeN e≤1048576):APure Tryz.prog 29 [.agg (cE e)] (.int .i64 (checkS e)):=by
  refine APure.body (n:=18) tok Tryz.func29 rfl rfl rfl fun H=>?_
  refine AW.seq (AW.region (Qp Qbe (Qp Qai (AOL.nil (thenN (AW.seq (AW.region (Qp Qle ?_))))))))
  refine Qp (Qc rfl (c23 e hs)) ?_
  refine Qp Qmu (Qp Qxi (Qp Qxi (Qp Qai (Qp Qai (AOL.nil (thenN (AW.seq (AW.block (AW.seq ?_)))))))))
  refine AW.region (Qp Qmi (Qp Qcgt (Qp Qab (AOL.nil (thenN (Qif (fun hc1=>?_) fun hc1=>?_))))))
  · skip
    refine AW.seq (AW.region (Qp Qai (AOL.nil (thenN (AW.ret (blkR (thenR ?_)))))))
    refine Qr (.int .i64 _) ?_
    try simp only [str0,Bool.and_true] at *
    first
      | (simp only [resOf,checkS];(first | rw [if_pos hc1] | skip);first | done | rfl)
      | (try simp only [Bool.not_eq_true',Bool.not_eq_false'] at *
         first
         | (simp only [resOf,checkS, *,Bool.false_eq_true,↓reduceIte,Bool.true_or,Bool.or_true,Bool.false_or,Bool.or_false,Bool.true_and,Bool.and_true,Bool.false_and,Bool.and_false,Bool.not_true,Bool.not_false];done)
         | (simp [resOf,checkS, *];done)
         | (simp_all [resOf,checkS];done))
      | skip
  · skip
    refine AW.seq (AW.region (Qp Qmi (Qp Qcgt (Qp Qab (AOL.nil (thenN (Qif (fun hc2=>?_) fun hc2=>?_)))))))
    · skip
      refine AW.seq (AW.region (Qp Qai (AOL.nil (thenN (AW.ret (blkR (thenR ?_)))))))
      refine Qr (.int .i64 _) ?_
      try simp only [str0,Bool.and_true] at *
      first
        | (simp only [resOf,checkS];(first | rw [if_neg (Bool.eq_false_iff.mp hc1)] | skip);(first | rw [if_pos hc2] | skip);first | done | rfl)
        | (try simp only [Bool.not_eq_true',Bool.not_eq_false'] at *
           first
           | (simp only [resOf,checkS, *,Bool.false_eq_true,↓reduceIte,Bool.true_or,Bool.or_true,Bool.false_or,Bool.or_false,Bool.true_and,Bool.and_true,Bool.false_and,Bool.and_false,Bool.not_true,Bool.not_false];done)
           | (simp [resOf,checkS, *];done)
           | (simp_all [resOf,checkS];done))
        | skip
    · skip
      refine AW.skip (blkN (thenN (AW.seq (AW.region (Qp Qle ?_)))))
      refine Qp (Qc rfl (c46 69 (by kernel_rfl) [] nodeS (fun _=>True) (fun _ _ _ _=>trivial) (fun a _=>c47 a) e trivial)) ?_
      refine Qp Qai (AOL.nil (thenN (AW.ret ?_)))
      refine Qr (.int .i64 _) ?_
      try simp only [str0,Bool.and_true] at *
      first
        | (simp only [resOf,checkS];(first | rw [if_neg (Bool.eq_false_iff.mp hc1)] | skip);(first | rw [if_neg (Bool.eq_false_iff.mp hc2)] | skip);first | done | rfl)
        | (try simp only [Bool.not_eq_true',Bool.not_eq_false'] at *
           first
           | (simp only [resOf,checkS, *,Bool.false_eq_true,↓reduceIte,Bool.true_or,Bool.or_true,Bool.false_or,Bool.or_false,Bool.true_and,Bool.and_true,Bool.false_and,Bool.and_false,Bool.not_true,Bool.not_false];done)
           | (simp [resOf,checkS, *];done)
           | (simp_all [resOf,checkS];done))
        | skip
theorem c25 (e:Ex)(hs:sizeN e≤1048576):APure Tryz.prog 59 [.agg (cE e)] (.int .i64 (checkS e)):=by
  refine APure.body (n:=11) tok Tryz.func59 rfl rfl rfl fun H=>?_
  refine AW.seq (AW.region (Qp Qbe (Qp Qai (AOL.nil (thenN (AW.seq (AW.seq (AW.region (Qp Qle ?_)))))))))
  refine Qp (Qc rfl (c48 64 e hs)) ?_
  refine Qp Qcgt (AOL.nil (thenN (Qif (fun hc1=>?_) fun hc1=>?_)))
  · skip
    have hct:decide (64<(sizeN e:Int))=true:=by have:=count_gt 64 e;simp at hc1 ⊢;omega
    refine AW.seq (AW.region (Qp Qai (AOL.nil (thenN (Qrt ?_)))))
    refine Qr (.int .i64 _) ?_
    try simp only [str0,Bool.and_true] at *
    first
      | (simp only [resOf,checkS];(first | rw [if_pos hc1] | skip);first | done | rfl)
      | (try simp only [Bool.not_eq_true',Bool.not_eq_false'] at *
         first
         | (simp only [resOf,checkS, *,Bool.false_eq_true,↓reduceIte,Bool.true_or,Bool.or_true,Bool.false_or,Bool.or_false,Bool.true_and,Bool.and_true,Bool.false_and,Bool.and_false,Bool.not_true,Bool.not_false];done)
         | (simp [resOf,checkS, *];done)
         | (simp_all [resOf,checkS];done))
      | skip
  · skip
    have hct:decide (64<(sizeN e:Int))=false:=by have:=count_gt 64 e;simp at hc1 ⊢;omega
    refine Qst (AW.seq (AW.seq (AW.region (Qp Qle ?_))))
    refine Qp (Qc rfl (c49 e hs)) ?_
    refine Qp Qcgt (AOL.nil (thenN (Qif (fun hc2=>?_) fun hc2=>?_)))
    · skip
      refine AW.seq (AW.region (Qp Qai (AOL.nil (thenN (Qrt ?_)))))
      refine Qr (.int .i64 _) ?_
      try simp only [str0,Bool.and_true] at *
      first
        | (simp only [resOf,checkS];(first | rw [if_neg (Bool.eq_false_iff.mp hc1)] | skip);(first | rw [if_pos hc2] | skip);first | done | rfl)
        | (try simp only [Bool.not_eq_true',Bool.not_eq_false'] at *
           first
           | (simp only [resOf,checkS, *,Bool.false_eq_true,↓reduceIte,Bool.true_or,Bool.or_true,Bool.false_or,Bool.or_false,Bool.true_and,Bool.and_true,Bool.false_and,Bool.and_false,Bool.not_true,Bool.not_false];done)
           | (simp [resOf,checkS, *];done)
           | (simp_all [resOf,checkS];done))
        | skip
    · skip
      refine Qst (AW.seq (AW.region (Qp Qle ?_)))
      refine Qp (Qc rfl (c50 e hs)) ?_
      refine Qp Qai (AOL.nil (thenN (AW.ret ?_)))
      refine Qr (.int .i64 _) ?_
      try simp only [str0,Bool.and_true] at *
      first
        | (simp only [resOf,checkS];(first | rw [if_neg (Bool.eq_false_iff.mp hc1)] | skip);(first | rw [if_neg (Bool.eq_false_iff.mp hc2)] | skip);first | done | rfl)
        | (try simp only [Bool.not_eq_true',Bool.not_eq_false'] at *
           first
           | (simp only [resOf,checkS, *,Bool.false_eq_true,↓reduceIte,Bool.true_or,Bool.or_true,Bool.false_or,Bool.or_false,Bool.true_and,Bool.and_true,Bool.false_and,Bool.and_false,Bool.not_true,Bool.not_false];done)
           | (simp [resOf,checkS, *];done)
           | (simp_all [resOf,checkS];done))
        | skip
theorem c34 (e:Ex)(hs:sizeN e≤1048576):APure Tryz.prog 16 [.agg (cE e)] (.bool (decide (sizeN e≤200∧depthN e≤100))):=by
 refine APure.body (n:=11) tok Tryz.func16 rfl rfl rfl fun H=>?_
 refine Qsr (Qp Qbe (Qp Qab (Qns (Qp Qle ?_))))
 refine Qp (Qc rfl (c48 200 e hs)) ?_
 refine Qp Qclq (Qp Qmb (Qg [] Qw Qle ?_))
 refine Qg [(7,_)] Qw (Qc rfl (c49 e hs)) ?_
 refine Qg [(8,_)] Qw Qclq (Qp Qpa (Qp Qab (Qnn (AW.ret ?_))))
 refine Qr (.bool _) ?_
 have:=count_gt 200 e
 show AV.bool _=AV.bool _
 congr 1
 rw [Bool.eq_iff_iff]
 simp
 omega

set_option maxHeartbeats 400000
set_option maxRecDepth 20000

theorem head_at {s:List UInt8}(h:s.length≠0):s[(0:Int).toNat]? = some (s.headD 0):=by
 cases s with
 | nil=>exact absurd rfl h
 | cons a r=>rfl
theorem guard_len {s:List UInt8}{x:Bool}(h:allG [((((s.length:Nat):Int)==0||x),false)]):s.length≠0:=by
 have h1:=h _ (List.mem_singleton.2 rfl)
 intro h0
 simp [h0] at h1
theorem byte_at {s:List UInt8}{k:Nat}{c:UInt8}(h:s[k]? = some c):s[((k:Nat):Int).toNat]? = some c:=h
theorem name_no {s:List UInt8}(h:s.length=0∨24<s.length∨digS ((s.headD 0).toNat)=true):nameS s=false:=by
 unfold nameS
 rcases h with h | h | h
 ·
  have e:(s.length==0)=true:=by simp [h]
  rw [e];rfl
 ·
  have e:decide (s.length≤24)=false:=by simp;omega
  rw [e,Bool.and_false,Bool.false_and,Bool.false_and]
 · rw [h,Bool.not_true,Bool.and_false,Bool.false_and]
theorem name_yes {s:List UInt8}(h:s.length≠0∧s.length≤24∧digS ((s.headD 0).toNat)=false)(ha:s.all chS=true):nameS s=true:=by
 unfold nameS
 have e1:(s.length==0)=false:=by rw [beq_eq_false_iff_ne];exact h.1
 have e2:decide (s.length≤24)=true:=by simp;exact h.2.1
 rw [e1,e2,h.2.2,ha];rfl
theorem name_nolet {s:List UInt8}(h:letS ((s.headD 0).toNat)=false):nameS s=false:=by
  cases s with
  | nil=>rfl
  | cons a r=>
    have h1:letS a.toNat=false:=h
    cases hd:digS a.toNat with
    | true=>exact name_no (.inr (.inr hd))
    | false=>
      unfold nameS
      have:(a::r).all chS=false:=by rw [List.all_cons];unfold chS;rw [h1,hd];rfl
      rw [this,Bool.and_false]
theorem name_bad {s:List UInt8}{c:UInt8}(hm:c∈s)(h:chS c=false):s.all chS=false:=by
 rw [Bool.eq_false_iff];intro ha;rw [List.all_eq_true.1 ha c hm] at h;cases h
theorem all_take_get {s:List UInt8}{k:Nat}{c:UInt8}(hc:s[k]? = some c)(h:(s.take k).all chS=true)(hx:chS c=true):(s.take (k+1)).all chS=true:=by
 rw [take_get hc,List.all_append,h];simp [hx]
theorem let_dig {b:UInt8}(h:letS b.toNat=true):digS b.toNat=false:=by
 simp [letS,digS] at h ⊢;omega
theorem names_take {l:List Fi}{k:Nat}{a:Fi}(h:l[k]? = some a):(l.take (k+1)).map (·.name)=(l.take k).map (·.name) ++ [a.name]:=by rw [take_get h];simp
theorem tnames_take {l:List Sc}{k:Nat}{a:Sc}(h:l[k]? = some a):(l.take (k+1)).map (·.name)=(l.take k).map (·.name) ++ [a.name]:=by rw [take_get h];simp

theorem c111 (n:Int):APure Tryz.prog 186 [.int .u8 n] (.bool (digS n)):=by
 refine APure.body (n:=9) tok Tryz.func186 rfl rfl rfl fun H=>?_
 refine Qsr (Qp Qab (Qns ?_))
 refine Qp (P_move (v:=.int .u8 _) rfl) ?_
 refine Qp Qcgq (Qp Qmb ?_)
 refine AOL.g (y:=.int .u8 _) _ [] rfl (EntL.all trivial) (fun hG=>P_move (v:=.int .u8 _) rfl) rfl ?_
 refine Qg [(6,_)] Qw Qclq (Qp Qpa (Qp Qab (Qnn (AW.ret ?_))))
 refine Qr (.bool _) ?_
 rfl
theorem c112 (n:Int):APure Tryz.prog 187 [.int .u8 n] (.bool (letS n)):=by
 refine APure.body (n:=21) tok Tryz.func187 rfl rfl rfl fun H=>?_
 refine Qsr (Qp Qab (Qns ?_))
 refine Qp (P_move (v:=.int .u8 _) rfl) ?_
 refine Qp Qceq (Qp Qmb ?_)
 refine AOL.g (y:=.int .u8 _) _ [] rfl (EntL.all trivial) (fun hG=>P_move (v:=.int .u8 _) rfl) rfl ?_
 refine Qg [(6,_)] Qw Qcgq (Qg [(7,_)] Qw Qmb ?_)
 refine AOL.g (y:=.int .u8 _) _ [] rfl (EntL.all trivial) (fun hG=>P_move (v:=.int .u8 _) rfl) rfl ?_
 refine Qg [(9,_)] Qw Qclq (Qg [(8,_),(10,_)] Qw Qpa (Qp Qpo (Qp Qmb ?_)))
 refine AOL.g (y:=.int .u8 _) _ [] rfl (EntL.all trivial) (fun hG=>P_move (v:=.int .u8 _) rfl) rfl ?_
 refine Qg [(14,_)] Qw Qcgq (Qg [(15,_)] Qw Qmb ?_)
 refine AOL.g (y:=.int .u8 _) _ [] rfl (EntL.all trivial) (fun hG=>P_move (v:=.int .u8 _) rfl) rfl ?_
 refine Qg [(17,_)] Qw Qclq (Qg [(16,_),(18,_)] Qw Qpa (Qp Qpo (Qp Qab (Qnn (AW.ret ?_)))))
 refine Qr (.bool _) ?_
 rfl
theorem c113 (n:Int):APure Tryz.prog 149 [.int .u8 n] (.bool (letS n)):=by
 refine APure.body (n:=21) tok Tryz.func149 rfl rfl rfl fun H=>?_
 refine Qsr (Qp Qab (Qns ?_))
 refine Qp (P_move (v:=.int .u8 _) rfl) ?_
 refine Qp Qcgq (Qp Qmb ?_)
 refine AOL.g (y:=.int .u8 _) _ [] rfl (EntL.all trivial) (fun hG=>P_move (v:=.int .u8 _) rfl) rfl ?_
 refine Qg [(6,_)] Qw Qclq (Qp Qpa (Qp Qmb ?_))
 refine AOL.g (y:=.int .u8 _) _ [] rfl (EntL.all trivial) (fun hG=>P_move (v:=.int .u8 _) rfl) rfl ?_
 refine Qg [(10,_)] Qw Qcgq (Qg [(11,_)] Qw Qmb ?_)
 refine AOL.g (y:=.int .u8 _) _ [] rfl (EntL.all trivial) (fun hG=>P_move (v:=.int .u8 _) rfl) rfl ?_
 refine Qg [(13,_)] Qw Qclq (Qg [(12,_),(14,_)] Qw Qpa (Qp Qpo (Qp Qmb ?_)))
 refine AOL.g (y:=.int .u8 _) _ [] rfl (EntL.all trivial) (fun hG=>P_move (v:=.int .u8 _) rfl) rfl ?_
 refine Qg [(18,_)] Qw Qceq (Qp Qpo (Qp Qab (Qnn (AW.ret ?_))))
 refine Qr (.bool _) ?_
 simp only [resOf,letS,AV.bool.injEq];cases h1:(n==95) <;> simp
theorem c102 (s:List UInt8)(hs:s.length≤1048576):APure Tryz.prog 171 [.str s] (.bool (nameS s)):=by
 refine APure.body (n:=35) tok Tryz.func171 rfl rfl rfl fun H=>?_
 refine Qsr (Qp Qab (Qnn (AW.seq (Qsr (Qp Qmt ?_)))))
 refine Qp (P_len_str (n:=s.length) tok rfl rfl rfl (rfl)) ?_
 refine Qp Qceq (Qp Qmb (Qg [] Qw Qmt ?_))
 refine AOL.g (y:=.int .i64 _) _ [(8,_)] rfl (EntL.all ⟨Ent.self _ _,trivial⟩) (fun hG=>P_len_str (n:=s.length) tok rfl rfl rfl (rfl)) rfl ?_
 refine Qg [(9,_)] Qw Qcgt (Qp Qpo (Qp Qmb (Qg [] Qw Qmt ?_)))
 refine AOL.g (y:=.int .u8 _) _ [(13,_)] rfl (EntL.all ⟨Ent.self _ _,trivial⟩) (fun hG=>P_index_str tok rfl rfl rfl rfl (by decide) (head_at (guard_len hG))) rfl ?_
 refine Qg [(14,_)] Qw (Qc rfl (c111 _)) ?_
 refine Qp Qpo (Qnn (Qif (fun hc1=>?_) fun hc1=>?_))
 ·
  refine Qsr (Qp Qab (Qnn (Qrt ?_)))
  refine Qr (.bool _) ?_
  simp only [resOf,AV.bool.injEq]
  simp only [Bool.or_eq_true,decide_eq_true_eq,beq_iff_eq] at hc1
  rcases hc1 with (h1 | h1) | h1
  · exact (name_no (.inl (by omega))).symm
  · exact (name_no (.inr (.inl (by omega)))).symm
  · exact (name_no (.inr (.inr h1))).symm
 ·
  have hn1:s.length≠0∧s.length≤24∧digS ((s.headD 0).toNat)=false:=by
     simp only [Bool.or_eq_false_iff,decide_eq_false_iff_not,beq_eq_false_iff_ne] at hc1
     exact ⟨by omega,by omega,hc1.2⟩
  refine Qst (AW.seq (Qsr (Qp Qmt ?_)))
  refine Qp (P_len_str (n:=s.length) tok rfl rfl rfl (rfl)) ?_
  refine Qp Qmi (Qnn (AW.block ?_))
  refine AW.loopS (fun (p:Nat)=>(⟨[(0,.str s),(18,.int .i64 s.length),(19,.int .i64 (p:Int))],H,35⟩:St)) (fun (p:Nat)=>p≤s.length∧(s.take p).all chS=true) (fun (p:Nat)=>s.length-p) (0) ?_ (GS.weaken ⟨rfl,rfl,rfl,trivial⟩ (.refl _)) ?_
  · exact ⟨Nat.zero_le _,by simp⟩
  ·
   rintro p hR
   refine Qsr (Qp Qclt (Qnn (AW.seq (Qif (fun hc2=>?_) fun hc2=>?_))))
   ·
    obtain ⟨c,hc⟩:=get_lt hc2
    have hlt:=get_lt' hc
    have hm:=List.mem_of_getElem? hc
    refine Qst (AW.seq (AW.block (Qsr (Qp Qmi (Qp Qai (Qns (Qp Qmt (Qp Qmi ?_))))))))
    refine Qp (P_index_str tok rfl rfl rfl rfl (by omega) (byte_at hc)) ?_
    refine Qp (Qc rfl (c112 _)) ?_
    refine Qp Qnt (Qp Qmb (Qg [] Qw Qmt (Qg [] Qw Qmi ?_)))
    refine AOL.g (y:=.int .u8 _) _ [(28,_),(29,_)] rfl (EntL.all ⟨Ent.self _ _,Ent.self _ _,trivial⟩) (fun hG=>P_index_str tok rfl rfl rfl rfl (by omega) (byte_at hc)) rfl ?_
    refine Qg [(30,_)] Qw (Qc rfl (c111 _)) ?_
    refine Qg [(31,_)] Qw Qnt (Qp Qpa (Qnn (Qif (fun hc3=>?_) fun hc3=>?_)))
    ·
     have hch:chS c=false:=by
      unfold chS;cases hl:letS c.toNat <;> cases hd:digS c.toNat <;> simp_all
     refine Qsr (Qp Qab (Qnn (AW.ret (blkR (thenR (thenR (blkR (thenR ?_))))))))
     refine Qr (.bool _) ?_
     simp only [resOf,AV.bool.injEq]
     symm
     unfold nameS
     rw [name_bad hm hch,Bool.and_false]
    ·
     have hch:chS c=true:=by
      unfold chS;cases hl:letS c.toNat <;> cases hd:digS c.toNat <;> simp_all
     refine AW.skip (blkN (thenN (AW.region (Qp Qad (Qp Qmi (Qnn ?_))))))
     refine ⟨p+1,?_,?_,GS.weaken ⟨rfl,rfl,rfl,trivial⟩ (.refl _)⟩
     · exact ⟨hlt,all_take_get hc hR.2 hch⟩
     · omega
   ·
    have hte:=take_end hc2
    refine AW.exit ?_
    refine thenE (thenE (blkHit (thenN (Qsr (Qp Qab (Qnn (AW.ret ?_)))))))
    refine Qr (.bool _) ?_
    simp only [resOf,AV.bool.injEq]
    exact (name_yes hn1 (by rw [←hte];exact hR.2)).symm
theorem c104 (s:List UInt8)(hs:s.length≤1048576):APure Tryz.prog 113 [.str s] (.bool (nameS s)):=by
 refine APure.body (n:=41) tok Tryz.func113 rfl rfl rfl fun H=>?_
 refine Qsr (Qp Qab (Qnn (AW.seq (Qsr (Qp Qmt ?_)))))
 refine Qp (P_len_str (n:=s.length) tok rfl rfl rfl (rfl)) ?_
 refine Qp Qceq (Qp Qmb (Qg [] Qw Qmt ?_))
 refine AOL.g (y:=.int .i64 _) _ [(8,_)] rfl (EntL.all ⟨Ent.self _ _,trivial⟩) (fun hG=>P_len_str (n:=s.length) tok rfl rfl rfl (rfl)) rfl ?_
 refine Qg [(9,_)] Qw Qcgt (Qp Qpo (Qp Qmb (Qg [] Qw Qmt ?_)))
 refine AOL.g (y:=.int .u8 _) _ [(13,_)] rfl (EntL.all ⟨Ent.self _ _,trivial⟩) (fun hG=>P_index_str tok rfl rfl rfl rfl (by decide) (head_at (guard_len hG))) rfl ?_
 refine Qg [(14,_)] Qw (Qc rfl (c113 _)) ?_
 refine Qg [(15,_)] Qw Qnt (Qp Qpo (Qnn (Qif (fun hc1=>?_) fun hc1=>?_)))
 ·
  refine Qsr (Qp Qab (Qnn (Qrt ?_)))
  refine Qr (.bool _) ?_
  simp only [resOf,AV.bool.injEq]
  simp only [Bool.or_eq_true,decide_eq_true_eq,beq_iff_eq,Bool.not_eq_true'] at hc1
  rcases hc1 with (h1 | h1) | h1
  · exact (name_no (.inl (by omega))).symm
  · exact (name_no (.inr (.inl (by omega)))).symm
  · exact (name_nolet h1).symm
 ·
  have hn1:s.length≠0∧s.length≤24∧letS ((s.headD 0).toNat)=true:=by
     simp only [Bool.or_eq_false_iff,decide_eq_false_iff_not,beq_eq_false_iff_ne,Bool.not_eq_false'] at hc1
     exact ⟨by omega,by omega,hc1.2⟩
  refine Qst (AW.seq (Qsr (Qp Qai (Qnn (AW.block ?_)))))
  refine AW.loopS (fun (p:Nat)=>(⟨[(0,.str s),(3,.int .i64 (p:Int))],H,41⟩:St)) (fun (p:Nat)=>p≤s.length∧(s.take p).all chS=true) (fun (p:Nat)=>s.length-p) (0) ?_ (GS.weaken ⟨rfl,rfl,trivial⟩ (.refl _)) ?_
  · exact ⟨Nat.zero_le _,by simp⟩
  ·
   rintro p hR
   refine AW.seq (Qsr (Qp Qmi (Qp Qmt ?_)))
   refine Qp (P_len_str (n:=s.length) tok rfl rfl rfl (rfl)) ?_
   refine Qp Qclt (Qnn (Qif (fun hc2=>?_) fun hc2=>?_))
   ·
    obtain ⟨c,hc⟩:=get_lt hc2
    have hlt:=get_lt' hc
    have hm:=List.mem_of_getElem? hc
    refine Qst (AW.seq (AW.block (Qsr (Qp Qmt (Qp Qmi ?_)))))
    refine Qp (P_index_str tok rfl rfl rfl rfl (by omega) (byte_at hc)) ?_
    refine Qp (Qc rfl (c113 _)) ?_
    refine Qp Qnt (Qp Qmb (Qg [] Qw Qmt (Qg [] Qw Qmi ?_)))
    refine AOL.g (y:=.int .u8 _) _ [(30,_),(31,_)] rfl (EntL.all ⟨Ent.self _ _,Ent.self _ _,trivial⟩) (fun hG=>P_index_str tok rfl rfl rfl rfl (by omega) (byte_at hc)) rfl ?_
    refine Qg [(32,_)] Qw Qclt (Qg [(33,_)] Qw Qmb (Qg [] Qw Qmt (Qg [] Qw Qmi ?_)))
    refine AOL.g (y:=.int .u8 _) _ [(35,_),(36,_)] rfl (EntL.all ⟨Ent.self _ _,Ent.self _ _,trivial⟩) (fun hG=>P_index_str tok rfl rfl rfl rfl (by omega) (byte_at hc)) rfl ?_
    refine Qg [(37,_)] Qw Qcgt (Qg [(34,_),(38,_)] Qw Qpo (Qp Qpa (Qnn (Qif (fun hc3=>?_) fun hc3=>?_))))
    ·
     have hch:chS c=false:=by
      unfold chS digS;cases hl:letS c.toNat <;> simp_all <;> omega
     refine Qsr (Qp Qab (Qnn (AW.ret (blkR (thenR (thenR (blkR (thenR ?_))))))))
     refine Qr (.bool _) ?_
     simp only [resOf,AV.bool.injEq]
     symm
     unfold nameS
     rw [name_bad hm hch,Bool.and_false]
    ·
     have hch:chS c=true:=by
      unfold chS digS;cases hl:letS c.toNat <;> simp_all <;> omega
     refine AW.skip (blkN (thenN (AW.region (Qp Qmi (Qp Qad (Qp Qai (Qnn ?_)))))))
     refine ⟨p+1,?_,?_,GS.weaken ⟨rfl,rfl,trivial⟩ (.refl _)⟩
     · exact ⟨hlt,all_take_get hc hR.2 hch⟩
     · omega
   ·
    have hte:=take_end hc2
    refine AW.exit ?_
    refine thenE (thenE (blkHit (thenN (Qsr (Qp Qab (Qnn (AW.ret ?_)))))))
    refine Qr (.bool _) ?_
    simp only [resOf,AV.bool.injEq]
    exact (name_yes ⟨hn1.1,hn1.2.1,let_dig hn1.2.2⟩ (by rw [←hte];exact hR.2)).symm
theorem c103 (s:List UInt8)(hs:s.length≤1048576):APure Tryz.prog 172 [.str s] (.bool (fnameS s)):=by
 refine APure.body (n:=9) tok Tryz.func172 rfl rfl rfl fun H=>?_
 refine Qsr (Qp Qab (Qns (Qp Qmt ?_)))
 refine Qp (Qc rfl (c102 s hs)) ?_
 refine Qp Qmb (Qg [] Qw Qmt ?_)
 refine AOL.g (y:=.bool _) _ [(6,_)] rfl (EntL.all ⟨Ent.self _ _,trivial⟩) (fun hG=>P_neq_str rfl rfl) rfl ?_
 refine Qp Qpa (Qp Qab (Qnn (AW.ret ?_)))
 refine Qr (.bool _) ?_
 rfl

end Go.Proofs.YtkddpedfbicbeaaGreatDoor
