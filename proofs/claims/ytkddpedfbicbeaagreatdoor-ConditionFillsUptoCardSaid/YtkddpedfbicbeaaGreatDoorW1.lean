/-
  Walks of layers 1, 7 and 8: the functions without loops. No condition.
-/
import Derived.Test.YtkddpedfbicbeaaGreatDoorK01
import Derived.Test.YtkddpedfbicbeaaGreatDoorTab
import Derived.KernelRfl
namespace Go.Proofs.YtkddpedfbicbeaaGreatDoor
open Go Go.Aw
set_option maxHeartbeats 400000
set_option maxRecDepth 20000
set_option linter.unusedVariables false
set_option linter.unusedSimpArgs false

theorem c52 (op:Int):APure Tryz.prog 109 [.int .i64 op] (.tuple [.bool (usesS op).1,.bool (usesS op).2]):=by
 refine APure.body (n:=11) tok Tryz.func109 rfl rfl rfl fun H=>?_
 refine Qsr (Qp Qab (Qp Qab (Qnn (AW.seq (Qsr (Qp Qmi (Qnn (AW.block (AW.seq ?_)))))))))
 refine Qsr (Qp Qceq (Qp Qab (Qnn (Qif (fun hc1=>?_) fun hc1=>?_))))
 ·
  refine Qst (Qif (fun hc2=>?_) fun hc2=>?_)
  ·
   refine Qsr (Qp Qab (Qp Qab (Qnn (AW.ret (blkR (thenR ?_))))))
   refine Qrr (.bool _) (.bool _) ?_
   simp_all [resOf,usesS]
  ·
   refine AW.seq (Qsr (Qp Qceq (Qp Qab (Qnn (Qif (fun hc3=>?_) fun hc3=>?_)))))
   ·
    refine Qst (Qif (fun hc4=>?_) fun hc4=>?_)
    ·
     refine Qsr (Qp Qab (Qp Qab (Qnn (AW.ret (blkR (thenR ?_))))))
     refine Qrr (.bool _) (.bool _) ?_
     simp_all [resOf,usesS]
    ·
     refine AW.skip (blkN (thenN (Qsr (Qp Qab (Qp Qab (Qnn (AW.ret ?_)))))))
     refine Qrr (.bool _) (.bool _) ?_
     simp_all [resOf,usesS]
   ·
    refine AW.region (Qp Qceq (Qp Qab (Qnn (Qif (fun hc5=>?_) fun hc5=>?_))))
    ·
     refine Qsr (Qp Qab (Qp Qab (Qnn (AW.ret (blkR (thenR ?_))))))
     refine Qrr (.bool _) (.bool _) ?_
     simp_all [resOf,usesS]
    ·
     refine AW.skip (blkN (thenN (Qsr (Qp Qab (Qp Qab (Qnn (AW.ret ?_)))))))
     refine Qrr (.bool _) (.bool _) ?_
     simp_all [resOf,usesS]
 ·
  refine AW.region (Qp Qceq (Qp Qab (Qnn (Qif (fun hc6=>?_) fun hc6=>?_))))
  ·
   refine Qsr (Qp Qab (Qp Qab (Qnn (AW.ret (blkR (thenR ?_))))))
   refine Qrr (.bool _) (.bool _) ?_
   simp_all [resOf,usesS]
  ·
   refine AW.seq (Qsr (Qp Qceq (Qp Qab (Qnn (Qif (fun hc7=>?_) fun hc7=>?_)))))
   ·
    refine Qst (Qif (fun hc8=>?_) fun hc8=>?_)
    ·
     refine Qsr (Qp Qab (Qp Qab (Qnn (AW.ret (blkR (thenR ?_))))))
     refine Qrr (.bool _) (.bool _) ?_
     simp_all [resOf,usesS]
    ·
     refine AW.skip (blkN (thenN (Qsr (Qp Qab (Qp Qab (Qnn (AW.ret ?_)))))))
     refine Qrr (.bool _) (.bool _) ?_
     simp_all [resOf,usesS]
   ·
    refine AW.region (Qp Qceq (Qp Qab (Qnn (Qif (fun hc9=>?_) fun hc9=>?_))))
    ·
     refine Qsr (Qp Qab (Qp Qab (Qnn (AW.ret (blkR (thenR ?_))))))
     refine Qrr (.bool _) (.bool _) ?_
     simp_all [resOf,usesS]
    ·
     refine AW.skip (blkN (thenN (Qsr (Qp Qab (Qp Qab (Qnn (AW.ret ?_)))))))
     refine Qrr (.bool _) (.bool _) ?_
     simp_all [resOf,usesS]
theorem c84 (op:Int):APure Tryz.prog 160 [.int .i64 op] (.tuple [.bool (usesS op).1,.bool (usesS op).2]):=by
 refine APure.body (n:=21) tok Tryz.func160 rfl rfl rfl fun H=>?_
 refine Qsr (Qp Qab (Qp Qab (Qns (Qp Qmi (Qp Qceq (Qp Qmb (Qg [] Qw Qmi (Qg [(8,_)] Qw Qceq (Qp Qpo ?_)))))))))
 refine Qp Qab (Qns (Qp Qmb (Qp Qmb (Qg [] Qw Qmi (Qg [(13,_)] Qw Qceq (Qp Qpo (Qp Qmb (Qg [] Qw Qmi (Qg [(17,_)] Qw Qceq ?_)))))))))
 refine Qp Qpo (Qp Qmb (Qp Qab (Qp Qab (Qnn (AW.ret ?_)))))
 refine Qrr (.bool _) (.bool _) ?_
 by_cases h1:op=1 <;> by_cases h2:op=2 <;> by_cases h3:op=3 <;> by_cases h4:op=4 <;> simp_all [usesS,resOf]
theorem c81 (op:Int):APure Tryz.prog 108 [.int .i64 op] (.tuple [.int .i64 (arityS op),.bool (decide (0≤op∧op≤12))]):=by
 refine APure.body (n:=17) tok Tryz.func108 rfl rfl rfl fun H=>?_
 refine Qsr (Qp Qai (Qp Qab (Qnn (AW.seq (AW.block (Qsr (Qp Qmi (Qp Qclt (Qp Qmb ?_)))))))))
 refine Qg [] Qw Qmi (Qg [(8,_)] Qw Qcgt (Qp Qpo (Qp Qab (Qnn (Qif (fun hc1=>?_) fun hc1=>?_)))))
 ·
  refine Qsr (Qp Qai (Qp Qab (Qnn (AW.ret (blkR (thenR ?_))))))
  refine Qrr (.int .i64 _) (.bool _) ?_
  simp only [Bool.or_eq_true,Bool.or_eq_false_iff,decide_eq_true_eq,decide_eq_false_iff_not,beq_iff_eq,beq_eq_false_iff_ne] at *
  simp only [resOf,arityS,AV.tuple.injEq,List.cons.injEq,AV.int.injEq,AV.bool.injEq,true_and,and_true]
  refine ⟨?_,?_⟩
  ·
   repeat' split
   all_goals omega
  · simp <;> omega
 ·
  refine Qsr (Qp Qmi (Qp Qclt (Qp Qab (Qnn (Qif (fun hc2=>?_) fun hc2=>?_)))))
  ·
   refine Qsr (Qp Qai (Qp Qab (Qnn (AW.ret (blkR (thenR ?_))))))
   refine Qrr (.int .i64 _) (.bool _) ?_
   simp only [Bool.or_eq_true,Bool.or_eq_false_iff,decide_eq_true_eq,decide_eq_false_iff_not,beq_iff_eq,beq_eq_false_iff_ne] at *
   simp only [resOf,arityS,AV.tuple.injEq,List.cons.injEq,AV.int.injEq,AV.bool.injEq,true_and,and_true]
   refine ⟨?_,?_⟩
   ·
    repeat' split
    all_goals omega
   · simp <;> omega
  ·
   refine Qsr (Qp Qmi (Qp Qceq (Qp Qab (Qnn (Qif (fun hc3=>?_) fun hc3=>?_)))))
   ·
    refine Qsr (Qp Qai (Qp Qab (Qnn (AW.ret (blkR (thenR ?_))))))
    refine Qrr (.int .i64 _) (.bool _) ?_
    simp only [Bool.or_eq_true,Bool.or_eq_false_iff,decide_eq_true_eq,decide_eq_false_iff_not,beq_iff_eq,beq_eq_false_iff_ne] at *
    simp only [resOf,arityS,AV.tuple.injEq,List.cons.injEq,AV.int.injEq,AV.bool.injEq,true_and,and_true]
    refine ⟨?_,?_⟩
    ·
     repeat' split
     all_goals omega
    · simp <;> omega
   ·
    refine AW.skip (blkN (thenN (Qsr (Qp Qai (Qp Qab (Qnn (AW.ret ?_)))))))
    refine Qrr (.int .i64 _) (.bool _) ?_
    simp only [Bool.or_eq_true,Bool.or_eq_false_iff,decide_eq_true_eq,decide_eq_false_iff_not,beq_iff_eq,beq_eq_false_iff_ne] at *
    simp only [resOf,arityS,AV.tuple.injEq,List.cons.injEq,AV.int.injEq,AV.bool.injEq,true_and,and_true]
    refine ⟨?_,?_⟩
    ·
     repeat' split
     all_goals omega
    · simp <;> omega
theorem c100 (op:Int):APure Tryz.prog 159 [.int .i64 op] (.int .i64 (if 0≤op∧op≤12 then arityS op else -1)):=by
 refine APure.body (n:=20) tok Tryz.func159 rfl rfl rfl fun H=>?_
 refine Qsr (Qp Qai (Qnn (AW.seq (Qsr (Qp Qmi (Qnn (AW.block ?_)))))))
 refine AW.cut (fun (_:Unit)=>(⟨[(0,.int .i64 op),(3,.int .i64 op),(4,.bool (op==0||op==1||op==2||op==3||op==4))],H,20⟩:St)) (fun (_:Unit)=>True) ?_ ?_
 ·
  refine Qsr (Qp Qceq (Qp Qab (Qnn (Qif (fun hc1=>?_) fun hc1=>?_))))
  ·
   refine Qst ?_
   refine ⟨(),?_,GS.weaken ⟨rfl,rfl,congrArg AV.bool (by simp [*]),trivial⟩ (.refl _)⟩
   trivial
  ·
   refine Qsr (Qp Qceq (Qp Qab (Qnn (Qif (fun hc2=>?_) fun hc2=>?_))))
   ·
    refine Qst ?_
    refine ⟨(),?_,GS.weaken ⟨rfl,rfl,congrArg AV.bool (by simp [*]),trivial⟩ (.refl _)⟩
    trivial
   ·
    refine Qsr (Qp Qceq (Qp Qab (Qnn (Qif (fun hc3=>?_) fun hc3=>?_))))
    ·
     refine Qst ?_
     refine ⟨(),?_,GS.weaken ⟨rfl,rfl,congrArg AV.bool (by simp [*]),trivial⟩ (.refl _)⟩
     trivial
    ·
     refine Qsr (Qp Qceq (Qp Qab (Qnn (Qif (fun hc4=>?_) fun hc4=>?_))))
     ·
      refine Qst ?_
      refine ⟨(),?_,GS.weaken ⟨rfl,rfl,congrArg AV.bool (by simp [*]),trivial⟩ (.refl _)⟩
      trivial
     ·
      refine AW.region (Qp Qceq (Qp Qab (Qnn ?_)))
      refine ⟨(),?_,GS.weaken ⟨rfl,rfl,congrArg AV.bool (by simp [*]),trivial⟩ (.refl _)⟩
      trivial
 ·
  rintro _ _
  refine Qif (fun hc5=>?_) fun hc5=>?_
  ·
   refine Qsr (Qp Qai (Qnn (AW.ret (blkR (thenR ?_)))))
   refine Qr (.int .i64 _) ?_
   simp only [Bool.or_eq_true,Bool.or_eq_false_iff,beq_iff_eq,beq_eq_false_iff_ne] at *
   simp only [resOf,arityS,AV.int.injEq,true_and]
   repeat' split
   all_goals omega
  ·
   refine Qsr (Qp Qceq (Qp Qab (Qnn (Qif (fun hc6=>?_) fun hc6=>?_))))
   ·
    refine Qsr (Qp Qai (Qnn (AW.ret (blkR (thenR ?_)))))
    refine Qr (.int .i64 _) ?_
    simp only [Bool.or_eq_true,Bool.or_eq_false_iff,beq_iff_eq,beq_eq_false_iff_ne] at *
    simp only [resOf,arityS,AV.int.injEq,true_and]
    repeat' split
    all_goals omega
   ·
    refine AW.cut (fun (_:Unit)=>(⟨[(12,.bool (op==5||op==6||op==7||op==8||op==9||op==10||op==11))],H,20⟩:St)) (fun (_:Unit)=>True) ?_ ?_
    ·
     refine Qsr (Qp Qceq (Qp Qab (Qnn (Qif (fun hc7=>?_) fun hc7=>?_))))
     ·
      refine Qst ?_
      refine ⟨(),?_,GS.weaken ⟨congrArg AV.bool (by simp [*]),trivial⟩ (.refl _)⟩
      trivial
     ·
      refine Qsr (Qp Qceq (Qp Qab (Qnn (Qif (fun hc8=>?_) fun hc8=>?_))))
      ·
       refine Qst ?_
       refine ⟨(),?_,GS.weaken ⟨congrArg AV.bool (by simp [*]),trivial⟩ (.refl _)⟩
       trivial
      ·
       refine Qsr (Qp Qceq (Qp Qab (Qnn (Qif (fun hc9=>?_) fun hc9=>?_))))
       ·
        refine Qst ?_
        refine ⟨(),?_,GS.weaken ⟨congrArg AV.bool (by simp [*]),trivial⟩ (.refl _)⟩
        trivial
       ·
        refine Qsr (Qp Qceq (Qp Qab (Qnn (Qif (fun hc10=>?_) fun hc10=>?_))))
        ·
         refine Qst ?_
         refine ⟨(),?_,GS.weaken ⟨congrArg AV.bool (by simp [*]),trivial⟩ (.refl _)⟩
         trivial
        ·
         refine Qsr (Qp Qceq (Qp Qab (Qnn (Qif (fun hc11=>?_) fun hc11=>?_))))
         ·
          refine Qst ?_
          refine ⟨(),?_,GS.weaken ⟨congrArg AV.bool (by simp [*]),trivial⟩ (.refl _)⟩
          trivial
         ·
          refine Qsr (Qp Qceq (Qp Qab (Qnn (Qif (fun hc12=>?_) fun hc12=>?_))))
          ·
           refine Qst ?_
           refine ⟨(),?_,GS.weaken ⟨congrArg AV.bool (by simp [*]),trivial⟩ (.refl _)⟩
           trivial
          ·
           refine AW.region (Qp Qceq (Qp Qab (Qnn ?_)))
           refine ⟨(),?_,GS.weaken ⟨congrArg AV.bool (by simp [*]),trivial⟩ (.refl _)⟩
           trivial
    ·
     rintro _ _
     refine Qif (fun hc13=>?_) fun hc13=>?_
     ·
      refine Qsr (Qp Qai (Qnn (AW.ret (blkR (thenR ?_)))))
      refine Qr (.int .i64 _) ?_
      simp only [Bool.or_eq_true,Bool.or_eq_false_iff,beq_iff_eq,beq_eq_false_iff_ne] at *
      simp only [resOf,arityS,AV.int.injEq,true_and]
      repeat' split
      all_goals omega
     ·
      refine AW.skip (blkN (thenN (Qsr (Qp Qai (Qnn (AW.ret ?_))))))
      refine Qr (.int .i64 _) ?_
      simp only [Bool.or_eq_true,Bool.or_eq_false_iff,beq_iff_eq,beq_eq_false_iff_ne] at *
      simp only [resOf,arityS,AV.int.injEq,true_and]
      repeat' split
      all_goals omega
theorem c107 (v:Vl):APure Tryz.prog 161 [.agg (cV v)] (.int .i64 (vsizeS v)):=by
  refine APure.body (n:=36) tok Tryz.func161 rfl rfl rfl fun H=>?_
  refine AW.seq (AW.region (Qp (Qbx [.int .i64 _,.int .i64 _,.str _]) (Qp Qai (AOL.nil (thenN (AW.seq (AW.block (AW.seq (AW.region ?_)))))))))
  refine Qp Qf5 (Qp Qli (Qp Qceq (Qp Qmb (Qg [] Qw Qf6 (Qg [(8,_)] Qw Qli (Qg [(9,_)] Qw Qclt (Qg [(10,_)] Qw Qmb (Qg [] Qw Qf6 (Qg [(12,_)] Qw Qli ?_)))))))))
  refine Qg [(13,_)] Qw Qcgt (Qg [(11,_),(14,_)] Qw Qpo (Qp Qpa (Qp Qab (AOL.nil (thenN (Qif (fun hc1=>?_) fun hc1=>?_))))))
  · skip
    refine AW.seq (AW.region (Qp Qai (AOL.nil (thenN (AW.ret (blkR (thenR ?_)))))))
    refine Qr (.int .i64 _) ?_
    try simp only [str0,Bool.and_true] at *
    first
      | (simp only [resOf,vsizeS];(first | rw [if_pos hc1] | skip);first | done | rfl)
      | (try simp only [Bool.not_eq_true',Bool.not_eq_false'] at *
         first
         | (simp only [resOf,vsizeS, *,Bool.false_eq_true,↓reduceIte,Bool.true_or,Bool.or_true,Bool.false_or,Bool.or_false,Bool.true_and,Bool.and_true,Bool.false_and,Bool.and_false,Bool.not_true,Bool.not_false];done)
         | (simp [resOf,vsizeS, *];done)
         | (simp_all [resOf,vsizeS];done))
      | skip
  · skip
    refine AW.seq (AW.region (Qp Qf5 (Qp Qli (Qp Qceq (Qp Qmb (Qg [] Qw Qf6 (Qg [(22,_)] Qw Qli (Qg [(23,_)] Qw Qcne (Qp Qpa ?_)))))))))
    refine Qp Qmb (Qg [] Qw Qf6 (Qg [(27,_)] Qw Qli (Qg [(28,_)] Qw Qcne (Qp Qpa (Qp Qab (AOL.nil (thenN (Qif (fun hc2=>?_) fun hc2=>?_))))))))
    · skip
      refine AW.seq (AW.region (Qp Qai (AOL.nil (thenN (AW.ret (blkR (thenR ?_)))))))
      refine Qr (.int .i64 _) ?_
      try simp only [str0,Bool.and_true] at *
      first
        | (simp only [resOf,vsizeS];(first | rw [if_neg (Bool.eq_false_iff.mp hc1)] | skip);(first | rw [if_pos hc2] | skip);first | done | rfl)
        | (try simp only [Bool.not_eq_true',Bool.not_eq_false'] at *
           first
           | (simp only [resOf,vsizeS, *,Bool.false_eq_true,↓reduceIte,Bool.true_or,Bool.or_true,Bool.false_or,Bool.or_false,Bool.true_and,Bool.and_true,Bool.false_and,Bool.and_false,Bool.not_true,Bool.not_false];done)
           | (simp [resOf,vsizeS, *];done)
           | (simp_all [resOf,vsizeS];done))
        | skip
    · skip
      refine AW.seq (AW.region (Qp Qf7 (Qp Qlt ?_)))
      refine Qp (P_len_str tok rfl rfl rfl rfl) ?_
      refine Qp Qcgt (Qp Qab (AOL.nil (thenN (Qif (fun hc3=>?_) fun hc3=>?_))))
      · skip
        refine AW.seq (AW.region (Qp Qai (AOL.nil (thenN (AW.ret (blkR (thenR ?_)))))))
        refine Qr (.int .i64 _) ?_
        try simp only [str0,Bool.and_true] at *
        first
          | (simp only [resOf,vsizeS];(first | rw [if_neg (Bool.eq_false_iff.mp hc1)] | skip);(first | rw [if_neg (Bool.eq_false_iff.mp hc2)] | skip);(first | rw [if_pos hc3] | skip);first | done | rfl)
          | (try simp only [Bool.not_eq_true',Bool.not_eq_false'] at *
             first
             | (simp only [resOf,vsizeS, *,Bool.false_eq_true,↓reduceIte,Bool.true_or,Bool.or_true,Bool.false_or,Bool.or_false,Bool.true_and,Bool.and_true,Bool.false_and,Bool.and_false,Bool.not_true,Bool.not_false];done)
             | (simp [resOf,vsizeS, *];done)
             | (simp_all [resOf,vsizeS];done))
          | skip
      · skip
        refine AW.skip (blkN (thenN (AW.seq (AW.region (Qp Qai (AOL.nil (thenN (AW.ret ?_))))))))
        refine Qr (.int .i64 _) ?_
        try simp only [str0,Bool.and_true] at *
        first
          | (simp only [resOf,vsizeS];(first | rw [if_neg (Bool.eq_false_iff.mp hc1)] | skip);(first | rw [if_neg (Bool.eq_false_iff.mp hc2)] | skip);(first | rw [if_neg (Bool.eq_false_iff.mp hc3)] | skip);first | done | rfl)
          | (try simp only [Bool.not_eq_true',Bool.not_eq_false'] at *
             first
             | (simp only [resOf,vsizeS, *,Bool.false_eq_true,↓reduceIte,Bool.true_or,Bool.or_true,Bool.false_or,Bool.or_false,Bool.true_and,Bool.and_true,Bool.false_and,Bool.and_false,Bool.not_true,Bool.not_false];done)
             | (simp [resOf,vsizeS, *];done)
             | (simp_all [resOf,vsizeS];done))
          | skip
theorem c94 (v:Vl):APure Tryz.prog 143 [.agg (cV v)] (.int .i64 (vcheckS v)):=by
  refine APure.body (n:=18) tok Tryz.func143 rfl rfl rfl fun H=>?_
  refine AW.seq (AW.region (Qp (Qbx [.int .i64 _,.int .i64 _,.str _]) (Qp Qai (AOL.nil (thenN (AW.seq (AW.seq (AW.region (Qp Qf5 ?_)))))))))
  refine Qp Qli (AOL.nil (thenN (AW.block (AW.seq (AW.seq (AW.region (Qp Qceq (Qp Qab (AOL.nil ?_)))))))))
  refine thenN (Qif (fun hc1=>?_) fun hc1=>?_)
  · skip
    refine Qst (Qif (fun hc2=>?_) fun hc2=>?_)
    · skip
      refine AW.seq (AW.region (Qp Qf7 (Qp Qlt ?_)))
      refine Qp (P_neq_str rfl rfl) ?_
      refine AOL.nil (thenN (Qif (fun hc3=>?_) fun hc3=>?_))
      · skip
        refine AW.seq (AW.region (Qp Qai (AOL.nil (thenN (AW.ret (blkR (thenR ?_)))))))
        refine Qr (.int .i64 _) ?_
        try simp only [str0,Bool.and_true] at *
        first
          | (simp only [resOf,vcheckS];(first | rw [if_pos hc1] | skip);(first | rw [if_pos hc2] | skip);(first | rw [if_pos hc3] | skip);first | done | rfl)
          | (try simp only [Bool.not_eq_true',Bool.not_eq_false'] at *
             first
             | (simp only [resOf,vcheckS, *,Bool.false_eq_true,↓reduceIte,Bool.true_or,Bool.or_true,Bool.false_or,Bool.or_false,Bool.true_and,Bool.and_true,Bool.false_and,Bool.and_false,Bool.not_true,Bool.not_false];done)
             | (simp [resOf,vcheckS, *];done)
             | (simp_all [resOf,vcheckS];done))
          | skip
      · skip
        refine AW.skip (blkN (thenN (AW.seq (AW.region (Qp (Qlg [.int .i64 _,.int .i64 _,.str _]) ?_)))))
        refine Qp (Qc rfl (c107 v)) ?_
        refine Qp Qai (AOL.nil (thenN (AW.ret ?_)))
        refine Qr (.int .i64 _) ?_
        try simp only [str0,Bool.and_true] at *
        first
          | (simp only [resOf,vcheckS];(first | rw [if_pos hc1] | skip);(first | rw [if_pos hc2] | skip);(first | rw [if_neg (Bool.eq_false_iff.mp hc3)] | skip);first | done | rfl)
          | (try simp only [Bool.not_eq_true',Bool.not_eq_false'] at *
             first
             | (simp only [resOf,vcheckS, *,Bool.false_eq_true,↓reduceIte,Bool.true_or,Bool.or_true,Bool.false_or,Bool.or_false,Bool.true_and,Bool.and_true,Bool.false_and,Bool.and_false,Bool.not_true,Bool.not_false];done)
             | (simp [resOf,vcheckS, *];done)
             | (simp_all [resOf,vcheckS];done))
          | skip
    · skip
      refine AW.seq (AW.region (Qp Qceq (Qp Qab (AOL.nil (thenN (Qif (fun hc4=>?_) fun hc4=>?_))))))
      · skip
        refine AW.seq (AW.region (Qp Qf6 (Qp Qli (Qp Qcne (AOL.nil (thenN (Qif (fun hc5=>?_) fun hc5=>?_)))))))
        · skip
          refine AW.seq (AW.region (Qp Qai (AOL.nil (thenN (AW.ret (blkR (thenR ?_)))))))
          refine Qr (.int .i64 _) ?_
          try simp only [str0,Bool.and_true] at *
          first
            | (simp only [resOf,vcheckS];(first | rw [if_pos hc1] | skip);(first | rw [if_neg (Bool.eq_false_iff.mp hc2)] | skip);(first | rw [if_pos hc4] | skip);(first | rw [if_pos hc5] | skip);first | done | rfl)
            | (try simp only [Bool.not_eq_true',Bool.not_eq_false'] at *
               first
               | (simp only [resOf,vcheckS, *,Bool.false_eq_true,↓reduceIte,Bool.true_or,Bool.or_true,Bool.false_or,Bool.or_false,Bool.true_and,Bool.and_true,Bool.false_and,Bool.and_false,Bool.not_true,Bool.not_false];done)
               | (simp [resOf,vcheckS, *];done)
               | (simp_all [resOf,vcheckS];done))
            | skip
        · skip
          refine AW.skip (blkN (thenN (AW.seq (AW.region (Qp (Qlg [.int .i64 _,.int .i64 _,.str _]) ?_)))))
          refine Qp (Qc rfl (c107 v)) ?_
          refine Qp Qai (AOL.nil (thenN (AW.ret ?_)))
          refine Qr (.int .i64 _) ?_
          try simp only [str0,Bool.and_true] at *
          first
            | (simp only [resOf,vcheckS];(first | rw [if_pos hc1] | skip);(first | rw [if_neg (Bool.eq_false_iff.mp hc2)] | skip);(first | rw [if_pos hc4] | skip);(first | rw [if_neg (Bool.eq_false_iff.mp hc5)] | skip);first | done | rfl)
            | (try simp only [Bool.not_eq_true',Bool.not_eq_false'] at *
               first
               | (simp only [resOf,vcheckS, *,Bool.false_eq_true,↓reduceIte,Bool.true_or,Bool.or_true,Bool.false_or,Bool.or_false,Bool.true_and,Bool.and_true,Bool.false_and,Bool.and_false,Bool.not_true,Bool.not_false];done)
               | (simp [resOf,vcheckS, *];done)
               | (simp_all [resOf,vcheckS];done))
            | skip
      · skip
        refine AW.seq (AW.region (Qp Qai (AOL.nil (thenN (AW.ret (blkR (thenR ?_)))))))
        refine Qr (.int .i64 _) ?_
        try simp only [str0,Bool.and_true] at *
        first
          | (simp only [resOf,vcheckS];(first | rw [if_pos hc1] | skip);(first | rw [if_neg (Bool.eq_false_iff.mp hc2)] | skip);(first | rw [if_neg (Bool.eq_false_iff.mp hc4)] | skip);first | done | rfl)
          | (try simp only [Bool.not_eq_true',Bool.not_eq_false'] at *
             first
             | (simp only [resOf,vcheckS, *,Bool.false_eq_true,↓reduceIte,Bool.true_or,Bool.or_true,Bool.false_or,Bool.or_false,Bool.true_and,Bool.and_true,Bool.false_and,Bool.and_false,Bool.not_true,Bool.not_false];done)
             | (simp [resOf,vcheckS, *];done)
             | (simp_all [resOf,vcheckS];done))
          | skip
  · skip
    refine AW.region (Qp Qceq (Qp Qab (AOL.nil (thenN (Qif (fun hc6=>?_) fun hc6=>?_)))))
    · skip
      refine AW.seq (AW.region (Qp Qf7 (Qp Qlt ?_)))
      refine Qp (P_neq_str rfl rfl) ?_
      refine AOL.nil (thenN (Qif (fun hc7=>?_) fun hc7=>?_))
      · skip
        refine AW.seq (AW.region (Qp Qai (AOL.nil (thenN (AW.ret (blkR (thenR ?_)))))))
        refine Qr (.int .i64 _) ?_
        try simp only [str0,Bool.and_true] at *
        first
          | (simp only [resOf,vcheckS];(first | rw [if_neg (Bool.eq_false_iff.mp hc1)] | skip);(first | rw [if_pos hc6] | skip);(first | rw [if_pos hc7] | skip);first | done | rfl)
          | (try simp only [Bool.not_eq_true',Bool.not_eq_false'] at *
             first
             | (simp only [resOf,vcheckS, *,Bool.false_eq_true,↓reduceIte,Bool.true_or,Bool.or_true,Bool.false_or,Bool.or_false,Bool.true_and,Bool.and_true,Bool.false_and,Bool.and_false,Bool.not_true,Bool.not_false];done)
             | (simp [resOf,vcheckS, *];done)
             | (simp_all [resOf,vcheckS];done))
          | skip
      · skip
        refine AW.skip (blkN (thenN (AW.seq (AW.region (Qp (Qlg [.int .i64 _,.int .i64 _,.str _]) ?_)))))
        refine Qp (Qc rfl (c107 v)) ?_
        refine Qp Qai (AOL.nil (thenN (AW.ret ?_)))
        refine Qr (.int .i64 _) ?_
        try simp only [str0,Bool.and_true] at *
        first
          | (simp only [resOf,vcheckS];(first | rw [if_neg (Bool.eq_false_iff.mp hc1)] | skip);(first | rw [if_pos hc6] | skip);(first | rw [if_neg (Bool.eq_false_iff.mp hc7)] | skip);first | done | rfl)
          | (try simp only [Bool.not_eq_true',Bool.not_eq_false'] at *
             first
             | (simp only [resOf,vcheckS, *,Bool.false_eq_true,↓reduceIte,Bool.true_or,Bool.or_true,Bool.false_or,Bool.or_false,Bool.true_and,Bool.and_true,Bool.false_and,Bool.and_false,Bool.not_true,Bool.not_false];done)
             | (simp [resOf,vcheckS, *];done)
             | (simp_all [resOf,vcheckS];done))
          | skip
    · skip
      refine AW.seq (AW.region (Qp Qceq (Qp Qab (AOL.nil (thenN (Qif (fun hc8=>?_) fun hc8=>?_))))))
      · skip
        refine AW.seq (AW.region (Qp Qf6 (Qp Qli (Qp Qcne (AOL.nil (thenN (Qif (fun hc9=>?_) fun hc9=>?_)))))))
        · skip
          refine AW.seq (AW.region (Qp Qai (AOL.nil (thenN (AW.ret (blkR (thenR ?_)))))))
          refine Qr (.int .i64 _) ?_
          try simp only [str0,Bool.and_true] at *
          first
            | (simp only [resOf,vcheckS];(first | rw [if_neg (Bool.eq_false_iff.mp hc1)] | skip);(first | rw [if_neg (Bool.eq_false_iff.mp hc6)] | skip);(first | rw [if_pos hc8] | skip);(first | rw [if_pos hc9] | skip);first | done | rfl)
            | (try simp only [Bool.not_eq_true',Bool.not_eq_false'] at *
               first
               | (simp only [resOf,vcheckS, *,Bool.false_eq_true,↓reduceIte,Bool.true_or,Bool.or_true,Bool.false_or,Bool.or_false,Bool.true_and,Bool.and_true,Bool.false_and,Bool.and_false,Bool.not_true,Bool.not_false];done)
               | (simp [resOf,vcheckS, *];done)
               | (simp_all [resOf,vcheckS];done))
            | skip
        · skip
          refine AW.skip (blkN (thenN (AW.seq (AW.region (Qp (Qlg [.int .i64 _,.int .i64 _,.str _]) ?_)))))
          refine Qp (Qc rfl (c107 v)) ?_
          refine Qp Qai (AOL.nil (thenN (AW.ret ?_)))
          refine Qr (.int .i64 _) ?_
          try simp only [str0,Bool.and_true] at *
          first
            | (simp only [resOf,vcheckS];(first | rw [if_neg (Bool.eq_false_iff.mp hc1)] | skip);(first | rw [if_neg (Bool.eq_false_iff.mp hc6)] | skip);(first | rw [if_pos hc8] | skip);(first | rw [if_neg (Bool.eq_false_iff.mp hc9)] | skip);first | done | rfl)
            | (try simp only [Bool.not_eq_true',Bool.not_eq_false'] at *
               first
               | (simp only [resOf,vcheckS, *,Bool.false_eq_true,↓reduceIte,Bool.true_or,Bool.or_true,Bool.false_or,Bool.or_false,Bool.true_and,Bool.and_true,Bool.false_and,Bool.and_false,Bool.not_true,Bool.not_false];done)
               | (simp [resOf,vcheckS, *];done)
               | (simp_all [resOf,vcheckS];done))
            | skip
      · skip
        refine AW.seq (AW.region (Qp Qai (AOL.nil (thenN (AW.ret (blkR (thenR ?_)))))))
        refine Qr (.int .i64 _) ?_
        try simp only [str0,Bool.and_true] at *
        first
          | (simp only [resOf,vcheckS];(first | rw [if_neg (Bool.eq_false_iff.mp hc1)] | skip);(first | rw [if_neg (Bool.eq_false_iff.mp hc6)] | skip);(first | rw [if_neg (Bool.eq_false_iff.mp hc8)] | skip);first | done | rfl)
          | (try simp only [Bool.not_eq_true',Bool.not_eq_false'] at *
             first
             | (simp only [resOf,vcheckS, *,Bool.false_eq_true,↓reduceIte,Bool.true_or,Bool.or_true,Bool.false_or,Bool.or_false,Bool.true_and,Bool.and_true,Bool.false_and,Bool.and_false,Bool.not_true,Bool.not_false];done)
             | (simp [resOf,vcheckS, *];done)
             | (simp_all [resOf,vcheckS];done))
          | skip
theorem c75 (b:Bool):APure Tryz.prog 107 [.bool b] (.agg (cV (flagS b))):=by
  refine APure.body (n:=8) tok Tryz.func107 rfl rfl rfl fun H=>?_
  refine AW.seq (AW.region ?_)
  refine Qe (E_alloc (l:=[.int .i64 0,.int .i64 0,.str []]) (by kernel_rfl)) ?_
  rintro _ _ ⟨b2,rfl,rfl⟩
  refine AOL.nil (thenN (AW.seq (AW.region (Qp (Qbd [.int .i64 _,.int .i64 _,.str _]) ?_))))
  refine Qe (E_alloc (l:=[.int .i64 0,.int .i64 0,.str []]) (by kernel_rfl)) ?_
  rintro _ _ ⟨b3,rfl,rfl⟩
  refine Qe (E_store (k:=0) (v:=.agg _) (cs':=[.int .i64 _,.int .i64 _,.str _]) (H2:=_::_::_) tok rfl rfl rfl rfl (rfl) rfl rfl rfl rfl) ?_
  rintro _ _ ⟨rfl,rfl⟩
  refine AOL.nil (thenN (AW.seq (AW.seq (AW.region (Qp Qmb (AOL.nil (thenN (Qif (fun hc1=>?_) fun hc1=>?_))))))))
  · skip
    refine AW.region (Qp Qfv ?_)
    refine Qe (E_store (k:=0) (v:=.int .i64 _) (cs':=[.int .i64 _,.int .i64 _,.str _]) (H2:=_::_::_) tok rfl rfl rfl rfl (rfl) rfl rfl rfl rfl) ?_
    rintro _ _ ⟨rfl,rfl⟩
    refine AOL.nil (thenN (AW.seq (AW.region ?_)))
    refine AOL.pk (P_load_box_agg (k:=0) (l:=[.int .i64 _,.int .i64 _,.str _]) tok rfl rfl rfl rfl rfl) rfl rfl ?_
    refine Qe (E_store (k:=1) (v:=.agg _) (cs':=[.int .i64 _,.int .i64 _,.str _]) (H2:=_::_::_) tok rfl rfl rfl rfl (rfl) rfl rfl rfl rfl) ?_
    rintro _ _ ⟨rfl,rfl⟩
    refine AOL.nil (thenN (AW.ret ?_))
    refine ⟨.inr rfl,[.agg [.int .i64 _,.int .i64 _,.str _]],.cons (.box _ _ _ 1 _ _ _ _ rfl rfl rfl rfl rfl rfl) <| .nil,.cons _ (.cons _ (.refl _)),?_⟩
    try simp only [str0,Bool.and_true] at *
    first
      | (simp only [resOf,flagS,cV];(first | rw [if_pos hc1] | skip);first | done | rfl)
      | (try simp only [Bool.not_eq_true',Bool.not_eq_false'] at *
         first
         | (simp only [resOf,flagS,cV, *,Bool.false_eq_true,↓reduceIte,Bool.true_or,Bool.or_true,Bool.false_or,Bool.or_false,Bool.true_and,Bool.and_true,Bool.false_and,Bool.and_false,Bool.not_true,Bool.not_false];done)
         | (simp [resOf,flagS,cV, *];done)
         | (simp_all [resOf,flagS,cV];done))
      | skip
  · skip
    refine Qst (AW.seq (AW.region ?_))
    refine AOL.pk (P_load_box_agg (k:=0) (l:=[.int .i64 _,.int .i64 _,.str _]) tok rfl rfl rfl rfl rfl) rfl rfl ?_
    refine Qe (E_store (k:=1) (v:=.agg _) (cs':=[.int .i64 _,.int .i64 _,.str _]) (H2:=_::_::_) tok rfl rfl rfl rfl (rfl) rfl rfl rfl rfl) ?_
    rintro _ _ ⟨rfl,rfl⟩
    refine AOL.nil (thenN (AW.ret ?_))
    refine ⟨.inr rfl,[.agg [.int .i64 _,.int .i64 _,.str _]],.cons (.box _ _ _ 1 _ _ _ _ rfl rfl rfl rfl rfl rfl) <| .nil,.cons _ (.cons _ (.refl _)),?_⟩
    try simp only [str0,Bool.and_true] at *
    first
      | (simp only [resOf,flagS,cV];(first | rw [if_neg (Bool.eq_false_iff.mp hc1)] | skip);first | done | rfl)
      | (try simp only [Bool.not_eq_true',Bool.not_eq_false'] at *
         first
         | (simp only [resOf,flagS,cV, *,Bool.false_eq_true,↓reduceIte,Bool.true_or,Bool.or_true,Bool.false_or,Bool.or_false,Bool.true_and,Bool.and_true,Bool.false_and,Bool.and_false,Bool.not_true,Bool.not_false];done)
         | (simp [resOf,flagS,cV, *];done)
         | (simp_all [resOf,flagS,cV];done))
      | skip
theorem c42 (b:Bool):APure Tryz.prog 66 [.bool b] (.agg (cV (flagS b))):=by
  refine APure.body (n:=5) tok Tryz.func66 rfl rfl rfl fun H=>?_
  refine AW.seq (AW.region ?_)
  refine Qe (E_alloc (l:=[.int .i64 0,.int .i64 0,.str []]) (by kernel_rfl)) ?_
  rintro _ _ ⟨b2,rfl,rfl⟩
  refine AOL.nil (thenN (AW.seq (AW.region (Qp Qmb ?_))))
  refine Qp (Qc rfl (c75 b)) ?_
  refine Qe (E_store (k:=0) (v:=.agg _) (cs':=[.int .i64 _,.int .i64 _,.str _]) (H2:=_::_) tok rfl rfl rfl rfl (rfl) rfl rfl rfl rfl) ?_
  rintro _ _ ⟨rfl,rfl⟩
  refine AOL.nil (thenN (AW.ret ?_))
  refine ⟨.inr rfl,[.agg [.int .i64 _,.int .i64 _,.str _]],.cons (.box _ _ _ 0 _ _ _ _ rfl rfl rfl rfl rfl rfl) <| .nil,.cons _ (.refl _),?_⟩
  try simp only [str0,Bool.and_true] at *
  first
    | (simp only [resOf,flagS,cV];skip;first | done | rfl)
    | (try simp only [Bool.not_eq_true',Bool.not_eq_false'] at *
       first
       | (simp only [resOf,flagS,cV, *,Bool.false_eq_true,↓reduceIte,Bool.true_or,Bool.or_true,Bool.false_or,Bool.or_false,Bool.true_and,Bool.and_true,Bool.false_and,Bool.and_false,Bool.not_true,Bool.not_false];done)
       | (simp [resOf,flagS,cV, *];done)
       | (simp_all [resOf,flagS,cV];done))
    | skip
theorem c79 (v:Vl):APure Tryz.prog 101 [.agg (cV v)] (.int .i64 (vcheckS v)):=by
  refine APure.body (n:=47) tok Tryz.func101 rfl rfl rfl fun H=>?_
  refine AW.seq (AW.region (Qp (Qbx [.int .i64 _,.int .i64 _,.str _]) (Qp Qai (AOL.nil (thenN (AW.seq (AW.seq (AW.region (Qp Qf5 ?_)))))))))
  refine Qp Qli (Qp Qclt (Qp Qmb (Qg [] Qw Qf5 (Qg [(7,_)] Qw Qli (Qg [(8,_)] Qw Qcgt (Qp Qpo (AOL.nil (thenN (Qif (fun hc1=>?_) fun hc1=>?_)))))))))
  · skip
    refine AW.seq (AW.region (Qp Qai (AOL.nil (thenN (Qrt ?_)))))
    refine Qr (.int .i64 _) ?_
    rw [←rvcheck_eq]
    try simp only [str0,Bool.and_true] at *
    first
      | (simp only [resOf,rvcheckS];(first | rw [if_pos hc1] | skip);first | done | rfl)
      | (try simp only [Bool.not_eq_true',Bool.not_eq_false'] at *
         first
         | (simp only [resOf,rvcheckS, *,Bool.false_eq_true,↓reduceIte,Bool.true_or,Bool.or_true,Bool.false_or,Bool.or_false,Bool.true_and,Bool.and_true,Bool.false_and,Bool.and_false,Bool.not_true,Bool.not_false];done)
         | (simp [resOf,rvcheckS, *];done)
         | (simp_all [resOf,rvcheckS];done))
      | skip
  · skip
    refine Qst (AW.seq (AW.seq (AW.region (Qp Qf5 (Qp Qli (Qp Qceq (AOL.nil (thenN (Qif (fun hc2=>?_) fun hc2=>?_)))))))))
    · skip
      refine AW.seq (AW.seq (AW.region (Qp Qf6 (Qp Qli (Qp Qcne (AOL.nil (thenN (Qif (fun hc3=>?_) fun hc3=>?_))))))))
      · skip
        refine AW.seq (AW.region (Qp Qai (AOL.nil (thenN (Qrt (thenR ?_))))))
        refine Qr (.int .i64 _) ?_
        rw [←rvcheck_eq]
        try simp only [str0,Bool.and_true] at *
        first
          | (simp only [resOf,rvcheckS];(first | rw [if_neg (Bool.eq_false_iff.mp hc1)] | skip);(first | rw [if_pos hc2] | skip);(first | rw [if_pos hc3] | skip);first | done | rfl)
          | (try simp only [Bool.not_eq_true',Bool.not_eq_false'] at *
             first
             | (simp only [resOf,rvcheckS, *,Bool.false_eq_true,↓reduceIte,Bool.true_or,Bool.or_true,Bool.false_or,Bool.or_false,Bool.true_and,Bool.and_true,Bool.false_and,Bool.and_false,Bool.not_true,Bool.not_false];done)
             | (simp [resOf,rvcheckS, *];done)
             | (simp_all [resOf,rvcheckS];done))
          | skip
      · skip
        refine Qst (AW.seq (AW.seq (AW.region (Qp Qf7 (Qp Qlt ?_)))))
        refine Qp (P_len_str tok rfl rfl rfl rfl) ?_
        refine Qp Qcgt (AOL.nil (thenN (Qif (fun hc4=>?_) fun hc4=>?_)))
        · skip
          refine AW.seq (AW.region (Qp Qai (AOL.nil (thenN (Qrt (thenR ?_))))))
          refine Qr (.int .i64 _) ?_
          rw [←rvcheck_eq]
          try simp only [str0,Bool.and_true] at *
          first
            | (simp only [resOf,rvcheckS];(first | rw [if_neg (Bool.eq_false_iff.mp hc1)] | skip);(first | rw [if_pos hc2] | skip);(first | rw [if_neg (Bool.eq_false_iff.mp hc3)] | skip);(first | rw [if_pos hc4] | skip);first | done | rfl)
            | (try simp only [Bool.not_eq_true',Bool.not_eq_false'] at *
               first
               | (simp only [resOf,rvcheckS, *,Bool.false_eq_true,↓reduceIte,Bool.true_or,Bool.or_true,Bool.false_or,Bool.or_false,Bool.true_and,Bool.and_true,Bool.false_and,Bool.and_false,Bool.not_true,Bool.not_false];done)
               | (simp [resOf,rvcheckS, *];done)
               | (simp_all [resOf,rvcheckS];done))
            | skip
        · skip
          refine Qst (AW.seq (AW.region (Qp Qai (AOL.nil (thenN (Qrt ?_))))))
          refine Qr (.int .i64 _) ?_
          rw [←rvcheck_eq]
          try simp only [str0,Bool.and_true] at *
          first
            | (simp only [resOf,rvcheckS];(first | rw [if_neg (Bool.eq_false_iff.mp hc1)] | skip);(first | rw [if_pos hc2] | skip);(first | rw [if_neg (Bool.eq_false_iff.mp hc3)] | skip);(first | rw [if_neg (Bool.eq_false_iff.mp hc4)] | skip);first | done | rfl)
            | (try simp only [Bool.not_eq_true',Bool.not_eq_false'] at *
               first
               | (simp only [resOf,rvcheckS, *,Bool.false_eq_true,↓reduceIte,Bool.true_or,Bool.or_true,Bool.false_or,Bool.or_false,Bool.true_and,Bool.and_true,Bool.false_and,Bool.and_false,Bool.not_true,Bool.not_false];done)
               | (simp [resOf,rvcheckS, *];done)
               | (simp_all [resOf,rvcheckS];done))
            | skip
    · skip
      refine Qst (AW.seq (AW.seq (AW.region (Qp Qf7 (Qp Qlt ?_)))))
      refine Qp (P_neq_str rfl rfl) ?_
      refine AOL.nil (thenN (Qif (fun hc5=>?_) fun hc5=>?_))
      · skip
        refine AW.seq (AW.region (Qp Qai (AOL.nil (thenN (Qrt ?_)))))
        refine Qr (.int .i64 _) ?_
        rw [←rvcheck_eq]
        try simp only [str0,Bool.and_true] at *
        first
          | (simp only [resOf,rvcheckS];(first | rw [if_neg (Bool.eq_false_iff.mp hc1)] | skip);(first | rw [if_neg (Bool.eq_false_iff.mp hc2)] | skip);(first | rw [if_pos hc5] | skip);first | done | rfl)
          | (try simp only [Bool.not_eq_true',Bool.not_eq_false'] at *
             first
             | (simp only [resOf,rvcheckS, *,Bool.false_eq_true,↓reduceIte,Bool.true_or,Bool.or_true,Bool.false_or,Bool.or_false,Bool.true_and,Bool.and_true,Bool.false_and,Bool.and_false,Bool.not_true,Bool.not_false];done)
             | (simp [resOf,rvcheckS, *];done)
             | (simp_all [resOf,rvcheckS];done))
          | skip
      · skip
        refine Qst (AW.seq (AW.seq (AW.region (Qp Qf5 (Qp Qli (Qp Qceq (Qp Qmb (Qg [] Qw Qf6 (Qg [(28,_)] Qw Qli ?_)))))))))
        refine Qg [(29,_)] Qw Qclt (Qg [(30,_)] Qw Qmb (Qg [] Qw Qf6 (Qg [(32,_)] Qw Qli (Qg [(33,_)] Qw Qcgt (Qg [(31,_),(34,_)] Qw Qpo (Qp Qpa (Qp Qmb (Qg [] Qw Qf6 (Qg [(38,_)] Qw Qli ?_)))))))))
        refine Qg [(39,_)] Qw Qclt (Qp Qpo (Qp Qmb (Qg [] Qw Qf6 (Qg [(43,_)] Qw Qli (Qg [(44,_)] Qw Qcgt (Qp Qpo (AOL.nil (thenN (Qif (fun hc6=>?_) fun hc6=>?_)))))))))
        · skip
          refine AW.seq (AW.region (Qp Qai (AOL.nil (thenN (Qrt ?_)))))
          refine Qr (.int .i64 _) ?_
          rw [←rvcheck_eq]
          try simp only [str0,Bool.and_true] at *
          first
            | (simp only [resOf,rvcheckS];(first | rw [if_neg (Bool.eq_false_iff.mp hc1)] | skip);(first | rw [if_neg (Bool.eq_false_iff.mp hc2)] | skip);(first | rw [if_neg (Bool.eq_false_iff.mp hc5)] | skip);(first | rw [if_pos hc6] | skip);first | done | rfl)
            | (try simp only [Bool.not_eq_true',Bool.not_eq_false'] at *
               first
               | (simp only [resOf,rvcheckS, *,Bool.false_eq_true,↓reduceIte,Bool.true_or,Bool.or_true,Bool.false_or,Bool.or_false,Bool.true_and,Bool.and_true,Bool.false_and,Bool.and_false,Bool.not_true,Bool.not_false];done)
               | (simp [resOf,rvcheckS, *];done)
               | (simp_all [resOf,rvcheckS];done))
            | skip
        · skip
          refine Qst (AW.seq (AW.region (Qp Qai (AOL.nil (thenN (AW.ret ?_))))))
          refine Qr (.int .i64 _) ?_
          rw [←rvcheck_eq]
          try simp only [str0,Bool.and_true] at *
          first
            | (simp only [resOf,rvcheckS];(first | rw [if_neg (Bool.eq_false_iff.mp hc1)] | skip);(first | rw [if_neg (Bool.eq_false_iff.mp hc2)] | skip);(first | rw [if_neg (Bool.eq_false_iff.mp hc5)] | skip);(first | rw [if_neg (Bool.eq_false_iff.mp hc6)] | skip);first | done | rfl)
            | (try simp only [Bool.not_eq_true',Bool.not_eq_false'] at *
               first
               | (simp only [resOf,rvcheckS, *,Bool.false_eq_true,↓reduceIte,Bool.true_or,Bool.or_true,Bool.false_or,Bool.or_false,Bool.true_and,Bool.and_true,Bool.false_and,Bool.and_false,Bool.not_true,Bool.not_false];done)
               | (simp [resOf,rvcheckS, *];done)
               | (simp_all [resOf,rvcheckS];done))
            | skip
theorem c114 (k:Int):APure Tryz.prog 179 [.int .i64 k] (.bool (knownS k)):=by
  refine APure.body (n:=9) tok Tryz.func179 rfl rfl rfl fun H=>?_
  refine AW.seq (AW.region (Qp Qab (AOL.nil (thenN (AW.seq (AW.region (Qp Qmi (Qp Qcgq (Qp Qmb ?_)))))))))
  refine Qg [] Qw Qmi (Qg [(6,_)] Qw Qclq (Qp Qpa (Qp Qab (AOL.nil (thenN (AW.ret ?_))))))
  refine Qr (.bool _) ?_
  try simp only [str0,Bool.and_true] at *
  first
    | (simp only [resOf,knownS];skip;first | done | rfl)
    | (try simp only [Bool.not_eq_true',Bool.not_eq_false'] at *
       first
       | (simp only [resOf,knownS, *,Bool.false_eq_true,↓reduceIte,Bool.true_or,Bool.or_true,Bool.false_or,Bool.or_false,Bool.true_and,Bool.and_true,Bool.false_and,Bool.and_false,Bool.not_true,Bool.not_false];done)
       | (simp [resOf,knownS, *];done)
       | (simp_all [resOf,knownS];done))
    | skip
theorem c124 (k:Int)(v:Vl):APure Tryz.prog 191 [.int .i64 k,.agg (cV v)] (.bool (asuitsS k v)):=by
  refine APure.body (n:=20) tok Tryz.func191 rfl rfl rfl fun H=>?_
  refine AW.seq (AW.region (Qp (Qbx [.int .i64 _,.int .i64 _,.str _]) (Qp Qab (AOL.nil (thenN (AW.seq (AW.region (Qp Qf5 (Qp Qli ?_)))))))))
  refine Qp Qceq (Qp Qmb (Qg [] Qw Qmi (Qg [(9,_)] Qw Qcne (Qg [(10,_)] Qw Qmb (Qg [] Qw Qmi (Qg [(12,_)] Qw Qcne (Qg [(11,_),(13,_)] Qw Qpa (Qg [(14,_)] Qw Qmb (Qg [] Qw Qmi ?_)))))))))
  refine Qg [(16,_)] Qw Qcne (Qg [(15,_),(17,_)] Qw Qpa (Qp Qpo (Qp Qab (AOL.nil (thenN (AW.ret ?_))))))
  refine Qr (.bool _) ?_
  try simp only [str0,Bool.and_true] at *
  first
    | (simp only [resOf,asuitsS];skip;first | done | rfl)
    | (try simp only [Bool.not_eq_true',Bool.not_eq_false'] at *
       first
       | (simp only [resOf,asuitsS, *,Bool.false_eq_true,↓reduceIte,Bool.true_or,Bool.or_true,Bool.false_or,Bool.or_false,Bool.true_and,Bool.and_true,Bool.false_and,Bool.and_false,Bool.not_true,Bool.not_false];done)
       | (simp [resOf,asuitsS, *];done)
       | (simp_all [resOf,asuitsS];done))
    | skip
theorem c101 (k:Int)(v:Vl):APure Tryz.prog 150 [.int .i64 k,.agg (cV v)] (.bool (rsuitsS k v)):=by
  refine APure.body (n:=20) tok Tryz.func150 rfl rfl rfl fun H=>?_
  refine AW.seq (AW.region (Qp (Qbx [.int .i64 _,.int .i64 _,.str _]) (Qp Qab (AOL.nil (thenN (AW.seq (AW.region (Qp Qf5 (Qp Qli ?_)))))))))
  refine Qp Qceq (Qp Qmb (Qg [] Qw Qmi (Qg [(9,_)] Qw Qceq (Qp Qpo (Qp Qmb (Qg [] Qw Qmi (Qg [(13,_)] Qw Qceq (Qp Qpo (Qp Qmb ?_)))))))))
  refine Qg [] Qw Qmi (Qg [(17,_)] Qw Qceq (Qp Qpo (Qp Qab (AOL.nil (thenN (AW.ret ?_))))))
  refine Qr (.bool _) ?_
  try simp only [str0,Bool.and_true] at *
  first
    | (simp only [resOf,rsuitsS];skip;first | done | rfl)
    | (try simp only [Bool.not_eq_true',Bool.not_eq_false'] at *
       first
       | (simp only [resOf,rsuitsS, *,Bool.false_eq_true,↓reduceIte,Bool.true_or,Bool.or_true,Bool.false_or,Bool.or_false,Bool.true_and,Bool.and_true,Bool.false_and,Bool.and_false,Bool.not_true,Bool.not_false];done)
       | (simp [resOf,rsuitsS, *];done)
       | (simp_all [resOf,rsuitsS];done))
    | skip
theorem c99 (k:Int)(v:Vl):APure Tryz.prog 148 [.int .i64 k,.agg (cV v)] (.bool (esuitsS k v)):=by
  refine APure.body (n:=16) tok Tryz.func148 rfl rfl rfl fun H=>?_
  refine AW.seq (AW.region (Qp (Qbx [.int .i64 _,.int .i64 _,.str _]) (Qp Qab (AOL.nil (thenN (AW.seq (AW.region (Qp Qf5 (Qp Qli ?_)))))))))
  refine Qp Qceq (Qp Qmb (Qg [] Qw Qmi (Qg [(9,_)] Qw Qceq (Qp Qpo (Qp Qmb (Qg [] Qw Qmi (Qg [(13,_)] Qw Qceq (Qp Qpo (Qp Qab ?_)))))))))
  refine AOL.nil (thenN (AW.ret ?_))
  refine Qr (.bool _) ?_
  try simp only [str0,Bool.and_true] at *
  first
    | (simp only [resOf,esuitsS];skip;first | done | rfl)
    | (try simp only [Bool.not_eq_true',Bool.not_eq_false'] at *
       first
       | (simp only [resOf,esuitsS, *,Bool.false_eq_true,↓reduceIte,Bool.true_or,Bool.or_true,Bool.false_or,Bool.or_false,Bool.true_and,Bool.and_true,Bool.false_and,Bool.and_false,Bool.not_true,Bool.not_false];done)
       | (simp [resOf,esuitsS, *];done)
       | (simp_all [resOf,esuitsS];done))
    | skip
theorem c119 (k:Int)(v:Vl):APure Tryz.prog 184 [.int .i64 k,.agg (cV v)] (.agg (cV (singleS k v))):=by
  refine APure.body (n:=9) tok Tryz.func184 rfl rfl rfl fun H=>?_
  refine AW.seq (AW.region (Qp (Qbx [.int .i64 _,.int .i64 _,.str _]) ?_))
  refine Qe (E_alloc (l:=[.int .i64 0,.int .i64 0,.str []]) (by kernel_rfl)) ?_
  rintro _ _ ⟨b4,rfl,rfl⟩
  refine AOL.nil (thenN (AW.seq (AW.seq (AW.region (Qp Qmi (Qp Qceq (AOL.nil (thenN (Qif (fun hc1=>?_) fun hc1=>?_)))))))))
  · skip
    refine AW.seq (AW.region (Qp (Qbd [.int .i64 _,.int .i64 _,.str _]) ?_))
    refine Qe (E_store (k:=0) (v:=.agg _) (cs':=[.int .i64 _,.int .i64 _,.str _]) (H2:=_::_) tok rfl rfl rfl rfl (rfl) rfl rfl rfl rfl) ?_
    rintro _ _ ⟨rfl,rfl⟩
    refine AOL.nil (thenN (Qrt ?_))
    refine ⟨.inr rfl,[.agg [.int .i64 _,.int .i64 _,.str _]],.cons (.box _ _ _ 0 _ _ _ _ rfl rfl rfl rfl rfl rfl) <| .nil,.cons _ (.refl _),?_⟩
    try simp only [str0,Bool.and_true] at *
    first
      | (simp only [resOf,singleS,cV,v0];(first | rw [if_pos hc1] | skip);first | done | rfl)
      | (try simp only [Bool.not_eq_true',Bool.not_eq_false'] at *
         first
         | (simp only [resOf,singleS,cV,v0, *,Bool.false_eq_true,↓reduceIte,Bool.true_or,Bool.or_true,Bool.false_or,Bool.or_false,Bool.true_and,Bool.and_true,Bool.false_and,Bool.and_false,Bool.not_true,Bool.not_false];done)
         | (simp [resOf,singleS,cV,v0, *];done)
         | (simp_all [resOf,singleS,cV,v0];done))
      | skip
  · skip
    refine Qst (AW.seq (AW.region (Qp (Qlg [.int .i64 _,.int .i64 _,.str _]) ?_)))
    refine Qe (E_store (k:=0) (v:=.agg _) (cs':=[.int .i64 _,.int .i64 _,.str _]) (H2:=_::_) tok rfl rfl rfl rfl (rfl) rfl rfl rfl rfl) ?_
    rintro _ _ ⟨rfl,rfl⟩
    refine AOL.nil (thenN (AW.ret ?_))
    refine ⟨.inr rfl,[.agg [.int .i64 _,.int .i64 _,.str _]],.cons (.box _ _ _ 0 _ _ _ _ rfl rfl rfl rfl rfl rfl) <| .nil,.cons _ (.refl _),?_⟩
    try simp only [str0,Bool.and_true] at *
    first
      | (simp only [resOf,singleS,cV,v0];(first | rw [if_neg (Bool.eq_false_iff.mp hc1)] | skip);first | done | rfl)
      | (try simp only [Bool.not_eq_true',Bool.not_eq_false'] at *
         first
         | (simp only [resOf,singleS,cV,v0, *,Bool.false_eq_true,↓reduceIte,Bool.true_or,Bool.or_true,Bool.false_or,Bool.or_false,Bool.true_and,Bool.and_true,Bool.false_and,Bool.and_false,Bool.not_true,Bool.not_false];done)
         | (simp [resOf,singleS,cV,v0, *];done)
         | (simp_all [resOf,singleS,cV,v0];done))
      | skip
theorem c115 (k:Int)(v:Vl):APure Tryz.prog 180 [.int .i64 k,.agg (cV v)] (.int .i64 (wrongS k v)):=by
  refine APure.body (n:=15) tok Tryz.func180 rfl rfl rfl fun H=>?_
  refine AW.seq (AW.region (Qp (Qbx [.int .i64 _,.int .i64 _,.str _]) (Qp Qai (AOL.nil (thenN (AW.seq (AW.seq (AW.region (Qp (Qlg [.int .i64 _,.int .i64 _,.str _]) ?_)))))))))
  refine Qp (Qc rfl (c94 v)) ?_
  refine Qp Qai (AOL.nil (thenN (AW.seq (AW.region (Qp Qmi (Qp Qcne (AOL.nil (thenN (Qif (fun hc1=>?_) fun hc1=>?_)))))))))
  · skip
    refine AW.seq (AW.region (Qp Qmi (Qp Qai (AOL.nil (thenN (Qrt ?_))))))
    refine Qr (.int .i64 _) ?_
    try simp only [str0,Bool.and_true] at *
    first
      | (simp only [resOf,wrongS];(first | rw [if_pos hc1] | skip);first | done | rfl)
      | (try simp only [Bool.not_eq_true',Bool.not_eq_false'] at *
         first
         | (simp only [resOf,wrongS, *,Bool.false_eq_true,↓reduceIte,Bool.true_or,Bool.or_true,Bool.false_or,Bool.or_false,Bool.true_and,Bool.and_true,Bool.false_and,Bool.and_false,Bool.not_true,Bool.not_false];done)
         | (simp [resOf,wrongS, *];done)
         | (simp_all [resOf,wrongS];done))
      | skip
  · skip
    refine Qst (AW.seq (AW.seq (AW.region (Qp Qmi (Qp (Qlg [.int .i64 _,.int .i64 _,.str _]) ?_)))))
    refine Qp (Qc rfl (c124 k v)) ?_
    refine Qp Qnt (AOL.nil (thenN (Qif (fun hc2=>?_) fun hc2=>?_)))
    · skip
      refine AW.seq (AW.region (Qp Qai (AOL.nil (thenN (Qrt ?_)))))
      refine Qr (.int .i64 _) ?_
      try simp only [str0,Bool.and_true] at *
      first
        | (simp only [resOf,wrongS];(first | rw [if_neg (Bool.eq_false_iff.mp hc1)] | skip);(first | rw [if_pos hc2] | skip);first | done | rfl)
        | (try simp only [Bool.not_eq_true',Bool.not_eq_false'] at *
           first
           | (simp only [resOf,wrongS, *,Bool.false_eq_true,↓reduceIte,Bool.true_or,Bool.or_true,Bool.false_or,Bool.or_false,Bool.true_and,Bool.and_true,Bool.false_and,Bool.and_false,Bool.not_true,Bool.not_false];done)
           | (simp [resOf,wrongS, *];done)
           | (simp_all [resOf,wrongS];done))
        | skip
    · skip
      refine Qst (AW.seq (AW.region (Qp Qai (AOL.nil (thenN (AW.ret ?_))))))
      refine Qr (.int .i64 _) ?_
      try simp only [str0,Bool.and_true] at *
      first
        | (simp only [resOf,wrongS];(first | rw [if_neg (Bool.eq_false_iff.mp hc1)] | skip);(first | rw [if_neg (Bool.eq_false_iff.mp hc2)] | skip);first | done | rfl)
        | (try simp only [Bool.not_eq_true',Bool.not_eq_false'] at *
           first
           | (simp only [resOf,wrongS, *,Bool.false_eq_true,↓reduceIte,Bool.true_or,Bool.or_true,Bool.false_or,Bool.or_false,Bool.true_and,Bool.and_true,Bool.false_and,Bool.and_false,Bool.not_true,Bool.not_false];done)
           | (simp [resOf,wrongS, *];done)
           | (simp_all [resOf,wrongS];done))
        | skip

end Go.Proofs.YtkddpedfbicbeaaGreatDoor
