/-
  Walks of layers 1, 7 and 8: the functions without loops. No condition.
-/
import Derived.Test.YtjedflcpjlgokaaGreatDoorAz
import Derived.Test.YtjedflcpjlgokaaGreatDoorK02
import Derived.Test.YtjedflcpjlgokaaGreatDoorTab
import Derived.KernelRfl
namespace Go.Proofs.YtjedflcpjlgokaaGreatDoor
open Go Go.Aw
set_option maxHeartbeats 400000
set_option maxRecDepth 20000
set_option linter.unusedVariables false
set_option linter.unusedSimpArgs false

theorem c52 (op:Int):A1 Tryz.prog 131 [.int .i64 op] (.tuple [.bool (Dd op).1,.bool (Dd op).2]):=by
 refine A1.body (n:=11) Aj Tryz.func131 rfl rfl rfl fun H=>?_
 refine Ah (Qp Bb (Qp Bb (Ag (AW.seq (Ah (Qp Az (Ag (AW.block (AW.seq ?_)))))))))
 refine Ah (Qp Ba (Qp Bb (Ag (A4 (fun hc1=>?_) fun hc1=>?_))))
 ·
  refine Bx (A4 (fun hc2=>?_) fun hc2=>?_)
  ·
   refine Ah (Qp Bb (Qp Bb (Ag (AW.ret (A6 (Ai ?_))))))
   refine Iw (.bool _) (.bool _) ?_
   simp_all [Ae,Dd]
  ·
   refine AW.seq (Ah (Qp Ba (Qp Bb (Ag (A4 (fun hc3=>?_) fun hc3=>?_)))))
   ·
    refine Bx (A4 (fun hc4=>?_) fun hc4=>?_)
    ·
     refine Ah (Qp Bb (Qp Bb (Ag (AW.ret (A6 (Ai ?_))))))
     refine Iw (.bool _) (.bool _) ?_
     simp_all [Ae,Dd]
    ·
     refine AW.skip (Bn (Ad (Ah (Qp Bb (Qp Bb (Ag (AW.ret ?_)))))))
     refine Iw (.bool _) (.bool _) ?_
     simp_all [Ae,Dd]
   ·
    refine AW.region (Qp Ba (Qp Bb (Ag (A4 (fun hc5=>?_) fun hc5=>?_))))
    ·
     refine Ah (Qp Bb (Qp Bb (Ag (AW.ret (A6 (Ai ?_))))))
     refine Iw (.bool _) (.bool _) ?_
     simp_all [Ae,Dd]
    ·
     refine AW.skip (Bn (Ad (Ah (Qp Bb (Qp Bb (Ag (AW.ret ?_)))))))
     refine Iw (.bool _) (.bool _) ?_
     simp_all [Ae,Dd]
 ·
  refine AW.region (Qp Ba (Qp Bb (Ag (A4 (fun hc6=>?_) fun hc6=>?_))))
  ·
   refine Ah (Qp Bb (Qp Bb (Ag (AW.ret (A6 (Ai ?_))))))
   refine Iw (.bool _) (.bool _) ?_
   simp_all [Ae,Dd]
  ·
   refine AW.seq (Ah (Qp Ba (Qp Bb (Ag (A4 (fun hc7=>?_) fun hc7=>?_)))))
   ·
    refine Bx (A4 (fun hc8=>?_) fun hc8=>?_)
    ·
     refine Ah (Qp Bb (Qp Bb (Ag (AW.ret (A6 (Ai ?_))))))
     refine Iw (.bool _) (.bool _) ?_
     simp_all [Ae,Dd]
    ·
     refine AW.skip (Bn (Ad (Ah (Qp Bb (Qp Bb (Ag (AW.ret ?_)))))))
     refine Iw (.bool _) (.bool _) ?_
     simp_all [Ae,Dd]
   ·
    refine AW.region (Qp Ba (Qp Bb (Ag (A4 (fun hc9=>?_) fun hc9=>?_))))
    ·
     refine Ah (Qp Bb (Qp Bb (Ag (AW.ret (A6 (Ai ?_))))))
     refine Iw (.bool _) (.bool _) ?_
     simp_all [Ae,Dd]
    ·
     refine AW.skip (Bn (Ad (Ah (Qp Bb (Qp Bb (Ag (AW.ret ?_)))))))
     refine Iw (.bool _) (.bool _) ?_
     simp_all [Ae,Dd]
theorem c84 (op:Int):A1 Tryz.prog 153 [.int .i64 op] (.tuple [.bool (Dd op).1,.bool (Dd op).2]):=by
 refine A1.body (n:=21) Aj Tryz.func153 rfl rfl rfl fun H=>?_
 refine Ah (Qp Bb (Qp Bb (Dv (Qp Az (Qp Ba (Qp Bt (Qg [] Qw Az (Qg [(8,_)] Qw Ba (Qp Ew ?_)))))))))
 refine Qp Bb (Dv (Qp Bt (Qp Bt (Qg [] Qw Az (Qg [(13,_)] Qw Ba (Qp Ew (Qp Bt (Qg [] Qw Az (Qg [(17,_)] Qw Ba ?_)))))))))
 refine Qp Ew (Qp Bt (Qp Bb (Qp Bb (Ag (AW.ret ?_)))))
 refine Iw (.bool _) (.bool _) ?_
 by_cases h1:op=1 <;> by_cases h2:op=2 <;> by_cases h3:op=3 <;> by_cases h4:op=4 <;> simp_all [Dd,Ae]
theorem c81 (op:Int):A1 Tryz.prog 130 [.int .i64 op] (.tuple [.int .i64 (Dp op),.bool (decide (0≤op∧op≤12))]):=by
 refine A1.body (n:=17) Aj Tryz.func130 rfl rfl rfl fun H=>?_
 refine Ah (Qp Aq (Qp Bb (Ag (AW.seq (AW.block (Ah (Qp Az (Qp Co (Qp Bt ?_)))))))))
 refine Qg [] Qw Az (Qg [(8,_)] Qw Gl (Qp Ew (Qp Bb (Ag (A4 (fun hc1=>?_) fun hc1=>?_)))))
 ·
  refine Ah (Qp Aq (Qp Bb (Ag (AW.ret (A6 (Ai ?_))))))
  refine Iw (Iq _) (.bool _) ?_
  simp only [Bool.or_eq_true,Bool.or_eq_false_iff,decide_eq_true_eq,decide_eq_false_iff_not,beq_iff_eq,beq_eq_false_iff_ne] at *
  simp only [Ae,Dp,AV.tuple.injEq,List.cons.injEq,AV.int.injEq,AV.bool.injEq,true_and,and_true]
  refine ⟨?_,?_⟩
  ·
   repeat' split
   all_goals omega
  · simp <;> omega
 ·
  refine Ah (Qp Az (Qp Co (Qp Bb (Ag (A4 (fun hc2=>?_) fun hc2=>?_)))))
  ·
   refine Ah (Qp Aq (Qp Bb (Ag (AW.ret (A6 (Ai ?_))))))
   refine Iw (Iq _) (.bool _) ?_
   simp only [Bool.or_eq_true,Bool.or_eq_false_iff,decide_eq_true_eq,decide_eq_false_iff_not,beq_iff_eq,beq_eq_false_iff_ne] at *
   simp only [Ae,Dp,AV.tuple.injEq,List.cons.injEq,AV.int.injEq,AV.bool.injEq,true_and,and_true]
   refine ⟨?_,?_⟩
   ·
    repeat' split
    all_goals omega
   · simp <;> omega
  ·
   refine Ah (Qp Az (Qp Ba (Qp Bb (Ag (A4 (fun hc3=>?_) fun hc3=>?_)))))
   ·
    refine Ah (Qp Aq (Qp Bb (Ag (AW.ret (A6 (Ai ?_))))))
    refine Iw (Iq _) (.bool _) ?_
    simp only [Bool.or_eq_true,Bool.or_eq_false_iff,decide_eq_true_eq,decide_eq_false_iff_not,beq_iff_eq,beq_eq_false_iff_ne] at *
    simp only [Ae,Dp,AV.tuple.injEq,List.cons.injEq,AV.int.injEq,AV.bool.injEq,true_and,and_true]
    refine ⟨?_,?_⟩
    ·
     repeat' split
     all_goals omega
    · simp <;> omega
   ·
    refine AW.skip (Bn (Ad (Ah (Qp Aq (Qp Bb (Ag (AW.ret ?_)))))))
    refine Iw (Iq _) (.bool _) ?_
    simp only [Bool.or_eq_true,Bool.or_eq_false_iff,decide_eq_true_eq,decide_eq_false_iff_not,beq_iff_eq,beq_eq_false_iff_ne] at *
    simp only [Ae,Dp,AV.tuple.injEq,List.cons.injEq,AV.int.injEq,AV.bool.injEq,true_and,and_true]
    refine ⟨?_,?_⟩
    ·
     repeat' split
     all_goals omega
    · simp <;> omega
theorem c100 (op:Int):A1 Tryz.prog 152 [.int .i64 op] (.int .i64 (if 0≤op∧op≤12 then Dp op else -1)):=by
 refine A1.body (n:=20) Aj Tryz.func152 rfl rfl rfl fun H=>?_
 refine Ah (Qp Aq (Ag (AW.seq (Ah (Qp Az (Ag (AW.block ?_)))))))
 refine AW.cut (fun (_:Unit)=>(⟨[(0,.int .i64 op),(3,.int .i64 op),(4,.bool (op==0||op==1||op==2||op==3||op==4))],H,20⟩:St)) (fun (_:Unit)=>True) ?_ ?_
 ·
  refine Ah (Qp Ba (Qp Bb (Ag (A4 (fun hc1=>?_) fun hc1=>?_))))
  ·
   refine Bx ?_
   refine ⟨(),?_,GS.weaken ⟨rfl,rfl,congrArg AV.bool (by simp [*]),trivial⟩ (.refl _)⟩
   trivial
  ·
   refine Ah (Qp Ba (Qp Bb (Ag (A4 (fun hc2=>?_) fun hc2=>?_))))
   ·
    refine Bx ?_
    refine ⟨(),?_,GS.weaken ⟨rfl,rfl,congrArg AV.bool (by simp [*]),trivial⟩ (.refl _)⟩
    trivial
   ·
    refine Ah (Qp Ba (Qp Bb (Ag (A4 (fun hc3=>?_) fun hc3=>?_))))
    ·
     refine Bx ?_
     refine ⟨(),?_,GS.weaken ⟨rfl,rfl,congrArg AV.bool (by simp [*]),trivial⟩ (.refl _)⟩
     trivial
    ·
     refine Ah (Qp Ba (Qp Bb (Ag (A4 (fun hc4=>?_) fun hc4=>?_))))
     ·
      refine Bx ?_
      refine ⟨(),?_,GS.weaken ⟨rfl,rfl,congrArg AV.bool (by simp [*]),trivial⟩ (.refl _)⟩
      trivial
     ·
      refine AW.region (Qp Ba (Qp Bb (Ag ?_)))
      refine ⟨(),?_,GS.weaken ⟨rfl,rfl,congrArg AV.bool (by simp [*]),trivial⟩ (.refl _)⟩
      trivial
 ·
  rintro _ _
  refine A4 (fun hc5=>?_) fun hc5=>?_
  ·
   refine Ah (Qp Aq (Ag (AW.ret (A6 (Ai ?_)))))
   refine Qr (Iq _) ?_
   simp only [Bool.or_eq_true,Bool.or_eq_false_iff,beq_iff_eq,beq_eq_false_iff_ne] at *
   simp only [Ae,Dp,AV.int.injEq,true_and]
   repeat' split
   all_goals omega
  ·
   refine Ah (Qp Ba (Qp Bb (Ag (A4 (fun hc6=>?_) fun hc6=>?_))))
   ·
    refine Ah (Qp Aq (Ag (AW.ret (A6 (Ai ?_)))))
    refine Qr (Iq _) ?_
    simp only [Bool.or_eq_true,Bool.or_eq_false_iff,beq_iff_eq,beq_eq_false_iff_ne] at *
    simp only [Ae,Dp,AV.int.injEq,true_and]
    repeat' split
    all_goals omega
   ·
    refine AW.cut (fun (_:Unit)=>(⟨[(12,.bool (op==5||op==6||op==7||op==8||op==9||op==10||op==11))],H,20⟩:St)) (fun (_:Unit)=>True) ?_ ?_
    ·
     refine Ah (Qp Ba (Qp Bb (Ag (A4 (fun hc7=>?_) fun hc7=>?_))))
     ·
      refine Bx ?_
      refine ⟨(),?_,GS.weaken ⟨congrArg AV.bool (by simp [*]),trivial⟩ (.refl _)⟩
      trivial
     ·
      refine Ah (Qp Ba (Qp Bb (Ag (A4 (fun hc8=>?_) fun hc8=>?_))))
      ·
       refine Bx ?_
       refine ⟨(),?_,GS.weaken ⟨congrArg AV.bool (by simp [*]),trivial⟩ (.refl _)⟩
       trivial
      ·
       refine Ah (Qp Ba (Qp Bb (Ag (A4 (fun hc9=>?_) fun hc9=>?_))))
       ·
        refine Bx ?_
        refine ⟨(),?_,GS.weaken ⟨congrArg AV.bool (by simp [*]),trivial⟩ (.refl _)⟩
        trivial
       ·
        refine Ah (Qp Ba (Qp Bb (Ag (A4 (fun hc10=>?_) fun hc10=>?_))))
        ·
         refine Bx ?_
         refine ⟨(),?_,GS.weaken ⟨congrArg AV.bool (by simp [*]),trivial⟩ (.refl _)⟩
         trivial
        ·
         refine Ah (Qp Ba (Qp Bb (Ag (A4 (fun hc11=>?_) fun hc11=>?_))))
         ·
          refine Bx ?_
          refine ⟨(),?_,GS.weaken ⟨congrArg AV.bool (by simp [*]),trivial⟩ (.refl _)⟩
          trivial
         ·
          refine Ah (Qp Ba (Qp Bb (Ag (A4 (fun hc12=>?_) fun hc12=>?_))))
          ·
           refine Bx ?_
           refine ⟨(),?_,GS.weaken ⟨congrArg AV.bool (by simp [*]),trivial⟩ (.refl _)⟩
           trivial
          ·
           refine AW.region (Qp Ba (Qp Bb (Ag ?_)))
           refine ⟨(),?_,GS.weaken ⟨congrArg AV.bool (by simp [*]),trivial⟩ (.refl _)⟩
           trivial
    ·
     rintro _ _
     refine A4 (fun hc13=>?_) fun hc13=>?_
     ·
      refine Ah (Qp Aq (Ag (AW.ret (A6 (Ai ?_)))))
      refine Qr (Iq _) ?_
      simp only [Bool.or_eq_true,Bool.or_eq_false_iff,beq_iff_eq,beq_eq_false_iff_ne] at *
      simp only [Ae,Dp,AV.int.injEq,true_and]
      repeat' split
      all_goals omega
     ·
      refine AW.skip (Bn (Ad (Ah (Qp Aq (Ag (AW.ret ?_))))))
      refine Qr (Iq _) ?_
      simp only [Bool.or_eq_true,Bool.or_eq_false_iff,beq_iff_eq,beq_eq_false_iff_ne] at *
      simp only [Ae,Dp,AV.int.injEq,true_and]
      repeat' split
      all_goals omega
theorem wO (v:Vl):A1 Tryz.prog 151 [.agg (cV v)] (.int .i64 (Dz v)):=by
  refine A1.body (n:=36) Aj Tryz.func151 rfl rfl rfl fun H=>?_
  refine AW.seq (AW.region (Qp (It [Iq _,Iq _,.str _]) (Qp Aq (AOL.nil (Ad (AW.seq (AW.block (AW.seq (AW.region ?_)))))))))
  refine Qp Mv (Qp B2 (Qp Ba (Qp Bt (Qg [] Qw mK (Qg [(8,_)] Qw B2 (Qg [(9,_)] Qw Co (Qg [(10,_)] Qw Bt (Qg [] Qw mK (Qg [(12,_)] Qw B2 ?_)))))))))
  refine Qg [(13,_)] Qw Gl (Qg [(11,_),(14,_)] Qw Ew (Qp G1 (Qp Bb (AOL.nil (Ad (A4 (fun hc1=>?_) fun hc1=>?_))))))
  · skip
    refine AW.seq (AW.region (Qp Aq (AOL.nil (Ad (AW.ret (A6 (Ai ?_)))))))
    refine Qr (Iq _) ?_
    try simp only [D0,Bool.and_true] at *
    first
      | (simp only [Ae,Dz];(first | rw [if_pos hc1] | skip);first | done | rfl)
      | (try simp only [Bool.not_eq_true',Bool.not_eq_false'] at *
         first
         | (simp only [Ae,Dz, *,Bool.false_eq_true,↓reduceIte,Bool.true_or,Bool.or_true,Bool.false_or,Bool.or_false,Bool.true_and,Bool.and_true,Bool.false_and,Bool.and_false,Bool.not_true,Bool.not_false];done)
         | (simp [Ae,Dz, *];done)
         | (simp_all [Ae,Dz];done))
      | skip
  · skip
    refine AW.seq (AW.region (Qp Mv (Qp B2 (Qp Ba (Qp Bt (Qg [] Qw mK (Qg [(22,_)] Qw B2 (Qg [(23,_)] Qw C1 (Qp G1 ?_)))))))))
    refine Qp Bt (Qg [] Qw mK (Qg [(27,_)] Qw B2 (Qg [(28,_)] Qw C1 (Qp G1 (Qp Bb (AOL.nil (Ad (A4 (fun hc2=>?_) fun hc2=>?_))))))))
    · skip
      refine AW.seq (AW.region (Qp Aq (AOL.nil (Ad (AW.ret (A6 (Ai ?_)))))))
      refine Qr (Iq _) ?_
      try simp only [D0,Bool.and_true] at *
      first
        | (simp only [Ae,Dz];(first | rw [iN hc1] | skip);(first | rw [if_pos hc2] | skip);first | done | rfl)
        | (try simp only [Bool.not_eq_true',Bool.not_eq_false'] at *
           first
           | (simp only [Ae,Dz, *,Bool.false_eq_true,↓reduceIte,Bool.true_or,Bool.or_true,Bool.false_or,Bool.or_false,Bool.true_and,Bool.and_true,Bool.false_and,Bool.and_false,Bool.not_true,Bool.not_false];done)
           | (simp [Ae,Dz, *];done)
           | (simp_all [Ae,Dz];done))
        | skip
    · skip
      refine AW.seq (AW.region (Qp Qf7 (Qp Uj ?_)))
      refine Qp (G4 Aj rfl rfl rfl rfl) ?_
      refine Qp Gl (Qp Bb (AOL.nil (Ad (A4 (fun hc3=>?_) fun hc3=>?_))))
      · skip
        refine AW.seq (AW.region (Qp Aq (AOL.nil (Ad (AW.ret (A6 (Ai ?_)))))))
        refine Qr (Iq _) ?_
        try simp only [D0,Bool.and_true] at *
        first
          | (simp only [Ae,Dz];(first | rw [iN hc1] | skip);(first | rw [iN hc2] | skip);(first | rw [if_pos hc3] | skip);first | done | rfl)
          | (try simp only [Bool.not_eq_true',Bool.not_eq_false'] at *
             first
             | (simp only [Ae,Dz, *,Bool.false_eq_true,↓reduceIte,Bool.true_or,Bool.or_true,Bool.false_or,Bool.or_false,Bool.true_and,Bool.and_true,Bool.false_and,Bool.and_false,Bool.not_true,Bool.not_false];done)
             | (simp [Ae,Dz, *];done)
             | (simp_all [Ae,Dz];done))
          | skip
      · skip
        refine AW.skip (Bn (Ad (AW.seq (AW.region (Qp Aq (AOL.nil (Ad (AW.ret ?_))))))))
        refine Qr (Iq _) ?_
        try simp only [D0,Bool.and_true] at *
        first
          | (simp only [Ae,Dz];(first | rw [iN hc1] | skip);(first | rw [iN hc2] | skip);(first | rw [iN hc3] | skip);first | done | rfl)
          | (try simp only [Bool.not_eq_true',Bool.not_eq_false'] at *
             first
             | (simp only [Ae,Dz, *,Bool.false_eq_true,↓reduceIte,Bool.true_or,Bool.or_true,Bool.false_or,Bool.or_false,Bool.true_and,Bool.and_true,Bool.false_and,Bool.and_false,Bool.not_true,Bool.not_false];done)
             | (simp [Ae,Dz, *];done)
             | (simp_all [Ae,Dz];done))
          | skip
theorem c94 (v:Vl):A1 Tryz.prog 141 [.agg (cV v)] (.int .i64 (Ao v)):=by
  refine A1.body (n:=18) Aj Tryz.func141 rfl rfl rfl fun H=>?_
  refine AW.seq (AW.region (Qp (It [Iq _,Iq _,.str _]) (Qp Aq (AOL.nil (Ad (AW.seq (AW.seq (AW.region (Qp Mv ?_)))))))))
  refine Qp B2 (AOL.nil (Ad (AW.block (AW.seq (AW.seq (AW.region (Qp Ba (Qp Bb (AOL.nil ?_)))))))))
  refine Ad (A4 (fun hc1=>?_) fun hc1=>?_)
  · skip
    refine Bx (A4 (fun hc2=>?_) fun hc2=>?_)
    · skip
      refine AW.seq (AW.region (Qp Qf7 (Qp Uj ?_)))
      refine Qp (Ol rfl rfl) ?_
      refine AOL.nil (Ad (A4 (fun hc3=>?_) fun hc3=>?_))
      · skip
        refine AW.seq (AW.region (Qp Aq (AOL.nil (Ad (AW.ret (A6 (Ai ?_)))))))
        refine Qr (Iq _) ?_
        try simp only [D0,Bool.and_true] at *
        first
          | (simp only [Ae,Ao];(first | rw [if_pos hc1] | skip);(first | rw [if_pos hc2] | skip);(first | rw [if_pos hc3] | skip);first | done | rfl)
          | (try simp only [Bool.not_eq_true',Bool.not_eq_false'] at *
             first
             | (simp only [Ae,Ao, *,Bool.false_eq_true,↓reduceIte,Bool.true_or,Bool.or_true,Bool.false_or,Bool.or_false,Bool.true_and,Bool.and_true,Bool.false_and,Bool.and_false,Bool.not_true,Bool.not_false];done)
             | (simp [Ae,Ao, *];done)
             | (simp_all [Ae,Ao];done))
          | skip
      · skip
        refine AW.skip (Bn (Ad (AW.seq (AW.region (Qp (C8 [Iq _,Iq _,.str _]) ?_)))))
        refine Qp (Qc rfl (wO v)) ?_
        refine Qp Aq (AOL.nil (Ad (AW.ret ?_)))
        refine Qr (Iq _) ?_
        try simp only [D0,Bool.and_true] at *
        first
          | (simp only [Ae,Ao];(first | rw [if_pos hc1] | skip);(first | rw [if_pos hc2] | skip);(first | rw [iN hc3] | skip);first | done | rfl)
          | (try simp only [Bool.not_eq_true',Bool.not_eq_false'] at *
             first
             | (simp only [Ae,Ao, *,Bool.false_eq_true,↓reduceIte,Bool.true_or,Bool.or_true,Bool.false_or,Bool.or_false,Bool.true_and,Bool.and_true,Bool.false_and,Bool.and_false,Bool.not_true,Bool.not_false];done)
             | (simp [Ae,Ao, *];done)
             | (simp_all [Ae,Ao];done))
          | skip
    · skip
      refine AW.seq (AW.region (Qp Ba (Qp Bb (AOL.nil (Ad (A4 (fun hc4=>?_) fun hc4=>?_))))))
      · skip
        refine AW.seq (AW.region (Qp mK (Qp B2 (Qp C1 (AOL.nil (Ad (A4 (fun hc5=>?_) fun hc5=>?_)))))))
        · skip
          refine AW.seq (AW.region (Qp Aq (AOL.nil (Ad (AW.ret (A6 (Ai ?_)))))))
          refine Qr (Iq _) ?_
          try simp only [D0,Bool.and_true] at *
          first
            | (simp only [Ae,Ao];(first | rw [if_pos hc1] | skip);(first | rw [iN hc2] | skip);(first | rw [if_pos hc4] | skip);(first | rw [if_pos hc5] | skip);first | done | rfl)
            | (try simp only [Bool.not_eq_true',Bool.not_eq_false'] at *
               first
               | (simp only [Ae,Ao, *,Bool.false_eq_true,↓reduceIte,Bool.true_or,Bool.or_true,Bool.false_or,Bool.or_false,Bool.true_and,Bool.and_true,Bool.false_and,Bool.and_false,Bool.not_true,Bool.not_false];done)
               | (simp [Ae,Ao, *];done)
               | (simp_all [Ae,Ao];done))
            | skip
        · skip
          refine AW.skip (Bn (Ad (AW.seq (AW.region (Qp (C8 [Iq _,Iq _,.str _]) ?_)))))
          refine Qp (Qc rfl (wO v)) ?_
          refine Qp Aq (AOL.nil (Ad (AW.ret ?_)))
          refine Qr (Iq _) ?_
          try simp only [D0,Bool.and_true] at *
          first
            | (simp only [Ae,Ao];(first | rw [if_pos hc1] | skip);(first | rw [iN hc2] | skip);(first | rw [if_pos hc4] | skip);(first | rw [iN hc5] | skip);first | done | rfl)
            | (try simp only [Bool.not_eq_true',Bool.not_eq_false'] at *
               first
               | (simp only [Ae,Ao, *,Bool.false_eq_true,↓reduceIte,Bool.true_or,Bool.or_true,Bool.false_or,Bool.or_false,Bool.true_and,Bool.and_true,Bool.false_and,Bool.and_false,Bool.not_true,Bool.not_false];done)
               | (simp [Ae,Ao, *];done)
               | (simp_all [Ae,Ao];done))
            | skip
      · skip
        refine AW.seq (AW.region (Qp Aq (AOL.nil (Ad (AW.ret (A6 (Ai ?_)))))))
        refine Qr (Iq _) ?_
        try simp only [D0,Bool.and_true] at *
        first
          | (simp only [Ae,Ao];(first | rw [if_pos hc1] | skip);(first | rw [iN hc2] | skip);(first | rw [iN hc4] | skip);first | done | rfl)
          | (try simp only [Bool.not_eq_true',Bool.not_eq_false'] at *
             first
             | (simp only [Ae,Ao, *,Bool.false_eq_true,↓reduceIte,Bool.true_or,Bool.or_true,Bool.false_or,Bool.or_false,Bool.true_and,Bool.and_true,Bool.false_and,Bool.and_false,Bool.not_true,Bool.not_false];done)
             | (simp [Ae,Ao, *];done)
             | (simp_all [Ae,Ao];done))
          | skip
  · skip
    refine AW.region (Qp Ba (Qp Bb (AOL.nil (Ad (A4 (fun hc6=>?_) fun hc6=>?_)))))
    · skip
      refine AW.seq (AW.region (Qp Qf7 (Qp Uj ?_)))
      refine Qp (Ol rfl rfl) ?_
      refine AOL.nil (Ad (A4 (fun hc7=>?_) fun hc7=>?_))
      · skip
        refine AW.seq (AW.region (Qp Aq (AOL.nil (Ad (AW.ret (A6 (Ai ?_)))))))
        refine Qr (Iq _) ?_
        try simp only [D0,Bool.and_true] at *
        first
          | (simp only [Ae,Ao];(first | rw [iN hc1] | skip);(first | rw [if_pos hc6] | skip);(first | rw [if_pos hc7] | skip);first | done | rfl)
          | (try simp only [Bool.not_eq_true',Bool.not_eq_false'] at *
             first
             | (simp only [Ae,Ao, *,Bool.false_eq_true,↓reduceIte,Bool.true_or,Bool.or_true,Bool.false_or,Bool.or_false,Bool.true_and,Bool.and_true,Bool.false_and,Bool.and_false,Bool.not_true,Bool.not_false];done)
             | (simp [Ae,Ao, *];done)
             | (simp_all [Ae,Ao];done))
          | skip
      · skip
        refine AW.skip (Bn (Ad (AW.seq (AW.region (Qp (C8 [Iq _,Iq _,.str _]) ?_)))))
        refine Qp (Qc rfl (wO v)) ?_
        refine Qp Aq (AOL.nil (Ad (AW.ret ?_)))
        refine Qr (Iq _) ?_
        try simp only [D0,Bool.and_true] at *
        first
          | (simp only [Ae,Ao];(first | rw [iN hc1] | skip);(first | rw [if_pos hc6] | skip);(first | rw [iN hc7] | skip);first | done | rfl)
          | (try simp only [Bool.not_eq_true',Bool.not_eq_false'] at *
             first
             | (simp only [Ae,Ao, *,Bool.false_eq_true,↓reduceIte,Bool.true_or,Bool.or_true,Bool.false_or,Bool.or_false,Bool.true_and,Bool.and_true,Bool.false_and,Bool.and_false,Bool.not_true,Bool.not_false];done)
             | (simp [Ae,Ao, *];done)
             | (simp_all [Ae,Ao];done))
          | skip
    · skip
      refine AW.seq (AW.region (Qp Ba (Qp Bb (AOL.nil (Ad (A4 (fun hc8=>?_) fun hc8=>?_))))))
      · skip
        refine AW.seq (AW.region (Qp mK (Qp B2 (Qp C1 (AOL.nil (Ad (A4 (fun hc9=>?_) fun hc9=>?_)))))))
        · skip
          refine AW.seq (AW.region (Qp Aq (AOL.nil (Ad (AW.ret (A6 (Ai ?_)))))))
          refine Qr (Iq _) ?_
          try simp only [D0,Bool.and_true] at *
          first
            | (simp only [Ae,Ao];(first | rw [iN hc1] | skip);(first | rw [iN hc6] | skip);(first | rw [if_pos hc8] | skip);(first | rw [if_pos hc9] | skip);first | done | rfl)
            | (try simp only [Bool.not_eq_true',Bool.not_eq_false'] at *
               first
               | (simp only [Ae,Ao, *,Bool.false_eq_true,↓reduceIte,Bool.true_or,Bool.or_true,Bool.false_or,Bool.or_false,Bool.true_and,Bool.and_true,Bool.false_and,Bool.and_false,Bool.not_true,Bool.not_false];done)
               | (simp [Ae,Ao, *];done)
               | (simp_all [Ae,Ao];done))
            | skip
        · skip
          refine AW.skip (Bn (Ad (AW.seq (AW.region (Qp (C8 [Iq _,Iq _,.str _]) ?_)))))
          refine Qp (Qc rfl (wO v)) ?_
          refine Qp Aq (AOL.nil (Ad (AW.ret ?_)))
          refine Qr (Iq _) ?_
          try simp only [D0,Bool.and_true] at *
          first
            | (simp only [Ae,Ao];(first | rw [iN hc1] | skip);(first | rw [iN hc6] | skip);(first | rw [if_pos hc8] | skip);(first | rw [iN hc9] | skip);first | done | rfl)
            | (try simp only [Bool.not_eq_true',Bool.not_eq_false'] at *
               first
               | (simp only [Ae,Ao, *,Bool.false_eq_true,↓reduceIte,Bool.true_or,Bool.or_true,Bool.false_or,Bool.or_false,Bool.true_and,Bool.and_true,Bool.false_and,Bool.and_false,Bool.not_true,Bool.not_false];done)
               | (simp [Ae,Ao, *];done)
               | (simp_all [Ae,Ao];done))
            | skip
      · skip
        refine AW.seq (AW.region (Qp Aq (AOL.nil (Ad (AW.ret (A6 (Ai ?_)))))))
        refine Qr (Iq _) ?_
        try simp only [D0,Bool.and_true] at *
        first
          | (simp only [Ae,Ao];(first | rw [iN hc1] | skip);(first | rw [iN hc6] | skip);(first | rw [iN hc8] | skip);first | done | rfl)
          | (try simp only [Bool.not_eq_true',Bool.not_eq_false'] at *
             first
             | (simp only [Ae,Ao, *,Bool.false_eq_true,↓reduceIte,Bool.true_or,Bool.or_true,Bool.false_or,Bool.or_false,Bool.true_and,Bool.and_true,Bool.false_and,Bool.and_false,Bool.not_true,Bool.not_false];done)
             | (simp [Ae,Ao, *];done)
             | (simp_all [Ae,Ao];done))
          | skip
theorem c75 (b:Bool):A1 Tryz.prog 84 [.bool b] (.agg (cV (Fo b))):=by
  refine A1.body (n:=8) Aj Tryz.func84 rfl rfl rfl fun H=>?_
  refine AW.seq (AW.region ?_)
  refine Qe (A0 (l:=[.int .i64 0,.int .i64 0,.str []]) (by kernel_rfl)) ?_
  rintro _ _ ⟨b2,rfl,rfl⟩
  refine AOL.nil (Ad (AW.seq (AW.region (Qp (Ij [Iq _,Iq _,.str _]) ?_))))
  refine Qe (A0 (l:=[.int .i64 0,.int .i64 0,.str []]) (by kernel_rfl)) ?_
  rintro _ _ ⟨b3,rfl,rfl⟩
  refine Eu 0 [Iq _,Iq _,.str _] (_::_::_) ?_
  refine AOL.nil (Ad (AW.seq (AW.seq (AW.region (Qp Bt (AOL.nil (Ad (A4 (fun hc1=>?_) fun hc1=>?_))))))))
  · skip
    refine AW.region (Qp Ia ?_)
    refine Eu 0 [Iq _,Iq _,.str _] (_::_::_) ?_
    refine AOL.nil (Ad (AW.seq (AW.region ?_)))
    refine AOL.Aa7 (Cb (k:=0) (l:=[Iq _,Iq _,.str _]) Aj rfl rfl rfl rfl rfl) rfl rfl ?_
    refine Eu 1 [Iq _,Iq _,.str _] (_::_::_) ?_
    refine AOL.nil (Ad (AW.ret ?_))
    refine ⟨.inr rfl,[.agg [Iq _,Iq _,.str _]],.cons (.box _ _ _ 1 _ _ _ _ rfl rfl rfl rfl rfl rfl) <| .nil,.cons _ (.cons _ (.refl _)),?_⟩
    try simp only [D0,Bool.and_true] at *
    first
      | (simp only [Ae,Fo,cV];(first | rw [if_pos hc1] | skip);first | done | rfl)
      | (try simp only [Bool.not_eq_true',Bool.not_eq_false'] at *
         first
         | (simp only [Ae,Fo,cV, *,Bool.false_eq_true,↓reduceIte,Bool.true_or,Bool.or_true,Bool.false_or,Bool.or_false,Bool.true_and,Bool.and_true,Bool.false_and,Bool.and_false,Bool.not_true,Bool.not_false];done)
         | (simp [Ae,Fo,cV, *];done)
         | (simp_all [Ae,Fo,cV];done))
      | skip
  · skip
    refine Bx (AW.seq (AW.region ?_))
    refine AOL.Aa7 (Cb (k:=0) (l:=[Iq _,Iq _,.str _]) Aj rfl rfl rfl rfl rfl) rfl rfl ?_
    refine Eu 1 [Iq _,Iq _,.str _] (_::_::_) ?_
    refine AOL.nil (Ad (AW.ret ?_))
    refine ⟨.inr rfl,[.agg [Iq _,Iq _,.str _]],.cons (.box _ _ _ 1 _ _ _ _ rfl rfl rfl rfl rfl rfl) <| .nil,.cons _ (.cons _ (.refl _)),?_⟩
    try simp only [D0,Bool.and_true] at *
    first
      | (simp only [Ae,Fo,cV];(first | rw [iN hc1] | skip);first | done | rfl)
      | (try simp only [Bool.not_eq_true',Bool.not_eq_false'] at *
         first
         | (simp only [Ae,Fo,cV, *,Bool.false_eq_true,↓reduceIte,Bool.true_or,Bool.or_true,Bool.false_or,Bool.or_false,Bool.true_and,Bool.and_true,Bool.false_and,Bool.and_false,Bool.not_true,Bool.not_false];done)
         | (simp [Ae,Fo,cV, *];done)
         | (simp_all [Ae,Fo,cV];done))
      | skip
theorem c79 (v:Vl):A1 Tryz.prog 52 [.agg (cV v)] (.int .i64 (Ao v)):=by
  refine A1.body (n:=47) Aj Tryz.func52 rfl rfl rfl fun H=>?_
  refine AW.seq (AW.region (Qp (It [Iq _,Iq _,.str _]) (Qp Aq (AOL.nil (Ad (AW.seq (AW.seq (AW.region (Qp Mv ?_)))))))))
  refine Qp B2 (Qp Co (Qp Bt (Qg [] Qw Mv (Qg [(7,_)] Qw B2 (Qg [(8,_)] Qw Gl (Qp Ew (AOL.nil (Ad (A4 (fun hc1=>?_) fun hc1=>?_)))))))))
  · skip
    refine AW.seq (AW.region (Qp Aq (AOL.nil (Ad (D4 ?_)))))
    refine Qr (Iq _) ?_
    rw [←Hv]
    try simp only [D0,Bool.and_true] at *
    first
      | (simp only [Ae,Ce];(first | rw [if_pos hc1] | skip);first | done | rfl)
      | (try simp only [Bool.not_eq_true',Bool.not_eq_false'] at *
         first
         | (simp only [Ae,Ce, *,Bool.false_eq_true,↓reduceIte,Bool.true_or,Bool.or_true,Bool.false_or,Bool.or_false,Bool.true_and,Bool.and_true,Bool.false_and,Bool.and_false,Bool.not_true,Bool.not_false];done)
         | (simp [Ae,Ce, *];done)
         | (simp_all [Ae,Ce];done))
      | skip
  · skip
    refine Bx (AW.seq (AW.seq (AW.region (Qp Mv (Qp B2 (Qp Ba (AOL.nil (Ad (A4 (fun hc2=>?_) fun hc2=>?_)))))))))
    · skip
      refine AW.seq (AW.seq (AW.region (Qp mK (Qp B2 (Qp C1 (AOL.nil (Ad (A4 (fun hc3=>?_) fun hc3=>?_))))))))
      · skip
        refine AW.seq (AW.region (Qp Aq (AOL.nil (Ad (D4 (Ai ?_))))))
        refine Qr (Iq _) ?_
        rw [←Hv]
        try simp only [D0,Bool.and_true] at *
        first
          | (simp only [Ae,Ce];(first | rw [iN hc1] | skip);(first | rw [if_pos hc2] | skip);(first | rw [if_pos hc3] | skip);first | done | rfl)
          | (try simp only [Bool.not_eq_true',Bool.not_eq_false'] at *
             first
             | (simp only [Ae,Ce, *,Bool.false_eq_true,↓reduceIte,Bool.true_or,Bool.or_true,Bool.false_or,Bool.or_false,Bool.true_and,Bool.and_true,Bool.false_and,Bool.and_false,Bool.not_true,Bool.not_false];done)
             | (simp [Ae,Ce, *];done)
             | (simp_all [Ae,Ce];done))
          | skip
      · skip
        refine Bx (AW.seq (AW.seq (AW.region (Qp Qf7 (Qp Uj ?_)))))
        refine Qp (G4 Aj rfl rfl rfl rfl) ?_
        refine Qp Gl (AOL.nil (Ad (A4 (fun hc4=>?_) fun hc4=>?_)))
        · skip
          refine AW.seq (AW.region (Qp Aq (AOL.nil (Ad (D4 (Ai ?_))))))
          refine Qr (Iq _) ?_
          rw [←Hv]
          try simp only [D0,Bool.and_true] at *
          first
            | (simp only [Ae,Ce];(first | rw [iN hc1] | skip);(first | rw [if_pos hc2] | skip);(first | rw [iN hc3] | skip);(first | rw [if_pos hc4] | skip);first | done | rfl)
            | (try simp only [Bool.not_eq_true',Bool.not_eq_false'] at *
               first
               | (simp only [Ae,Ce, *,Bool.false_eq_true,↓reduceIte,Bool.true_or,Bool.or_true,Bool.false_or,Bool.or_false,Bool.true_and,Bool.and_true,Bool.false_and,Bool.and_false,Bool.not_true,Bool.not_false];done)
               | (simp [Ae,Ce, *];done)
               | (simp_all [Ae,Ce];done))
            | skip
        · skip
          refine Bx (AW.seq (AW.region (Qp Aq (AOL.nil (Ad (D4 ?_))))))
          refine Qr (Iq _) ?_
          rw [←Hv]
          try simp only [D0,Bool.and_true] at *
          first
            | (simp only [Ae,Ce];(first | rw [iN hc1] | skip);(first | rw [if_pos hc2] | skip);(first | rw [iN hc3] | skip);(first | rw [iN hc4] | skip);first | done | rfl)
            | (try simp only [Bool.not_eq_true',Bool.not_eq_false'] at *
               first
               | (simp only [Ae,Ce, *,Bool.false_eq_true,↓reduceIte,Bool.true_or,Bool.or_true,Bool.false_or,Bool.or_false,Bool.true_and,Bool.and_true,Bool.false_and,Bool.and_false,Bool.not_true,Bool.not_false];done)
               | (simp [Ae,Ce, *];done)
               | (simp_all [Ae,Ce];done))
            | skip
    · skip
      refine Bx (AW.seq (AW.seq (AW.region (Qp Qf7 (Qp Uj ?_)))))
      refine Qp (Ol rfl rfl) ?_
      refine AOL.nil (Ad (A4 (fun hc5=>?_) fun hc5=>?_))
      · skip
        refine AW.seq (AW.region (Qp Aq (AOL.nil (Ad (D4 ?_)))))
        refine Qr (Iq _) ?_
        rw [←Hv]
        try simp only [D0,Bool.and_true] at *
        first
          | (simp only [Ae,Ce];(first | rw [iN hc1] | skip);(first | rw [iN hc2] | skip);(first | rw [if_pos hc5] | skip);first | done | rfl)
          | (try simp only [Bool.not_eq_true',Bool.not_eq_false'] at *
             first
             | (simp only [Ae,Ce, *,Bool.false_eq_true,↓reduceIte,Bool.true_or,Bool.or_true,Bool.false_or,Bool.or_false,Bool.true_and,Bool.and_true,Bool.false_and,Bool.and_false,Bool.not_true,Bool.not_false];done)
             | (simp [Ae,Ce, *];done)
             | (simp_all [Ae,Ce];done))
          | skip
      · skip
        refine Bx (AW.seq (AW.seq (AW.region (Qp Mv (Qp B2 (Qp Ba (Qp Bt (Qg [] Qw mK (Qg [(28,_)] Qw B2 ?_)))))))))
        refine Qg [(29,_)] Qw Co (Qg [(30,_)] Qw Bt (Qg [] Qw mK (Qg [(32,_)] Qw B2 (Qg [(33,_)] Qw Gl (Qg [(31,_),(34,_)] Qw Ew (Qp G1 (Qp Bt (Qg [] Qw mK (Qg [(38,_)] Qw B2 ?_)))))))))
        refine Qg [(39,_)] Qw Co (Qp Ew (Qp Bt (Qg [] Qw mK (Qg [(43,_)] Qw B2 (Qg [(44,_)] Qw Gl (Qp Ew (AOL.nil (Ad (A4 (fun hc6=>?_) fun hc6=>?_)))))))))
        · skip
          refine AW.seq (AW.region (Qp Aq (AOL.nil (Ad (D4 ?_)))))
          refine Qr (Iq _) ?_
          rw [←Hv]
          try simp only [D0,Bool.and_true] at *
          first
            | (simp only [Ae,Ce];(first | rw [iN hc1] | skip);(first | rw [iN hc2] | skip);(first | rw [iN hc5] | skip);(first | rw [if_pos hc6] | skip);first | done | rfl)
            | (try simp only [Bool.not_eq_true',Bool.not_eq_false'] at *
               first
               | (simp only [Ae,Ce, *,Bool.false_eq_true,↓reduceIte,Bool.true_or,Bool.or_true,Bool.false_or,Bool.or_false,Bool.true_and,Bool.and_true,Bool.false_and,Bool.and_false,Bool.not_true,Bool.not_false];done)
               | (simp [Ae,Ce, *];done)
               | (simp_all [Ae,Ce];done))
            | skip
        · skip
          refine Bx (AW.seq (AW.region (Qp Aq (AOL.nil (Ad (AW.ret ?_))))))
          refine Qr (Iq _) ?_
          rw [←Hv]
          try simp only [D0,Bool.and_true] at *
          first
            | (simp only [Ae,Ce];(first | rw [iN hc1] | skip);(first | rw [iN hc2] | skip);(first | rw [iN hc5] | skip);(first | rw [iN hc6] | skip);first | done | rfl)
            | (try simp only [Bool.not_eq_true',Bool.not_eq_false'] at *
               first
               | (simp only [Ae,Ce, *,Bool.false_eq_true,↓reduceIte,Bool.true_or,Bool.or_true,Bool.false_or,Bool.or_false,Bool.true_and,Bool.and_true,Bool.false_and,Bool.and_false,Bool.not_true,Bool.not_false];done)
               | (simp [Ae,Ce, *];done)
               | (simp_all [Ae,Ce];done))
            | skip
theorem c101 (k:Int)(v:Vl):A1 Tryz.prog 144 [.int .i64 k,.agg (cV v)] (.bool (Fl k v)):=by
  refine A1.body (n:=20) Aj Tryz.func144 rfl rfl rfl fun H=>?_
  refine AW.seq (AW.region (Qp (It [Iq _,Iq _,.str _]) (Qp Bb (AOL.nil (Ad (AW.seq (AW.region (Qp Mv (Qp B2 ?_)))))))))
  refine Qp Ba (Qp Bt (Qg [] Qw Az (Qg [(9,_)] Qw Ba (Qp Ew (Qp Bt (Qg [] Qw Az (Qg [(13,_)] Qw Ba (Qp Ew (Qp Bt ?_)))))))))
  refine Qg [] Qw Az (Qg [(17,_)] Qw Ba (Qp Ew (Qp Bb (AOL.nil (Ad (AW.ret ?_))))))
  refine Qr (.bool _) ?_
  try simp only [D0,Bool.and_true] at *
  first
    | (simp only [Ae,Fl];skip;first | done | rfl)
    | (try simp only [Bool.not_eq_true',Bool.not_eq_false'] at *
       first
       | (simp only [Ae,Fl, *,Bool.false_eq_true,↓reduceIte,Bool.true_or,Bool.or_true,Bool.false_or,Bool.or_false,Bool.true_and,Bool.and_true,Bool.false_and,Bool.and_false,Bool.not_true,Bool.not_false];done)
       | (simp [Ae,Fl, *];done)
       | (simp_all [Ae,Fl];done))
    | skip
theorem c99 (k:Int)(v:Vl):A1 Tryz.prog 133 [.int .i64 k,.agg (cV v)] (.bool (C9 k v)):=by
  refine A1.body (n:=16) Aj Tryz.func133 rfl rfl rfl fun H=>?_
  refine AW.seq (AW.region (Qp (It [Iq _,Iq _,.str _]) (Qp Bb (AOL.nil (Ad (AW.seq (AW.region (Qp Mv (Qp B2 ?_)))))))))
  refine Qp Ba (Qp Bt (Qg [] Qw Az (Qg [(9,_)] Qw Ba (Qp Ew (Qp Bt (Qg [] Qw Az (Qg [(13,_)] Qw Ba (Qp Ew (Qp Bb ?_)))))))))
  refine AOL.nil (Ad (AW.ret ?_))
  refine Qr (.bool _) ?_
  try simp only [D0,Bool.and_true] at *
  first
    | (simp only [Ae,C9];skip;first | done | rfl)
    | (try simp only [Bool.not_eq_true',Bool.not_eq_false'] at *
       first
       | (simp only [Ae,C9, *,Bool.false_eq_true,↓reduceIte,Bool.true_or,Bool.or_true,Bool.false_or,Bool.or_false,Bool.true_and,Bool.and_true,Bool.false_and,Bool.and_false,Bool.not_true,Bool.not_false];done)
       | (simp [Ae,C9, *];done)
       | (simp_all [Ae,C9];done))
    | skip
end Go.Proofs.YtjedflcpjlgokaaGreatDoor
