/-
  Walks of layers 1, 7 and 8: the functions without loops. No condition.
-/
import Derived.Test.YtjedflcpjlgokaaGreatDoorAz
import Derived.Test.YtjedflcpjlgokaaGreatDoorK02
import Derived.Test.YtjedflcpjlgokaaGreatDoorTab
import Derived.KernelRfl
namespace Go.Proofs.YtjedflcpjlgokaaGreatDoor
open Go Go.Aw
set_option maxHeartbeats 400000
set_option maxRecDepth 20000
set_option linter.unusedVariables false
set_option linter.unusedSimpArgs false

theorem c52 (op:Int):Ax Tryz.prog 131 [.int .i64 op] (.tuple [.bool (D2 op).1,.bool (D2 op).2]):=by
 refine Ax.body (n:=11) Ah Tryz.func131 rfl rfl rfl fun H=>?_
 refine Ai (Qp Bl (Qp Bl (Ag (AW.seq (Ai (Qp Az (Ag (AW.block (AW.seq ?_)))))))))
 refine Ai (Qp A9 (Qp Bl (Ag (A6 (fun hc1=>?_) fun hc1=>?_))))
 ·
  refine By (A6 (fun hc2=>?_) fun hc2=>?_)
  ·
   refine Ai (Qp Bl (Qp Bl (Ag (AW.ret (Bb (Aj ?_))))))
   refine La (.bool _) (.bool _) ?_
   simp_all [Ae,D2]
  ·
   refine AW.seq (Ai (Qp A9 (Qp Bl (Ag (A6 (fun hc3=>?_) fun hc3=>?_)))))
   ·
    refine By (A6 (fun hc4=>?_) fun hc4=>?_)
    ·
     refine Ai (Qp Bl (Qp Bl (Ag (AW.ret (Bb (Aj ?_))))))
     refine La (.bool _) (.bool _) ?_
     simp_all [Ae,D2]
    ·
     refine AW.skip (Bu (Ad (Ai (Qp Bl (Qp Bl (Ag (AW.ret ?_)))))))
     refine La (.bool _) (.bool _) ?_
     simp_all [Ae,D2]
   ·
    refine AW.region (Qp A9 (Qp Bl (Ag (A6 (fun hc5=>?_) fun hc5=>?_))))
    ·
     refine Ai (Qp Bl (Qp Bl (Ag (AW.ret (Bb (Aj ?_))))))
     refine La (.bool _) (.bool _) ?_
     simp_all [Ae,D2]
    ·
     refine AW.skip (Bu (Ad (Ai (Qp Bl (Qp Bl (Ag (AW.ret ?_)))))))
     refine La (.bool _) (.bool _) ?_
     simp_all [Ae,D2]
 ·
  refine AW.region (Qp A9 (Qp Bl (Ag (A6 (fun hc6=>?_) fun hc6=>?_))))
  ·
   refine Ai (Qp Bl (Qp Bl (Ag (AW.ret (Bb (Aj ?_))))))
   refine La (.bool _) (.bool _) ?_
   simp_all [Ae,D2]
  ·
   refine AW.seq (Ai (Qp A9 (Qp Bl (Ag (A6 (fun hc7=>?_) fun hc7=>?_)))))
   ·
    refine By (A6 (fun hc8=>?_) fun hc8=>?_)
    ·
     refine Ai (Qp Bl (Qp Bl (Ag (AW.ret (Bb (Aj ?_))))))
     refine La (.bool _) (.bool _) ?_
     simp_all [Ae,D2]
    ·
     refine AW.skip (Bu (Ad (Ai (Qp Bl (Qp Bl (Ag (AW.ret ?_)))))))
     refine La (.bool _) (.bool _) ?_
     simp_all [Ae,D2]
   ·
    refine AW.region (Qp A9 (Qp Bl (Ag (A6 (fun hc9=>?_) fun hc9=>?_))))
    ·
     refine Ai (Qp Bl (Qp Bl (Ag (AW.ret (Bb (Aj ?_))))))
     refine La (.bool _) (.bool _) ?_
     simp_all [Ae,D2]
    ·
     refine AW.skip (Bu (Ad (Ai (Qp Bl (Qp Bl (Ag (AW.ret ?_)))))))
     refine La (.bool _) (.bool _) ?_
     simp_all [Ae,D2]
theorem c84 (op:Int):Ax Tryz.prog 153 [.int .i64 op] (.tuple [.bool (D2 op).1,.bool (D2 op).2]):=by
 refine Ax.body (n:=21) Ah Tryz.func153 rfl rfl rfl fun H=>?_
 refine Ai (Qp Bl (Qp Bl (Dm (Qp Az (Qp A9 (Qp B0 (Qg [] Qw Az (Qg [(8,_)] Qw A9 (Qp E1 ?_)))))))))
 refine Qp Bl (Dm (Qp B0 (Qp B0 (Qg [] Qw Az (Qg [(13,_)] Qw A9 (Qp E1 (Qp B0 (Qg [] Qw Az (Qg [(17,_)] Qw A9 ?_)))))))))
 refine Qp E1 (Qp B0 (Qp Bl (Qp Bl (Ag (AW.ret ?_)))))
 refine La (.bool _) (.bool _) ?_
 by_cases h1:op=1 <;> by_cases h2:op=2 <;> by_cases h3:op=3 <;> by_cases h4:op=4 <;> simp_all [D2,Ae]
theorem c81 (op:Int):Ax Tryz.prog 130 [.int .i64 op] (.tuple [.int .i64 (D8 op),.bool (decide (0≤op∧op≤12))]):=by
 refine Ax.body (n:=17) Ah Tryz.func130 rfl rfl rfl fun H=>?_
 refine Ai (Qp Ap (Qp Bl (Ag (AW.seq (AW.block (Ai (Qp Az (Qp Ch (Qp B0 ?_)))))))))
 refine Qg [] Qw Az (Qg [(8,_)] Qw Ha (Qp E1 (Qp Bl (Ag (A6 (fun hc1=>?_) fun hc1=>?_)))))
 ·
  refine Ai (Qp Ap (Qp Bl (Ag (AW.ret (Bb (Aj ?_))))))
  refine La (Iq _) (.bool _) ?_
  simp only [Bool.or_eq_true,Bool.or_eq_false_iff,decide_eq_true_eq,decide_eq_false_iff_not,beq_iff_eq,beq_eq_false_iff_ne] at *
  simp only [Ae,D8,AV.tuple.injEq,List.cons.injEq,AV.int.injEq,AV.bool.injEq,true_and,and_true]
  refine ⟨?_,?_⟩
  ·
   repeat' split
   all_goals omega
  · simp <;> omega
 ·
  refine Ai (Qp Az (Qp Ch (Qp Bl (Ag (A6 (fun hc2=>?_) fun hc2=>?_)))))
  ·
   refine Ai (Qp Ap (Qp Bl (Ag (AW.ret (Bb (Aj ?_))))))
   refine La (Iq _) (.bool _) ?_
   simp only [Bool.or_eq_true,Bool.or_eq_false_iff,decide_eq_true_eq,decide_eq_false_iff_not,beq_iff_eq,beq_eq_false_iff_ne] at *
   simp only [Ae,D8,AV.tuple.injEq,List.cons.injEq,AV.int.injEq,AV.bool.injEq,true_and,and_true]
   refine ⟨?_,?_⟩
   ·
    repeat' split
    all_goals omega
   · simp <;> omega
  ·
   refine Ai (Qp Az (Qp A9 (Qp Bl (Ag (A6 (fun hc3=>?_) fun hc3=>?_)))))
   ·
    refine Ai (Qp Ap (Qp Bl (Ag (AW.ret (Bb (Aj ?_))))))
    refine La (Iq _) (.bool _) ?_
    simp only [Bool.or_eq_true,Bool.or_eq_false_iff,decide_eq_true_eq,decide_eq_false_iff_not,beq_iff_eq,beq_eq_false_iff_ne] at *
    simp only [Ae,D8,AV.tuple.injEq,List.cons.injEq,AV.int.injEq,AV.bool.injEq,true_and,and_true]
    refine ⟨?_,?_⟩
    ·
     repeat' split
     all_goals omega
    · simp <;> omega
   ·
    refine AW.skip (Bu (Ad (Ai (Qp Ap (Qp Bl (Ag (AW.ret ?_)))))))
    refine La (Iq _) (.bool _) ?_
    simp only [Bool.or_eq_true,Bool.or_eq_false_iff,decide_eq_true_eq,decide_eq_false_iff_not,beq_iff_eq,beq_eq_false_iff_ne] at *
    simp only [Ae,D8,AV.tuple.injEq,List.cons.injEq,AV.int.injEq,AV.bool.injEq,true_and,and_true]
    refine ⟨?_,?_⟩
    ·
     repeat' split
     all_goals omega
    · simp <;> omega
theorem c100 (op:Int):Ax Tryz.prog 152 [.int .i64 op] (.int .i64 (if 0≤op∧op≤12 then D8 op else -1)):=by
 refine Ax.body (n:=20) Ah Tryz.func152 rfl rfl rfl fun H=>?_
 refine Ai (Qp Ap (Ag (AW.seq (Ai (Qp Az (Ag (AW.block ?_)))))))
 refine AW.cut (fun (_:Unit)=>(⟨[(0,.int .i64 op),(3,.int .i64 op),(4,.bool (op==0||op==1||op==2||op==3||op==4))],H,20⟩:St)) (fun (_:Unit)=>True) ?_ ?_
 ·
  refine Ai (Qp A9 (Qp Bl (Ag (A6 (fun hc1=>?_) fun hc1=>?_))))
  ·
   refine By ?_
   refine ⟨(),?_,GS.weaken ⟨rfl,rfl,congrArg AV.bool (by simp [*]),trivial⟩ (.refl _)⟩
   trivial
  ·
   refine Ai (Qp A9 (Qp Bl (Ag (A6 (fun hc2=>?_) fun hc2=>?_))))
   ·
    refine By ?_
    refine ⟨(),?_,GS.weaken ⟨rfl,rfl,congrArg AV.bool (by simp [*]),trivial⟩ (.refl _)⟩
    trivial
   ·
    refine Ai (Qp A9 (Qp Bl (Ag (A6 (fun hc3=>?_) fun hc3=>?_))))
    ·
     refine By ?_
     refine ⟨(),?_,GS.weaken ⟨rfl,rfl,congrArg AV.bool (by simp [*]),trivial⟩ (.refl _)⟩
     trivial
    ·
     refine Ai (Qp A9 (Qp Bl (Ag (A6 (fun hc4=>?_) fun hc4=>?_))))
     ·
      refine By ?_
      refine ⟨(),?_,GS.weaken ⟨rfl,rfl,congrArg AV.bool (by simp [*]),trivial⟩ (.refl _)⟩
      trivial
     ·
      refine AW.region (Qp A9 (Qp Bl (Ag ?_)))
      refine ⟨(),?_,GS.weaken ⟨rfl,rfl,congrArg AV.bool (by simp [*]),trivial⟩ (.refl _)⟩
      trivial
 ·
  rintro _ _
  refine A6 (fun hc5=>?_) fun hc5=>?_
  ·
   refine Ai (Qp Ap (Ag (AW.ret (Bb (Aj ?_)))))
   refine Qr (Iq _) ?_
   simp only [Bool.or_eq_true,Bool.or_eq_false_iff,beq_iff_eq,beq_eq_false_iff_ne] at *
   simp only [Ae,D8,AV.int.injEq,true_and]
   repeat' split
   all_goals omega
  ·
   refine Ai (Qp A9 (Qp Bl (Ag (A6 (fun hc6=>?_) fun hc6=>?_))))
   ·
    refine Ai (Qp Ap (Ag (AW.ret (Bb (Aj ?_)))))
    refine Qr (Iq _) ?_
    simp only [Bool.or_eq_true,Bool.or_eq_false_iff,beq_iff_eq,beq_eq_false_iff_ne] at *
    simp only [Ae,D8,AV.int.injEq,true_and]
    repeat' split
    all_goals omega
   ·
    refine AW.cut (fun (_:Unit)=>(⟨[(12,.bool (op==5||op==6||op==7||op==8||op==9||op==10||op==11))],H,20⟩:St)) (fun (_:Unit)=>True) ?_ ?_
    ·
     refine Ai (Qp A9 (Qp Bl (Ag (A6 (fun hc7=>?_) fun hc7=>?_))))
     ·
      refine By ?_
      refine ⟨(),?_,GS.weaken ⟨congrArg AV.bool (by simp [*]),trivial⟩ (.refl _)⟩
      trivial
     ·
      refine Ai (Qp A9 (Qp Bl (Ag (A6 (fun hc8=>?_) fun hc8=>?_))))
      ·
       refine By ?_
       refine ⟨(),?_,GS.weaken ⟨congrArg AV.bool (by simp [*]),trivial⟩ (.refl _)⟩
       trivial
      ·
       refine Ai (Qp A9 (Qp Bl (Ag (A6 (fun hc9=>?_) fun hc9=>?_))))
       ·
        refine By ?_
        refine ⟨(),?_,GS.weaken ⟨congrArg AV.bool (by simp [*]),trivial⟩ (.refl _)⟩
        trivial
       ·
        refine Ai (Qp A9 (Qp Bl (Ag (A6 (fun hc10=>?_) fun hc10=>?_))))
        ·
         refine By ?_
         refine ⟨(),?_,GS.weaken ⟨congrArg AV.bool (by simp [*]),trivial⟩ (.refl _)⟩
         trivial
        ·
         refine Ai (Qp A9 (Qp Bl (Ag (A6 (fun hc11=>?_) fun hc11=>?_))))
         ·
          refine By ?_
          refine ⟨(),?_,GS.weaken ⟨congrArg AV.bool (by simp [*]),trivial⟩ (.refl _)⟩
          trivial
         ·
          refine Ai (Qp A9 (Qp Bl (Ag (A6 (fun hc12=>?_) fun hc12=>?_))))
          ·
           refine By ?_
           refine ⟨(),?_,GS.weaken ⟨congrArg AV.bool (by simp [*]),trivial⟩ (.refl _)⟩
           trivial
          ·
           refine AW.region (Qp A9 (Qp Bl (Ag ?_)))
           refine ⟨(),?_,GS.weaken ⟨congrArg AV.bool (by simp [*]),trivial⟩ (.refl _)⟩
           trivial
    ·
     rintro _ _
     refine A6 (fun hc13=>?_) fun hc13=>?_
     ·
      refine Ai (Qp Ap (Ag (AW.ret (Bb (Aj ?_)))))
      refine Qr (Iq _) ?_
      simp only [Bool.or_eq_true,Bool.or_eq_false_iff,beq_iff_eq,beq_eq_false_iff_ne] at *
      simp only [Ae,D8,AV.int.injEq,true_and]
      repeat' split
      all_goals omega
     ·
      refine AW.skip (Bu (Ad (Ai (Qp Ap (Ag (AW.ret ?_))))))
      refine Qr (Iq _) ?_
      simp only [Bool.or_eq_true,Bool.or_eq_false_iff,beq_iff_eq,beq_eq_false_iff_ne] at *
      simp only [Ae,D8,AV.int.injEq,true_and]
      repeat' split
      all_goals omega
theorem wC (v:Vl):Ax Tryz.prog 151 [.agg (cV v)] (.int .i64 (Ef v)):=by
  refine Ax.body (n:=36) Ah Tryz.func151 rfl rfl rfl fun H=>?_
  refine AW.seq (AW.region (Qp (Gd [Iq _,Iq _,.str _]) (Qp Ap (AOL.nil (Ad (AW.seq (AW.block (AW.seq (AW.region ?_)))))))))
  refine Qp Jq (Qp Bp (Qp A9 (Qp B0 (Qg [] Qw U7 (Qg [(8,_)] Qw Bp (Qg [(9,_)] Qw Ch (Qg [(10,_)] Qw B0 (Qg [] Qw U7 (Qg [(12,_)] Qw Bp ?_)))))))))
  refine Qg [(13,_)] Qw Ha (Qg [(11,_),(14,_)] Qw E1 (Qp F7 (Qp Bl (AOL.nil (Ad (A6 (fun hc1=>?_) fun hc1=>?_))))))
  · skip
    refine AW.seq (AW.region (Qp Ap (AOL.nil (Ad (AW.ret (Bb (Aj ?_)))))))
    refine Qr (Iq _) ?_
    try simp only [C1,Bool.and_true] at *
    first
      | (simp only [Ae,Ef];(first | rw [if_pos hc1] | skip);first | done | rfl)
      | (try simp only [Bool.not_eq_true',Bool.not_eq_false'] at *
         first
         | (simp only [Ae,Ef, *,Bool.false_eq_true,↓reduceIte,Bool.true_or,Bool.or_true,Bool.false_or,Bool.or_false,Bool.true_and,Bool.and_true,Bool.false_and,Bool.and_false,Bool.not_true,Bool.not_false];done)
         | (simp [Ae,Ef, *];done)
         | (simp_all [Ae,Ef];done))
      | skip
  · skip
    refine AW.seq (AW.region (Qp Jq (Qp Bp (Qp A9 (Qp B0 (Qg [] Qw U7 (Qg [(22,_)] Qw Bp (Qg [(23,_)] Qw Cr (Qp F7 ?_)))))))))
    refine Qp B0 (Qg [] Qw U7 (Qg [(27,_)] Qw Bp (Qg [(28,_)] Qw Cr (Qp F7 (Qp Bl (AOL.nil (Ad (A6 (fun hc2=>?_) fun hc2=>?_))))))))
    · skip
      refine AW.seq (AW.region (Qp Ap (AOL.nil (Ad (AW.ret (Bb (Aj ?_)))))))
      refine Qr (Iq _) ?_
      try simp only [C1,Bool.and_true] at *
      first
        | (simp only [Ae,Ef];(first | rw [iN hc1] | skip);(first | rw [if_pos hc2] | skip);first | done | rfl)
        | (try simp only [Bool.not_eq_true',Bool.not_eq_false'] at *
           first
           | (simp only [Ae,Ef, *,Bool.false_eq_true,↓reduceIte,Bool.true_or,Bool.or_true,Bool.false_or,Bool.or_false,Bool.true_and,Bool.and_true,Bool.false_and,Bool.and_false,Bool.not_true,Bool.not_false];done)
           | (simp [Ae,Ef, *];done)
           | (simp_all [Ae,Ef];done))
        | skip
    · skip
      refine AW.seq (AW.region (Qp Qf7 (Qp Us ?_)))
      refine Qp (H8 Ah rfl rfl rfl rfl) ?_
      refine Qp Ha (Qp Bl (AOL.nil (Ad (A6 (fun hc3=>?_) fun hc3=>?_))))
      · skip
        refine AW.seq (AW.region (Qp Ap (AOL.nil (Ad (AW.ret (Bb (Aj ?_)))))))
        refine Qr (Iq _) ?_
        try simp only [C1,Bool.and_true] at *
        first
          | (simp only [Ae,Ef];(first | rw [iN hc1] | skip);(first | rw [iN hc2] | skip);(first | rw [if_pos hc3] | skip);first | done | rfl)
          | (try simp only [Bool.not_eq_true',Bool.not_eq_false'] at *
             first
             | (simp only [Ae,Ef, *,Bool.false_eq_true,↓reduceIte,Bool.true_or,Bool.or_true,Bool.false_or,Bool.or_false,Bool.true_and,Bool.and_true,Bool.false_and,Bool.and_false,Bool.not_true,Bool.not_false];done)
             | (simp [Ae,Ef, *];done)
             | (simp_all [Ae,Ef];done))
          | skip
      · skip
        refine AW.skip (Bu (Ad (AW.seq (AW.region (Qp Ap (AOL.nil (Ad (AW.ret ?_))))))))
        refine Qr (Iq _) ?_
        try simp only [C1,Bool.and_true] at *
        first
          | (simp only [Ae,Ef];(first | rw [iN hc1] | skip);(first | rw [iN hc2] | skip);(first | rw [iN hc3] | skip);first | done | rfl)
          | (try simp only [Bool.not_eq_true',Bool.not_eq_false'] at *
             first
             | (simp only [Ae,Ef, *,Bool.false_eq_true,↓reduceIte,Bool.true_or,Bool.or_true,Bool.false_or,Bool.or_false,Bool.true_and,Bool.and_true,Bool.false_and,Bool.and_false,Bool.not_true,Bool.not_false];done)
             | (simp [Ae,Ef, *];done)
             | (simp_all [Ae,Ef];done))
          | skip
theorem c94 (v:Vl):Ax Tryz.prog 141 [.agg (cV v)] (.int .i64 (Aq v)):=by
  refine Ax.body (n:=18) Ah Tryz.func141 rfl rfl rfl fun H=>?_
  refine AW.seq (AW.region (Qp (Gd [Iq _,Iq _,.str _]) (Qp Ap (AOL.nil (Ad (AW.seq (AW.seq (AW.region (Qp Jq ?_)))))))))
  refine Qp Bp (AOL.nil (Ad (AW.block (AW.seq (AW.seq (AW.region (Qp A9 (Qp Bl (AOL.nil ?_)))))))))
  refine Ad (A6 (fun hc1=>?_) fun hc1=>?_)
  · skip
    refine By (A6 (fun hc2=>?_) fun hc2=>?_)
    · skip
      refine AW.seq (AW.region (Qp Qf7 (Qp Us ?_)))
      refine Qp (Pi rfl rfl) ?_
      refine AOL.nil (Ad (A6 (fun hc3=>?_) fun hc3=>?_))
      · skip
        refine AW.seq (AW.region (Qp Ap (AOL.nil (Ad (AW.ret (Bb (Aj ?_)))))))
        refine Qr (Iq _) ?_
        try simp only [C1,Bool.and_true] at *
        first
          | (simp only [Ae,Aq];(first | rw [if_pos hc1] | skip);(first | rw [if_pos hc2] | skip);(first | rw [if_pos hc3] | skip);first | done | rfl)
          | (try simp only [Bool.not_eq_true',Bool.not_eq_false'] at *
             first
             | (simp only [Ae,Aq, *,Bool.false_eq_true,↓reduceIte,Bool.true_or,Bool.or_true,Bool.false_or,Bool.or_false,Bool.true_and,Bool.and_true,Bool.false_and,Bool.and_false,Bool.not_true,Bool.not_false];done)
             | (simp [Ae,Aq, *];done)
             | (simp_all [Ae,Aq];done))
          | skip
      · skip
        refine AW.skip (Bu (Ad (AW.seq (AW.region (Qp (Cq [Iq _,Iq _,.str _]) ?_)))))
        refine Qp (Qc rfl (wC v)) ?_
        refine Qp Ap (AOL.nil (Ad (AW.ret ?_)))
        refine Qr (Iq _) ?_
        try simp only [C1,Bool.and_true] at *
        first
          | (simp only [Ae,Aq];(first | rw [if_pos hc1] | skip);(first | rw [if_pos hc2] | skip);(first | rw [iN hc3] | skip);first | done | rfl)
          | (try simp only [Bool.not_eq_true',Bool.not_eq_false'] at *
             first
             | (simp only [Ae,Aq, *,Bool.false_eq_true,↓reduceIte,Bool.true_or,Bool.or_true,Bool.false_or,Bool.or_false,Bool.true_and,Bool.and_true,Bool.false_and,Bool.and_false,Bool.not_true,Bool.not_false];done)
             | (simp [Ae,Aq, *];done)
             | (simp_all [Ae,Aq];done))
          | skip
    · skip
      refine AW.seq (AW.region (Qp A9 (Qp Bl (AOL.nil (Ad (A6 (fun hc4=>?_) fun hc4=>?_))))))
      · skip
        refine AW.seq (AW.region (Qp U7 (Qp Bp (Qp Cr (AOL.nil (Ad (A6 (fun hc5=>?_) fun hc5=>?_)))))))
        · skip
          refine AW.seq (AW.region (Qp Ap (AOL.nil (Ad (AW.ret (Bb (Aj ?_)))))))
          refine Qr (Iq _) ?_
          try simp only [C1,Bool.and_true] at *
          first
            | (simp only [Ae,Aq];(first | rw [if_pos hc1] | skip);(first | rw [iN hc2] | skip);(first | rw [if_pos hc4] | skip);(first | rw [if_pos hc5] | skip);first | done | rfl)
            | (try simp only [Bool.not_eq_true',Bool.not_eq_false'] at *
               first
               | (simp only [Ae,Aq, *,Bool.false_eq_true,↓reduceIte,Bool.true_or,Bool.or_true,Bool.false_or,Bool.or_false,Bool.true_and,Bool.and_true,Bool.false_and,Bool.and_false,Bool.not_true,Bool.not_false];done)
               | (simp [Ae,Aq, *];done)
               | (simp_all [Ae,Aq];done))
            | skip
        · skip
          refine AW.skip (Bu (Ad (AW.seq (AW.region (Qp (Cq [Iq _,Iq _,.str _]) ?_)))))
          refine Qp (Qc rfl (wC v)) ?_
          refine Qp Ap (AOL.nil (Ad (AW.ret ?_)))
          refine Qr (Iq _) ?_
          try simp only [C1,Bool.and_true] at *
          first
            | (simp only [Ae,Aq];(first | rw [if_pos hc1] | skip);(first | rw [iN hc2] | skip);(first | rw [if_pos hc4] | skip);(first | rw [iN hc5] | skip);first | done | rfl)
            | (try simp only [Bool.not_eq_true',Bool.not_eq_false'] at *
               first
               | (simp only [Ae,Aq, *,Bool.false_eq_true,↓reduceIte,Bool.true_or,Bool.or_true,Bool.false_or,Bool.or_false,Bool.true_and,Bool.and_true,Bool.false_and,Bool.and_false,Bool.not_true,Bool.not_false];done)
               | (simp [Ae,Aq, *];done)
               | (simp_all [Ae,Aq];done))
            | skip
      · skip
        refine AW.seq (AW.region (Qp Ap (AOL.nil (Ad (AW.ret (Bb (Aj ?_)))))))
        refine Qr (Iq _) ?_
        try simp only [C1,Bool.and_true] at *
        first
          | (simp only [Ae,Aq];(first | rw [if_pos hc1] | skip);(first | rw [iN hc2] | skip);(first | rw [iN hc4] | skip);first | done | rfl)
          | (try simp only [Bool.not_eq_true',Bool.not_eq_false'] at *
             first
             | (simp only [Ae,Aq, *,Bool.false_eq_true,↓reduceIte,Bool.true_or,Bool.or_true,Bool.false_or,Bool.or_false,Bool.true_and,Bool.and_true,Bool.false_and,Bool.and_false,Bool.not_true,Bool.not_false];done)
             | (simp [Ae,Aq, *];done)
             | (simp_all [Ae,Aq];done))
          | skip
  · skip
    refine AW.region (Qp A9 (Qp Bl (AOL.nil (Ad (A6 (fun hc6=>?_) fun hc6=>?_)))))
    · skip
      refine AW.seq (AW.region (Qp Qf7 (Qp Us ?_)))
      refine Qp (Pi rfl rfl) ?_
      refine AOL.nil (Ad (A6 (fun hc7=>?_) fun hc7=>?_))
      · skip
        refine AW.seq (AW.region (Qp Ap (AOL.nil (Ad (AW.ret (Bb (Aj ?_)))))))
        refine Qr (Iq _) ?_
        try simp only [C1,Bool.and_true] at *
        first
          | (simp only [Ae,Aq];(first | rw [iN hc1] | skip);(first | rw [if_pos hc6] | skip);(first | rw [if_pos hc7] | skip);first | done | rfl)
          | (try simp only [Bool.not_eq_true',Bool.not_eq_false'] at *
             first
             | (simp only [Ae,Aq, *,Bool.false_eq_true,↓reduceIte,Bool.true_or,Bool.or_true,Bool.false_or,Bool.or_false,Bool.true_and,Bool.and_true,Bool.false_and,Bool.and_false,Bool.not_true,Bool.not_false];done)
             | (simp [Ae,Aq, *];done)
             | (simp_all [Ae,Aq];done))
          | skip
      · skip
        refine AW.skip (Bu (Ad (AW.seq (AW.region (Qp (Cq [Iq _,Iq _,.str _]) ?_)))))
        refine Qp (Qc rfl (wC v)) ?_
        refine Qp Ap (AOL.nil (Ad (AW.ret ?_)))
        refine Qr (Iq _) ?_
        try simp only [C1,Bool.and_true] at *
        first
          | (simp only [Ae,Aq];(first | rw [iN hc1] | skip);(first | rw [if_pos hc6] | skip);(first | rw [iN hc7] | skip);first | done | rfl)
          | (try simp only [Bool.not_eq_true',Bool.not_eq_false'] at *
             first
             | (simp only [Ae,Aq, *,Bool.false_eq_true,↓reduceIte,Bool.true_or,Bool.or_true,Bool.false_or,Bool.or_false,Bool.true_and,Bool.and_true,Bool.false_and,Bool.and_false,Bool.not_true,Bool.not_false];done)
             | (simp [Ae,Aq, *];done)
             | (simp_all [Ae,Aq];done))
          | skip
    · skip
      refine AW.seq (AW.region (Qp A9 (Qp Bl (AOL.nil (Ad (A6 (fun hc8=>?_) fun hc8=>?_))))))
      · skip
        refine AW.seq (AW.region (Qp U7 (Qp Bp (Qp Cr (AOL.nil (Ad (A6 (fun hc9=>?_) fun hc9=>?_)))))))
        · skip
          refine AW.seq (AW.region (Qp Ap (AOL.nil (Ad (AW.ret (Bb (Aj ?_)))))))
          refine Qr (Iq _) ?_
          try simp only [C1,Bool.and_true] at *
          first
            | (simp only [Ae,Aq];(first | rw [iN hc1] | skip);(first | rw [iN hc6] | skip);(first | rw [if_pos hc8] | skip);(first | rw [if_pos hc9] | skip);first | done | rfl)
            | (try simp only [Bool.not_eq_true',Bool.not_eq_false'] at *
               first
               | (simp only [Ae,Aq, *,Bool.false_eq_true,↓reduceIte,Bool.true_or,Bool.or_true,Bool.false_or,Bool.or_false,Bool.true_and,Bool.and_true,Bool.false_and,Bool.and_false,Bool.not_true,Bool.not_false];done)
               | (simp [Ae,Aq, *];done)
               | (simp_all [Ae,Aq];done))
            | skip
        · skip
          refine AW.skip (Bu (Ad (AW.seq (AW.region (Qp (Cq [Iq _,Iq _,.str _]) ?_)))))
          refine Qp (Qc rfl (wC v)) ?_
          refine Qp Ap (AOL.nil (Ad (AW.ret ?_)))
          refine Qr (Iq _) ?_
          try simp only [C1,Bool.and_true] at *
          first
            | (simp only [Ae,Aq];(first | rw [iN hc1] | skip);(first | rw [iN hc6] | skip);(first | rw [if_pos hc8] | skip);(first | rw [iN hc9] | skip);first | done | rfl)
            | (try simp only [Bool.not_eq_true',Bool.not_eq_false'] at *
               first
               | (simp only [Ae,Aq, *,Bool.false_eq_true,↓reduceIte,Bool.true_or,Bool.or_true,Bool.false_or,Bool.or_false,Bool.true_and,Bool.and_true,Bool.false_and,Bool.and_false,Bool.not_true,Bool.not_false];done)
               | (simp [Ae,Aq, *];done)
               | (simp_all [Ae,Aq];done))
            | skip
      · skip
        refine AW.seq (AW.region (Qp Ap (AOL.nil (Ad (AW.ret (Bb (Aj ?_)))))))
        refine Qr (Iq _) ?_
        try simp only [C1,Bool.and_true] at *
        first
          | (simp only [Ae,Aq];(first | rw [iN hc1] | skip);(first | rw [iN hc6] | skip);(first | rw [iN hc8] | skip);first | done | rfl)
          | (try simp only [Bool.not_eq_true',Bool.not_eq_false'] at *
             first
             | (simp only [Ae,Aq, *,Bool.false_eq_true,↓reduceIte,Bool.true_or,Bool.or_true,Bool.false_or,Bool.or_false,Bool.true_and,Bool.and_true,Bool.false_and,Bool.and_false,Bool.not_true,Bool.not_false];done)
             | (simp [Ae,Aq, *];done)
             | (simp_all [Ae,Aq];done))
          | skip
theorem c75 (b:Bool):Ax Tryz.prog 84 [.bool b] (.agg (cV (Eh b))):=by
  refine Ax.body (n:=8) Ah Tryz.func84 rfl rfl rfl fun H=>?_
  refine AW.seq (AW.region ?_)
  refine Qe (Ak (l:=[.int .i64 0,.int .i64 0,.str []]) (by kernel_rfl)) ?_
  rintro _ _ ⟨b2,rfl,rfl⟩
  refine AOL.nil (Ad (AW.seq (AW.region (Qp (Fz [Iq _,Iq _,.str _]) ?_))))
  refine Qe (Ak (l:=[.int .i64 0,.int .i64 0,.str []]) (by kernel_rfl)) ?_
  rintro _ _ ⟨b3,rfl,rfl⟩
  refine Cv 0 [Iq _,Iq _,.str _] (_::_::_) ?_
  refine AOL.nil (Ad (AW.seq (AW.seq (AW.region (Qp B0 (AOL.nil (Ad (A6 (fun hc1=>?_) fun hc1=>?_))))))))
  · skip
    refine AW.region (Qp Gc ?_)
    refine Cv 0 [Iq _,Iq _,.str _] (_::_::_) ?_
    refine AOL.nil (Ad (AW.seq (AW.region ?_)))
    refine AOL.Aas (A7 (k:=0) (l:=[Iq _,Iq _,.str _]) Ah rfl rfl rfl rfl rfl) rfl rfl ?_
    refine Cv 1 [Iq _,Iq _,.str _] (_::_::_) ?_
    refine AOL.nil (Ad (AW.ret ?_))
    refine ⟨.inr rfl,[.agg [Iq _,Iq _,.str _]],.cons (.box _ _ _ 1 _ _ _ _ rfl rfl rfl rfl rfl rfl) <| .nil,.cons _ (.cons _ (.refl _)),?_⟩
    try simp only [C1,Bool.and_true] at *
    first
      | (simp only [Ae,Eh,cV];(first | rw [if_pos hc1] | skip);first | done | rfl)
      | (try simp only [Bool.not_eq_true',Bool.not_eq_false'] at *
         first
         | (simp only [Ae,Eh,cV, *,Bool.false_eq_true,↓reduceIte,Bool.true_or,Bool.or_true,Bool.false_or,Bool.or_false,Bool.true_and,Bool.and_true,Bool.false_and,Bool.and_false,Bool.not_true,Bool.not_false];done)
         | (simp [Ae,Eh,cV, *];done)
         | (simp_all [Ae,Eh,cV];done))
      | skip
  · skip
    refine By (AW.seq (AW.region ?_))
    refine AOL.Aas (A7 (k:=0) (l:=[Iq _,Iq _,.str _]) Ah rfl rfl rfl rfl rfl) rfl rfl ?_
    refine Cv 1 [Iq _,Iq _,.str _] (_::_::_) ?_
    refine AOL.nil (Ad (AW.ret ?_))
    refine ⟨.inr rfl,[.agg [Iq _,Iq _,.str _]],.cons (.box _ _ _ 1 _ _ _ _ rfl rfl rfl rfl rfl rfl) <| .nil,.cons _ (.cons _ (.refl _)),?_⟩
    try simp only [C1,Bool.and_true] at *
    first
      | (simp only [Ae,Eh,cV];(first | rw [iN hc1] | skip);first | done | rfl)
      | (try simp only [Bool.not_eq_true',Bool.not_eq_false'] at *
         first
         | (simp only [Ae,Eh,cV, *,Bool.false_eq_true,↓reduceIte,Bool.true_or,Bool.or_true,Bool.false_or,Bool.or_false,Bool.true_and,Bool.and_true,Bool.false_and,Bool.and_false,Bool.not_true,Bool.not_false];done)
         | (simp [Ae,Eh,cV, *];done)
         | (simp_all [Ae,Eh,cV];done))
      | skip
theorem c42 (b:Bool):Ax Tryz.prog 48 [.bool b] (.agg (cV (Eh b))):=by
  refine Ax.body (n:=5) Ah Tryz.func48 rfl rfl rfl fun H=>?_
  refine AW.seq (AW.region ?_)
  refine Qe (Ak (l:=[.int .i64 0,.int .i64 0,.str []]) (by kernel_rfl)) ?_
  rintro _ _ ⟨b2,rfl,rfl⟩
  refine AOL.nil (Ad (AW.seq (AW.region (Qp B0 ?_))))
  refine Qp (Qc rfl (c75 b)) ?_
  refine Cv 0 [Iq _,Iq _,.str _] (_::_) ?_
  refine AOL.nil (Ad (AW.ret ?_))
  refine ⟨.inr rfl,[.agg [Iq _,Iq _,.str _]],.cons (.box _ _ _ 0 _ _ _ _ rfl rfl rfl rfl rfl rfl) <| .nil,.cons _ (.refl _),?_⟩
  try simp only [C1,Bool.and_true] at *
  first
    | (simp only [Ae,Eh,cV];skip;first | done | rfl)
    | (try simp only [Bool.not_eq_true',Bool.not_eq_false'] at *
       first
       | (simp only [Ae,Eh,cV, *,Bool.false_eq_true,↓reduceIte,Bool.true_or,Bool.or_true,Bool.false_or,Bool.or_false,Bool.true_and,Bool.and_true,Bool.false_and,Bool.and_false,Bool.not_true,Bool.not_false];done)
       | (simp [Ae,Eh,cV, *];done)
       | (simp_all [Ae,Eh,cV];done))
    | skip
theorem c79 (v:Vl):Ax Tryz.prog 52 [.agg (cV v)] (.int .i64 (Aq v)):=by
  refine Ax.body (n:=47) Ah Tryz.func52 rfl rfl rfl fun H=>?_
  refine AW.seq (AW.region (Qp (Gd [Iq _,Iq _,.str _]) (Qp Ap (AOL.nil (Ad (AW.seq (AW.seq (AW.region (Qp Jq ?_)))))))))
  refine Qp Bp (Qp Ch (Qp B0 (Qg [] Qw Jq (Qg [(7,_)] Qw Bp (Qg [(8,_)] Qw Ha (Qp E1 (AOL.nil (Ad (A6 (fun hc1=>?_) fun hc1=>?_)))))))))
  · skip
    refine AW.seq (AW.region (Qp Ap (AOL.nil (Ad (Dw ?_)))))
    refine Qr (Iq _) ?_
    rw [←Is]
    try simp only [C1,Bool.and_true] at *
    first
      | (simp only [Ae,Cp];(first | rw [if_pos hc1] | skip);first | done | rfl)
      | (try simp only [Bool.not_eq_true',Bool.not_eq_false'] at *
         first
         | (simp only [Ae,Cp, *,Bool.false_eq_true,↓reduceIte,Bool.true_or,Bool.or_true,Bool.false_or,Bool.or_false,Bool.true_and,Bool.and_true,Bool.false_and,Bool.and_false,Bool.not_true,Bool.not_false];done)
         | (simp [Ae,Cp, *];done)
         | (simp_all [Ae,Cp];done))
      | skip
  · skip
    refine By (AW.seq (AW.seq (AW.region (Qp Jq (Qp Bp (Qp A9 (AOL.nil (Ad (A6 (fun hc2=>?_) fun hc2=>?_)))))))))
    · skip
      refine AW.seq (AW.seq (AW.region (Qp U7 (Qp Bp (Qp Cr (AOL.nil (Ad (A6 (fun hc3=>?_) fun hc3=>?_))))))))
      · skip
        refine AW.seq (AW.region (Qp Ap (AOL.nil (Ad (Dw (Aj ?_))))))
        refine Qr (Iq _) ?_
        rw [←Is]
        try simp only [C1,Bool.and_true] at *
        first
          | (simp only [Ae,Cp];(first | rw [iN hc1] | skip);(first | rw [if_pos hc2] | skip);(first | rw [if_pos hc3] | skip);first | done | rfl)
          | (try simp only [Bool.not_eq_true',Bool.not_eq_false'] at *
             first
             | (simp only [Ae,Cp, *,Bool.false_eq_true,↓reduceIte,Bool.true_or,Bool.or_true,Bool.false_or,Bool.or_false,Bool.true_and,Bool.and_true,Bool.false_and,Bool.and_false,Bool.not_true,Bool.not_false];done)
             | (simp [Ae,Cp, *];done)
             | (simp_all [Ae,Cp];done))
          | skip
      · skip
        refine By (AW.seq (AW.seq (AW.region (Qp Qf7 (Qp Us ?_)))))
        refine Qp (H8 Ah rfl rfl rfl rfl) ?_
        refine Qp Ha (AOL.nil (Ad (A6 (fun hc4=>?_) fun hc4=>?_)))
        · skip
          refine AW.seq (AW.region (Qp Ap (AOL.nil (Ad (Dw (Aj ?_))))))
          refine Qr (Iq _) ?_
          rw [←Is]
          try simp only [C1,Bool.and_true] at *
          first
            | (simp only [Ae,Cp];(first | rw [iN hc1] | skip);(first | rw [if_pos hc2] | skip);(first | rw [iN hc3] | skip);(first | rw [if_pos hc4] | skip);first | done | rfl)
            | (try simp only [Bool.not_eq_true',Bool.not_eq_false'] at *
               first
               | (simp only [Ae,Cp, *,Bool.false_eq_true,↓reduceIte,Bool.true_or,Bool.or_true,Bool.false_or,Bool.or_false,Bool.true_and,Bool.and_true,Bool.false_and,Bool.and_false,Bool.not_true,Bool.not_false];done)
               | (simp [Ae,Cp, *];done)
               | (simp_all [Ae,Cp];done))
            | skip
        · skip
          refine By (AW.seq (AW.region (Qp Ap (AOL.nil (Ad (Dw ?_))))))
          refine Qr (Iq _) ?_
          rw [←Is]
          try simp only [C1,Bool.and_true] at *
          first
            | (simp only [Ae,Cp];(first | rw [iN hc1] | skip);(first | rw [if_pos hc2] | skip);(first | rw [iN hc3] | skip);(first | rw [iN hc4] | skip);first | done | rfl)
            | (try simp only [Bool.not_eq_true',Bool.not_eq_false'] at *
               first
               | (simp only [Ae,Cp, *,Bool.false_eq_true,↓reduceIte,Bool.true_or,Bool.or_true,Bool.false_or,Bool.or_false,Bool.true_and,Bool.and_true,Bool.false_and,Bool.and_false,Bool.not_true,Bool.not_false];done)
               | (simp [Ae,Cp, *];done)
               | (simp_all [Ae,Cp];done))
            | skip
    · skip
      refine By (AW.seq (AW.seq (AW.region (Qp Qf7 (Qp Us ?_)))))
      refine Qp (Pi rfl rfl) ?_
      refine AOL.nil (Ad (A6 (fun hc5=>?_) fun hc5=>?_))
      · skip
        refine AW.seq (AW.region (Qp Ap (AOL.nil (Ad (Dw ?_)))))
        refine Qr (Iq _) ?_
        rw [←Is]
        try simp only [C1,Bool.and_true] at *
        first
          | (simp only [Ae,Cp];(first | rw [iN hc1] | skip);(first | rw [iN hc2] | skip);(first | rw [if_pos hc5] | skip);first | done | rfl)
          | (try simp only [Bool.not_eq_true',Bool.not_eq_false'] at *
             first
             | (simp only [Ae,Cp, *,Bool.false_eq_true,↓reduceIte,Bool.true_or,Bool.or_true,Bool.false_or,Bool.or_false,Bool.true_and,Bool.and_true,Bool.false_and,Bool.and_false,Bool.not_true,Bool.not_false];done)
             | (simp [Ae,Cp, *];done)
             | (simp_all [Ae,Cp];done))
          | skip
      · skip
        refine By (AW.seq (AW.seq (AW.region (Qp Jq (Qp Bp (Qp A9 (Qp B0 (Qg [] Qw U7 (Qg [(28,_)] Qw Bp ?_)))))))))
        refine Qg [(29,_)] Qw Ch (Qg [(30,_)] Qw B0 (Qg [] Qw U7 (Qg [(32,_)] Qw Bp (Qg [(33,_)] Qw Ha (Qg [(31,_),(34,_)] Qw E1 (Qp F7 (Qp B0 (Qg [] Qw U7 (Qg [(38,_)] Qw Bp ?_)))))))))
        refine Qg [(39,_)] Qw Ch (Qp E1 (Qp B0 (Qg [] Qw U7 (Qg [(43,_)] Qw Bp (Qg [(44,_)] Qw Ha (Qp E1 (AOL.nil (Ad (A6 (fun hc6=>?_) fun hc6=>?_)))))))))
        · skip
          refine AW.seq (AW.region (Qp Ap (AOL.nil (Ad (Dw ?_)))))
          refine Qr (Iq _) ?_
          rw [←Is]
          try simp only [C1,Bool.and_true] at *
          first
            | (simp only [Ae,Cp];(first | rw [iN hc1] | skip);(first | rw [iN hc2] | skip);(first | rw [iN hc5] | skip);(first | rw [if_pos hc6] | skip);first | done | rfl)
            | (try simp only [Bool.not_eq_true',Bool.not_eq_false'] at *
               first
               | (simp only [Ae,Cp, *,Bool.false_eq_true,↓reduceIte,Bool.true_or,Bool.or_true,Bool.false_or,Bool.or_false,Bool.true_and,Bool.and_true,Bool.false_and,Bool.and_false,Bool.not_true,Bool.not_false];done)
               | (simp [Ae,Cp, *];done)
               | (simp_all [Ae,Cp];done))
            | skip
        · skip
          refine By (AW.seq (AW.region (Qp Ap (AOL.nil (Ad (AW.ret ?_))))))
          refine Qr (Iq _) ?_
          rw [←Is]
          try simp only [C1,Bool.and_true] at *
          first
            | (simp only [Ae,Cp];(first | rw [iN hc1] | skip);(first | rw [iN hc2] | skip);(first | rw [iN hc5] | skip);(first | rw [iN hc6] | skip);first | done | rfl)
            | (try simp only [Bool.not_eq_true',Bool.not_eq_false'] at *
               first
               | (simp only [Ae,Cp, *,Bool.false_eq_true,↓reduceIte,Bool.true_or,Bool.or_true,Bool.false_or,Bool.or_false,Bool.true_and,Bool.and_true,Bool.false_and,Bool.and_false,Bool.not_true,Bool.not_false];done)
               | (simp [Ae,Cp, *];done)
               | (simp_all [Ae,Cp];done))
            | skip
theorem c114 (k:Int):Ax Tryz.prog 155 [.int .i64 k] (.bool (Dt k)):=by
  refine Ax.body (n:=9) Ah Tryz.func155 rfl rfl rfl fun H=>?_
  refine AW.seq (AW.region (Qp Bl (AOL.nil (Ad (AW.seq (AW.region (Qp Az (Qp Nt (Qp B0 ?_)))))))))
  refine Qg [] Qw Az (Qg [(6,_)] Qw N8 (Qp F7 (Qp Bl (AOL.nil (Ad (AW.ret ?_))))))
  refine Qr (.bool _) ?_
  try simp only [C1,Bool.and_true] at *
  first
    | (simp only [Ae,Dt];skip;first | done | rfl)
    | (try simp only [Bool.not_eq_true',Bool.not_eq_false'] at *
       first
       | (simp only [Ae,Dt, *,Bool.false_eq_true,↓reduceIte,Bool.true_or,Bool.or_true,Bool.false_or,Bool.or_false,Bool.true_and,Bool.and_true,Bool.false_and,Bool.and_false,Bool.not_true,Bool.not_false];done)
       | (simp [Ae,Dt, *];done)
       | (simp_all [Ae,Dt];done))
    | skip
theorem c124 (k:Int)(v:Vl):Ax Tryz.prog 166 [.int .i64 k,.agg (cV v)] (.bool (Em k v)):=by
  refine Ax.body (n:=20) Ah Tryz.func166 rfl rfl rfl fun H=>?_
  refine AW.seq (AW.region (Qp (Gd [Iq _,Iq _,.str _]) (Qp Bl (AOL.nil (Ad (AW.seq (AW.region (Qp Jq (Qp Bp ?_)))))))))
  refine Qp A9 (Qp B0 (Qg [] Qw Az (Qg [(9,_)] Qw Cr (Qg [(10,_)] Qw B0 (Qg [] Qw Az (Qg [(12,_)] Qw Cr (Qg [(11,_),(13,_)] Qw F7 (Qg [(14,_)] Qw B0 (Qg [] Qw Az ?_)))))))))
  refine Qg [(16,_)] Qw Cr (Qg [(15,_),(17,_)] Qw F7 (Qp E1 (Qp Bl (AOL.nil (Ad (AW.ret ?_))))))
  refine Qr (.bool _) ?_
  try simp only [C1,Bool.and_true] at *
  first
    | (simp only [Ae,Em];skip;first | done | rfl)
    | (try simp only [Bool.not_eq_true',Bool.not_eq_false'] at *
       first
       | (simp only [Ae,Em, *,Bool.false_eq_true,↓reduceIte,Bool.true_or,Bool.or_true,Bool.false_or,Bool.or_false,Bool.true_and,Bool.and_true,Bool.false_and,Bool.and_false,Bool.not_true,Bool.not_false];done)
       | (simp [Ae,Em, *];done)
       | (simp_all [Ae,Em];done))
    | skip
theorem c101 (k:Int)(v:Vl):Ax Tryz.prog 144 [.int .i64 k,.agg (cV v)] (.bool (Gf k v)):=by
  refine Ax.body (n:=20) Ah Tryz.func144 rfl rfl rfl fun H=>?_
  refine AW.seq (AW.region (Qp (Gd [Iq _,Iq _,.str _]) (Qp Bl (AOL.nil (Ad (AW.seq (AW.region (Qp Jq (Qp Bp ?_)))))))))
  refine Qp A9 (Qp B0 (Qg [] Qw Az (Qg [(9,_)] Qw A9 (Qp E1 (Qp B0 (Qg [] Qw Az (Qg [(13,_)] Qw A9 (Qp E1 (Qp B0 ?_)))))))))
  refine Qg [] Qw Az (Qg [(17,_)] Qw A9 (Qp E1 (Qp Bl (AOL.nil (Ad (AW.ret ?_))))))
  refine Qr (.bool _) ?_
  try simp only [C1,Bool.and_true] at *
  first
    | (simp only [Ae,Gf];skip;first | done | rfl)
    | (try simp only [Bool.not_eq_true',Bool.not_eq_false'] at *
       first
       | (simp only [Ae,Gf, *,Bool.false_eq_true,↓reduceIte,Bool.true_or,Bool.or_true,Bool.false_or,Bool.or_false,Bool.true_and,Bool.and_true,Bool.false_and,Bool.and_false,Bool.not_true,Bool.not_false];done)
       | (simp [Ae,Gf, *];done)
       | (simp_all [Ae,Gf];done))
    | skip
theorem c99 (k:Int)(v:Vl):Ax Tryz.prog 133 [.int .i64 k,.agg (cV v)] (.bool (Dz k v)):=by
  refine Ax.body (n:=16) Ah Tryz.func133 rfl rfl rfl fun H=>?_
  refine AW.seq (AW.region (Qp (Gd [Iq _,Iq _,.str _]) (Qp Bl (AOL.nil (Ad (AW.seq (AW.region (Qp Jq (Qp Bp ?_)))))))))
  refine Qp A9 (Qp B0 (Qg [] Qw Az (Qg [(9,_)] Qw A9 (Qp E1 (Qp B0 (Qg [] Qw Az (Qg [(13,_)] Qw A9 (Qp E1 (Qp Bl ?_)))))))))
  refine AOL.nil (Ad (AW.ret ?_))
  refine Qr (.bool _) ?_
  try simp only [C1,Bool.and_true] at *
  first
    | (simp only [Ae,Dz];skip;first | done | rfl)
    | (try simp only [Bool.not_eq_true',Bool.not_eq_false'] at *
       first
       | (simp only [Ae,Dz, *,Bool.false_eq_true,↓reduceIte,Bool.true_or,Bool.or_true,Bool.false_or,Bool.or_false,Bool.true_and,Bool.and_true,Bool.false_and,Bool.and_false,Bool.not_true,Bool.not_false];done)
       | (simp [Ae,Dz, *];done)
       | (simp_all [Ae,Dz];done))
    | skip
theorem c119 (k:Int)(v:Vl):Ax Tryz.prog 160 [.int .i64 k,.agg (cV v)] (.agg (cV (Et k v))):=by
  refine Ax.body (n:=9) Ah Tryz.func160 rfl rfl rfl fun H=>?_
  refine AW.seq (AW.region (Qp (Gd [Iq _,Iq _,.str _]) ?_))
  refine Qe (Ak (l:=[.int .i64 0,.int .i64 0,.str []]) (by kernel_rfl)) ?_
  rintro _ _ ⟨b4,rfl,rfl⟩
  refine AOL.nil (Ad (AW.seq (AW.seq (AW.region (Qp Az (Qp A9 (AOL.nil (Ad (A6 (fun hc1=>?_) fun hc1=>?_)))))))))
  · skip
    refine AW.seq (AW.region (Qp (Fz [Iq _,Iq _,.str _]) ?_))
    refine Cv 0 [Iq _,Iq _,.str _] (_::_) ?_
    refine AOL.nil (Ad (Dw ?_))
    refine ⟨.inr rfl,[.agg [Iq _,Iq _,.str _]],.cons (.box _ _ _ 0 _ _ _ _ rfl rfl rfl rfl rfl rfl) <| .nil,.cons _ (.refl _),?_⟩
    try simp only [C1,Bool.and_true] at *
    first
      | (simp only [Ae,Et,cV,v0];(first | rw [if_pos hc1] | skip);first | done | rfl)
      | (try simp only [Bool.not_eq_true',Bool.not_eq_false'] at *
         first
         | (simp only [Ae,Et,cV,v0, *,Bool.false_eq_true,↓reduceIte,Bool.true_or,Bool.or_true,Bool.false_or,Bool.or_false,Bool.true_and,Bool.and_true,Bool.false_and,Bool.and_false,Bool.not_true,Bool.not_false];done)
         | (simp [Ae,Et,cV,v0, *];done)
         | (simp_all [Ae,Et,cV,v0];done))
      | skip
  · skip
    refine By (AW.seq (AW.region (Qp (Cq [Iq _,Iq _,.str _]) ?_)))
    refine Cv 0 [Iq _,Iq _,.str _] (_::_) ?_
    refine AOL.nil (Ad (AW.ret ?_))
    refine ⟨.inr rfl,[.agg [Iq _,Iq _,.str _]],.cons (.box _ _ _ 0 _ _ _ _ rfl rfl rfl rfl rfl rfl) <| .nil,.cons _ (.refl _),?_⟩
    try simp only [C1,Bool.and_true] at *
    first
      | (simp only [Ae,Et,cV,v0];(first | rw [iN hc1] | skip);first | done | rfl)
      | (try simp only [Bool.not_eq_true',Bool.not_eq_false'] at *
         first
         | (simp only [Ae,Et,cV,v0, *,Bool.false_eq_true,↓reduceIte,Bool.true_or,Bool.or_true,Bool.false_or,Bool.or_false,Bool.true_and,Bool.and_true,Bool.false_and,Bool.and_false,Bool.not_true,Bool.not_false];done)
         | (simp [Ae,Et,cV,v0, *];done)
         | (simp_all [Ae,Et,cV,v0];done))
      | skip
theorem c115 (k:Int)(v:Vl):Ax Tryz.prog 156 [.int .i64 k,.agg (cV v)] (.int .i64 (Do k v)):=by
  refine Ax.body (n:=15) Ah Tryz.func156 rfl rfl rfl fun H=>?_
  refine AW.seq (AW.region (Qp (Gd [Iq _,Iq _,.str _]) (Qp Ap (AOL.nil (Ad (AW.seq (AW.seq (AW.region (Qp (Cq [Iq _,Iq _,.str _]) ?_)))))))))
  refine Qp (Qc rfl (c94 v)) ?_
  refine Qp Ap (AOL.nil (Ad (AW.seq (AW.region (Qp Az (Qp Cr (AOL.nil (Ad (A6 (fun hc1=>?_) fun hc1=>?_)))))))))
  · skip
    refine AW.seq (AW.region (Qp Az (Qp Ap (AOL.nil (Ad (Dw ?_))))))
    refine Qr (Iq _) ?_
    try simp only [C1,Bool.and_true] at *
    first
      | (simp only [Ae,Do];(first | rw [if_pos hc1] | skip);first | done | rfl)
      | (try simp only [Bool.not_eq_true',Bool.not_eq_false'] at *
         first
         | (simp only [Ae,Do, *,Bool.false_eq_true,↓reduceIte,Bool.true_or,Bool.or_true,Bool.false_or,Bool.or_false,Bool.true_and,Bool.and_true,Bool.false_and,Bool.and_false,Bool.not_true,Bool.not_false];done)
         | (simp [Ae,Do, *];done)
         | (simp_all [Ae,Do];done))
      | skip
  · skip
    refine By (AW.seq (AW.seq (AW.region (Qp Az (Qp (Cq [Iq _,Iq _,.str _]) ?_)))))
    refine Qp (Qc rfl (c124 k v)) ?_
    refine Qp Hc (AOL.nil (Ad (A6 (fun hc2=>?_) fun hc2=>?_)))
    · skip
      refine AW.seq (AW.region (Qp Ap (AOL.nil (Ad (Dw ?_)))))
      refine Qr (Iq _) ?_
      try simp only [C1,Bool.and_true] at *
      first
        | (simp only [Ae,Do];(first | rw [iN hc1] | skip);(first | rw [if_pos hc2] | skip);first | done | rfl)
        | (try simp only [Bool.not_eq_true',Bool.not_eq_false'] at *
           first
           | (simp only [Ae,Do, *,Bool.false_eq_true,↓reduceIte,Bool.true_or,Bool.or_true,Bool.false_or,Bool.or_false,Bool.true_and,Bool.and_true,Bool.false_and,Bool.and_false,Bool.not_true,Bool.not_false];done)
           | (simp [Ae,Do, *];done)
           | (simp_all [Ae,Do];done))
        | skip
    · skip
      refine By (AW.seq (AW.region (Qp Ap (AOL.nil (Ad (AW.ret ?_))))))
      refine Qr (Iq _) ?_
      try simp only [C1,Bool.and_true] at *
      first
        | (simp only [Ae,Do];(first | rw [iN hc1] | skip);(first | rw [iN hc2] | skip);first | done | rfl)
        | (try simp only [Bool.not_eq_true',Bool.not_eq_false'] at *
           first
           | (simp only [Ae,Do, *,Bool.false_eq_true,↓reduceIte,Bool.true_or,Bool.or_true,Bool.false_or,Bool.or_false,Bool.true_and,Bool.and_true,Bool.false_and,Bool.and_false,Bool.not_true,Bool.not_false];done)
           | (simp [Ae,Do, *];done)
           | (simp_all [Ae,Do];done))
        | skip

end Go.Proofs.YtjedflcpjlgokaaGreatDoor
