/-
  Walks of layers 1, 7 and 8: the functions without loops. No condition.
-/
import Derived.Test.YtkddpedfbicbeaaGreatDoorAz
import Derived.Test.YtkddpedfbicbeaaGreatDoorK02
import Derived.Test.YtkddpedfbicbeaaGreatDoorTab
import Derived.KernelRfl
namespace Go.Proofs.YtkddpedfbicbeaaGreatDoor
open Go Go.Aw
set_option maxHeartbeats 400000
set_option maxRecDepth 20000
set_option linter.unusedVariables false
set_option linter.unusedSimpArgs false

theorem c52 (op:Int):Ar Tryz.prog 109 [.int .i64 op] (.tuple [.bool (Dt op).1,.bool (Dt op).2]):=by
 refine Ar.body (n:=11) Ai Tryz.func109 rfl rfl rfl fun H=>?_
 refine Ah (Qp Bc (Qp Bc (Ag (AW.seq (Ah (Qp Az (Ag (AW.block (AW.seq ?_)))))))))
 refine Ah (Qp A6 (Qp Bc (Ag (A2 (fun hc1=>?_) fun hc1=>?_))))
 ·
  refine Bv (A2 (fun hc2=>?_) fun hc2=>?_)
  ·
   refine Ah (Qp Bc (Qp Bc (Ag (AW.ret (A9 (Al ?_))))))
   refine J3 (.bool _) (.bool _) ?_
   simp_all [Ad,Dt]
  ·
   refine AW.seq (Ah (Qp A6 (Qp Bc (Ag (A2 (fun hc3=>?_) fun hc3=>?_)))))
   ·
    refine Bv (A2 (fun hc4=>?_) fun hc4=>?_)
    ·
     refine Ah (Qp Bc (Qp Bc (Ag (AW.ret (A9 (Al ?_))))))
     refine J3 (.bool _) (.bool _) ?_
     simp_all [Ad,Dt]
    ·
     refine AW.skip (Bp (Ae (Ah (Qp Bc (Qp Bc (Ag (AW.ret ?_)))))))
     refine J3 (.bool _) (.bool _) ?_
     simp_all [Ad,Dt]
   ·
    refine AW.region (Qp A6 (Qp Bc (Ag (A2 (fun hc5=>?_) fun hc5=>?_))))
    ·
     refine Ah (Qp Bc (Qp Bc (Ag (AW.ret (A9 (Al ?_))))))
     refine J3 (.bool _) (.bool _) ?_
     simp_all [Ad,Dt]
    ·
     refine AW.skip (Bp (Ae (Ah (Qp Bc (Qp Bc (Ag (AW.ret ?_)))))))
     refine J3 (.bool _) (.bool _) ?_
     simp_all [Ad,Dt]
 ·
  refine AW.region (Qp A6 (Qp Bc (Ag (A2 (fun hc6=>?_) fun hc6=>?_))))
  ·
   refine Ah (Qp Bc (Qp Bc (Ag (AW.ret (A9 (Al ?_))))))
   refine J3 (.bool _) (.bool _) ?_
   simp_all [Ad,Dt]
  ·
   refine AW.seq (Ah (Qp A6 (Qp Bc (Ag (A2 (fun hc7=>?_) fun hc7=>?_)))))
   ·
    refine Bv (A2 (fun hc8=>?_) fun hc8=>?_)
    ·
     refine Ah (Qp Bc (Qp Bc (Ag (AW.ret (A9 (Al ?_))))))
     refine J3 (.bool _) (.bool _) ?_
     simp_all [Ad,Dt]
    ·
     refine AW.skip (Bp (Ae (Ah (Qp Bc (Qp Bc (Ag (AW.ret ?_)))))))
     refine J3 (.bool _) (.bool _) ?_
     simp_all [Ad,Dt]
   ·
    refine AW.region (Qp A6 (Qp Bc (Ag (A2 (fun hc9=>?_) fun hc9=>?_))))
    ·
     refine Ah (Qp Bc (Qp Bc (Ag (AW.ret (A9 (Al ?_))))))
     refine J3 (.bool _) (.bool _) ?_
     simp_all [Ad,Dt]
    ·
     refine AW.skip (Bp (Ae (Ah (Qp Bc (Qp Bc (Ag (AW.ret ?_)))))))
     refine J3 (.bool _) (.bool _) ?_
     simp_all [Ad,Dt]
theorem c84 (op:Int):Ar Tryz.prog 160 [.int .i64 op] (.tuple [.bool (Dt op).1,.bool (Dt op).2]):=by
 refine Ar.body (n:=21) Ai Tryz.func160 rfl rfl rfl fun H=>?_
 refine Ah (Qp Bc (Qp Bc (Db (Qp Az (Qp A6 (Qp Bm (Qg [] Qw Az (Qg [(8,_)] Qw A6 (Qp Ek ?_)))))))))
 refine Qp Bc (Db (Qp Bm (Qp Bm (Qg [] Qw Az (Qg [(13,_)] Qw A6 (Qp Ek (Qp Bm (Qg [] Qw Az (Qg [(17,_)] Qw A6 ?_)))))))))
 refine Qp Ek (Qp Bm (Qp Bc (Qp Bc (Ag (AW.ret ?_)))))
 refine J3 (.bool _) (.bool _) ?_
 by_cases h1:op=1 <;> by_cases h2:op=2 <;> by_cases h3:op=3 <;> by_cases h4:op=4 <;> simp_all [Dt,Ad]
theorem c81 (op:Int):Ar Tryz.prog 108 [.int .i64 op] (.tuple [.int .i64 (D6 op),.bool (decide (0≤op∧op≤12))]):=by
 refine Ar.body (n:=17) Ai Tryz.func108 rfl rfl rfl fun H=>?_
 refine Ah (Qp Ap (Qp Bc (Ag (AW.seq (AW.block (Ah (Qp Az (Qp Cf (Qp Bm ?_)))))))))
 refine Qg [] Qw Az (Qg [(8,_)] Qw Hb (Qp Ek (Qp Bc (Ag (A2 (fun hc1=>?_) fun hc1=>?_)))))
 ·
  refine Ah (Qp Ap (Qp Bc (Ag (AW.ret (A9 (Al ?_))))))
  refine J3 (Iq _) (.bool _) ?_
  simp only [Bool.or_eq_true,Bool.or_eq_false_iff,decide_eq_true_eq,decide_eq_false_iff_not,beq_iff_eq,beq_eq_false_iff_ne] at *
  simp only [Ad,D6,AV.tuple.injEq,List.cons.injEq,AV.int.injEq,AV.bool.injEq,true_and,and_true]
  refine ⟨?_,?_⟩
  ·
   repeat' split
   all_goals omega
  · simp <;> omega
 ·
  refine Ah (Qp Az (Qp Cf (Qp Bc (Ag (A2 (fun hc2=>?_) fun hc2=>?_)))))
  ·
   refine Ah (Qp Ap (Qp Bc (Ag (AW.ret (A9 (Al ?_))))))
   refine J3 (Iq _) (.bool _) ?_
   simp only [Bool.or_eq_true,Bool.or_eq_false_iff,decide_eq_true_eq,decide_eq_false_iff_not,beq_iff_eq,beq_eq_false_iff_ne] at *
   simp only [Ad,D6,AV.tuple.injEq,List.cons.injEq,AV.int.injEq,AV.bool.injEq,true_and,and_true]
   refine ⟨?_,?_⟩
   ·
    repeat' split
    all_goals omega
   · simp <;> omega
  ·
   refine Ah (Qp Az (Qp A6 (Qp Bc (Ag (A2 (fun hc3=>?_) fun hc3=>?_)))))
   ·
    refine Ah (Qp Ap (Qp Bc (Ag (AW.ret (A9 (Al ?_))))))
    refine J3 (Iq _) (.bool _) ?_
    simp only [Bool.or_eq_true,Bool.or_eq_false_iff,decide_eq_true_eq,decide_eq_false_iff_not,beq_iff_eq,beq_eq_false_iff_ne] at *
    simp only [Ad,D6,AV.tuple.injEq,List.cons.injEq,AV.int.injEq,AV.bool.injEq,true_and,and_true]
    refine ⟨?_,?_⟩
    ·
     repeat' split
     all_goals omega
    · simp <;> omega
   ·
    refine AW.skip (Bp (Ae (Ah (Qp Ap (Qp Bc (Ag (AW.ret ?_)))))))
    refine J3 (Iq _) (.bool _) ?_
    simp only [Bool.or_eq_true,Bool.or_eq_false_iff,decide_eq_true_eq,decide_eq_false_iff_not,beq_iff_eq,beq_eq_false_iff_ne] at *
    simp only [Ad,D6,AV.tuple.injEq,List.cons.injEq,AV.int.injEq,AV.bool.injEq,true_and,and_true]
    refine ⟨?_,?_⟩
    ·
     repeat' split
     all_goals omega
    · simp <;> omega
theorem c100 (op:Int):Ar Tryz.prog 159 [.int .i64 op] (.int .i64 (if 0≤op∧op≤12 then D6 op else -1)):=by
 refine Ar.body (n:=20) Ai Tryz.func159 rfl rfl rfl fun H=>?_
 refine Ah (Qp Ap (Ag (AW.seq (Ah (Qp Az (Ag (AW.block ?_)))))))
 refine AW.cut (fun (_:Unit)=>(⟨[(0,.int .i64 op),(3,.int .i64 op),(4,.bool (op==0||op==1||op==2||op==3||op==4))],H,20⟩:St)) (fun (_:Unit)=>True) ?_ ?_
 ·
  refine Ah (Qp A6 (Qp Bc (Ag (A2 (fun hc1=>?_) fun hc1=>?_))))
  ·
   refine Bv ?_
   refine ⟨(),?_,GS.weaken ⟨rfl,rfl,congrArg AV.bool (by simp [*]),trivial⟩ (.refl _)⟩
   trivial
  ·
   refine Ah (Qp A6 (Qp Bc (Ag (A2 (fun hc2=>?_) fun hc2=>?_))))
   ·
    refine Bv ?_
    refine ⟨(),?_,GS.weaken ⟨rfl,rfl,congrArg AV.bool (by simp [*]),trivial⟩ (.refl _)⟩
    trivial
   ·
    refine Ah (Qp A6 (Qp Bc (Ag (A2 (fun hc3=>?_) fun hc3=>?_))))
    ·
     refine Bv ?_
     refine ⟨(),?_,GS.weaken ⟨rfl,rfl,congrArg AV.bool (by simp [*]),trivial⟩ (.refl _)⟩
     trivial
    ·
     refine Ah (Qp A6 (Qp Bc (Ag (A2 (fun hc4=>?_) fun hc4=>?_))))
     ·
      refine Bv ?_
      refine ⟨(),?_,GS.weaken ⟨rfl,rfl,congrArg AV.bool (by simp [*]),trivial⟩ (.refl _)⟩
      trivial
     ·
      refine AW.region (Qp A6 (Qp Bc (Ag ?_)))
      refine ⟨(),?_,GS.weaken ⟨rfl,rfl,congrArg AV.bool (by simp [*]),trivial⟩ (.refl _)⟩
      trivial
 ·
  rintro _ _
  refine A2 (fun hc5=>?_) fun hc5=>?_
  ·
   refine Ah (Qp Ap (Ag (AW.ret (A9 (Al ?_)))))
   refine Qr (Iq _) ?_
   simp only [Bool.or_eq_true,Bool.or_eq_false_iff,beq_iff_eq,beq_eq_false_iff_ne] at *
   simp only [Ad,D6,AV.int.injEq,true_and]
   repeat' split
   all_goals omega
  ·
   refine Ah (Qp A6 (Qp Bc (Ag (A2 (fun hc6=>?_) fun hc6=>?_))))
   ·
    refine Ah (Qp Ap (Ag (AW.ret (A9 (Al ?_)))))
    refine Qr (Iq _) ?_
    simp only [Bool.or_eq_true,Bool.or_eq_false_iff,beq_iff_eq,beq_eq_false_iff_ne] at *
    simp only [Ad,D6,AV.int.injEq,true_and]
    repeat' split
    all_goals omega
   ·
    refine AW.cut (fun (_:Unit)=>(⟨[(12,.bool (op==5||op==6||op==7||op==8||op==9||op==10||op==11))],H,20⟩:St)) (fun (_:Unit)=>True) ?_ ?_
    ·
     refine Ah (Qp A6 (Qp Bc (Ag (A2 (fun hc7=>?_) fun hc7=>?_))))
     ·
      refine Bv ?_
      refine ⟨(),?_,GS.weaken ⟨congrArg AV.bool (by simp [*]),trivial⟩ (.refl _)⟩
      trivial
     ·
      refine Ah (Qp A6 (Qp Bc (Ag (A2 (fun hc8=>?_) fun hc8=>?_))))
      ·
       refine Bv ?_
       refine ⟨(),?_,GS.weaken ⟨congrArg AV.bool (by simp [*]),trivial⟩ (.refl _)⟩
       trivial
      ·
       refine Ah (Qp A6 (Qp Bc (Ag (A2 (fun hc9=>?_) fun hc9=>?_))))
       ·
        refine Bv ?_
        refine ⟨(),?_,GS.weaken ⟨congrArg AV.bool (by simp [*]),trivial⟩ (.refl _)⟩
        trivial
       ·
        refine Ah (Qp A6 (Qp Bc (Ag (A2 (fun hc10=>?_) fun hc10=>?_))))
        ·
         refine Bv ?_
         refine ⟨(),?_,GS.weaken ⟨congrArg AV.bool (by simp [*]),trivial⟩ (.refl _)⟩
         trivial
        ·
         refine Ah (Qp A6 (Qp Bc (Ag (A2 (fun hc11=>?_) fun hc11=>?_))))
         ·
          refine Bv ?_
          refine ⟨(),?_,GS.weaken ⟨congrArg AV.bool (by simp [*]),trivial⟩ (.refl _)⟩
          trivial
         ·
          refine Ah (Qp A6 (Qp Bc (Ag (A2 (fun hc12=>?_) fun hc12=>?_))))
          ·
           refine Bv ?_
           refine ⟨(),?_,GS.weaken ⟨congrArg AV.bool (by simp [*]),trivial⟩ (.refl _)⟩
           trivial
          ·
           refine AW.region (Qp A6 (Qp Bc (Ag ?_)))
           refine ⟨(),?_,GS.weaken ⟨congrArg AV.bool (by simp [*]),trivial⟩ (.refl _)⟩
           trivial
    ·
     rintro _ _
     refine A2 (fun hc13=>?_) fun hc13=>?_
     ·
      refine Ah (Qp Ap (Ag (AW.ret (A9 (Al ?_)))))
      refine Qr (Iq _) ?_
      simp only [Bool.or_eq_true,Bool.or_eq_false_iff,beq_iff_eq,beq_eq_false_iff_ne] at *
      simp only [Ad,D6,AV.int.injEq,true_and]
      repeat' split
      all_goals omega
     ·
      refine AW.skip (Bp (Ae (Ah (Qp Ap (Ag (AW.ret ?_))))))
      refine Qr (Iq _) ?_
      simp only [Bool.or_eq_true,Bool.or_eq_false_iff,beq_iff_eq,beq_eq_false_iff_ne] at *
      simp only [Ad,D6,AV.int.injEq,true_and]
      repeat' split
      all_goals omega
theorem Aar (v:Vl):Ar Tryz.prog 161 [.agg (cV v)] (.int .i64 (D5 v)):=by
  refine Ar.body (n:=36) Ai Tryz.func161 rfl rfl rfl fun H=>?_
  refine AW.seq (AW.region (Qp (Fx [Iq _,Iq _,.str _]) (Qp Ap (AOL.nil (Ae (AW.seq (AW.block (AW.seq (AW.region ?_)))))))))
  refine Qp J2 (Qp Br (Qp A6 (Qp Bm (Qg [] Qw Ys (Qg [(8,_)] Qw Br (Qg [(9,_)] Qw Cf (Qg [(10,_)] Qw Bm (Qg [] Qw Ys (Qg [(12,_)] Qw Br ?_)))))))))
  refine Qg [(13,_)] Qw Hb (Qg [(11,_),(14,_)] Qw Ek (Qp Em (Qp Bc (AOL.nil (Ae (A2 (fun hc1=>?_) fun hc1=>?_))))))
  · skip
    refine AW.seq (AW.region (Qp Ap (AOL.nil (Ae (AW.ret (A9 (Al ?_)))))))
    refine Qr (Iq _) ?_
    try simp only [Cx,Bool.and_true] at *
    first
      | (simp only [Ad,D5];(first | rw [if_pos hc1] | skip);first | done | rfl)
      | (try simp only [Bool.not_eq_true',Bool.not_eq_false'] at *
         first
         | (simp only [Ad,D5, *,Bool.false_eq_true,↓reduceIte,Bool.true_or,Bool.or_true,Bool.false_or,Bool.or_false,Bool.true_and,Bool.and_true,Bool.false_and,Bool.and_false,Bool.not_true,Bool.not_false];done)
         | (simp [Ad,D5, *];done)
         | (simp_all [Ad,D5];done))
      | skip
  · skip
    refine AW.seq (AW.region (Qp J2 (Qp Br (Qp A6 (Qp Bm (Qg [] Qw Ys (Qg [(22,_)] Qw Br (Qg [(23,_)] Qw Ci (Qp Em ?_)))))))))
    refine Qp Bm (Qg [] Qw Ys (Qg [(27,_)] Qw Br (Qg [(28,_)] Qw Ci (Qp Em (Qp Bc (AOL.nil (Ae (A2 (fun hc2=>?_) fun hc2=>?_))))))))
    · skip
      refine AW.seq (AW.region (Qp Ap (AOL.nil (Ae (AW.ret (A9 (Al ?_)))))))
      refine Qr (Iq _) ?_
      try simp only [Cx,Bool.and_true] at *
      first
        | (simp only [Ad,D5];(first | rw [iN hc1] | skip);(first | rw [if_pos hc2] | skip);first | done | rfl)
        | (try simp only [Bool.not_eq_true',Bool.not_eq_false'] at *
           first
           | (simp only [Ad,D5, *,Bool.false_eq_true,↓reduceIte,Bool.true_or,Bool.or_true,Bool.false_or,Bool.or_false,Bool.true_and,Bool.and_true,Bool.false_and,Bool.and_false,Bool.not_true,Bool.not_false];done)
           | (simp [Ad,D5, *];done)
           | (simp_all [Ad,D5];done))
        | skip
    · skip
      refine AW.seq (AW.region (Qp Qf7 (Qp Vn ?_)))
      refine Qp (He Ai rfl rfl rfl rfl) ?_
      refine Qp Hb (Qp Bc (AOL.nil (Ae (A2 (fun hc3=>?_) fun hc3=>?_))))
      · skip
        refine AW.seq (AW.region (Qp Ap (AOL.nil (Ae (AW.ret (A9 (Al ?_)))))))
        refine Qr (Iq _) ?_
        try simp only [Cx,Bool.and_true] at *
        first
          | (simp only [Ad,D5];(first | rw [iN hc1] | skip);(first | rw [iN hc2] | skip);(first | rw [if_pos hc3] | skip);first | done | rfl)
          | (try simp only [Bool.not_eq_true',Bool.not_eq_false'] at *
             first
             | (simp only [Ad,D5, *,Bool.false_eq_true,↓reduceIte,Bool.true_or,Bool.or_true,Bool.false_or,Bool.or_false,Bool.true_and,Bool.and_true,Bool.false_and,Bool.and_false,Bool.not_true,Bool.not_false];done)
             | (simp [Ad,D5, *];done)
             | (simp_all [Ad,D5];done))
          | skip
      · skip
        refine AW.skip (Bp (Ae (AW.seq (AW.region (Qp Ap (AOL.nil (Ae (AW.ret ?_))))))))
        refine Qr (Iq _) ?_
        try simp only [Cx,Bool.and_true] at *
        first
          | (simp only [Ad,D5];(first | rw [iN hc1] | skip);(first | rw [iN hc2] | skip);(first | rw [iN hc3] | skip);first | done | rfl)
          | (try simp only [Bool.not_eq_true',Bool.not_eq_false'] at *
             first
             | (simp only [Ad,D5, *,Bool.false_eq_true,↓reduceIte,Bool.true_or,Bool.or_true,Bool.false_or,Bool.or_false,Bool.true_and,Bool.and_true,Bool.false_and,Bool.and_false,Bool.not_true,Bool.not_false];done)
             | (simp [Ad,D5, *];done)
             | (simp_all [Ad,D5];done))
          | skip
theorem c94 (v:Vl):Ar Tryz.prog 143 [.agg (cV v)] (.int .i64 (An v)):=by
  refine Ar.body (n:=18) Ai Tryz.func143 rfl rfl rfl fun H=>?_
  refine AW.seq (AW.region (Qp (Fx [Iq _,Iq _,.str _]) (Qp Ap (AOL.nil (Ae (AW.seq (AW.seq (AW.region (Qp J2 ?_)))))))))
  refine Qp Br (AOL.nil (Ae (AW.block (AW.seq (AW.seq (AW.region (Qp A6 (Qp Bc (AOL.nil ?_)))))))))
  refine Ae (A2 (fun hc1=>?_) fun hc1=>?_)
  · skip
    refine Bv (A2 (fun hc2=>?_) fun hc2=>?_)
    · skip
      refine AW.seq (AW.region (Qp Qf7 (Qp Vn ?_)))
      refine Qp (P0 rfl rfl) ?_
      refine AOL.nil (Ae (A2 (fun hc3=>?_) fun hc3=>?_))
      · skip
        refine AW.seq (AW.region (Qp Ap (AOL.nil (Ae (AW.ret (A9 (Al ?_)))))))
        refine Qr (Iq _) ?_
        try simp only [Cx,Bool.and_true] at *
        first
          | (simp only [Ad,An];(first | rw [if_pos hc1] | skip);(first | rw [if_pos hc2] | skip);(first | rw [if_pos hc3] | skip);first | done | rfl)
          | (try simp only [Bool.not_eq_true',Bool.not_eq_false'] at *
             first
             | (simp only [Ad,An, *,Bool.false_eq_true,↓reduceIte,Bool.true_or,Bool.or_true,Bool.false_or,Bool.or_false,Bool.true_and,Bool.and_true,Bool.false_and,Bool.and_false,Bool.not_true,Bool.not_false];done)
             | (simp [Ad,An, *];done)
             | (simp_all [Ad,An];done))
          | skip
      · skip
        refine AW.skip (Bp (Ae (AW.seq (AW.region (Qp (Cd [Iq _,Iq _,.str _]) ?_)))))
        refine Qp (Qc rfl (Aar v)) ?_
        refine Qp Ap (AOL.nil (Ae (AW.ret ?_)))
        refine Qr (Iq _) ?_
        try simp only [Cx,Bool.and_true] at *
        first
          | (simp only [Ad,An];(first | rw [if_pos hc1] | skip);(first | rw [if_pos hc2] | skip);(first | rw [iN hc3] | skip);first | done | rfl)
          | (try simp only [Bool.not_eq_true',Bool.not_eq_false'] at *
             first
             | (simp only [Ad,An, *,Bool.false_eq_true,↓reduceIte,Bool.true_or,Bool.or_true,Bool.false_or,Bool.or_false,Bool.true_and,Bool.and_true,Bool.false_and,Bool.and_false,Bool.not_true,Bool.not_false];done)
             | (simp [Ad,An, *];done)
             | (simp_all [Ad,An];done))
          | skip
    · skip
      refine AW.seq (AW.region (Qp A6 (Qp Bc (AOL.nil (Ae (A2 (fun hc4=>?_) fun hc4=>?_))))))
      · skip
        refine AW.seq (AW.region (Qp Ys (Qp Br (Qp Ci (AOL.nil (Ae (A2 (fun hc5=>?_) fun hc5=>?_)))))))
        · skip
          refine AW.seq (AW.region (Qp Ap (AOL.nil (Ae (AW.ret (A9 (Al ?_)))))))
          refine Qr (Iq _) ?_
          try simp only [Cx,Bool.and_true] at *
          first
            | (simp only [Ad,An];(first | rw [if_pos hc1] | skip);(first | rw [iN hc2] | skip);(first | rw [if_pos hc4] | skip);(first | rw [if_pos hc5] | skip);first | done | rfl)
            | (try simp only [Bool.not_eq_true',Bool.not_eq_false'] at *
               first
               | (simp only [Ad,An, *,Bool.false_eq_true,↓reduceIte,Bool.true_or,Bool.or_true,Bool.false_or,Bool.or_false,Bool.true_and,Bool.and_true,Bool.false_and,Bool.and_false,Bool.not_true,Bool.not_false];done)
               | (simp [Ad,An, *];done)
               | (simp_all [Ad,An];done))
            | skip
        · skip
          refine AW.skip (Bp (Ae (AW.seq (AW.region (Qp (Cd [Iq _,Iq _,.str _]) ?_)))))
          refine Qp (Qc rfl (Aar v)) ?_
          refine Qp Ap (AOL.nil (Ae (AW.ret ?_)))
          refine Qr (Iq _) ?_
          try simp only [Cx,Bool.and_true] at *
          first
            | (simp only [Ad,An];(first | rw [if_pos hc1] | skip);(first | rw [iN hc2] | skip);(first | rw [if_pos hc4] | skip);(first | rw [iN hc5] | skip);first | done | rfl)
            | (try simp only [Bool.not_eq_true',Bool.not_eq_false'] at *
               first
               | (simp only [Ad,An, *,Bool.false_eq_true,↓reduceIte,Bool.true_or,Bool.or_true,Bool.false_or,Bool.or_false,Bool.true_and,Bool.and_true,Bool.false_and,Bool.and_false,Bool.not_true,Bool.not_false];done)
               | (simp [Ad,An, *];done)
               | (simp_all [Ad,An];done))
            | skip
      · skip
        refine AW.seq (AW.region (Qp Ap (AOL.nil (Ae (AW.ret (A9 (Al ?_)))))))
        refine Qr (Iq _) ?_
        try simp only [Cx,Bool.and_true] at *
        first
          | (simp only [Ad,An];(first | rw [if_pos hc1] | skip);(first | rw [iN hc2] | skip);(first | rw [iN hc4] | skip);first | done | rfl)
          | (try simp only [Bool.not_eq_true',Bool.not_eq_false'] at *
             first
             | (simp only [Ad,An, *,Bool.false_eq_true,↓reduceIte,Bool.true_or,Bool.or_true,Bool.false_or,Bool.or_false,Bool.true_and,Bool.and_true,Bool.false_and,Bool.and_false,Bool.not_true,Bool.not_false];done)
             | (simp [Ad,An, *];done)
             | (simp_all [Ad,An];done))
          | skip
  · skip
    refine AW.region (Qp A6 (Qp Bc (AOL.nil (Ae (A2 (fun hc6=>?_) fun hc6=>?_)))))
    · skip
      refine AW.seq (AW.region (Qp Qf7 (Qp Vn ?_)))
      refine Qp (P0 rfl rfl) ?_
      refine AOL.nil (Ae (A2 (fun hc7=>?_) fun hc7=>?_))
      · skip
        refine AW.seq (AW.region (Qp Ap (AOL.nil (Ae (AW.ret (A9 (Al ?_)))))))
        refine Qr (Iq _) ?_
        try simp only [Cx,Bool.and_true] at *
        first
          | (simp only [Ad,An];(first | rw [iN hc1] | skip);(first | rw [if_pos hc6] | skip);(first | rw [if_pos hc7] | skip);first | done | rfl)
          | (try simp only [Bool.not_eq_true',Bool.not_eq_false'] at *
             first
             | (simp only [Ad,An, *,Bool.false_eq_true,↓reduceIte,Bool.true_or,Bool.or_true,Bool.false_or,Bool.or_false,Bool.true_and,Bool.and_true,Bool.false_and,Bool.and_false,Bool.not_true,Bool.not_false];done)
             | (simp [Ad,An, *];done)
             | (simp_all [Ad,An];done))
          | skip
      · skip
        refine AW.skip (Bp (Ae (AW.seq (AW.region (Qp (Cd [Iq _,Iq _,.str _]) ?_)))))
        refine Qp (Qc rfl (Aar v)) ?_
        refine Qp Ap (AOL.nil (Ae (AW.ret ?_)))
        refine Qr (Iq _) ?_
        try simp only [Cx,Bool.and_true] at *
        first
          | (simp only [Ad,An];(first | rw [iN hc1] | skip);(first | rw [if_pos hc6] | skip);(first | rw [iN hc7] | skip);first | done | rfl)
          | (try simp only [Bool.not_eq_true',Bool.not_eq_false'] at *
             first
             | (simp only [Ad,An, *,Bool.false_eq_true,↓reduceIte,Bool.true_or,Bool.or_true,Bool.false_or,Bool.or_false,Bool.true_and,Bool.and_true,Bool.false_and,Bool.and_false,Bool.not_true,Bool.not_false];done)
             | (simp [Ad,An, *];done)
             | (simp_all [Ad,An];done))
          | skip
    · skip
      refine AW.seq (AW.region (Qp A6 (Qp Bc (AOL.nil (Ae (A2 (fun hc8=>?_) fun hc8=>?_))))))
      · skip
        refine AW.seq (AW.region (Qp Ys (Qp Br (Qp Ci (AOL.nil (Ae (A2 (fun hc9=>?_) fun hc9=>?_)))))))
        · skip
          refine AW.seq (AW.region (Qp Ap (AOL.nil (Ae (AW.ret (A9 (Al ?_)))))))
          refine Qr (Iq _) ?_
          try simp only [Cx,Bool.and_true] at *
          first
            | (simp only [Ad,An];(first | rw [iN hc1] | skip);(first | rw [iN hc6] | skip);(first | rw [if_pos hc8] | skip);(first | rw [if_pos hc9] | skip);first | done | rfl)
            | (try simp only [Bool.not_eq_true',Bool.not_eq_false'] at *
               first
               | (simp only [Ad,An, *,Bool.false_eq_true,↓reduceIte,Bool.true_or,Bool.or_true,Bool.false_or,Bool.or_false,Bool.true_and,Bool.and_true,Bool.false_and,Bool.and_false,Bool.not_true,Bool.not_false];done)
               | (simp [Ad,An, *];done)
               | (simp_all [Ad,An];done))
            | skip
        · skip
          refine AW.skip (Bp (Ae (AW.seq (AW.region (Qp (Cd [Iq _,Iq _,.str _]) ?_)))))
          refine Qp (Qc rfl (Aar v)) ?_
          refine Qp Ap (AOL.nil (Ae (AW.ret ?_)))
          refine Qr (Iq _) ?_
          try simp only [Cx,Bool.and_true] at *
          first
            | (simp only [Ad,An];(first | rw [iN hc1] | skip);(first | rw [iN hc6] | skip);(first | rw [if_pos hc8] | skip);(first | rw [iN hc9] | skip);first | done | rfl)
            | (try simp only [Bool.not_eq_true',Bool.not_eq_false'] at *
               first
               | (simp only [Ad,An, *,Bool.false_eq_true,↓reduceIte,Bool.true_or,Bool.or_true,Bool.false_or,Bool.or_false,Bool.true_and,Bool.and_true,Bool.false_and,Bool.and_false,Bool.not_true,Bool.not_false];done)
               | (simp [Ad,An, *];done)
               | (simp_all [Ad,An];done))
            | skip
      · skip
        refine AW.seq (AW.region (Qp Ap (AOL.nil (Ae (AW.ret (A9 (Al ?_)))))))
        refine Qr (Iq _) ?_
        try simp only [Cx,Bool.and_true] at *
        first
          | (simp only [Ad,An];(first | rw [iN hc1] | skip);(first | rw [iN hc6] | skip);(first | rw [iN hc8] | skip);first | done | rfl)
          | (try simp only [Bool.not_eq_true',Bool.not_eq_false'] at *
             first
             | (simp only [Ad,An, *,Bool.false_eq_true,↓reduceIte,Bool.true_or,Bool.or_true,Bool.false_or,Bool.or_false,Bool.true_and,Bool.and_true,Bool.false_and,Bool.and_false,Bool.not_true,Bool.not_false];done)
             | (simp [Ad,An, *];done)
             | (simp_all [Ad,An];done))
          | skip
theorem c75 (b:Bool):Ar Tryz.prog 107 [.bool b] (.agg (cV (D0 b))):=by
  refine Ar.body (n:=8) Ai Tryz.func107 rfl rfl rfl fun H=>?_
  refine AW.seq (AW.region ?_)
  refine Qe (Aj (l:=[.int .i64 0,.int .i64 0,.str []]) (by kernel_rfl)) ?_
  rintro _ _ ⟨b2,rfl,rfl⟩
  refine AOL.nil (Ae (AW.seq (AW.region (Qp (El [Iq _,Iq _,.str _]) ?_))))
  refine Qe (Aj (l:=[.int .i64 0,.int .i64 0,.str []]) (by kernel_rfl)) ?_
  rintro _ _ ⟨b3,rfl,rfl⟩
  refine Cq 0 [Iq _,Iq _,.str _] (_::_::_) ?_
  refine AOL.nil (Ae (AW.seq (AW.seq (AW.region (Qp Bm (AOL.nil (Ae (A2 (fun hc1=>?_) fun hc1=>?_))))))))
  · skip
    refine AW.region (Qp Iu ?_)
    refine Cq 0 [Iq _,Iq _,.str _] (_::_::_) ?_
    refine AOL.nil (Ae (AW.seq (AW.region ?_)))
    refine AOL.Aay (By (k:=0) (l:=[Iq _,Iq _,.str _]) Ai rfl rfl rfl rfl rfl) rfl rfl ?_
    refine Cq 1 [Iq _,Iq _,.str _] (_::_::_) ?_
    refine AOL.nil (Ae (AW.ret ?_))
    refine ⟨.inr rfl,[.agg [Iq _,Iq _,.str _]],.cons (.box _ _ _ 1 _ _ _ _ rfl rfl rfl rfl rfl rfl) <| .nil,.cons _ (.cons _ (.refl _)),?_⟩
    try simp only [Cx,Bool.and_true] at *
    first
      | (simp only [Ad,D0,cV];(first | rw [if_pos hc1] | skip);first | done | rfl)
      | (try simp only [Bool.not_eq_true',Bool.not_eq_false'] at *
         first
         | (simp only [Ad,D0,cV, *,Bool.false_eq_true,↓reduceIte,Bool.true_or,Bool.or_true,Bool.false_or,Bool.or_false,Bool.true_and,Bool.and_true,Bool.false_and,Bool.and_false,Bool.not_true,Bool.not_false];done)
         | (simp [Ad,D0,cV, *];done)
         | (simp_all [Ad,D0,cV];done))
      | skip
  · skip
    refine Bv (AW.seq (AW.region ?_))
    refine AOL.Aay (By (k:=0) (l:=[Iq _,Iq _,.str _]) Ai rfl rfl rfl rfl rfl) rfl rfl ?_
    refine Cq 1 [Iq _,Iq _,.str _] (_::_::_) ?_
    refine AOL.nil (Ae (AW.ret ?_))
    refine ⟨.inr rfl,[.agg [Iq _,Iq _,.str _]],.cons (.box _ _ _ 1 _ _ _ _ rfl rfl rfl rfl rfl rfl) <| .nil,.cons _ (.cons _ (.refl _)),?_⟩
    try simp only [Cx,Bool.and_true] at *
    first
      | (simp only [Ad,D0,cV];(first | rw [iN hc1] | skip);first | done | rfl)
      | (try simp only [Bool.not_eq_true',Bool.not_eq_false'] at *
         first
         | (simp only [Ad,D0,cV, *,Bool.false_eq_true,↓reduceIte,Bool.true_or,Bool.or_true,Bool.false_or,Bool.or_false,Bool.true_and,Bool.and_true,Bool.false_and,Bool.and_false,Bool.not_true,Bool.not_false];done)
         | (simp [Ad,D0,cV, *];done)
         | (simp_all [Ad,D0,cV];done))
      | skip
theorem c42 (b:Bool):Ar Tryz.prog 66 [.bool b] (.agg (cV (D0 b))):=by
  refine Ar.body (n:=5) Ai Tryz.func66 rfl rfl rfl fun H=>?_
  refine AW.seq (AW.region ?_)
  refine Qe (Aj (l:=[.int .i64 0,.int .i64 0,.str []]) (by kernel_rfl)) ?_
  rintro _ _ ⟨b2,rfl,rfl⟩
  refine AOL.nil (Ae (AW.seq (AW.region (Qp Bm ?_))))
  refine Qp (Qc rfl (c75 b)) ?_
  refine Cq 0 [Iq _,Iq _,.str _] (_::_) ?_
  refine AOL.nil (Ae (AW.ret ?_))
  refine ⟨.inr rfl,[.agg [Iq _,Iq _,.str _]],.cons (.box _ _ _ 0 _ _ _ _ rfl rfl rfl rfl rfl rfl) <| .nil,.cons _ (.refl _),?_⟩
  try simp only [Cx,Bool.and_true] at *
  first
    | (simp only [Ad,D0,cV];skip;first | done | rfl)
    | (try simp only [Bool.not_eq_true',Bool.not_eq_false'] at *
       first
       | (simp only [Ad,D0,cV, *,Bool.false_eq_true,↓reduceIte,Bool.true_or,Bool.or_true,Bool.false_or,Bool.or_false,Bool.true_and,Bool.and_true,Bool.false_and,Bool.and_false,Bool.not_true,Bool.not_false];done)
       | (simp [Ad,D0,cV, *];done)
       | (simp_all [Ad,D0,cV];done))
    | skip
theorem c79 (v:Vl):Ar Tryz.prog 101 [.agg (cV v)] (.int .i64 (An v)):=by
  refine Ar.body (n:=47) Ai Tryz.func101 rfl rfl rfl fun H=>?_
  refine AW.seq (AW.region (Qp (Fx [Iq _,Iq _,.str _]) (Qp Ap (AOL.nil (Ae (AW.seq (AW.seq (AW.region (Qp J2 ?_)))))))))
  refine Qp Br (Qp Cf (Qp Bm (Qg [] Qw J2 (Qg [(7,_)] Qw Br (Qg [(8,_)] Qw Hb (Qp Ek (AOL.nil (Ae (A2 (fun hc1=>?_) fun hc1=>?_)))))))))
  · skip
    refine AW.seq (AW.region (Qp Ap (AOL.nil (Ae (Dq ?_)))))
    refine Qr (Iq _) ?_
    rw [←Iv]
    try simp only [Cx,Bool.and_true] at *
    first
      | (simp only [Ad,Co];(first | rw [if_pos hc1] | skip);first | done | rfl)
      | (try simp only [Bool.not_eq_true',Bool.not_eq_false'] at *
         first
         | (simp only [Ad,Co, *,Bool.false_eq_true,↓reduceIte,Bool.true_or,Bool.or_true,Bool.false_or,Bool.or_false,Bool.true_and,Bool.and_true,Bool.false_and,Bool.and_false,Bool.not_true,Bool.not_false];done)
         | (simp [Ad,Co, *];done)
         | (simp_all [Ad,Co];done))
      | skip
  · skip
    refine Bv (AW.seq (AW.seq (AW.region (Qp J2 (Qp Br (Qp A6 (AOL.nil (Ae (A2 (fun hc2=>?_) fun hc2=>?_)))))))))
    · skip
      refine AW.seq (AW.seq (AW.region (Qp Ys (Qp Br (Qp Ci (AOL.nil (Ae (A2 (fun hc3=>?_) fun hc3=>?_))))))))
      · skip
        refine AW.seq (AW.region (Qp Ap (AOL.nil (Ae (Dq (Al ?_))))))
        refine Qr (Iq _) ?_
        rw [←Iv]
        try simp only [Cx,Bool.and_true] at *
        first
          | (simp only [Ad,Co];(first | rw [iN hc1] | skip);(first | rw [if_pos hc2] | skip);(first | rw [if_pos hc3] | skip);first | done | rfl)
          | (try simp only [Bool.not_eq_true',Bool.not_eq_false'] at *
             first
             | (simp only [Ad,Co, *,Bool.false_eq_true,↓reduceIte,Bool.true_or,Bool.or_true,Bool.false_or,Bool.or_false,Bool.true_and,Bool.and_true,Bool.false_and,Bool.and_false,Bool.not_true,Bool.not_false];done)
             | (simp [Ad,Co, *];done)
             | (simp_all [Ad,Co];done))
          | skip
      · skip
        refine Bv (AW.seq (AW.seq (AW.region (Qp Qf7 (Qp Vn ?_)))))
        refine Qp (He Ai rfl rfl rfl rfl) ?_
        refine Qp Hb (AOL.nil (Ae (A2 (fun hc4=>?_) fun hc4=>?_)))
        · skip
          refine AW.seq (AW.region (Qp Ap (AOL.nil (Ae (Dq (Al ?_))))))
          refine Qr (Iq _) ?_
          rw [←Iv]
          try simp only [Cx,Bool.and_true] at *
          first
            | (simp only [Ad,Co];(first | rw [iN hc1] | skip);(first | rw [if_pos hc2] | skip);(first | rw [iN hc3] | skip);(first | rw [if_pos hc4] | skip);first | done | rfl)
            | (try simp only [Bool.not_eq_true',Bool.not_eq_false'] at *
               first
               | (simp only [Ad,Co, *,Bool.false_eq_true,↓reduceIte,Bool.true_or,Bool.or_true,Bool.false_or,Bool.or_false,Bool.true_and,Bool.and_true,Bool.false_and,Bool.and_false,Bool.not_true,Bool.not_false];done)
               | (simp [Ad,Co, *];done)
               | (simp_all [Ad,Co];done))
            | skip
        · skip
          refine Bv (AW.seq (AW.region (Qp Ap (AOL.nil (Ae (Dq ?_))))))
          refine Qr (Iq _) ?_
          rw [←Iv]
          try simp only [Cx,Bool.and_true] at *
          first
            | (simp only [Ad,Co];(first | rw [iN hc1] | skip);(first | rw [if_pos hc2] | skip);(first | rw [iN hc3] | skip);(first | rw [iN hc4] | skip);first | done | rfl)
            | (try simp only [Bool.not_eq_true',Bool.not_eq_false'] at *
               first
               | (simp only [Ad,Co, *,Bool.false_eq_true,↓reduceIte,Bool.true_or,Bool.or_true,Bool.false_or,Bool.or_false,Bool.true_and,Bool.and_true,Bool.false_and,Bool.and_false,Bool.not_true,Bool.not_false];done)
               | (simp [Ad,Co, *];done)
               | (simp_all [Ad,Co];done))
            | skip
    · skip
      refine Bv (AW.seq (AW.seq (AW.region (Qp Qf7 (Qp Vn ?_)))))
      refine Qp (P0 rfl rfl) ?_
      refine AOL.nil (Ae (A2 (fun hc5=>?_) fun hc5=>?_))
      · skip
        refine AW.seq (AW.region (Qp Ap (AOL.nil (Ae (Dq ?_)))))
        refine Qr (Iq _) ?_
        rw [←Iv]
        try simp only [Cx,Bool.and_true] at *
        first
          | (simp only [Ad,Co];(first | rw [iN hc1] | skip);(first | rw [iN hc2] | skip);(first | rw [if_pos hc5] | skip);first | done | rfl)
          | (try simp only [Bool.not_eq_true',Bool.not_eq_false'] at *
             first
             | (simp only [Ad,Co, *,Bool.false_eq_true,↓reduceIte,Bool.true_or,Bool.or_true,Bool.false_or,Bool.or_false,Bool.true_and,Bool.and_true,Bool.false_and,Bool.and_false,Bool.not_true,Bool.not_false];done)
             | (simp [Ad,Co, *];done)
             | (simp_all [Ad,Co];done))
          | skip
      · skip
        refine Bv (AW.seq (AW.seq (AW.region (Qp J2 (Qp Br (Qp A6 (Qp Bm (Qg [] Qw Ys (Qg [(28,_)] Qw Br ?_)))))))))
        refine Qg [(29,_)] Qw Cf (Qg [(30,_)] Qw Bm (Qg [] Qw Ys (Qg [(32,_)] Qw Br (Qg [(33,_)] Qw Hb (Qg [(31,_),(34,_)] Qw Ek (Qp Em (Qp Bm (Qg [] Qw Ys (Qg [(38,_)] Qw Br ?_)))))))))
        refine Qg [(39,_)] Qw Cf (Qp Ek (Qp Bm (Qg [] Qw Ys (Qg [(43,_)] Qw Br (Qg [(44,_)] Qw Hb (Qp Ek (AOL.nil (Ae (A2 (fun hc6=>?_) fun hc6=>?_)))))))))
        · skip
          refine AW.seq (AW.region (Qp Ap (AOL.nil (Ae (Dq ?_)))))
          refine Qr (Iq _) ?_
          rw [←Iv]
          try simp only [Cx,Bool.and_true] at *
          first
            | (simp only [Ad,Co];(first | rw [iN hc1] | skip);(first | rw [iN hc2] | skip);(first | rw [iN hc5] | skip);(first | rw [if_pos hc6] | skip);first | done | rfl)
            | (try simp only [Bool.not_eq_true',Bool.not_eq_false'] at *
               first
               | (simp only [Ad,Co, *,Bool.false_eq_true,↓reduceIte,Bool.true_or,Bool.or_true,Bool.false_or,Bool.or_false,Bool.true_and,Bool.and_true,Bool.false_and,Bool.and_false,Bool.not_true,Bool.not_false];done)
               | (simp [Ad,Co, *];done)
               | (simp_all [Ad,Co];done))
            | skip
        · skip
          refine Bv (AW.seq (AW.region (Qp Ap (AOL.nil (Ae (AW.ret ?_))))))
          refine Qr (Iq _) ?_
          rw [←Iv]
          try simp only [Cx,Bool.and_true] at *
          first
            | (simp only [Ad,Co];(first | rw [iN hc1] | skip);(first | rw [iN hc2] | skip);(first | rw [iN hc5] | skip);(first | rw [iN hc6] | skip);first | done | rfl)
            | (try simp only [Bool.not_eq_true',Bool.not_eq_false'] at *
               first
               | (simp only [Ad,Co, *,Bool.false_eq_true,↓reduceIte,Bool.true_or,Bool.or_true,Bool.false_or,Bool.or_false,Bool.true_and,Bool.and_true,Bool.false_and,Bool.and_false,Bool.not_true,Bool.not_false];done)
               | (simp [Ad,Co, *];done)
               | (simp_all [Ad,Co];done))
            | skip
theorem c114 (k:Int):Ar Tryz.prog 179 [.int .i64 k] (.bool (Dn k)):=by
  refine Ar.body (n:=9) Ai Tryz.func179 rfl rfl rfl fun H=>?_
  refine AW.seq (AW.region (Qp Bc (AOL.nil (Ae (AW.seq (AW.region (Qp Az (Qp Ob (Qp Bm ?_)))))))))
  refine Qg [] Qw Az (Qg [(6,_)] Qw Mt (Qp Em (Qp Bc (AOL.nil (Ae (AW.ret ?_))))))
  refine Qr (.bool _) ?_
  try simp only [Cx,Bool.and_true] at *
  first
    | (simp only [Ad,Dn];skip;first | done | rfl)
    | (try simp only [Bool.not_eq_true',Bool.not_eq_false'] at *
       first
       | (simp only [Ad,Dn, *,Bool.false_eq_true,↓reduceIte,Bool.true_or,Bool.or_true,Bool.false_or,Bool.or_false,Bool.true_and,Bool.and_true,Bool.false_and,Bool.and_false,Bool.not_true,Bool.not_false];done)
       | (simp [Ad,Dn, *];done)
       | (simp_all [Ad,Dn];done))
    | skip
theorem c124 (k:Int)(v:Vl):Ar Tryz.prog 191 [.int .i64 k,.agg (cV v)] (.bool (Ej k v)):=by
  refine Ar.body (n:=20) Ai Tryz.func191 rfl rfl rfl fun H=>?_
  refine AW.seq (AW.region (Qp (Fx [Iq _,Iq _,.str _]) (Qp Bc (AOL.nil (Ae (AW.seq (AW.region (Qp J2 (Qp Br ?_)))))))))
  refine Qp A6 (Qp Bm (Qg [] Qw Az (Qg [(9,_)] Qw Ci (Qg [(10,_)] Qw Bm (Qg [] Qw Az (Qg [(12,_)] Qw Ci (Qg [(11,_),(13,_)] Qw Em (Qg [(14,_)] Qw Bm (Qg [] Qw Az ?_)))))))))
  refine Qg [(16,_)] Qw Ci (Qg [(15,_),(17,_)] Qw Em (Qp Ek (Qp Bc (AOL.nil (Ae (AW.ret ?_))))))
  refine Qr (.bool _) ?_
  try simp only [Cx,Bool.and_true] at *
  first
    | (simp only [Ad,Ej];skip;first | done | rfl)
    | (try simp only [Bool.not_eq_true',Bool.not_eq_false'] at *
       first
       | (simp only [Ad,Ej, *,Bool.false_eq_true,↓reduceIte,Bool.true_or,Bool.or_true,Bool.false_or,Bool.or_false,Bool.true_and,Bool.and_true,Bool.false_and,Bool.and_false,Bool.not_true,Bool.not_false];done)
       | (simp [Ad,Ej, *];done)
       | (simp_all [Ad,Ej];done))
    | skip
theorem c101 (k:Int)(v:Vl):Ar Tryz.prog 150 [.int .i64 k,.agg (cV v)] (.bool (Gc k v)):=by
  refine Ar.body (n:=20) Ai Tryz.func150 rfl rfl rfl fun H=>?_
  refine AW.seq (AW.region (Qp (Fx [Iq _,Iq _,.str _]) (Qp Bc (AOL.nil (Ae (AW.seq (AW.region (Qp J2 (Qp Br ?_)))))))))
  refine Qp A6 (Qp Bm (Qg [] Qw Az (Qg [(9,_)] Qw A6 (Qp Ek (Qp Bm (Qg [] Qw Az (Qg [(13,_)] Qw A6 (Qp Ek (Qp Bm ?_)))))))))
  refine Qg [] Qw Az (Qg [(17,_)] Qw A6 (Qp Ek (Qp Bc (AOL.nil (Ae (AW.ret ?_))))))
  refine Qr (.bool _) ?_
  try simp only [Cx,Bool.and_true] at *
  first
    | (simp only [Ad,Gc];skip;first | done | rfl)
    | (try simp only [Bool.not_eq_true',Bool.not_eq_false'] at *
       first
       | (simp only [Ad,Gc, *,Bool.false_eq_true,↓reduceIte,Bool.true_or,Bool.or_true,Bool.false_or,Bool.or_false,Bool.true_and,Bool.and_true,Bool.false_and,Bool.and_false,Bool.not_true,Bool.not_false];done)
       | (simp [Ad,Gc, *];done)
       | (simp_all [Ad,Gc];done))
    | skip
theorem c99 (k:Int)(v:Vl):Ar Tryz.prog 148 [.int .i64 k,.agg (cV v)] (.bool (Du k v)):=by
  refine Ar.body (n:=16) Ai Tryz.func148 rfl rfl rfl fun H=>?_
  refine AW.seq (AW.region (Qp (Fx [Iq _,Iq _,.str _]) (Qp Bc (AOL.nil (Ae (AW.seq (AW.region (Qp J2 (Qp Br ?_)))))))))
  refine Qp A6 (Qp Bm (Qg [] Qw Az (Qg [(9,_)] Qw A6 (Qp Ek (Qp Bm (Qg [] Qw Az (Qg [(13,_)] Qw A6 (Qp Ek (Qp Bc ?_)))))))))
  refine AOL.nil (Ae (AW.ret ?_))
  refine Qr (.bool _) ?_
  try simp only [Cx,Bool.and_true] at *
  first
    | (simp only [Ad,Du];skip;first | done | rfl)
    | (try simp only [Bool.not_eq_true',Bool.not_eq_false'] at *
       first
       | (simp only [Ad,Du, *,Bool.false_eq_true,↓reduceIte,Bool.true_or,Bool.or_true,Bool.false_or,Bool.or_false,Bool.true_and,Bool.and_true,Bool.false_and,Bool.and_false,Bool.not_true,Bool.not_false];done)
       | (simp [Ad,Du, *];done)
       | (simp_all [Ad,Du];done))
    | skip
theorem c119 (k:Int)(v:Vl):Ar Tryz.prog 184 [.int .i64 k,.agg (cV v)] (.agg (cV (Ez k v))):=by
  refine Ar.body (n:=9) Ai Tryz.func184 rfl rfl rfl fun H=>?_
  refine AW.seq (AW.region (Qp (Fx [Iq _,Iq _,.str _]) ?_))
  refine Qe (Aj (l:=[.int .i64 0,.int .i64 0,.str []]) (by kernel_rfl)) ?_
  rintro _ _ ⟨b4,rfl,rfl⟩
  refine AOL.nil (Ae (AW.seq (AW.seq (AW.region (Qp Az (Qp A6 (AOL.nil (Ae (A2 (fun hc1=>?_) fun hc1=>?_)))))))))
  · skip
    refine AW.seq (AW.region (Qp (El [Iq _,Iq _,.str _]) ?_))
    refine Cq 0 [Iq _,Iq _,.str _] (_::_) ?_
    refine AOL.nil (Ae (Dq ?_))
    refine ⟨.inr rfl,[.agg [Iq _,Iq _,.str _]],.cons (.box _ _ _ 0 _ _ _ _ rfl rfl rfl rfl rfl rfl) <| .nil,.cons _ (.refl _),?_⟩
    try simp only [Cx,Bool.and_true] at *
    first
      | (simp only [Ad,Ez,cV,v0];(first | rw [if_pos hc1] | skip);first | done | rfl)
      | (try simp only [Bool.not_eq_true',Bool.not_eq_false'] at *
         first
         | (simp only [Ad,Ez,cV,v0, *,Bool.false_eq_true,↓reduceIte,Bool.true_or,Bool.or_true,Bool.false_or,Bool.or_false,Bool.true_and,Bool.and_true,Bool.false_and,Bool.and_false,Bool.not_true,Bool.not_false];done)
         | (simp [Ad,Ez,cV,v0, *];done)
         | (simp_all [Ad,Ez,cV,v0];done))
      | skip
  · skip
    refine Bv (AW.seq (AW.region (Qp (Cd [Iq _,Iq _,.str _]) ?_)))
    refine Cq 0 [Iq _,Iq _,.str _] (_::_) ?_
    refine AOL.nil (Ae (AW.ret ?_))
    refine ⟨.inr rfl,[.agg [Iq _,Iq _,.str _]],.cons (.box _ _ _ 0 _ _ _ _ rfl rfl rfl rfl rfl rfl) <| .nil,.cons _ (.refl _),?_⟩
    try simp only [Cx,Bool.and_true] at *
    first
      | (simp only [Ad,Ez,cV,v0];(first | rw [iN hc1] | skip);first | done | rfl)
      | (try simp only [Bool.not_eq_true',Bool.not_eq_false'] at *
         first
         | (simp only [Ad,Ez,cV,v0, *,Bool.false_eq_true,↓reduceIte,Bool.true_or,Bool.or_true,Bool.false_or,Bool.or_false,Bool.true_and,Bool.and_true,Bool.false_and,Bool.and_false,Bool.not_true,Bool.not_false];done)
         | (simp [Ad,Ez,cV,v0, *];done)
         | (simp_all [Ad,Ez,cV,v0];done))
      | skip
theorem c115 (k:Int)(v:Vl):Ar Tryz.prog 180 [.int .i64 k,.agg (cV v)] (.int .i64 (Dk k v)):=by
  refine Ar.body (n:=15) Ai Tryz.func180 rfl rfl rfl fun H=>?_
  refine AW.seq (AW.region (Qp (Fx [Iq _,Iq _,.str _]) (Qp Ap (AOL.nil (Ae (AW.seq (AW.seq (AW.region (Qp (Cd [Iq _,Iq _,.str _]) ?_)))))))))
  refine Qp (Qc rfl (c94 v)) ?_
  refine Qp Ap (AOL.nil (Ae (AW.seq (AW.region (Qp Az (Qp Ci (AOL.nil (Ae (A2 (fun hc1=>?_) fun hc1=>?_)))))))))
  · skip
    refine AW.seq (AW.region (Qp Az (Qp Ap (AOL.nil (Ae (Dq ?_))))))
    refine Qr (Iq _) ?_
    try simp only [Cx,Bool.and_true] at *
    first
      | (simp only [Ad,Dk];(first | rw [if_pos hc1] | skip);first | done | rfl)
      | (try simp only [Bool.not_eq_true',Bool.not_eq_false'] at *
         first
         | (simp only [Ad,Dk, *,Bool.false_eq_true,↓reduceIte,Bool.true_or,Bool.or_true,Bool.false_or,Bool.or_false,Bool.true_and,Bool.and_true,Bool.false_and,Bool.and_false,Bool.not_true,Bool.not_false];done)
         | (simp [Ad,Dk, *];done)
         | (simp_all [Ad,Dk];done))
      | skip
  · skip
    refine Bv (AW.seq (AW.seq (AW.region (Qp Az (Qp (Cd [Iq _,Iq _,.str _]) ?_)))))
    refine Qp (Qc rfl (c124 k v)) ?_
    refine Qp Ge (AOL.nil (Ae (A2 (fun hc2=>?_) fun hc2=>?_)))
    · skip
      refine AW.seq (AW.region (Qp Ap (AOL.nil (Ae (Dq ?_)))))
      refine Qr (Iq _) ?_
      try simp only [Cx,Bool.and_true] at *
      first
        | (simp only [Ad,Dk];(first | rw [iN hc1] | skip);(first | rw [if_pos hc2] | skip);first | done | rfl)
        | (try simp only [Bool.not_eq_true',Bool.not_eq_false'] at *
           first
           | (simp only [Ad,Dk, *,Bool.false_eq_true,↓reduceIte,Bool.true_or,Bool.or_true,Bool.false_or,Bool.or_false,Bool.true_and,Bool.and_true,Bool.false_and,Bool.and_false,Bool.not_true,Bool.not_false];done)
           | (simp [Ad,Dk, *];done)
           | (simp_all [Ad,Dk];done))
        | skip
    · skip
      refine Bv (AW.seq (AW.region (Qp Ap (AOL.nil (Ae (AW.ret ?_))))))
      refine Qr (Iq _) ?_
      try simp only [Cx,Bool.and_true] at *
      first
        | (simp only [Ad,Dk];(first | rw [iN hc1] | skip);(first | rw [iN hc2] | skip);first | done | rfl)
        | (try simp only [Bool.not_eq_true',Bool.not_eq_false'] at *
           first
           | (simp only [Ad,Dk, *,Bool.false_eq_true,↓reduceIte,Bool.true_or,Bool.or_true,Bool.false_or,Bool.or_false,Bool.true_and,Bool.and_true,Bool.false_and,Bool.and_false,Bool.not_true,Bool.not_false];done)
           | (simp [Ad,Dk, *];done)
           | (simp_all [Ad,Dk];done))
        | skip

end Go.Proofs.YtkddpedfbicbeaaGreatDoor
