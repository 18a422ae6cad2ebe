/-
  Walks of layers 1, 7 and 8: the functions without loops. No condition.
-/
import Derived.Test.YtkddpedfbicbeaaGreatDoorK01
import Derived.Test.YtkddpedfbicbeaaGreatDoorTab
import Derived.KernelRfl
namespace Go.Proofs.YtkddpedfbicbeaaGreatDoor
open Go Go.Aw
set_option maxHeartbeats 400000
set_option maxRecDepth 20000
set_option linter.unusedVariables false
set_option linter.unusedSimpArgs false

theorem c52 (op:Int):Ax Tryz.prog 109 [.int .i64 op] (.tuple [.bool (Dp op).1,.bool (Dp op).2]):=by
 refine Ax.body (n:=11) Ai Tryz.func109 rfl rfl rfl fun H=>?_
 refine Ah (Qp Bg (Qp Bg (Ag (AW.seq (Ah (Qp A2 (Ag (AW.block (AW.seq ?_)))))))))
 refine Ah (Qp A7 (Qp Bg (Ag (A5 (fun hc1=>?_) fun hc1=>?_))))
 ·
  refine Bz (A5 (fun hc2=>?_) fun hc2=>?_)
  ·
   refine Ah (Qp Bg (Qp Bg (Ag (AW.ret (Bc (Aj ?_))))))
   refine Ko (.bool _) (.bool _) ?_
   simp_all [Ad,Dp]
  ·
   refine AW.seq (Ah (Qp A7 (Qp Bg (Ag (A5 (fun hc3=>?_) fun hc3=>?_)))))
   ·
    refine Bz (A5 (fun hc4=>?_) fun hc4=>?_)
    ·
     refine Ah (Qp Bg (Qp Bg (Ag (AW.ret (Bc (Aj ?_))))))
     refine Ko (.bool _) (.bool _) ?_
     simp_all [Ad,Dp]
    ·
     refine AW.skip (Bs (Ae (Ah (Qp Bg (Qp Bg (Ag (AW.ret ?_)))))))
     refine Ko (.bool _) (.bool _) ?_
     simp_all [Ad,Dp]
   ·
    refine AW.region (Qp A7 (Qp Bg (Ag (A5 (fun hc5=>?_) fun hc5=>?_))))
    ·
     refine Ah (Qp Bg (Qp Bg (Ag (AW.ret (Bc (Aj ?_))))))
     refine Ko (.bool _) (.bool _) ?_
     simp_all [Ad,Dp]
    ·
     refine AW.skip (Bs (Ae (Ah (Qp Bg (Qp Bg (Ag (AW.ret ?_)))))))
     refine Ko (.bool _) (.bool _) ?_
     simp_all [Ad,Dp]
 ·
  refine AW.region (Qp A7 (Qp Bg (Ag (A5 (fun hc6=>?_) fun hc6=>?_))))
  ·
   refine Ah (Qp Bg (Qp Bg (Ag (AW.ret (Bc (Aj ?_))))))
   refine Ko (.bool _) (.bool _) ?_
   simp_all [Ad,Dp]
  ·
   refine AW.seq (Ah (Qp A7 (Qp Bg (Ag (A5 (fun hc7=>?_) fun hc7=>?_)))))
   ·
    refine Bz (A5 (fun hc8=>?_) fun hc8=>?_)
    ·
     refine Ah (Qp Bg (Qp Bg (Ag (AW.ret (Bc (Aj ?_))))))
     refine Ko (.bool _) (.bool _) ?_
     simp_all [Ad,Dp]
    ·
     refine AW.skip (Bs (Ae (Ah (Qp Bg (Qp Bg (Ag (AW.ret ?_)))))))
     refine Ko (.bool _) (.bool _) ?_
     simp_all [Ad,Dp]
   ·
    refine AW.region (Qp A7 (Qp Bg (Ag (A5 (fun hc9=>?_) fun hc9=>?_))))
    ·
     refine Ah (Qp Bg (Qp Bg (Ag (AW.ret (Bc (Aj ?_))))))
     refine Ko (.bool _) (.bool _) ?_
     simp_all [Ad,Dp]
    ·
     refine AW.skip (Bs (Ae (Ah (Qp Bg (Qp Bg (Ag (AW.ret ?_)))))))
     refine Ko (.bool _) (.bool _) ?_
     simp_all [Ad,Dp]
theorem c84 (op:Int):Ax Tryz.prog 160 [.int .i64 op] (.tuple [.bool (Dp op).1,.bool (Dp op).2]):=by
 refine Ax.body (n:=21) Ai Tryz.func160 rfl rfl rfl fun H=>?_
 refine Ah (Qp Bg (Qp Bg (Dh (Qp A2 (Qp A7 (Qp Br (Qg [] Qw A2 (Qg [(8,_)] Qw A7 (Qp E5 ?_)))))))))
 refine Qp Bg (Dh (Qp Br (Qp Br (Qg [] Qw A2 (Qg [(13,_)] Qw A7 (Qp E5 (Qp Br (Qg [] Qw A2 (Qg [(17,_)] Qw A7 ?_)))))))))
 refine Qp E5 (Qp Br (Qp Bg (Qp Bg (Ag (AW.ret ?_)))))
 refine Ko (.bool _) (.bool _) ?_
 by_cases h1:op=1 <;> by_cases h2:op=2 <;> by_cases h3:op=3 <;> by_cases h4:op=4 <;> simp_all [Dp,Ad]
theorem c81 (op:Int):Ax Tryz.prog 108 [.int .i64 op] (.tuple [.int .i64 (D6 op),.bool (decide (0≤op∧op≤12))]):=by
 refine Ax.body (n:=17) Ai Tryz.func108 rfl rfl rfl fun H=>?_
 refine Ah (Qp Av (Qp Bg (Ag (AW.seq (AW.block (Ah (Qp A2 (Qp Cl (Qp Br ?_)))))))))
 refine Qg [] Qw A2 (Qg [(8,_)] Qw Hi (Qp E5 (Qp Bg (Ag (A5 (fun hc1=>?_) fun hc1=>?_)))))
 ·
  refine Ah (Qp Av (Qp Bg (Ag (AW.ret (Bc (Aj ?_))))))
  refine Ko (Iq _) (.bool _) ?_
  simp only [Bool.or_eq_true,Bool.or_eq_false_iff,decide_eq_true_eq,decide_eq_false_iff_not,beq_iff_eq,beq_eq_false_iff_ne] at *
  simp only [Ad,D6,AV.tuple.injEq,List.cons.injEq,AV.int.injEq,AV.bool.injEq,true_and,and_true]
  refine ⟨?_,?_⟩
  ·
   repeat' split
   all_goals omega
  · simp <;> omega
 ·
  refine Ah (Qp A2 (Qp Cl (Qp Bg (Ag (A5 (fun hc2=>?_) fun hc2=>?_)))))
  ·
   refine Ah (Qp Av (Qp Bg (Ag (AW.ret (Bc (Aj ?_))))))
   refine Ko (Iq _) (.bool _) ?_
   simp only [Bool.or_eq_true,Bool.or_eq_false_iff,decide_eq_true_eq,decide_eq_false_iff_not,beq_iff_eq,beq_eq_false_iff_ne] at *
   simp only [Ad,D6,AV.tuple.injEq,List.cons.injEq,AV.int.injEq,AV.bool.injEq,true_and,and_true]
   refine ⟨?_,?_⟩
   ·
    repeat' split
    all_goals omega
   · simp <;> omega
  ·
   refine Ah (Qp A2 (Qp A7 (Qp Bg (Ag (A5 (fun hc3=>?_) fun hc3=>?_)))))
   ·
    refine Ah (Qp Av (Qp Bg (Ag (AW.ret (Bc (Aj ?_))))))
    refine Ko (Iq _) (.bool _) ?_
    simp only [Bool.or_eq_true,Bool.or_eq_false_iff,decide_eq_true_eq,decide_eq_false_iff_not,beq_iff_eq,beq_eq_false_iff_ne] at *
    simp only [Ad,D6,AV.tuple.injEq,List.cons.injEq,AV.int.injEq,AV.bool.injEq,true_and,and_true]
    refine ⟨?_,?_⟩
    ·
     repeat' split
     all_goals omega
    · simp <;> omega
   ·
    refine AW.skip (Bs (Ae (Ah (Qp Av (Qp Bg (Ag (AW.ret ?_)))))))
    refine Ko (Iq _) (.bool _) ?_
    simp only [Bool.or_eq_true,Bool.or_eq_false_iff,decide_eq_true_eq,decide_eq_false_iff_not,beq_iff_eq,beq_eq_false_iff_ne] at *
    simp only [Ad,D6,AV.tuple.injEq,List.cons.injEq,AV.int.injEq,AV.bool.injEq,true_and,and_true]
    refine ⟨?_,?_⟩
    ·
     repeat' split
     all_goals omega
    · simp <;> omega
theorem c100 (op:Int):Ax Tryz.prog 159 [.int .i64 op] (.int .i64 (if 0≤op∧op≤12 then D6 op else -1)):=by
 refine Ax.body (n:=20) Ai Tryz.func159 rfl rfl rfl fun H=>?_
 refine Ah (Qp Av (Ag (AW.seq (Ah (Qp A2 (Ag (AW.block ?_)))))))
 refine AW.cut (fun (_:Unit)=>(⟨[(0,.int .i64 op),(3,.int .i64 op),(4,.bool (op==0||op==1||op==2||op==3||op==4))],H,20⟩:St)) (fun (_:Unit)=>True) ?_ ?_
 ·
  refine Ah (Qp A7 (Qp Bg (Ag (A5 (fun hc1=>?_) fun hc1=>?_))))
  ·
   refine Bz ?_
   refine ⟨(),?_,GS.weaken ⟨rfl,rfl,congrArg AV.bool (by simp [*]),trivial⟩ (.refl _)⟩
   trivial
  ·
   refine Ah (Qp A7 (Qp Bg (Ag (A5 (fun hc2=>?_) fun hc2=>?_))))
   ·
    refine Bz ?_
    refine ⟨(),?_,GS.weaken ⟨rfl,rfl,congrArg AV.bool (by simp [*]),trivial⟩ (.refl _)⟩
    trivial
   ·
    refine Ah (Qp A7 (Qp Bg (Ag (A5 (fun hc3=>?_) fun hc3=>?_))))
    ·
     refine Bz ?_
     refine ⟨(),?_,GS.weaken ⟨rfl,rfl,congrArg AV.bool (by simp [*]),trivial⟩ (.refl _)⟩
     trivial
    ·
     refine Ah (Qp A7 (Qp Bg (Ag (A5 (fun hc4=>?_) fun hc4=>?_))))
     ·
      refine Bz ?_
      refine ⟨(),?_,GS.weaken ⟨rfl,rfl,congrArg AV.bool (by simp [*]),trivial⟩ (.refl _)⟩
      trivial
     ·
      refine AW.region (Qp A7 (Qp Bg (Ag ?_)))
      refine ⟨(),?_,GS.weaken ⟨rfl,rfl,congrArg AV.bool (by simp [*]),trivial⟩ (.refl _)⟩
      trivial
 ·
  rintro _ _
  refine A5 (fun hc5=>?_) fun hc5=>?_
  ·
   refine Ah (Qp Av (Ag (AW.ret (Bc (Aj ?_)))))
   refine Qr (Iq _) ?_
   simp only [Bool.or_eq_true,Bool.or_eq_false_iff,beq_iff_eq,beq_eq_false_iff_ne] at *
   simp only [Ad,D6,AV.int.injEq,true_and]
   repeat' split
   all_goals omega
  ·
   refine Ah (Qp A7 (Qp Bg (Ag (A5 (fun hc6=>?_) fun hc6=>?_))))
   ·
    refine Ah (Qp Av (Ag (AW.ret (Bc (Aj ?_)))))
    refine Qr (Iq _) ?_
    simp only [Bool.or_eq_true,Bool.or_eq_false_iff,beq_iff_eq,beq_eq_false_iff_ne] at *
    simp only [Ad,D6,AV.int.injEq,true_and]
    repeat' split
    all_goals omega
   ·
    refine AW.cut (fun (_:Unit)=>(⟨[(12,.bool (op==5||op==6||op==7||op==8||op==9||op==10||op==11))],H,20⟩:St)) (fun (_:Unit)=>True) ?_ ?_
    ·
     refine Ah (Qp A7 (Qp Bg (Ag (A5 (fun hc7=>?_) fun hc7=>?_))))
     ·
      refine Bz ?_
      refine ⟨(),?_,GS.weaken ⟨congrArg AV.bool (by simp [*]),trivial⟩ (.refl _)⟩
      trivial
     ·
      refine Ah (Qp A7 (Qp Bg (Ag (A5 (fun hc8=>?_) fun hc8=>?_))))
      ·
       refine Bz ?_
       refine ⟨(),?_,GS.weaken ⟨congrArg AV.bool (by simp [*]),trivial⟩ (.refl _)⟩
       trivial
      ·
       refine Ah (Qp A7 (Qp Bg (Ag (A5 (fun hc9=>?_) fun hc9=>?_))))
       ·
        refine Bz ?_
        refine ⟨(),?_,GS.weaken ⟨congrArg AV.bool (by simp [*]),trivial⟩ (.refl _)⟩
        trivial
       ·
        refine Ah (Qp A7 (Qp Bg (Ag (A5 (fun hc10=>?_) fun hc10=>?_))))
        ·
         refine Bz ?_
         refine ⟨(),?_,GS.weaken ⟨congrArg AV.bool (by simp [*]),trivial⟩ (.refl _)⟩
         trivial
        ·
         refine Ah (Qp A7 (Qp Bg (Ag (A5 (fun hc11=>?_) fun hc11=>?_))))
         ·
          refine Bz ?_
          refine ⟨(),?_,GS.weaken ⟨congrArg AV.bool (by simp [*]),trivial⟩ (.refl _)⟩
          trivial
         ·
          refine Ah (Qp A7 (Qp Bg (Ag (A5 (fun hc12=>?_) fun hc12=>?_))))
          ·
           refine Bz ?_
           refine ⟨(),?_,GS.weaken ⟨congrArg AV.bool (by simp [*]),trivial⟩ (.refl _)⟩
           trivial
          ·
           refine AW.region (Qp A7 (Qp Bg (Ag ?_)))
           refine ⟨(),?_,GS.weaken ⟨congrArg AV.bool (by simp [*]),trivial⟩ (.refl _)⟩
           trivial
    ·
     rintro _ _
     refine A5 (fun hc13=>?_) fun hc13=>?_
     ·
      refine Ah (Qp Av (Ag (AW.ret (Bc (Aj ?_)))))
      refine Qr (Iq _) ?_
      simp only [Bool.or_eq_true,Bool.or_eq_false_iff,beq_iff_eq,beq_eq_false_iff_ne] at *
      simp only [Ad,D6,AV.int.injEq,true_and]
      repeat' split
      all_goals omega
     ·
      refine AW.skip (Bs (Ae (Ah (Qp Av (Ag (AW.ret ?_))))))
      refine Qr (Iq _) ?_
      simp only [Bool.or_eq_true,Bool.or_eq_false_iff,beq_iff_eq,beq_eq_false_iff_ne] at *
      simp only [Ad,D6,AV.int.injEq,true_and]
      repeat' split
      all_goals omega
theorem Aaf (v:Vl):Ax Tryz.prog 161 [.agg (cV v)] (.int .i64 (Ea v)):=by
  refine Ax.body (n:=36) Ai Tryz.func161 rfl rfl rfl fun H=>?_
  refine AW.seq (AW.region (Qp (F5 [Iq _,Iq _,.str _]) (Qp Av (AOL.nil (Ae (AW.seq (AW.block (AW.seq (AW.region ?_)))))))))
  refine Qp Jr (Qp Bt (Qp A7 (Qp Br (Qg [] Qw Wn (Qg [(8,_)] Qw Bt (Qg [(9,_)] Qw Cl (Qg [(10,_)] Qw Br (Qg [] Qw Wn (Qg [(12,_)] Qw Bt ?_)))))))))
  refine Qg [(13,_)] Qw Hi (Qg [(11,_),(14,_)] Qw E5 (Qp E3 (Qp Bg (AOL.nil (Ae (A5 (fun hc1=>?_) fun hc1=>?_))))))
  · skip
    refine AW.seq (AW.region (Qp Av (AOL.nil (Ae (AW.ret (Bc (Aj ?_)))))))
    refine Qr (Iq _) ?_
    try simp only [Cy,Bool.and_true] at *
    first
      | (simp only [Ad,Ea];(first | rw [if_pos hc1] | skip);first | done | rfl)
      | (try simp only [Bool.not_eq_true',Bool.not_eq_false'] at *
         first
         | (simp only [Ad,Ea, *,Bool.false_eq_true,↓reduceIte,Bool.true_or,Bool.or_true,Bool.false_or,Bool.or_false,Bool.true_and,Bool.and_true,Bool.false_and,Bool.and_false,Bool.not_true,Bool.not_false];done)
         | (simp [Ad,Ea, *];done)
         | (simp_all [Ad,Ea];done))
      | skip
  · skip
    refine AW.seq (AW.region (Qp Jr (Qp Bt (Qp A7 (Qp Br (Qg [] Qw Wn (Qg [(22,_)] Qw Bt (Qg [(23,_)] Qw Ct (Qp E3 ?_)))))))))
    refine Qp Br (Qg [] Qw Wn (Qg [(27,_)] Qw Bt (Qg [(28,_)] Qw Ct (Qp E3 (Qp Bg (AOL.nil (Ae (A5 (fun hc2=>?_) fun hc2=>?_))))))))
    · skip
      refine AW.seq (AW.region (Qp Av (AOL.nil (Ae (AW.ret (Bc (Aj ?_)))))))
      refine Qr (Iq _) ?_
      try simp only [Cy,Bool.and_true] at *
      first
        | (simp only [Ad,Ea];(first | rw [iN hc1] | skip);(first | rw [if_pos hc2] | skip);first | done | rfl)
        | (try simp only [Bool.not_eq_true',Bool.not_eq_false'] at *
           first
           | (simp only [Ad,Ea, *,Bool.false_eq_true,↓reduceIte,Bool.true_or,Bool.or_true,Bool.false_or,Bool.or_false,Bool.true_and,Bool.and_true,Bool.false_and,Bool.and_false,Bool.not_true,Bool.not_false];done)
           | (simp [Ad,Ea, *];done)
           | (simp_all [Ad,Ea];done))
        | skip
    · skip
      refine AW.seq (AW.region (Qp Qf7 (Qp Vu ?_)))
      refine Qp (Ho Ai rfl rfl rfl rfl) ?_
      refine Qp Hi (Qp Bg (AOL.nil (Ae (A5 (fun hc3=>?_) fun hc3=>?_))))
      · skip
        refine AW.seq (AW.region (Qp Av (AOL.nil (Ae (AW.ret (Bc (Aj ?_)))))))
        refine Qr (Iq _) ?_
        try simp only [Cy,Bool.and_true] at *
        first
          | (simp only [Ad,Ea];(first | rw [iN hc1] | skip);(first | rw [iN hc2] | skip);(first | rw [if_pos hc3] | skip);first | done | rfl)
          | (try simp only [Bool.not_eq_true',Bool.not_eq_false'] at *
             first
             | (simp only [Ad,Ea, *,Bool.false_eq_true,↓reduceIte,Bool.true_or,Bool.or_true,Bool.false_or,Bool.or_false,Bool.true_and,Bool.and_true,Bool.false_and,Bool.and_false,Bool.not_true,Bool.not_false];done)
             | (simp [Ad,Ea, *];done)
             | (simp_all [Ad,Ea];done))
          | skip
      · skip
        refine AW.skip (Bs (Ae (AW.seq (AW.region (Qp Av (AOL.nil (Ae (AW.ret ?_))))))))
        refine Qr (Iq _) ?_
        try simp only [Cy,Bool.and_true] at *
        first
          | (simp only [Ad,Ea];(first | rw [iN hc1] | skip);(first | rw [iN hc2] | skip);(first | rw [iN hc3] | skip);first | done | rfl)
          | (try simp only [Bool.not_eq_true',Bool.not_eq_false'] at *
             first
             | (simp only [Ad,Ea, *,Bool.false_eq_true,↓reduceIte,Bool.true_or,Bool.or_true,Bool.false_or,Bool.or_false,Bool.true_and,Bool.and_true,Bool.false_and,Bool.and_false,Bool.not_true,Bool.not_false];done)
             | (simp [Ad,Ea, *];done)
             | (simp_all [Ad,Ea];done))
          | skip
theorem c94 (v:Vl):Ax Tryz.prog 143 [.agg (cV v)] (.int .i64 (Ap v)):=by
  refine Ax.body (n:=18) Ai Tryz.func143 rfl rfl rfl fun H=>?_
  refine AW.seq (AW.region (Qp (F5 [Iq _,Iq _,.str _]) (Qp Av (AOL.nil (Ae (AW.seq (AW.seq (AW.region (Qp Jr ?_)))))))))
  refine Qp Bt (AOL.nil (Ae (AW.block (AW.seq (AW.seq (AW.region (Qp A7 (Qp Bg (AOL.nil ?_)))))))))
  refine Ae (A5 (fun hc1=>?_) fun hc1=>?_)
  · skip
    refine Bz (A5 (fun hc2=>?_) fun hc2=>?_)
    · skip
      refine AW.seq (AW.region (Qp Qf7 (Qp Vu ?_)))
      refine Qp (P6 rfl rfl) ?_
      refine AOL.nil (Ae (A5 (fun hc3=>?_) fun hc3=>?_))
      · skip
        refine AW.seq (AW.region (Qp Av (AOL.nil (Ae (AW.ret (Bc (Aj ?_)))))))
        refine Qr (Iq _) ?_
        try simp only [Cy,Bool.and_true] at *
        first
          | (simp only [Ad,Ap];(first | rw [if_pos hc1] | skip);(first | rw [if_pos hc2] | skip);(first | rw [if_pos hc3] | skip);first | done | rfl)
          | (try simp only [Bool.not_eq_true',Bool.not_eq_false'] at *
             first
             | (simp only [Ad,Ap, *,Bool.false_eq_true,↓reduceIte,Bool.true_or,Bool.or_true,Bool.false_or,Bool.or_false,Bool.true_and,Bool.and_true,Bool.false_and,Bool.and_false,Bool.not_true,Bool.not_false];done)
             | (simp [Ad,Ap, *];done)
             | (simp_all [Ad,Ap];done))
          | skip
      · skip
        refine AW.skip (Bs (Ae (AW.seq (AW.region (Qp (Cm [Iq _,Iq _,.str _]) ?_)))))
        refine Qp (Qc rfl (Aaf v)) ?_
        refine Qp Av (AOL.nil (Ae (AW.ret ?_)))
        refine Qr (Iq _) ?_
        try simp only [Cy,Bool.and_true] at *
        first
          | (simp only [Ad,Ap];(first | rw [if_pos hc1] | skip);(first | rw [if_pos hc2] | skip);(first | rw [iN hc3] | skip);first | done | rfl)
          | (try simp only [Bool.not_eq_true',Bool.not_eq_false'] at *
             first
             | (simp only [Ad,Ap, *,Bool.false_eq_true,↓reduceIte,Bool.true_or,Bool.or_true,Bool.false_or,Bool.or_false,Bool.true_and,Bool.and_true,Bool.false_and,Bool.and_false,Bool.not_true,Bool.not_false];done)
             | (simp [Ad,Ap, *];done)
             | (simp_all [Ad,Ap];done))
          | skip
    · skip
      refine AW.seq (AW.region (Qp A7 (Qp Bg (AOL.nil (Ae (A5 (fun hc4=>?_) fun hc4=>?_))))))
      · skip
        refine AW.seq (AW.region (Qp Wn (Qp Bt (Qp Ct (AOL.nil (Ae (A5 (fun hc5=>?_) fun hc5=>?_)))))))
        · skip
          refine AW.seq (AW.region (Qp Av (AOL.nil (Ae (AW.ret (Bc (Aj ?_)))))))
          refine Qr (Iq _) ?_
          try simp only [Cy,Bool.and_true] at *
          first
            | (simp only [Ad,Ap];(first | rw [if_pos hc1] | skip);(first | rw [iN hc2] | skip);(first | rw [if_pos hc4] | skip);(first | rw [if_pos hc5] | skip);first | done | rfl)
            | (try simp only [Bool.not_eq_true',Bool.not_eq_false'] at *
               first
               | (simp only [Ad,Ap, *,Bool.false_eq_true,↓reduceIte,Bool.true_or,Bool.or_true,Bool.false_or,Bool.or_false,Bool.true_and,Bool.and_true,Bool.false_and,Bool.and_false,Bool.not_true,Bool.not_false];done)
               | (simp [Ad,Ap, *];done)
               | (simp_all [Ad,Ap];done))
            | skip
        · skip
          refine AW.skip (Bs (Ae (AW.seq (AW.region (Qp (Cm [Iq _,Iq _,.str _]) ?_)))))
          refine Qp (Qc rfl (Aaf v)) ?_
          refine Qp Av (AOL.nil (Ae (AW.ret ?_)))
          refine Qr (Iq _) ?_
          try simp only [Cy,Bool.and_true] at *
          first
            | (simp only [Ad,Ap];(first | rw [if_pos hc1] | skip);(first | rw [iN hc2] | skip);(first | rw [if_pos hc4] | skip);(first | rw [iN hc5] | skip);first | done | rfl)
            | (try simp only [Bool.not_eq_true',Bool.not_eq_false'] at *
               first
               | (simp only [Ad,Ap, *,Bool.false_eq_true,↓reduceIte,Bool.true_or,Bool.or_true,Bool.false_or,Bool.or_false,Bool.true_and,Bool.and_true,Bool.false_and,Bool.and_false,Bool.not_true,Bool.not_false];done)
               | (simp [Ad,Ap, *];done)
               | (simp_all [Ad,Ap];done))
            | skip
      · skip
        refine AW.seq (AW.region (Qp Av (AOL.nil (Ae (AW.ret (Bc (Aj ?_)))))))
        refine Qr (Iq _) ?_
        try simp only [Cy,Bool.and_true] at *
        first
          | (simp only [Ad,Ap];(first | rw [if_pos hc1] | skip);(first | rw [iN hc2] | skip);(first | rw [iN hc4] | skip);first | done | rfl)
          | (try simp only [Bool.not_eq_true',Bool.not_eq_false'] at *
             first
             | (simp only [Ad,Ap, *,Bool.false_eq_true,↓reduceIte,Bool.true_or,Bool.or_true,Bool.false_or,Bool.or_false,Bool.true_and,Bool.and_true,Bool.false_and,Bool.and_false,Bool.not_true,Bool.not_false];done)
             | (simp [Ad,Ap, *];done)
             | (simp_all [Ad,Ap];done))
          | skip
  · skip
    refine AW.region (Qp A7 (Qp Bg (AOL.nil (Ae (A5 (fun hc6=>?_) fun hc6=>?_)))))
    · skip
      refine AW.seq (AW.region (Qp Qf7 (Qp Vu ?_)))
      refine Qp (P6 rfl rfl) ?_
      refine AOL.nil (Ae (A5 (fun hc7=>?_) fun hc7=>?_))
      · skip
        refine AW.seq (AW.region (Qp Av (AOL.nil (Ae (AW.ret (Bc (Aj ?_)))))))
        refine Qr (Iq _) ?_
        try simp only [Cy,Bool.and_true] at *
        first
          | (simp only [Ad,Ap];(first | rw [iN hc1] | skip);(first | rw [if_pos hc6] | skip);(first | rw [if_pos hc7] | skip);first | done | rfl)
          | (try simp only [Bool.not_eq_true',Bool.not_eq_false'] at *
             first
             | (simp only [Ad,Ap, *,Bool.false_eq_true,↓reduceIte,Bool.true_or,Bool.or_true,Bool.false_or,Bool.or_false,Bool.true_and,Bool.and_true,Bool.false_and,Bool.and_false,Bool.not_true,Bool.not_false];done)
             | (simp [Ad,Ap, *];done)
             | (simp_all [Ad,Ap];done))
          | skip
      · skip
        refine AW.skip (Bs (Ae (AW.seq (AW.region (Qp (Cm [Iq _,Iq _,.str _]) ?_)))))
        refine Qp (Qc rfl (Aaf v)) ?_
        refine Qp Av (AOL.nil (Ae (AW.ret ?_)))
        refine Qr (Iq _) ?_
        try simp only [Cy,Bool.and_true] at *
        first
          | (simp only [Ad,Ap];(first | rw [iN hc1] | skip);(first | rw [if_pos hc6] | skip);(first | rw [iN hc7] | skip);first | done | rfl)
          | (try simp only [Bool.not_eq_true',Bool.not_eq_false'] at *
             first
             | (simp only [Ad,Ap, *,Bool.false_eq_true,↓reduceIte,Bool.true_or,Bool.or_true,Bool.false_or,Bool.or_false,Bool.true_and,Bool.and_true,Bool.false_and,Bool.and_false,Bool.not_true,Bool.not_false];done)
             | (simp [Ad,Ap, *];done)
             | (simp_all [Ad,Ap];done))
          | skip
    · skip
      refine AW.seq (AW.region (Qp A7 (Qp Bg (AOL.nil (Ae (A5 (fun hc8=>?_) fun hc8=>?_))))))
      · skip
        refine AW.seq (AW.region (Qp Wn (Qp Bt (Qp Ct (AOL.nil (Ae (A5 (fun hc9=>?_) fun hc9=>?_)))))))
        · skip
          refine AW.seq (AW.region (Qp Av (AOL.nil (Ae (AW.ret (Bc (Aj ?_)))))))
          refine Qr (Iq _) ?_
          try simp only [Cy,Bool.and_true] at *
          first
            | (simp only [Ad,Ap];(first | rw [iN hc1] | skip);(first | rw [iN hc6] | skip);(first | rw [if_pos hc8] | skip);(first | rw [if_pos hc9] | skip);first | done | rfl)
            | (try simp only [Bool.not_eq_true',Bool.not_eq_false'] at *
               first
               | (simp only [Ad,Ap, *,Bool.false_eq_true,↓reduceIte,Bool.true_or,Bool.or_true,Bool.false_or,Bool.or_false,Bool.true_and,Bool.and_true,Bool.false_and,Bool.and_false,Bool.not_true,Bool.not_false];done)
               | (simp [Ad,Ap, *];done)
               | (simp_all [Ad,Ap];done))
            | skip
        · skip
          refine AW.skip (Bs (Ae (AW.seq (AW.region (Qp (Cm [Iq _,Iq _,.str _]) ?_)))))
          refine Qp (Qc rfl (Aaf v)) ?_
          refine Qp Av (AOL.nil (Ae (AW.ret ?_)))
          refine Qr (Iq _) ?_
          try simp only [Cy,Bool.and_true] at *
          first
            | (simp only [Ad,Ap];(first | rw [iN hc1] | skip);(first | rw [iN hc6] | skip);(first | rw [if_pos hc8] | skip);(first | rw [iN hc9] | skip);first | done | rfl)
            | (try simp only [Bool.not_eq_true',Bool.not_eq_false'] at *
               first
               | (simp only [Ad,Ap, *,Bool.false_eq_true,↓reduceIte,Bool.true_or,Bool.or_true,Bool.false_or,Bool.or_false,Bool.true_and,Bool.and_true,Bool.false_and,Bool.and_false,Bool.not_true,Bool.not_false];done)
               | (simp [Ad,Ap, *];done)
               | (simp_all [Ad,Ap];done))
            | skip
      · skip
        refine AW.seq (AW.region (Qp Av (AOL.nil (Ae (AW.ret (Bc (Aj ?_)))))))
        refine Qr (Iq _) ?_
        try simp only [Cy,Bool.and_true] at *
        first
          | (simp only [Ad,Ap];(first | rw [iN hc1] | skip);(first | rw [iN hc6] | skip);(first | rw [iN hc8] | skip);first | done | rfl)
          | (try simp only [Bool.not_eq_true',Bool.not_eq_false'] at *
             first
             | (simp only [Ad,Ap, *,Bool.false_eq_true,↓reduceIte,Bool.true_or,Bool.or_true,Bool.false_or,Bool.or_false,Bool.true_and,Bool.and_true,Bool.false_and,Bool.and_false,Bool.not_true,Bool.not_false];done)
             | (simp [Ad,Ap, *];done)
             | (simp_all [Ad,Ap];done))
          | skip
theorem c75 (b:Bool):Ax Tryz.prog 107 [.bool b] (.agg (cV (D5 b))):=by
  refine Ax.body (n:=8) Ai Tryz.func107 rfl rfl rfl fun H=>?_
  refine AW.seq (AW.region ?_)
  refine Qe (Al (l:=[.int .i64 0,.int .i64 0,.str []]) (by kernel_rfl)) ?_
  rintro _ _ ⟨b2,rfl,rfl⟩
  refine AOL.nil (Ae (AW.seq (AW.region (Qp (Et [Iq _,Iq _,.str _]) ?_))))
  refine Qe (Al (l:=[.int .i64 0,.int .i64 0,.str []]) (by kernel_rfl)) ?_
  rintro _ _ ⟨b3,rfl,rfl⟩
  refine Co 0 [Iq _,Iq _,.str _] (_::_::_) (AOL.nil (Ae (AW.seq (AW.seq (AW.region (Qp Br (AOL.nil (Ae (A5 (fun hc1=>?_) fun hc1=>?_)))))))))
  · skip
    refine AW.region (Qp Ir (Co 0 [Iq _,Iq _,.str _] (_::_::_) (AOL.nil (Ae (AW.seq (AW.region ?_))))))
    refine AOL.Aa9 (B1 (k:=0) (l:=[Iq _,Iq _,.str _]) Ai rfl rfl rfl rfl rfl) rfl rfl ?_
    refine Co 1 [Iq _,Iq _,.str _] (_::_::_) (AOL.nil (Ae (AW.ret ?_)))
    refine ⟨.inr rfl,[.agg [Iq _,Iq _,.str _]],.cons (.box _ _ _ 1 _ _ _ _ rfl rfl rfl rfl rfl rfl) <| .nil,.cons _ (.cons _ (.refl _)),?_⟩
    try simp only [Cy,Bool.and_true] at *
    first
      | (simp only [Ad,D5,cV];(first | rw [if_pos hc1] | skip);first | done | rfl)
      | (try simp only [Bool.not_eq_true',Bool.not_eq_false'] at *
         first
         | (simp only [Ad,D5,cV, *,Bool.false_eq_true,↓reduceIte,Bool.true_or,Bool.or_true,Bool.false_or,Bool.or_false,Bool.true_and,Bool.and_true,Bool.false_and,Bool.and_false,Bool.not_true,Bool.not_false];done)
         | (simp [Ad,D5,cV, *];done)
         | (simp_all [Ad,D5,cV];done))
      | skip
  · skip
    refine Bz (AW.seq (AW.region ?_))
    refine AOL.Aa9 (B1 (k:=0) (l:=[Iq _,Iq _,.str _]) Ai rfl rfl rfl rfl rfl) rfl rfl ?_
    refine Co 1 [Iq _,Iq _,.str _] (_::_::_) (AOL.nil (Ae (AW.ret ?_)))
    refine ⟨.inr rfl,[.agg [Iq _,Iq _,.str _]],.cons (.box _ _ _ 1 _ _ _ _ rfl rfl rfl rfl rfl rfl) <| .nil,.cons _ (.cons _ (.refl _)),?_⟩
    try simp only [Cy,Bool.and_true] at *
    first
      | (simp only [Ad,D5,cV];(first | rw [iN hc1] | skip);first | done | rfl)
      | (try simp only [Bool.not_eq_true',Bool.not_eq_false'] at *
         first
         | (simp only [Ad,D5,cV, *,Bool.false_eq_true,↓reduceIte,Bool.true_or,Bool.or_true,Bool.false_or,Bool.or_false,Bool.true_and,Bool.and_true,Bool.false_and,Bool.and_false,Bool.not_true,Bool.not_false];done)
         | (simp [Ad,D5,cV, *];done)
         | (simp_all [Ad,D5,cV];done))
      | skip
theorem c42 (b:Bool):Ax Tryz.prog 66 [.bool b] (.agg (cV (D5 b))):=by
  refine Ax.body (n:=5) Ai Tryz.func66 rfl rfl rfl fun H=>?_
  refine AW.seq (AW.region ?_)
  refine Qe (Al (l:=[.int .i64 0,.int .i64 0,.str []]) (by kernel_rfl)) ?_
  rintro _ _ ⟨b2,rfl,rfl⟩
  refine AOL.nil (Ae (AW.seq (AW.region (Qp Br ?_))))
  refine Qp (Qc rfl (c75 b)) ?_
  refine Co 0 [Iq _,Iq _,.str _] (_::_) (AOL.nil (Ae (AW.ret ?_)))
  refine ⟨.inr rfl,[.agg [Iq _,Iq _,.str _]],.cons (.box _ _ _ 0 _ _ _ _ rfl rfl rfl rfl rfl rfl) <| .nil,.cons _ (.refl _),?_⟩
  try simp only [Cy,Bool.and_true] at *
  first
    | (simp only [Ad,D5,cV];skip;first | done | rfl)
    | (try simp only [Bool.not_eq_true',Bool.not_eq_false'] at *
       first
       | (simp only [Ad,D5,cV, *,Bool.false_eq_true,↓reduceIte,Bool.true_or,Bool.or_true,Bool.false_or,Bool.or_false,Bool.true_and,Bool.and_true,Bool.false_and,Bool.and_false,Bool.not_true,Bool.not_false];done)
       | (simp [Ad,D5,cV, *];done)
       | (simp_all [Ad,D5,cV];done))
    | skip
theorem c79 (v:Vl):Ax Tryz.prog 101 [.agg (cV v)] (.int .i64 (Ap v)):=by
  refine Ax.body (n:=47) Ai Tryz.func101 rfl rfl rfl fun H=>?_
  refine AW.seq (AW.region (Qp (F5 [Iq _,Iq _,.str _]) (Qp Av (AOL.nil (Ae (AW.seq (AW.seq (AW.region (Qp Jr ?_)))))))))
  refine Qp Bt (Qp Cl (Qp Br (Qg [] Qw Jr (Qg [(7,_)] Qw Bt (Qg [(8,_)] Qw Hi (Qp E5 (AOL.nil (Ae (A5 (fun hc1=>?_) fun hc1=>?_)))))))))
  · skip
    refine AW.seq (AW.region (Qp Av (AOL.nil (Ae (Du ?_)))))
    refine Qr (Iq _) ?_
    rw [←I0]
    try simp only [Cy,Bool.and_true] at *
    first
      | (simp only [Ad,Cp];(first | rw [if_pos hc1] | skip);first | done | rfl)
      | (try simp only [Bool.not_eq_true',Bool.not_eq_false'] at *
         first
         | (simp only [Ad,Cp, *,Bool.false_eq_true,↓reduceIte,Bool.true_or,Bool.or_true,Bool.false_or,Bool.or_false,Bool.true_and,Bool.and_true,Bool.false_and,Bool.and_false,Bool.not_true,Bool.not_false];done)
         | (simp [Ad,Cp, *];done)
         | (simp_all [Ad,Cp];done))
      | skip
  · skip
    refine Bz (AW.seq (AW.seq (AW.region (Qp Jr (Qp Bt (Qp A7 (AOL.nil (Ae (A5 (fun hc2=>?_) fun hc2=>?_)))))))))
    · skip
      refine AW.seq (AW.seq (AW.region (Qp Wn (Qp Bt (Qp Ct (AOL.nil (Ae (A5 (fun hc3=>?_) fun hc3=>?_))))))))
      · skip
        refine AW.seq (AW.region (Qp Av (AOL.nil (Ae (Du (Aj ?_))))))
        refine Qr (Iq _) ?_
        rw [←I0]
        try simp only [Cy,Bool.and_true] at *
        first
          | (simp only [Ad,Cp];(first | rw [iN hc1] | skip);(first | rw [if_pos hc2] | skip);(first | rw [if_pos hc3] | skip);first | done | rfl)
          | (try simp only [Bool.not_eq_true',Bool.not_eq_false'] at *
             first
             | (simp only [Ad,Cp, *,Bool.false_eq_true,↓reduceIte,Bool.true_or,Bool.or_true,Bool.false_or,Bool.or_false,Bool.true_and,Bool.and_true,Bool.false_and,Bool.and_false,Bool.not_true,Bool.not_false];done)
             | (simp [Ad,Cp, *];done)
             | (simp_all [Ad,Cp];done))
          | skip
      · skip
        refine Bz (AW.seq (AW.seq (AW.region (Qp Qf7 (Qp Vu ?_)))))
        refine Qp (Ho Ai rfl rfl rfl rfl) ?_
        refine Qp Hi (AOL.nil (Ae (A5 (fun hc4=>?_) fun hc4=>?_)))
        · skip
          refine AW.seq (AW.region (Qp Av (AOL.nil (Ae (Du (Aj ?_))))))
          refine Qr (Iq _) ?_
          rw [←I0]
          try simp only [Cy,Bool.and_true] at *
          first
            | (simp only [Ad,Cp];(first | rw [iN hc1] | skip);(first | rw [if_pos hc2] | skip);(first | rw [iN hc3] | skip);(first | rw [if_pos hc4] | skip);first | done | rfl)
            | (try simp only [Bool.not_eq_true',Bool.not_eq_false'] at *
               first
               | (simp only [Ad,Cp, *,Bool.false_eq_true,↓reduceIte,Bool.true_or,Bool.or_true,Bool.false_or,Bool.or_false,Bool.true_and,Bool.and_true,Bool.false_and,Bool.and_false,Bool.not_true,Bool.not_false];done)
               | (simp [Ad,Cp, *];done)
               | (simp_all [Ad,Cp];done))
            | skip
        · skip
          refine Bz (AW.seq (AW.region (Qp Av (AOL.nil (Ae (Du ?_))))))
          refine Qr (Iq _) ?_
          rw [←I0]
          try simp only [Cy,Bool.and_true] at *
          first
            | (simp only [Ad,Cp];(first | rw [iN hc1] | skip);(first | rw [if_pos hc2] | skip);(first | rw [iN hc3] | skip);(first | rw [iN hc4] | skip);first | done | rfl)
            | (try simp only [Bool.not_eq_true',Bool.not_eq_false'] at *
               first
               | (simp only [Ad,Cp, *,Bool.false_eq_true,↓reduceIte,Bool.true_or,Bool.or_true,Bool.false_or,Bool.or_false,Bool.true_and,Bool.and_true,Bool.false_and,Bool.and_false,Bool.not_true,Bool.not_false];done)
               | (simp [Ad,Cp, *];done)
               | (simp_all [Ad,Cp];done))
            | skip
    · skip
      refine Bz (AW.seq (AW.seq (AW.region (Qp Qf7 (Qp Vu ?_)))))
      refine Qp (P6 rfl rfl) ?_
      refine AOL.nil (Ae (A5 (fun hc5=>?_) fun hc5=>?_))
      · skip
        refine AW.seq (AW.region (Qp Av (AOL.nil (Ae (Du ?_)))))
        refine Qr (Iq _) ?_
        rw [←I0]
        try simp only [Cy,Bool.and_true] at *
        first
          | (simp only [Ad,Cp];(first | rw [iN hc1] | skip);(first | rw [iN hc2] | skip);(first | rw [if_pos hc5] | skip);first | done | rfl)
          | (try simp only [Bool.not_eq_true',Bool.not_eq_false'] at *
             first
             | (simp only [Ad,Cp, *,Bool.false_eq_true,↓reduceIte,Bool.true_or,Bool.or_true,Bool.false_or,Bool.or_false,Bool.true_and,Bool.and_true,Bool.false_and,Bool.and_false,Bool.not_true,Bool.not_false];done)
             | (simp [Ad,Cp, *];done)
             | (simp_all [Ad,Cp];done))
          | skip
      · skip
        refine Bz (AW.seq (AW.seq (AW.region (Qp Jr (Qp Bt (Qp A7 (Qp Br (Qg [] Qw Wn (Qg [(28,_)] Qw Bt ?_)))))))))
        refine Qg [(29,_)] Qw Cl (Qg [(30,_)] Qw Br (Qg [] Qw Wn (Qg [(32,_)] Qw Bt (Qg [(33,_)] Qw Hi (Qg [(31,_),(34,_)] Qw E5 (Qp E3 (Qp Br (Qg [] Qw Wn (Qg [(38,_)] Qw Bt ?_)))))))))
        refine Qg [(39,_)] Qw Cl (Qp E5 (Qp Br (Qg [] Qw Wn (Qg [(43,_)] Qw Bt (Qg [(44,_)] Qw Hi (Qp E5 (AOL.nil (Ae (A5 (fun hc6=>?_) fun hc6=>?_)))))))))
        · skip
          refine AW.seq (AW.region (Qp Av (AOL.nil (Ae (Du ?_)))))
          refine Qr (Iq _) ?_
          rw [←I0]
          try simp only [Cy,Bool.and_true] at *
          first
            | (simp only [Ad,Cp];(first | rw [iN hc1] | skip);(first | rw [iN hc2] | skip);(first | rw [iN hc5] | skip);(first | rw [if_pos hc6] | skip);first | done | rfl)
            | (try simp only [Bool.not_eq_true',Bool.not_eq_false'] at *
               first
               | (simp only [Ad,Cp, *,Bool.false_eq_true,↓reduceIte,Bool.true_or,Bool.or_true,Bool.false_or,Bool.or_false,Bool.true_and,Bool.and_true,Bool.false_and,Bool.and_false,Bool.not_true,Bool.not_false];done)
               | (simp [Ad,Cp, *];done)
               | (simp_all [Ad,Cp];done))
            | skip
        · skip
          refine Bz (AW.seq (AW.region (Qp Av (AOL.nil (Ae (AW.ret ?_))))))
          refine Qr (Iq _) ?_
          rw [←I0]
          try simp only [Cy,Bool.and_true] at *
          first
            | (simp only [Ad,Cp];(first | rw [iN hc1] | skip);(first | rw [iN hc2] | skip);(first | rw [iN hc5] | skip);(first | rw [iN hc6] | skip);first | done | rfl)
            | (try simp only [Bool.not_eq_true',Bool.not_eq_false'] at *
               first
               | (simp only [Ad,Cp, *,Bool.false_eq_true,↓reduceIte,Bool.true_or,Bool.or_true,Bool.false_or,Bool.or_false,Bool.true_and,Bool.and_true,Bool.false_and,Bool.and_false,Bool.not_true,Bool.not_false];done)
               | (simp [Ad,Cp, *];done)
               | (simp_all [Ad,Cp];done))
            | skip
theorem c114 (k:Int):Ax Tryz.prog 179 [.int .i64 k] (.bool (Dt k)):=by
  refine Ax.body (n:=9) Ai Tryz.func179 rfl rfl rfl fun H=>?_
  refine AW.seq (AW.region (Qp Bg (AOL.nil (Ae (AW.seq (AW.region (Qp A2 (Qp N7 (Qp Br ?_)))))))))
  refine Qg [] Qw A2 (Qg [(6,_)] Qw Ng (Qp E3 (Qp Bg (AOL.nil (Ae (AW.ret ?_))))))
  refine Qr (.bool _) ?_
  try simp only [Cy,Bool.and_true] at *
  first
    | (simp only [Ad,Dt];skip;first | done | rfl)
    | (try simp only [Bool.not_eq_true',Bool.not_eq_false'] at *
       first
       | (simp only [Ad,Dt, *,Bool.false_eq_true,↓reduceIte,Bool.true_or,Bool.or_true,Bool.false_or,Bool.or_false,Bool.true_and,Bool.and_true,Bool.false_and,Bool.and_false,Bool.not_true,Bool.not_false];done)
       | (simp [Ad,Dt, *];done)
       | (simp_all [Ad,Dt];done))
    | skip
theorem c124 (k:Int)(v:Vl):Ax Tryz.prog 191 [.int .i64 k,.agg (cV v)] (.bool (Eu k v)):=by
  refine Ax.body (n:=20) Ai Tryz.func191 rfl rfl rfl fun H=>?_
  refine AW.seq (AW.region (Qp (F5 [Iq _,Iq _,.str _]) (Qp Bg (AOL.nil (Ae (AW.seq (AW.region (Qp Jr (Qp Bt ?_)))))))))
  refine Qp A7 (Qp Br (Qg [] Qw A2 (Qg [(9,_)] Qw Ct (Qg [(10,_)] Qw Br (Qg [] Qw A2 (Qg [(12,_)] Qw Ct (Qg [(11,_),(13,_)] Qw E3 (Qg [(14,_)] Qw Br (Qg [] Qw A2 ?_)))))))))
  refine Qg [(16,_)] Qw Ct (Qg [(15,_),(17,_)] Qw E3 (Qp E5 (Qp Bg (AOL.nil (Ae (AW.ret ?_))))))
  refine Qr (.bool _) ?_
  try simp only [Cy,Bool.and_true] at *
  first
    | (simp only [Ad,Eu];skip;first | done | rfl)
    | (try simp only [Bool.not_eq_true',Bool.not_eq_false'] at *
       first
       | (simp only [Ad,Eu, *,Bool.false_eq_true,↓reduceIte,Bool.true_or,Bool.or_true,Bool.false_or,Bool.or_false,Bool.true_and,Bool.and_true,Bool.false_and,Bool.and_false,Bool.not_true,Bool.not_false];done)
       | (simp [Ad,Eu, *];done)
       | (simp_all [Ad,Eu];done))
    | skip
theorem c101 (k:Int)(v:Vl):Ax Tryz.prog 150 [.int .i64 k,.agg (cV v)] (.bool (Gq k v)):=by
  refine Ax.body (n:=20) Ai Tryz.func150 rfl rfl rfl fun H=>?_
  refine AW.seq (AW.region (Qp (F5 [Iq _,Iq _,.str _]) (Qp Bg (AOL.nil (Ae (AW.seq (AW.region (Qp Jr (Qp Bt ?_)))))))))
  refine Qp A7 (Qp Br (Qg [] Qw A2 (Qg [(9,_)] Qw A7 (Qp E5 (Qp Br (Qg [] Qw A2 (Qg [(13,_)] Qw A7 (Qp E5 (Qp Br ?_)))))))))
  refine Qg [] Qw A2 (Qg [(17,_)] Qw A7 (Qp E5 (Qp Bg (AOL.nil (Ae (AW.ret ?_))))))
  refine Qr (.bool _) ?_
  try simp only [Cy,Bool.and_true] at *
  first
    | (simp only [Ad,Gq];skip;first | done | rfl)
    | (try simp only [Bool.not_eq_true',Bool.not_eq_false'] at *
       first
       | (simp only [Ad,Gq, *,Bool.false_eq_true,↓reduceIte,Bool.true_or,Bool.or_true,Bool.false_or,Bool.or_false,Bool.true_and,Bool.and_true,Bool.false_and,Bool.and_false,Bool.not_true,Bool.not_false];done)
       | (simp [Ad,Gq, *];done)
       | (simp_all [Ad,Gq];done))
    | skip
theorem c99 (k:Int)(v:Vl):Ax Tryz.prog 148 [.int .i64 k,.agg (cV v)] (.bool (Dw k v)):=by
  refine Ax.body (n:=16) Ai Tryz.func148 rfl rfl rfl fun H=>?_
  refine AW.seq (AW.region (Qp (F5 [Iq _,Iq _,.str _]) (Qp Bg (AOL.nil (Ae (AW.seq (AW.region (Qp Jr (Qp Bt ?_)))))))))
  refine Qp A7 (Qp Br (Qg [] Qw A2 (Qg [(9,_)] Qw A7 (Qp E5 (Qp Br (Qg [] Qw A2 (Qg [(13,_)] Qw A7 (Qp E5 (Qp Bg ?_)))))))))
  refine AOL.nil (Ae (AW.ret ?_))
  refine Qr (.bool _) ?_
  try simp only [Cy,Bool.and_true] at *
  first
    | (simp only [Ad,Dw];skip;first | done | rfl)
    | (try simp only [Bool.not_eq_true',Bool.not_eq_false'] at *
       first
       | (simp only [Ad,Dw, *,Bool.false_eq_true,↓reduceIte,Bool.true_or,Bool.or_true,Bool.false_or,Bool.or_false,Bool.true_and,Bool.and_true,Bool.false_and,Bool.and_false,Bool.not_true,Bool.not_false];done)
       | (simp [Ad,Dw, *];done)
       | (simp_all [Ad,Dw];done))
    | skip
theorem c119 (k:Int)(v:Vl):Ax Tryz.prog 184 [.int .i64 k,.agg (cV v)] (.agg (cV (E7 k v))):=by
  refine Ax.body (n:=9) Ai Tryz.func184 rfl rfl rfl fun H=>?_
  refine AW.seq (AW.region (Qp (F5 [Iq _,Iq _,.str _]) ?_))
  refine Qe (Al (l:=[.int .i64 0,.int .i64 0,.str []]) (by kernel_rfl)) ?_
  rintro _ _ ⟨b4,rfl,rfl⟩
  refine AOL.nil (Ae (AW.seq (AW.seq (AW.region (Qp A2 (Qp A7 (AOL.nil (Ae (A5 (fun hc1=>?_) fun hc1=>?_)))))))))
  · skip
    refine AW.seq (AW.region (Qp (Et [Iq _,Iq _,.str _]) (Co 0 [Iq _,Iq _,.str _] (_::_) (AOL.nil (Ae (Du ?_))))))
    refine ⟨.inr rfl,[.agg [Iq _,Iq _,.str _]],.cons (.box _ _ _ 0 _ _ _ _ rfl rfl rfl rfl rfl rfl) <| .nil,.cons _ (.refl _),?_⟩
    try simp only [Cy,Bool.and_true] at *
    first
      | (simp only [Ad,E7,cV,v0];(first | rw [if_pos hc1] | skip);first | done | rfl)
      | (try simp only [Bool.not_eq_true',Bool.not_eq_false'] at *
         first
         | (simp only [Ad,E7,cV,v0, *,Bool.false_eq_true,↓reduceIte,Bool.true_or,Bool.or_true,Bool.false_or,Bool.or_false,Bool.true_and,Bool.and_true,Bool.false_and,Bool.and_false,Bool.not_true,Bool.not_false];done)
         | (simp [Ad,E7,cV,v0, *];done)
         | (simp_all [Ad,E7,cV,v0];done))
      | skip
  · skip
    refine Bz (AW.seq (AW.region (Qp (Cm [Iq _,Iq _,.str _]) (Co 0 [Iq _,Iq _,.str _] (_::_) (AOL.nil (Ae (AW.ret ?_)))))))
    refine ⟨.inr rfl,[.agg [Iq _,Iq _,.str _]],.cons (.box _ _ _ 0 _ _ _ _ rfl rfl rfl rfl rfl rfl) <| .nil,.cons _ (.refl _),?_⟩
    try simp only [Cy,Bool.and_true] at *
    first
      | (simp only [Ad,E7,cV,v0];(first | rw [iN hc1] | skip);first | done | rfl)
      | (try simp only [Bool.not_eq_true',Bool.not_eq_false'] at *
         first
         | (simp only [Ad,E7,cV,v0, *,Bool.false_eq_true,↓reduceIte,Bool.true_or,Bool.or_true,Bool.false_or,Bool.or_false,Bool.true_and,Bool.and_true,Bool.false_and,Bool.and_false,Bool.not_true,Bool.not_false];done)
         | (simp [Ad,E7,cV,v0, *];done)
         | (simp_all [Ad,E7,cV,v0];done))
      | skip
theorem c115 (k:Int)(v:Vl):Ax Tryz.prog 180 [.int .i64 k,.agg (cV v)] (.int .i64 (Do k v)):=by
  refine Ax.body (n:=15) Ai Tryz.func180 rfl rfl rfl fun H=>?_
  refine AW.seq (AW.region (Qp (F5 [Iq _,Iq _,.str _]) (Qp Av (AOL.nil (Ae (AW.seq (AW.seq (AW.region (Qp (Cm [Iq _,Iq _,.str _]) ?_)))))))))
  refine Qp (Qc rfl (c94 v)) ?_
  refine Qp Av (AOL.nil (Ae (AW.seq (AW.region (Qp A2 (Qp Ct (AOL.nil (Ae (A5 (fun hc1=>?_) fun hc1=>?_)))))))))
  · skip
    refine AW.seq (AW.region (Qp A2 (Qp Av (AOL.nil (Ae (Du ?_))))))
    refine Qr (Iq _) ?_
    try simp only [Cy,Bool.and_true] at *
    first
      | (simp only [Ad,Do];(first | rw [if_pos hc1] | skip);first | done | rfl)
      | (try simp only [Bool.not_eq_true',Bool.not_eq_false'] at *
         first
         | (simp only [Ad,Do, *,Bool.false_eq_true,↓reduceIte,Bool.true_or,Bool.or_true,Bool.false_or,Bool.or_false,Bool.true_and,Bool.and_true,Bool.false_and,Bool.and_false,Bool.not_true,Bool.not_false];done)
         | (simp [Ad,Do, *];done)
         | (simp_all [Ad,Do];done))
      | skip
  · skip
    refine Bz (AW.seq (AW.seq (AW.region (Qp A2 (Qp (Cm [Iq _,Iq _,.str _]) ?_)))))
    refine Qp (Qc rfl (c124 k v)) ?_
    refine Qp Gt (AOL.nil (Ae (A5 (fun hc2=>?_) fun hc2=>?_)))
    · skip
      refine AW.seq (AW.region (Qp Av (AOL.nil (Ae (Du ?_)))))
      refine Qr (Iq _) ?_
      try simp only [Cy,Bool.and_true] at *
      first
        | (simp only [Ad,Do];(first | rw [iN hc1] | skip);(first | rw [if_pos hc2] | skip);first | done | rfl)
        | (try simp only [Bool.not_eq_true',Bool.not_eq_false'] at *
           first
           | (simp only [Ad,Do, *,Bool.false_eq_true,↓reduceIte,Bool.true_or,Bool.or_true,Bool.false_or,Bool.or_false,Bool.true_and,Bool.and_true,Bool.false_and,Bool.and_false,Bool.not_true,Bool.not_false];done)
           | (simp [Ad,Do, *];done)
           | (simp_all [Ad,Do];done))
        | skip
    · skip
      refine Bz (AW.seq (AW.region (Qp Av (AOL.nil (Ae (AW.ret ?_))))))
      refine Qr (Iq _) ?_
      try simp only [Cy,Bool.and_true] at *
      first
        | (simp only [Ad,Do];(first | rw [iN hc1] | skip);(first | rw [iN hc2] | skip);first | done | rfl)
        | (try simp only [Bool.not_eq_true',Bool.not_eq_false'] at *
           first
           | (simp only [Ad,Do, *,Bool.false_eq_true,↓reduceIte,Bool.true_or,Bool.or_true,Bool.false_or,Bool.or_false,Bool.true_and,Bool.and_true,Bool.false_and,Bool.and_false,Bool.not_true,Bool.not_false];done)
           | (simp [Ad,Do, *];done)
           | (simp_all [Ad,Do];done))
        | skip

end Go.Proofs.YtkddpedfbicbeaaGreatDoor
