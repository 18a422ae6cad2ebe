/-
  Walks of layers 1, 7 and 8: the functions without loops. No condition.
-/
import Derived.Test.YtjedflcpjlgokaaGreatDoorAz
import Derived.Test.YtjedflcpjlgokaaGreatDoorK02
import Derived.Test.YtjedflcpjlgokaaGreatDoorTab
import Derived.KernelRfl
namespace Go.Proofs.YtjedflcpjlgokaaGreatDoor
open Go Go.Aw
set_option maxHeartbeats 400000
set_option maxRecDepth 20000
set_option linter.unusedVariables false
set_option linter.unusedSimpArgs false

theorem c52 (op:Int):Ax Tryz.prog 131 [.int .i64 op] (.tuple [.bool (Dq op).1,.bool (Dq op).2]):=by
 refine Ax.body (n:=11) Ai Tryz.func131 rfl rfl rfl fun H=>?_
 refine Ah (Qp Bm (Qp Bm (Ag (AW.seq (Ah (Qp A0 (Ag (AW.block (AW.seq ?_)))))))))
 refine Ah (Qp A6 (Qp Bm (Ag (A3 (fun hc1=>?_) fun hc1=>?_))))
 ·
  refine By (A3 (fun hc2=>?_) fun hc2=>?_)
  ·
   refine Ah (Qp Bm (Qp Bm (Ag (AW.ret (A7 (Aj ?_))))))
   refine Kg (.bool _) (.bool _) ?_
   simp_all [Ad,Dq]
  ·
   refine AW.seq (Ah (Qp A6 (Qp Bm (Ag (A3 (fun hc3=>?_) fun hc3=>?_)))))
   ·
    refine By (A3 (fun hc4=>?_) fun hc4=>?_)
    ·
     refine Ah (Qp Bm (Qp Bm (Ag (AW.ret (A7 (Aj ?_))))))
     refine Kg (.bool _) (.bool _) ?_
     simp_all [Ad,Dq]
    ·
     refine AW.skip (Bv (Ae (Ah (Qp Bm (Qp Bm (Ag (AW.ret ?_)))))))
     refine Kg (.bool _) (.bool _) ?_
     simp_all [Ad,Dq]
   ·
    refine AW.region (Qp A6 (Qp Bm (Ag (A3 (fun hc5=>?_) fun hc5=>?_))))
    ·
     refine Ah (Qp Bm (Qp Bm (Ag (AW.ret (A7 (Aj ?_))))))
     refine Kg (.bool _) (.bool _) ?_
     simp_all [Ad,Dq]
    ·
     refine AW.skip (Bv (Ae (Ah (Qp Bm (Qp Bm (Ag (AW.ret ?_)))))))
     refine Kg (.bool _) (.bool _) ?_
     simp_all [Ad,Dq]
 ·
  refine AW.region (Qp A6 (Qp Bm (Ag (A3 (fun hc6=>?_) fun hc6=>?_))))
  ·
   refine Ah (Qp Bm (Qp Bm (Ag (AW.ret (A7 (Aj ?_))))))
   refine Kg (.bool _) (.bool _) ?_
   simp_all [Ad,Dq]
  ·
   refine AW.seq (Ah (Qp A6 (Qp Bm (Ag (A3 (fun hc7=>?_) fun hc7=>?_)))))
   ·
    refine By (A3 (fun hc8=>?_) fun hc8=>?_)
    ·
     refine Ah (Qp Bm (Qp Bm (Ag (AW.ret (A7 (Aj ?_))))))
     refine Kg (.bool _) (.bool _) ?_
     simp_all [Ad,Dq]
    ·
     refine AW.skip (Bv (Ae (Ah (Qp Bm (Qp Bm (Ag (AW.ret ?_)))))))
     refine Kg (.bool _) (.bool _) ?_
     simp_all [Ad,Dq]
   ·
    refine AW.region (Qp A6 (Qp Bm (Ag (A3 (fun hc9=>?_) fun hc9=>?_))))
    ·
     refine Ah (Qp Bm (Qp Bm (Ag (AW.ret (A7 (Aj ?_))))))
     refine Kg (.bool _) (.bool _) ?_
     simp_all [Ad,Dq]
    ·
     refine AW.skip (Bv (Ae (Ah (Qp Bm (Qp Bm (Ag (AW.ret ?_)))))))
     refine Kg (.bool _) (.bool _) ?_
     simp_all [Ad,Dq]
theorem c84 (op:Int):Ax Tryz.prog 153 [.int .i64 op] (.tuple [.bool (Dq op).1,.bool (Dq op).2]):=by
 refine Ax.body (n:=21) Ai Tryz.func153 rfl rfl rfl fun H=>?_
 refine Ah (Qp Bm (Qp Bm (Do (Qp A0 (Qp A6 (Qp Bu (Qg [] Qw A0 (Qg [(8,_)] Qw A6 (Qp E2 ?_)))))))))
 refine Qp Bm (Do (Qp Bu (Qp Bu (Qg [] Qw A0 (Qg [(13,_)] Qw A6 (Qp E2 (Qp Bu (Qg [] Qw A0 (Qg [(17,_)] Qw A6 ?_)))))))))
 refine Qp E2 (Qp Bu (Qp Bm (Qp Bm (Ag (AW.ret ?_)))))
 refine Kg (.bool _) (.bool _) ?_
 by_cases h1:op=1 <;> by_cases h2:op=2 <;> by_cases h3:op=3 <;> by_cases h4:op=4 <;> simp_all [Dq,Ad]
theorem c81 (op:Int):Ax Tryz.prog 130 [.int .i64 op] (.tuple [.int .i64 (D6 op),.bool (decide (0≤op∧op≤12))]):=by
 refine Ax.body (n:=17) Ai Tryz.func130 rfl rfl rfl fun H=>?_
 refine Ah (Qp Ar (Qp Bm (Ag (AW.seq (AW.block (Ah (Qp A0 (Qp Ck (Qp Bu ?_)))))))))
 refine Qg [] Qw A0 (Qg [(8,_)] Qw G6 (Qp E2 (Qp Bm (Ag (A3 (fun hc1=>?_) fun hc1=>?_)))))
 ·
  refine Ah (Qp Ar (Qp Bm (Ag (AW.ret (A7 (Aj ?_))))))
  refine Kg (Iq _) (.bool _) ?_
  simp only [Bool.or_eq_true,Bool.or_eq_false_iff,decide_eq_true_eq,decide_eq_false_iff_not,beq_iff_eq,beq_eq_false_iff_ne] at *
  simp only [Ad,D6,AV.tuple.injEq,List.cons.injEq,AV.int.injEq,AV.bool.injEq,true_and,and_true]
  refine ⟨?_,?_⟩
  ·
   repeat' split
   all_goals omega
  · simp <;> omega
 ·
  refine Ah (Qp A0 (Qp Ck (Qp Bm (Ag (A3 (fun hc2=>?_) fun hc2=>?_)))))
  ·
   refine Ah (Qp Ar (Qp Bm (Ag (AW.ret (A7 (Aj ?_))))))
   refine Kg (Iq _) (.bool _) ?_
   simp only [Bool.or_eq_true,Bool.or_eq_false_iff,decide_eq_true_eq,decide_eq_false_iff_not,beq_iff_eq,beq_eq_false_iff_ne] at *
   simp only [Ad,D6,AV.tuple.injEq,List.cons.injEq,AV.int.injEq,AV.bool.injEq,true_and,and_true]
   refine ⟨?_,?_⟩
   ·
    repeat' split
    all_goals omega
   · simp <;> omega
  ·
   refine Ah (Qp A0 (Qp A6 (Qp Bm (Ag (A3 (fun hc3=>?_) fun hc3=>?_)))))
   ·
    refine Ah (Qp Ar (Qp Bm (Ag (AW.ret (A7 (Aj ?_))))))
    refine Kg (Iq _) (.bool _) ?_
    simp only [Bool.or_eq_true,Bool.or_eq_false_iff,decide_eq_true_eq,decide_eq_false_iff_not,beq_iff_eq,beq_eq_false_iff_ne] at *
    simp only [Ad,D6,AV.tuple.injEq,List.cons.injEq,AV.int.injEq,AV.bool.injEq,true_and,and_true]
    refine ⟨?_,?_⟩
    ·
     repeat' split
     all_goals omega
    · simp <;> omega
   ·
    refine AW.skip (Bv (Ae (Ah (Qp Ar (Qp Bm (Ag (AW.ret ?_)))))))
    refine Kg (Iq _) (.bool _) ?_
    simp only [Bool.or_eq_true,Bool.or_eq_false_iff,decide_eq_true_eq,decide_eq_false_iff_not,beq_iff_eq,beq_eq_false_iff_ne] at *
    simp only [Ad,D6,AV.tuple.injEq,List.cons.injEq,AV.int.injEq,AV.bool.injEq,true_and,and_true]
    refine ⟨?_,?_⟩
    ·
     repeat' split
     all_goals omega
    · simp <;> omega
theorem c100 (op:Int):Ax Tryz.prog 152 [.int .i64 op] (.int .i64 (if 0≤op∧op≤12 then D6 op else -1)):=by
 refine Ax.body (n:=20) Ai Tryz.func152 rfl rfl rfl fun H=>?_
 refine Ah (Qp Ar (Ag (AW.seq (Ah (Qp A0 (Ag (AW.block ?_)))))))
 refine AW.cut (fun (_:Unit)=>(⟨[(0,.int .i64 op),(3,.int .i64 op),(4,.bool (op==0||op==1||op==2||op==3||op==4))],H,20⟩:St)) (fun (_:Unit)=>True) ?_ ?_
 ·
  refine Ah (Qp A6 (Qp Bm (Ag (A3 (fun hc1=>?_) fun hc1=>?_))))
  ·
   refine By ?_
   refine ⟨(),?_,GS.weaken ⟨rfl,rfl,congrArg AV.bool (by simp [*]),trivial⟩ (.refl _)⟩
   trivial
  ·
   refine Ah (Qp A6 (Qp Bm (Ag (A3 (fun hc2=>?_) fun hc2=>?_))))
   ·
    refine By ?_
    refine ⟨(),?_,GS.weaken ⟨rfl,rfl,congrArg AV.bool (by simp [*]),trivial⟩ (.refl _)⟩
    trivial
   ·
    refine Ah (Qp A6 (Qp Bm (Ag (A3 (fun hc3=>?_) fun hc3=>?_))))
    ·
     refine By ?_
     refine ⟨(),?_,GS.weaken ⟨rfl,rfl,congrArg AV.bool (by simp [*]),trivial⟩ (.refl _)⟩
     trivial
    ·
     refine Ah (Qp A6 (Qp Bm (Ag (A3 (fun hc4=>?_) fun hc4=>?_))))
     ·
      refine By ?_
      refine ⟨(),?_,GS.weaken ⟨rfl,rfl,congrArg AV.bool (by simp [*]),trivial⟩ (.refl _)⟩
      trivial
     ·
      refine AW.region (Qp A6 (Qp Bm (Ag ?_)))
      refine ⟨(),?_,GS.weaken ⟨rfl,rfl,congrArg AV.bool (by simp [*]),trivial⟩ (.refl _)⟩
      trivial
 ·
  rintro _ _
  refine A3 (fun hc5=>?_) fun hc5=>?_
  ·
   refine Ah (Qp Ar (Ag (AW.ret (A7 (Aj ?_)))))
   refine Qr (Iq _) ?_
   simp only [Bool.or_eq_true,Bool.or_eq_false_iff,beq_iff_eq,beq_eq_false_iff_ne] at *
   simp only [Ad,D6,AV.int.injEq,true_and]
   repeat' split
   all_goals omega
  ·
   refine Ah (Qp A6 (Qp Bm (Ag (A3 (fun hc6=>?_) fun hc6=>?_))))
   ·
    refine Ah (Qp Ar (Ag (AW.ret (A7 (Aj ?_)))))
    refine Qr (Iq _) ?_
    simp only [Bool.or_eq_true,Bool.or_eq_false_iff,beq_iff_eq,beq_eq_false_iff_ne] at *
    simp only [Ad,D6,AV.int.injEq,true_and]
    repeat' split
    all_goals omega
   ·
    refine AW.cut (fun (_:Unit)=>(⟨[(12,.bool (op==5||op==6||op==7||op==8||op==9||op==10||op==11))],H,20⟩:St)) (fun (_:Unit)=>True) ?_ ?_
    ·
     refine Ah (Qp A6 (Qp Bm (Ag (A3 (fun hc7=>?_) fun hc7=>?_))))
     ·
      refine By ?_
      refine ⟨(),?_,GS.weaken ⟨congrArg AV.bool (by simp [*]),trivial⟩ (.refl _)⟩
      trivial
     ·
      refine Ah (Qp A6 (Qp Bm (Ag (A3 (fun hc8=>?_) fun hc8=>?_))))
      ·
       refine By ?_
       refine ⟨(),?_,GS.weaken ⟨congrArg AV.bool (by simp [*]),trivial⟩ (.refl _)⟩
       trivial
      ·
       refine Ah (Qp A6 (Qp Bm (Ag (A3 (fun hc9=>?_) fun hc9=>?_))))
       ·
        refine By ?_
        refine ⟨(),?_,GS.weaken ⟨congrArg AV.bool (by simp [*]),trivial⟩ (.refl _)⟩
        trivial
       ·
        refine Ah (Qp A6 (Qp Bm (Ag (A3 (fun hc10=>?_) fun hc10=>?_))))
        ·
         refine By ?_
         refine ⟨(),?_,GS.weaken ⟨congrArg AV.bool (by simp [*]),trivial⟩ (.refl _)⟩
         trivial
        ·
         refine Ah (Qp A6 (Qp Bm (Ag (A3 (fun hc11=>?_) fun hc11=>?_))))
         ·
          refine By ?_
          refine ⟨(),?_,GS.weaken ⟨congrArg AV.bool (by simp [*]),trivial⟩ (.refl _)⟩
          trivial
         ·
          refine Ah (Qp A6 (Qp Bm (Ag (A3 (fun hc12=>?_) fun hc12=>?_))))
          ·
           refine By ?_
           refine ⟨(),?_,GS.weaken ⟨congrArg AV.bool (by simp [*]),trivial⟩ (.refl _)⟩
           trivial
          ·
           refine AW.region (Qp A6 (Qp Bm (Ag ?_)))
           refine ⟨(),?_,GS.weaken ⟨congrArg AV.bool (by simp [*]),trivial⟩ (.refl _)⟩
           trivial
    ·
     rintro _ _
     refine A3 (fun hc13=>?_) fun hc13=>?_
     ·
      refine Ah (Qp Ar (Ag (AW.ret (A7 (Aj ?_)))))
      refine Qr (Iq _) ?_
      simp only [Bool.or_eq_true,Bool.or_eq_false_iff,beq_iff_eq,beq_eq_false_iff_ne] at *
      simp only [Ad,D6,AV.int.injEq,true_and]
      repeat' split
      all_goals omega
     ·
      refine AW.skip (Bv (Ae (Ah (Qp Ar (Ag (AW.ret ?_))))))
      refine Qr (Iq _) ?_
      simp only [Bool.or_eq_true,Bool.or_eq_false_iff,beq_iff_eq,beq_eq_false_iff_ne] at *
      simp only [Ad,D6,AV.int.injEq,true_and]
      repeat' split
      all_goals omega
theorem vY (v:Vl):Ax Tryz.prog 151 [.agg (cV v)] (.int .i64 (Dy v)):=by
  refine Ax.body (n:=36) Ai Tryz.func151 rfl rfl rfl fun H=>?_
  refine AW.seq (AW.region (Qp (Gd [Iq _,Iq _,.str _]) (Qp Ar (AOL.nil (Ae (AW.seq (AW.block (AW.seq (AW.region ?_)))))))))
  refine Qp J2 (Qp Bp (Qp A6 (Qp Bu (Qg [] Qw V1 (Qg [(8,_)] Qw Bp (Qg [(9,_)] Qw Ck (Qg [(10,_)] Qw Bu (Qg [] Qw V1 (Qg [(12,_)] Qw Bp ?_)))))))))
  refine Qg [(13,_)] Qw G6 (Qg [(11,_),(14,_)] Qw E2 (Qp Gg (Qp Bm (AOL.nil (Ae (A3 (fun hc1=>?_) fun hc1=>?_))))))
  · skip
    refine AW.seq (AW.region (Qp Ar (AOL.nil (Ae (AW.ret (A7 (Aj ?_)))))))
    refine Qr (Iq _) ?_
    try simp only [Co,Bool.and_true] at *
    first
      | (simp only [Ad,Dy];(first | rw [if_pos hc1] | skip);first | done | rfl)
      | (try simp only [Bool.not_eq_true',Bool.not_eq_false'] at *
         first
         | (simp only [Ad,Dy, *,Bool.false_eq_true,↓reduceIte,Bool.true_or,Bool.or_true,Bool.false_or,Bool.or_false,Bool.true_and,Bool.and_true,Bool.false_and,Bool.and_false,Bool.not_true,Bool.not_false];done)
         | (simp [Ad,Dy, *];done)
         | (simp_all [Ad,Dy];done))
      | skip
  · skip
    refine AW.seq (AW.region (Qp J2 (Qp Bp (Qp A6 (Qp Bu (Qg [] Qw V1 (Qg [(22,_)] Qw Bp (Qg [(23,_)] Qw Cr (Qp Gg ?_)))))))))
    refine Qp Bu (Qg [] Qw V1 (Qg [(27,_)] Qw Bp (Qg [(28,_)] Qw Cr (Qp Gg (Qp Bm (AOL.nil (Ae (A3 (fun hc2=>?_) fun hc2=>?_))))))))
    · skip
      refine AW.seq (AW.region (Qp Ar (AOL.nil (Ae (AW.ret (A7 (Aj ?_)))))))
      refine Qr (Iq _) ?_
      try simp only [Co,Bool.and_true] at *
      first
        | (simp only [Ad,Dy];(first | rw [iN hc1] | skip);(first | rw [if_pos hc2] | skip);first | done | rfl)
        | (try simp only [Bool.not_eq_true',Bool.not_eq_false'] at *
           first
           | (simp only [Ad,Dy, *,Bool.false_eq_true,↓reduceIte,Bool.true_or,Bool.or_true,Bool.false_or,Bool.or_false,Bool.true_and,Bool.and_true,Bool.false_and,Bool.and_false,Bool.not_true,Bool.not_false];done)
           | (simp [Ad,Dy, *];done)
           | (simp_all [Ad,Dy];done))
        | skip
    · skip
      refine AW.seq (AW.region (Qp Qf7 (Qp Vb ?_)))
      refine Qp (Hs Ai rfl rfl rfl rfl) ?_
      refine Qp G6 (Qp Bm (AOL.nil (Ae (A3 (fun hc3=>?_) fun hc3=>?_))))
      · skip
        refine AW.seq (AW.region (Qp Ar (AOL.nil (Ae (AW.ret (A7 (Aj ?_)))))))
        refine Qr (Iq _) ?_
        try simp only [Co,Bool.and_true] at *
        first
          | (simp only [Ad,Dy];(first | rw [iN hc1] | skip);(first | rw [iN hc2] | skip);(first | rw [if_pos hc3] | skip);first | done | rfl)
          | (try simp only [Bool.not_eq_true',Bool.not_eq_false'] at *
             first
             | (simp only [Ad,Dy, *,Bool.false_eq_true,↓reduceIte,Bool.true_or,Bool.or_true,Bool.false_or,Bool.or_false,Bool.true_and,Bool.and_true,Bool.false_and,Bool.and_false,Bool.not_true,Bool.not_false];done)
             | (simp [Ad,Dy, *];done)
             | (simp_all [Ad,Dy];done))
          | skip
      · skip
        refine AW.skip (Bv (Ae (AW.seq (AW.region (Qp Ar (AOL.nil (Ae (AW.ret ?_))))))))
        refine Qr (Iq _) ?_
        try simp only [Co,Bool.and_true] at *
        first
          | (simp only [Ad,Dy];(first | rw [iN hc1] | skip);(first | rw [iN hc2] | skip);(first | rw [iN hc3] | skip);first | done | rfl)
          | (try simp only [Bool.not_eq_true',Bool.not_eq_false'] at *
             first
             | (simp only [Ad,Dy, *,Bool.false_eq_true,↓reduceIte,Bool.true_or,Bool.or_true,Bool.false_or,Bool.or_false,Bool.true_and,Bool.and_true,Bool.false_and,Bool.and_false,Bool.not_true,Bool.not_false];done)
             | (simp [Ad,Dy, *];done)
             | (simp_all [Ad,Dy];done))
          | skip
theorem c94 (v:Vl):Ax Tryz.prog 141 [.agg (cV v)] (.int .i64 (An v)):=by
  refine Ax.body (n:=18) Ai Tryz.func141 rfl rfl rfl fun H=>?_
  refine AW.seq (AW.region (Qp (Gd [Iq _,Iq _,.str _]) (Qp Ar (AOL.nil (Ae (AW.seq (AW.seq (AW.region (Qp J2 ?_)))))))))
  refine Qp Bp (AOL.nil (Ae (AW.block (AW.seq (AW.seq (AW.region (Qp A6 (Qp Bm (AOL.nil ?_)))))))))
  refine Ae (A3 (fun hc1=>?_) fun hc1=>?_)
  · skip
    refine By (A3 (fun hc2=>?_) fun hc2=>?_)
    · skip
      refine AW.seq (AW.region (Qp Qf7 (Qp Vb ?_)))
      refine Qp (O6 rfl rfl) ?_
      refine AOL.nil (Ae (A3 (fun hc3=>?_) fun hc3=>?_))
      · skip
        refine AW.seq (AW.region (Qp Ar (AOL.nil (Ae (AW.ret (A7 (Aj ?_)))))))
        refine Qr (Iq _) ?_
        try simp only [Co,Bool.and_true] at *
        first
          | (simp only [Ad,An];(first | rw [if_pos hc1] | skip);(first | rw [if_pos hc2] | skip);(first | rw [if_pos hc3] | skip);first | done | rfl)
          | (try simp only [Bool.not_eq_true',Bool.not_eq_false'] at *
             first
             | (simp only [Ad,An, *,Bool.false_eq_true,↓reduceIte,Bool.true_or,Bool.or_true,Bool.false_or,Bool.or_false,Bool.true_and,Bool.and_true,Bool.false_and,Bool.and_false,Bool.not_true,Bool.not_false];done)
             | (simp [Ad,An, *];done)
             | (simp_all [Ad,An];done))
          | skip
      · skip
        refine AW.skip (Bv (Ae (AW.seq (AW.region (Qp (Cv [Iq _,Iq _,.str _]) ?_)))))
        refine Qp (Qc rfl (vY v)) ?_
        refine Qp Ar (AOL.nil (Ae (AW.ret ?_)))
        refine Qr (Iq _) ?_
        try simp only [Co,Bool.and_true] at *
        first
          | (simp only [Ad,An];(first | rw [if_pos hc1] | skip);(first | rw [if_pos hc2] | skip);(first | rw [iN hc3] | skip);first | done | rfl)
          | (try simp only [Bool.not_eq_true',Bool.not_eq_false'] at *
             first
             | (simp only [Ad,An, *,Bool.false_eq_true,↓reduceIte,Bool.true_or,Bool.or_true,Bool.false_or,Bool.or_false,Bool.true_and,Bool.and_true,Bool.false_and,Bool.and_false,Bool.not_true,Bool.not_false];done)
             | (simp [Ad,An, *];done)
             | (simp_all [Ad,An];done))
          | skip
    · skip
      refine AW.seq (AW.region (Qp A6 (Qp Bm (AOL.nil (Ae (A3 (fun hc4=>?_) fun hc4=>?_))))))
      · skip
        refine AW.seq (AW.region (Qp V1 (Qp Bp (Qp Cr (AOL.nil (Ae (A3 (fun hc5=>?_) fun hc5=>?_)))))))
        · skip
          refine AW.seq (AW.region (Qp Ar (AOL.nil (Ae (AW.ret (A7 (Aj ?_)))))))
          refine Qr (Iq _) ?_
          try simp only [Co,Bool.and_true] at *
          first
            | (simp only [Ad,An];(first | rw [if_pos hc1] | skip);(first | rw [iN hc2] | skip);(first | rw [if_pos hc4] | skip);(first | rw [if_pos hc5] | skip);first | done | rfl)
            | (try simp only [Bool.not_eq_true',Bool.not_eq_false'] at *
               first
               | (simp only [Ad,An, *,Bool.false_eq_true,↓reduceIte,Bool.true_or,Bool.or_true,Bool.false_or,Bool.or_false,Bool.true_and,Bool.and_true,Bool.false_and,Bool.and_false,Bool.not_true,Bool.not_false];done)
               | (simp [Ad,An, *];done)
               | (simp_all [Ad,An];done))
            | skip
        · skip
          refine AW.skip (Bv (Ae (AW.seq (AW.region (Qp (Cv [Iq _,Iq _,.str _]) ?_)))))
          refine Qp (Qc rfl (vY v)) ?_
          refine Qp Ar (AOL.nil (Ae (AW.ret ?_)))
          refine Qr (Iq _) ?_
          try simp only [Co,Bool.and_true] at *
          first
            | (simp only [Ad,An];(first | rw [if_pos hc1] | skip);(first | rw [iN hc2] | skip);(first | rw [if_pos hc4] | skip);(first | rw [iN hc5] | skip);first | done | rfl)
            | (try simp only [Bool.not_eq_true',Bool.not_eq_false'] at *
               first
               | (simp only [Ad,An, *,Bool.false_eq_true,↓reduceIte,Bool.true_or,Bool.or_true,Bool.false_or,Bool.or_false,Bool.true_and,Bool.and_true,Bool.false_and,Bool.and_false,Bool.not_true,Bool.not_false];done)
               | (simp [Ad,An, *];done)
               | (simp_all [Ad,An];done))
            | skip
      · skip
        refine AW.seq (AW.region (Qp Ar (AOL.nil (Ae (AW.ret (A7 (Aj ?_)))))))
        refine Qr (Iq _) ?_
        try simp only [Co,Bool.and_true] at *
        first
          | (simp only [Ad,An];(first | rw [if_pos hc1] | skip);(first | rw [iN hc2] | skip);(first | rw [iN hc4] | skip);first | done | rfl)
          | (try simp only [Bool.not_eq_true',Bool.not_eq_false'] at *
             first
             | (simp only [Ad,An, *,Bool.false_eq_true,↓reduceIte,Bool.true_or,Bool.or_true,Bool.false_or,Bool.or_false,Bool.true_and,Bool.and_true,Bool.false_and,Bool.and_false,Bool.not_true,Bool.not_false];done)
             | (simp [Ad,An, *];done)
             | (simp_all [Ad,An];done))
          | skip
  · skip
    refine AW.region (Qp A6 (Qp Bm (AOL.nil (Ae (A3 (fun hc6=>?_) fun hc6=>?_)))))
    · skip
      refine AW.seq (AW.region (Qp Qf7 (Qp Vb ?_)))
      refine Qp (O6 rfl rfl) ?_
      refine AOL.nil (Ae (A3 (fun hc7=>?_) fun hc7=>?_))
      · skip
        refine AW.seq (AW.region (Qp Ar (AOL.nil (Ae (AW.ret (A7 (Aj ?_)))))))
        refine Qr (Iq _) ?_
        try simp only [Co,Bool.and_true] at *
        first
          | (simp only [Ad,An];(first | rw [iN hc1] | skip);(first | rw [if_pos hc6] | skip);(first | rw [if_pos hc7] | skip);first | done | rfl)
          | (try simp only [Bool.not_eq_true',Bool.not_eq_false'] at *
             first
             | (simp only [Ad,An, *,Bool.false_eq_true,↓reduceIte,Bool.true_or,Bool.or_true,Bool.false_or,Bool.or_false,Bool.true_and,Bool.and_true,Bool.false_and,Bool.and_false,Bool.not_true,Bool.not_false];done)
             | (simp [Ad,An, *];done)
             | (simp_all [Ad,An];done))
          | skip
      · skip
        refine AW.skip (Bv (Ae (AW.seq (AW.region (Qp (Cv [Iq _,Iq _,.str _]) ?_)))))
        refine Qp (Qc rfl (vY v)) ?_
        refine Qp Ar (AOL.nil (Ae (AW.ret ?_)))
        refine Qr (Iq _) ?_
        try simp only [Co,Bool.and_true] at *
        first
          | (simp only [Ad,An];(first | rw [iN hc1] | skip);(first | rw [if_pos hc6] | skip);(first | rw [iN hc7] | skip);first | done | rfl)
          | (try simp only [Bool.not_eq_true',Bool.not_eq_false'] at *
             first
             | (simp only [Ad,An, *,Bool.false_eq_true,↓reduceIte,Bool.true_or,Bool.or_true,Bool.false_or,Bool.or_false,Bool.true_and,Bool.and_true,Bool.false_and,Bool.and_false,Bool.not_true,Bool.not_false];done)
             | (simp [Ad,An, *];done)
             | (simp_all [Ad,An];done))
          | skip
    · skip
      refine AW.seq (AW.region (Qp A6 (Qp Bm (AOL.nil (Ae (A3 (fun hc8=>?_) fun hc8=>?_))))))
      · skip
        refine AW.seq (AW.region (Qp V1 (Qp Bp (Qp Cr (AOL.nil (Ae (A3 (fun hc9=>?_) fun hc9=>?_)))))))
        · skip
          refine AW.seq (AW.region (Qp Ar (AOL.nil (Ae (AW.ret (A7 (Aj ?_)))))))
          refine Qr (Iq _) ?_
          try simp only [Co,Bool.and_true] at *
          first
            | (simp only [Ad,An];(first | rw [iN hc1] | skip);(first | rw [iN hc6] | skip);(first | rw [if_pos hc8] | skip);(first | rw [if_pos hc9] | skip);first | done | rfl)
            | (try simp only [Bool.not_eq_true',Bool.not_eq_false'] at *
               first
               | (simp only [Ad,An, *,Bool.false_eq_true,↓reduceIte,Bool.true_or,Bool.or_true,Bool.false_or,Bool.or_false,Bool.true_and,Bool.and_true,Bool.false_and,Bool.and_false,Bool.not_true,Bool.not_false];done)
               | (simp [Ad,An, *];done)
               | (simp_all [Ad,An];done))
            | skip
        · skip
          refine AW.skip (Bv (Ae (AW.seq (AW.region (Qp (Cv [Iq _,Iq _,.str _]) ?_)))))
          refine Qp (Qc rfl (vY v)) ?_
          refine Qp Ar (AOL.nil (Ae (AW.ret ?_)))
          refine Qr (Iq _) ?_
          try simp only [Co,Bool.and_true] at *
          first
            | (simp only [Ad,An];(first | rw [iN hc1] | skip);(first | rw [iN hc6] | skip);(first | rw [if_pos hc8] | skip);(first | rw [iN hc9] | skip);first | done | rfl)
            | (try simp only [Bool.not_eq_true',Bool.not_eq_false'] at *
               first
               | (simp only [Ad,An, *,Bool.false_eq_true,↓reduceIte,Bool.true_or,Bool.or_true,Bool.false_or,Bool.or_false,Bool.true_and,Bool.and_true,Bool.false_and,Bool.and_false,Bool.not_true,Bool.not_false];done)
               | (simp [Ad,An, *];done)
               | (simp_all [Ad,An];done))
            | skip
      · skip
        refine AW.seq (AW.region (Qp Ar (AOL.nil (Ae (AW.ret (A7 (Aj ?_)))))))
        refine Qr (Iq _) ?_
        try simp only [Co,Bool.and_true] at *
        first
          | (simp only [Ad,An];(first | rw [iN hc1] | skip);(first | rw [iN hc6] | skip);(first | rw [iN hc8] | skip);first | done | rfl)
          | (try simp only [Bool.not_eq_true',Bool.not_eq_false'] at *
             first
             | (simp only [Ad,An, *,Bool.false_eq_true,↓reduceIte,Bool.true_or,Bool.or_true,Bool.false_or,Bool.or_false,Bool.true_and,Bool.and_true,Bool.false_and,Bool.and_false,Bool.not_true,Bool.not_false];done)
             | (simp [Ad,An, *];done)
             | (simp_all [Ad,An];done))
          | skip
theorem c75 (b:Bool):Ax Tryz.prog 84 [.bool b] (.agg (cV (Dv b))):=by
  refine Ax.body (n:=8) Ai Tryz.func84 rfl rfl rfl fun H=>?_
  refine AW.seq (AW.region ?_)
  refine Qe (Am (l:=[.int .i64 0,.int .i64 0,.str []]) (by kernel_rfl)) ?_
  rintro _ _ ⟨b2,rfl,rfl⟩
  refine AOL.nil (Ae (AW.seq (AW.region (Qp (Fr [Iq _,Iq _,.str _]) ?_))))
  refine Qe (Am (l:=[.int .i64 0,.int .i64 0,.str []]) (by kernel_rfl)) ?_
  rintro _ _ ⟨b3,rfl,rfl⟩
  refine Cz 0 [Iq _,Iq _,.str _] (_::_::_) ?_
  refine AOL.nil (Ae (AW.seq (AW.seq (AW.region (Qp Bu (AOL.nil (Ae (A3 (fun hc1=>?_) fun hc1=>?_))))))))
  · skip
    refine AW.region (Qp H9 ?_)
    refine Cz 0 [Iq _,Iq _,.str _] (_::_::_) ?_
    refine AOL.nil (Ae (AW.seq (AW.region ?_)))
    refine AOL.Aah (Bs (k:=0) (l:=[Iq _,Iq _,.str _]) Ai rfl rfl rfl rfl rfl) rfl rfl ?_
    refine Cz 1 [Iq _,Iq _,.str _] (_::_::_) ?_
    refine AOL.nil (Ae (AW.ret ?_))
    refine ⟨.inr rfl,[.agg [Iq _,Iq _,.str _]],.cons (.box _ _ _ 1 _ _ _ _ rfl rfl rfl rfl rfl rfl) <| .nil,.cons _ (.cons _ (.refl _)),?_⟩
    try simp only [Co,Bool.and_true] at *
    first
      | (simp only [Ad,Dv,cV];(first | rw [if_pos hc1] | skip);first | done | rfl)
      | (try simp only [Bool.not_eq_true',Bool.not_eq_false'] at *
         first
         | (simp only [Ad,Dv,cV, *,Bool.false_eq_true,↓reduceIte,Bool.true_or,Bool.or_true,Bool.false_or,Bool.or_false,Bool.true_and,Bool.and_true,Bool.false_and,Bool.and_false,Bool.not_true,Bool.not_false];done)
         | (simp [Ad,Dv,cV, *];done)
         | (simp_all [Ad,Dv,cV];done))
      | skip
  · skip
    refine By (AW.seq (AW.region ?_))
    refine AOL.Aah (Bs (k:=0) (l:=[Iq _,Iq _,.str _]) Ai rfl rfl rfl rfl rfl) rfl rfl ?_
    refine Cz 1 [Iq _,Iq _,.str _] (_::_::_) ?_
    refine AOL.nil (Ae (AW.ret ?_))
    refine ⟨.inr rfl,[.agg [Iq _,Iq _,.str _]],.cons (.box _ _ _ 1 _ _ _ _ rfl rfl rfl rfl rfl rfl) <| .nil,.cons _ (.cons _ (.refl _)),?_⟩
    try simp only [Co,Bool.and_true] at *
    first
      | (simp only [Ad,Dv,cV];(first | rw [iN hc1] | skip);first | done | rfl)
      | (try simp only [Bool.not_eq_true',Bool.not_eq_false'] at *
         first
         | (simp only [Ad,Dv,cV, *,Bool.false_eq_true,↓reduceIte,Bool.true_or,Bool.or_true,Bool.false_or,Bool.or_false,Bool.true_and,Bool.and_true,Bool.false_and,Bool.and_false,Bool.not_true,Bool.not_false];done)
         | (simp [Ad,Dv,cV, *];done)
         | (simp_all [Ad,Dv,cV];done))
      | skip
theorem c42 (b:Bool):Ax Tryz.prog 48 [.bool b] (.agg (cV (Dv b))):=by
  refine Ax.body (n:=5) Ai Tryz.func48 rfl rfl rfl fun H=>?_
  refine AW.seq (AW.region ?_)
  refine Qe (Am (l:=[.int .i64 0,.int .i64 0,.str []]) (by kernel_rfl)) ?_
  rintro _ _ ⟨b2,rfl,rfl⟩
  refine AOL.nil (Ae (AW.seq (AW.region (Qp Bu ?_))))
  refine Qp (Qc rfl (c75 b)) ?_
  refine Cz 0 [Iq _,Iq _,.str _] (_::_) ?_
  refine AOL.nil (Ae (AW.ret ?_))
  refine ⟨.inr rfl,[.agg [Iq _,Iq _,.str _]],.cons (.box _ _ _ 0 _ _ _ _ rfl rfl rfl rfl rfl rfl) <| .nil,.cons _ (.refl _),?_⟩
  try simp only [Co,Bool.and_true] at *
  first
    | (simp only [Ad,Dv,cV];skip;first | done | rfl)
    | (try simp only [Bool.not_eq_true',Bool.not_eq_false'] at *
       first
       | (simp only [Ad,Dv,cV, *,Bool.false_eq_true,↓reduceIte,Bool.true_or,Bool.or_true,Bool.false_or,Bool.or_false,Bool.true_and,Bool.and_true,Bool.false_and,Bool.and_false,Bool.not_true,Bool.not_false];done)
       | (simp [Ad,Dv,cV, *];done)
       | (simp_all [Ad,Dv,cV];done))
    | skip
theorem c79 (v:Vl):Ax Tryz.prog 52 [.agg (cV v)] (.int .i64 (An v)):=by
  refine Ax.body (n:=47) Ai Tryz.func52 rfl rfl rfl fun H=>?_
  refine AW.seq (AW.region (Qp (Gd [Iq _,Iq _,.str _]) (Qp Ar (AOL.nil (Ae (AW.seq (AW.seq (AW.region (Qp J2 ?_)))))))))
  refine Qp Bp (Qp Ck (Qp Bu (Qg [] Qw J2 (Qg [(7,_)] Qw Bp (Qg [(8,_)] Qw G6 (Qp E2 (AOL.nil (Ae (A3 (fun hc1=>?_) fun hc1=>?_)))))))))
  · skip
    refine AW.seq (AW.region (Qp Ar (AOL.nil (Ae (Du ?_)))))
    refine Qr (Iq _) ?_
    rw [←If]
    try simp only [Co,Bool.and_true] at *
    first
      | (simp only [Ad,Cg];(first | rw [if_pos hc1] | skip);first | done | rfl)
      | (try simp only [Bool.not_eq_true',Bool.not_eq_false'] at *
         first
         | (simp only [Ad,Cg, *,Bool.false_eq_true,↓reduceIte,Bool.true_or,Bool.or_true,Bool.false_or,Bool.or_false,Bool.true_and,Bool.and_true,Bool.false_and,Bool.and_false,Bool.not_true,Bool.not_false];done)
         | (simp [Ad,Cg, *];done)
         | (simp_all [Ad,Cg];done))
      | skip
  · skip
    refine By (AW.seq (AW.seq (AW.region (Qp J2 (Qp Bp (Qp A6 (AOL.nil (Ae (A3 (fun hc2=>?_) fun hc2=>?_)))))))))
    · skip
      refine AW.seq (AW.seq (AW.region (Qp V1 (Qp Bp (Qp Cr (AOL.nil (Ae (A3 (fun hc3=>?_) fun hc3=>?_))))))))
      · skip
        refine AW.seq (AW.region (Qp Ar (AOL.nil (Ae (Du (Aj ?_))))))
        refine Qr (Iq _) ?_
        rw [←If]
        try simp only [Co,Bool.and_true] at *
        first
          | (simp only [Ad,Cg];(first | rw [iN hc1] | skip);(first | rw [if_pos hc2] | skip);(first | rw [if_pos hc3] | skip);first | done | rfl)
          | (try simp only [Bool.not_eq_true',Bool.not_eq_false'] at *
             first
             | (simp only [Ad,Cg, *,Bool.false_eq_true,↓reduceIte,Bool.true_or,Bool.or_true,Bool.false_or,Bool.or_false,Bool.true_and,Bool.and_true,Bool.false_and,Bool.and_false,Bool.not_true,Bool.not_false];done)
             | (simp [Ad,Cg, *];done)
             | (simp_all [Ad,Cg];done))
          | skip
      · skip
        refine By (AW.seq (AW.seq (AW.region (Qp Qf7 (Qp Vb ?_)))))
        refine Qp (Hs Ai rfl rfl rfl rfl) ?_
        refine Qp G6 (AOL.nil (Ae (A3 (fun hc4=>?_) fun hc4=>?_)))
        · skip
          refine AW.seq (AW.region (Qp Ar (AOL.nil (Ae (Du (Aj ?_))))))
          refine Qr (Iq _) ?_
          rw [←If]
          try simp only [Co,Bool.and_true] at *
          first
            | (simp only [Ad,Cg];(first | rw [iN hc1] | skip);(first | rw [if_pos hc2] | skip);(first | rw [iN hc3] | skip);(first | rw [if_pos hc4] | skip);first | done | rfl)
            | (try simp only [Bool.not_eq_true',Bool.not_eq_false'] at *
               first
               | (simp only [Ad,Cg, *,Bool.false_eq_true,↓reduceIte,Bool.true_or,Bool.or_true,Bool.false_or,Bool.or_false,Bool.true_and,Bool.and_true,Bool.false_and,Bool.and_false,Bool.not_true,Bool.not_false];done)
               | (simp [Ad,Cg, *];done)
               | (simp_all [Ad,Cg];done))
            | skip
        · skip
          refine By (AW.seq (AW.region (Qp Ar (AOL.nil (Ae (Du ?_))))))
          refine Qr (Iq _) ?_
          rw [←If]
          try simp only [Co,Bool.and_true] at *
          first
            | (simp only [Ad,Cg];(first | rw [iN hc1] | skip);(first | rw [if_pos hc2] | skip);(first | rw [iN hc3] | skip);(first | rw [iN hc4] | skip);first | done | rfl)
            | (try simp only [Bool.not_eq_true',Bool.not_eq_false'] at *
               first
               | (simp only [Ad,Cg, *,Bool.false_eq_true,↓reduceIte,Bool.true_or,Bool.or_true,Bool.false_or,Bool.or_false,Bool.true_and,Bool.and_true,Bool.false_and,Bool.and_false,Bool.not_true,Bool.not_false];done)
               | (simp [Ad,Cg, *];done)
               | (simp_all [Ad,Cg];done))
            | skip
    · skip
      refine By (AW.seq (AW.seq (AW.region (Qp Qf7 (Qp Vb ?_)))))
      refine Qp (O6 rfl rfl) ?_
      refine AOL.nil (Ae (A3 (fun hc5=>?_) fun hc5=>?_))
      · skip
        refine AW.seq (AW.region (Qp Ar (AOL.nil (Ae (Du ?_)))))
        refine Qr (Iq _) ?_
        rw [←If]
        try simp only [Co,Bool.and_true] at *
        first
          | (simp only [Ad,Cg];(first | rw [iN hc1] | skip);(first | rw [iN hc2] | skip);(first | rw [if_pos hc5] | skip);first | done | rfl)
          | (try simp only [Bool.not_eq_true',Bool.not_eq_false'] at *
             first
             | (simp only [Ad,Cg, *,Bool.false_eq_true,↓reduceIte,Bool.true_or,Bool.or_true,Bool.false_or,Bool.or_false,Bool.true_and,Bool.and_true,Bool.false_and,Bool.and_false,Bool.not_true,Bool.not_false];done)
             | (simp [Ad,Cg, *];done)
             | (simp_all [Ad,Cg];done))
          | skip
      · skip
        refine By (AW.seq (AW.seq (AW.region (Qp J2 (Qp Bp (Qp A6 (Qp Bu (Qg [] Qw V1 (Qg [(28,_)] Qw Bp ?_)))))))))
        refine Qg [(29,_)] Qw Ck (Qg [(30,_)] Qw Bu (Qg [] Qw V1 (Qg [(32,_)] Qw Bp (Qg [(33,_)] Qw G6 (Qg [(31,_),(34,_)] Qw E2 (Qp Gg (Qp Bu (Qg [] Qw V1 (Qg [(38,_)] Qw Bp ?_)))))))))
        refine Qg [(39,_)] Qw Ck (Qp E2 (Qp Bu (Qg [] Qw V1 (Qg [(43,_)] Qw Bp (Qg [(44,_)] Qw G6 (Qp E2 (AOL.nil (Ae (A3 (fun hc6=>?_) fun hc6=>?_)))))))))
        · skip
          refine AW.seq (AW.region (Qp Ar (AOL.nil (Ae (Du ?_)))))
          refine Qr (Iq _) ?_
          rw [←If]
          try simp only [Co,Bool.and_true] at *
          first
            | (simp only [Ad,Cg];(first | rw [iN hc1] | skip);(first | rw [iN hc2] | skip);(first | rw [iN hc5] | skip);(first | rw [if_pos hc6] | skip);first | done | rfl)
            | (try simp only [Bool.not_eq_true',Bool.not_eq_false'] at *
               first
               | (simp only [Ad,Cg, *,Bool.false_eq_true,↓reduceIte,Bool.true_or,Bool.or_true,Bool.false_or,Bool.or_false,Bool.true_and,Bool.and_true,Bool.false_and,Bool.and_false,Bool.not_true,Bool.not_false];done)
               | (simp [Ad,Cg, *];done)
               | (simp_all [Ad,Cg];done))
            | skip
        · skip
          refine By (AW.seq (AW.region (Qp Ar (AOL.nil (Ae (AW.ret ?_))))))
          refine Qr (Iq _) ?_
          rw [←If]
          try simp only [Co,Bool.and_true] at *
          first
            | (simp only [Ad,Cg];(first | rw [iN hc1] | skip);(first | rw [iN hc2] | skip);(first | rw [iN hc5] | skip);(first | rw [iN hc6] | skip);first | done | rfl)
            | (try simp only [Bool.not_eq_true',Bool.not_eq_false'] at *
               first
               | (simp only [Ad,Cg, *,Bool.false_eq_true,↓reduceIte,Bool.true_or,Bool.or_true,Bool.false_or,Bool.or_false,Bool.true_and,Bool.and_true,Bool.false_and,Bool.and_false,Bool.not_true,Bool.not_false];done)
               | (simp [Ad,Cg, *];done)
               | (simp_all [Ad,Cg];done))
            | skip
theorem c114 (k:Int):Ax Tryz.prog 155 [.int .i64 k] (.bool (Dd k)):=by
  refine Ax.body (n:=9) Ai Tryz.func155 rfl rfl rfl fun H=>?_
  refine AW.seq (AW.region (Qp Bm (AOL.nil (Ae (AW.seq (AW.region (Qp A0 (Qp Nj (Qp Bu ?_)))))))))
  refine Qg [] Qw A0 (Qg [(6,_)] Qw Ph (Qp Gg (Qp Bm (AOL.nil (Ae (AW.ret ?_))))))
  refine Qr (.bool _) ?_
  try simp only [Co,Bool.and_true] at *
  first
    | (simp only [Ad,Dd];skip;first | done | rfl)
    | (try simp only [Bool.not_eq_true',Bool.not_eq_false'] at *
       first
       | (simp only [Ad,Dd, *,Bool.false_eq_true,↓reduceIte,Bool.true_or,Bool.or_true,Bool.false_or,Bool.or_false,Bool.true_and,Bool.and_true,Bool.false_and,Bool.and_false,Bool.not_true,Bool.not_false];done)
       | (simp [Ad,Dd, *];done)
       | (simp_all [Ad,Dd];done))
    | skip
theorem c124 (k:Int)(v:Vl):Ax Tryz.prog 166 [.int .i64 k,.agg (cV v)] (.bool (Eh k v)):=by
  refine Ax.body (n:=20) Ai Tryz.func166 rfl rfl rfl fun H=>?_
  refine AW.seq (AW.region (Qp (Gd [Iq _,Iq _,.str _]) (Qp Bm (AOL.nil (Ae (AW.seq (AW.region (Qp J2 (Qp Bp ?_)))))))))
  refine Qp A6 (Qp Bu (Qg [] Qw A0 (Qg [(9,_)] Qw Cr (Qg [(10,_)] Qw Bu (Qg [] Qw A0 (Qg [(12,_)] Qw Cr (Qg [(11,_),(13,_)] Qw Gg (Qg [(14,_)] Qw Bu (Qg [] Qw A0 ?_)))))))))
  refine Qg [(16,_)] Qw Cr (Qg [(15,_),(17,_)] Qw Gg (Qp E2 (Qp Bm (AOL.nil (Ae (AW.ret ?_))))))
  refine Qr (.bool _) ?_
  try simp only [Co,Bool.and_true] at *
  first
    | (simp only [Ad,Eh];skip;first | done | rfl)
    | (try simp only [Bool.not_eq_true',Bool.not_eq_false'] at *
       first
       | (simp only [Ad,Eh, *,Bool.false_eq_true,↓reduceIte,Bool.true_or,Bool.or_true,Bool.false_or,Bool.or_false,Bool.true_and,Bool.and_true,Bool.false_and,Bool.and_false,Bool.not_true,Bool.not_false];done)
       | (simp [Ad,Eh, *];done)
       | (simp_all [Ad,Eh];done))
    | skip
theorem c101 (k:Int)(v:Vl):Ax Tryz.prog 144 [.int .i64 k,.agg (cV v)] (.bool (F3 k v)):=by
  refine Ax.body (n:=20) Ai Tryz.func144 rfl rfl rfl fun H=>?_
  refine AW.seq (AW.region (Qp (Gd [Iq _,Iq _,.str _]) (Qp Bm (AOL.nil (Ae (AW.seq (AW.region (Qp J2 (Qp Bp ?_)))))))))
  refine Qp A6 (Qp Bu (Qg [] Qw A0 (Qg [(9,_)] Qw A6 (Qp E2 (Qp Bu (Qg [] Qw A0 (Qg [(13,_)] Qw A6 (Qp E2 (Qp Bu ?_)))))))))
  refine Qg [] Qw A0 (Qg [(17,_)] Qw A6 (Qp E2 (Qp Bm (AOL.nil (Ae (AW.ret ?_))))))
  refine Qr (.bool _) ?_
  try simp only [Co,Bool.and_true] at *
  first
    | (simp only [Ad,F3];skip;first | done | rfl)
    | (try simp only [Bool.not_eq_true',Bool.not_eq_false'] at *
       first
       | (simp only [Ad,F3, *,Bool.false_eq_true,↓reduceIte,Bool.true_or,Bool.or_true,Bool.false_or,Bool.or_false,Bool.true_and,Bool.and_true,Bool.false_and,Bool.and_false,Bool.not_true,Bool.not_false];done)
       | (simp [Ad,F3, *];done)
       | (simp_all [Ad,F3];done))
    | skip
theorem c99 (k:Int)(v:Vl):Ax Tryz.prog 133 [.int .i64 k,.agg (cV v)] (.bool (Dk k v)):=by
  refine Ax.body (n:=16) Ai Tryz.func133 rfl rfl rfl fun H=>?_
  refine AW.seq (AW.region (Qp (Gd [Iq _,Iq _,.str _]) (Qp Bm (AOL.nil (Ae (AW.seq (AW.region (Qp J2 (Qp Bp ?_)))))))))
  refine Qp A6 (Qp Bu (Qg [] Qw A0 (Qg [(9,_)] Qw A6 (Qp E2 (Qp Bu (Qg [] Qw A0 (Qg [(13,_)] Qw A6 (Qp E2 (Qp Bm ?_)))))))))
  refine AOL.nil (Ae (AW.ret ?_))
  refine Qr (.bool _) ?_
  try simp only [Co,Bool.and_true] at *
  first
    | (simp only [Ad,Dk];skip;first | done | rfl)
    | (try simp only [Bool.not_eq_true',Bool.not_eq_false'] at *
       first
       | (simp only [Ad,Dk, *,Bool.false_eq_true,↓reduceIte,Bool.true_or,Bool.or_true,Bool.false_or,Bool.or_false,Bool.true_and,Bool.and_true,Bool.false_and,Bool.and_false,Bool.not_true,Bool.not_false];done)
       | (simp [Ad,Dk, *];done)
       | (simp_all [Ad,Dk];done))
    | skip
theorem c119 (k:Int)(v:Vl):Ax Tryz.prog 160 [.int .i64 k,.agg (cV v)] (.agg (cV (En k v))):=by
  refine Ax.body (n:=9) Ai Tryz.func160 rfl rfl rfl fun H=>?_
  refine AW.seq (AW.region (Qp (Gd [Iq _,Iq _,.str _]) ?_))
  refine Qe (Am (l:=[.int .i64 0,.int .i64 0,.str []]) (by kernel_rfl)) ?_
  rintro _ _ ⟨b4,rfl,rfl⟩
  refine AOL.nil (Ae (AW.seq (AW.seq (AW.region (Qp A0 (Qp A6 (AOL.nil (Ae (A3 (fun hc1=>?_) fun hc1=>?_)))))))))
  · skip
    refine AW.seq (AW.region (Qp (Fr [Iq _,Iq _,.str _]) ?_))
    refine Cz 0 [Iq _,Iq _,.str _] (_::_) ?_
    refine AOL.nil (Ae (Du ?_))
    refine ⟨.inr rfl,[.agg [Iq _,Iq _,.str _]],.cons (.box _ _ _ 0 _ _ _ _ rfl rfl rfl rfl rfl rfl) <| .nil,.cons _ (.refl _),?_⟩
    try simp only [Co,Bool.and_true] at *
    first
      | (simp only [Ad,En,cV,v0];(first | rw [if_pos hc1] | skip);first | done | rfl)
      | (try simp only [Bool.not_eq_true',Bool.not_eq_false'] at *
         first
         | (simp only [Ad,En,cV,v0, *,Bool.false_eq_true,↓reduceIte,Bool.true_or,Bool.or_true,Bool.false_or,Bool.or_false,Bool.true_and,Bool.and_true,Bool.false_and,Bool.and_false,Bool.not_true,Bool.not_false];done)
         | (simp [Ad,En,cV,v0, *];done)
         | (simp_all [Ad,En,cV,v0];done))
      | skip
  · skip
    refine By (AW.seq (AW.region (Qp (Cv [Iq _,Iq _,.str _]) ?_)))
    refine Cz 0 [Iq _,Iq _,.str _] (_::_) ?_
    refine AOL.nil (Ae (AW.ret ?_))
    refine ⟨.inr rfl,[.agg [Iq _,Iq _,.str _]],.cons (.box _ _ _ 0 _ _ _ _ rfl rfl rfl rfl rfl rfl) <| .nil,.cons _ (.refl _),?_⟩
    try simp only [Co,Bool.and_true] at *
    first
      | (simp only [Ad,En,cV,v0];(first | rw [iN hc1] | skip);first | done | rfl)
      | (try simp only [Bool.not_eq_true',Bool.not_eq_false'] at *
         first
         | (simp only [Ad,En,cV,v0, *,Bool.false_eq_true,↓reduceIte,Bool.true_or,Bool.or_true,Bool.false_or,Bool.or_false,Bool.true_and,Bool.and_true,Bool.false_and,Bool.and_false,Bool.not_true,Bool.not_false];done)
         | (simp [Ad,En,cV,v0, *];done)
         | (simp_all [Ad,En,cV,v0];done))
      | skip
theorem c115 (k:Int)(v:Vl):Ax Tryz.prog 156 [.int .i64 k,.agg (cV v)] (.int .i64 (Db k v)):=by
  refine Ax.body (n:=15) Ai Tryz.func156 rfl rfl rfl fun H=>?_
  refine AW.seq (AW.region (Qp (Gd [Iq _,Iq _,.str _]) (Qp Ar (AOL.nil (Ae (AW.seq (AW.seq (AW.region (Qp (Cv [Iq _,Iq _,.str _]) ?_)))))))))
  refine Qp (Qc rfl (c94 v)) ?_
  refine Qp Ar (AOL.nil (Ae (AW.seq (AW.region (Qp A0 (Qp Cr (AOL.nil (Ae (A3 (fun hc1=>?_) fun hc1=>?_)))))))))
  · skip
    refine AW.seq (AW.region (Qp A0 (Qp Ar (AOL.nil (Ae (Du ?_))))))
    refine Qr (Iq _) ?_
    try simp only [Co,Bool.and_true] at *
    first
      | (simp only [Ad,Db];(first | rw [if_pos hc1] | skip);first | done | rfl)
      | (try simp only [Bool.not_eq_true',Bool.not_eq_false'] at *
         first
         | (simp only [Ad,Db, *,Bool.false_eq_true,↓reduceIte,Bool.true_or,Bool.or_true,Bool.false_or,Bool.or_false,Bool.true_and,Bool.and_true,Bool.false_and,Bool.and_false,Bool.not_true,Bool.not_false];done)
         | (simp [Ad,Db, *];done)
         | (simp_all [Ad,Db];done))
      | skip
  · skip
    refine By (AW.seq (AW.seq (AW.region (Qp A0 (Qp (Cv [Iq _,Iq _,.str _]) ?_)))))
    refine Qp (Qc rfl (c124 k v)) ?_
    refine Qp Hp (AOL.nil (Ae (A3 (fun hc2=>?_) fun hc2=>?_)))
    · skip
      refine AW.seq (AW.region (Qp Ar (AOL.nil (Ae (Du ?_)))))
      refine Qr (Iq _) ?_
      try simp only [Co,Bool.and_true] at *
      first
        | (simp only [Ad,Db];(first | rw [iN hc1] | skip);(first | rw [if_pos hc2] | skip);first | done | rfl)
        | (try simp only [Bool.not_eq_true',Bool.not_eq_false'] at *
           first
           | (simp only [Ad,Db, *,Bool.false_eq_true,↓reduceIte,Bool.true_or,Bool.or_true,Bool.false_or,Bool.or_false,Bool.true_and,Bool.and_true,Bool.false_and,Bool.and_false,Bool.not_true,Bool.not_false];done)
           | (simp [Ad,Db, *];done)
           | (simp_all [Ad,Db];done))
        | skip
    · skip
      refine By (AW.seq (AW.region (Qp Ar (AOL.nil (Ae (AW.ret ?_))))))
      refine Qr (Iq _) ?_
      try simp only [Co,Bool.and_true] at *
      first
        | (simp only [Ad,Db];(first | rw [iN hc1] | skip);(first | rw [iN hc2] | skip);first | done | rfl)
        | (try simp only [Bool.not_eq_true',Bool.not_eq_false'] at *
           first
           | (simp only [Ad,Db, *,Bool.false_eq_true,↓reduceIte,Bool.true_or,Bool.or_true,Bool.false_or,Bool.or_false,Bool.true_and,Bool.and_true,Bool.false_and,Bool.and_false,Bool.not_true,Bool.not_false];done)
           | (simp [Ad,Db, *];done)
           | (simp_all [Ad,Db];done))
        | skip

end Go.Proofs.YtjedflcpjlgokaaGreatDoor
