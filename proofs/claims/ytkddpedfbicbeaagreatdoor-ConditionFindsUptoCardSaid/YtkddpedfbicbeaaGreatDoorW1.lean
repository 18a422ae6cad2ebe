/-
  Walks of layers 1, 7 and 8: the functions without loops. No condition.
-/
import Derived.Test.YtkddpedfbicbeaaGreatDoorAz
import Derived.Test.YtkddpedfbicbeaaGreatDoorK02
import Derived.Test.YtkddpedfbicbeaaGreatDoorTab
import Derived.KernelRfl
namespace Go.Proofs.YtkddpedfbicbeaaGreatDoor
open Go Go.Aw
set_option maxHeartbeats 400000
set_option maxRecDepth 20000
set_option linter.unusedVariables false
set_option linter.unusedSimpArgs false

theorem c52 (op:Int):Av Tryz.prog 109 [.int .i64 op] (.tuple [.bool (Dn op).1,.bool (Dn op).2]):=by
 refine Av.body (n:=11) Ai Tryz.func109 rfl rfl rfl fun H=>?_
 refine Ah (Qp Be (Qp Be (Ag (AW.seq (Ah (Qp A0 (Ag (AW.block (AW.seq ?_)))))))))
 refine Ah (Qp A5 (Qp Be (Ag (A3 (fun hc1=>?_) fun hc1=>?_))))
 ·
  refine Bx (A3 (fun hc2=>?_) fun hc2=>?_)
  ·
   refine Ah (Qp Be (Qp Be (Ag (AW.ret (Ba (Aj ?_))))))
   refine Km (.bool _) (.bool _) ?_
   simp_all [Ad,Dn]
  ·
   refine AW.seq (Ah (Qp A5 (Qp Be (Ag (A3 (fun hc3=>?_) fun hc3=>?_)))))
   ·
    refine Bx (A3 (fun hc4=>?_) fun hc4=>?_)
    ·
     refine Ah (Qp Be (Qp Be (Ag (AW.ret (Ba (Aj ?_))))))
     refine Km (.bool _) (.bool _) ?_
     simp_all [Ad,Dn]
    ·
     refine AW.skip (Bq (Ae (Ah (Qp Be (Qp Be (Ag (AW.ret ?_)))))))
     refine Km (.bool _) (.bool _) ?_
     simp_all [Ad,Dn]
   ·
    refine AW.region (Qp A5 (Qp Be (Ag (A3 (fun hc5=>?_) fun hc5=>?_))))
    ·
     refine Ah (Qp Be (Qp Be (Ag (AW.ret (Ba (Aj ?_))))))
     refine Km (.bool _) (.bool _) ?_
     simp_all [Ad,Dn]
    ·
     refine AW.skip (Bq (Ae (Ah (Qp Be (Qp Be (Ag (AW.ret ?_)))))))
     refine Km (.bool _) (.bool _) ?_
     simp_all [Ad,Dn]
 ·
  refine AW.region (Qp A5 (Qp Be (Ag (A3 (fun hc6=>?_) fun hc6=>?_))))
  ·
   refine Ah (Qp Be (Qp Be (Ag (AW.ret (Ba (Aj ?_))))))
   refine Km (.bool _) (.bool _) ?_
   simp_all [Ad,Dn]
  ·
   refine AW.seq (Ah (Qp A5 (Qp Be (Ag (A3 (fun hc7=>?_) fun hc7=>?_)))))
   ·
    refine Bx (A3 (fun hc8=>?_) fun hc8=>?_)
    ·
     refine Ah (Qp Be (Qp Be (Ag (AW.ret (Ba (Aj ?_))))))
     refine Km (.bool _) (.bool _) ?_
     simp_all [Ad,Dn]
    ·
     refine AW.skip (Bq (Ae (Ah (Qp Be (Qp Be (Ag (AW.ret ?_)))))))
     refine Km (.bool _) (.bool _) ?_
     simp_all [Ad,Dn]
   ·
    refine AW.region (Qp A5 (Qp Be (Ag (A3 (fun hc9=>?_) fun hc9=>?_))))
    ·
     refine Ah (Qp Be (Qp Be (Ag (AW.ret (Ba (Aj ?_))))))
     refine Km (.bool _) (.bool _) ?_
     simp_all [Ad,Dn]
    ·
     refine AW.skip (Bq (Ae (Ah (Qp Be (Qp Be (Ag (AW.ret ?_)))))))
     refine Km (.bool _) (.bool _) ?_
     simp_all [Ad,Dn]
theorem c84 (op:Int):Av Tryz.prog 160 [.int .i64 op] (.tuple [.bool (Dn op).1,.bool (Dn op).2]):=by
 refine Av.body (n:=21) Ai Tryz.func160 rfl rfl rfl fun H=>?_
 refine Ah (Qp Be (Qp Be (Df (Qp A0 (Qp A5 (Qp Bp (Qg [] Qw A0 (Qg [(8,_)] Qw A5 (Qp E2 ?_)))))))))
 refine Qp Be (Df (Qp Bp (Qp Bp (Qg [] Qw A0 (Qg [(13,_)] Qw A5 (Qp E2 (Qp Bp (Qg [] Qw A0 (Qg [(17,_)] Qw A5 ?_)))))))))
 refine Qp E2 (Qp Bp (Qp Be (Qp Be (Ag (AW.ret ?_)))))
 refine Km (.bool _) (.bool _) ?_
 by_cases h1:op=1 <;> by_cases h2:op=2 <;> by_cases h3:op=3 <;> by_cases h4:op=4 <;> simp_all [Dn,Ad]
theorem c81 (op:Int):Av Tryz.prog 108 [.int .i64 op] (.tuple [.int .i64 (D4 op),.bool (decide (0≤op∧op≤12))]):=by
 refine Av.body (n:=17) Ai Tryz.func108 rfl rfl rfl fun H=>?_
 refine Ah (Qp At (Qp Be (Ag (AW.seq (AW.block (Ah (Qp A0 (Qp Cj (Qp Bp ?_)))))))))
 refine Qg [] Qw A0 (Qg [(8,_)] Qw Hg (Qp E2 (Qp Be (Ag (A3 (fun hc1=>?_) fun hc1=>?_)))))
 ·
  refine Ah (Qp At (Qp Be (Ag (AW.ret (Ba (Aj ?_))))))
  refine Km (Iq _) (.bool _) ?_
  simp only [Bool.or_eq_true,Bool.or_eq_false_iff,decide_eq_true_eq,decide_eq_false_iff_not,beq_iff_eq,beq_eq_false_iff_ne] at *
  simp only [Ad,D4,AV.tuple.injEq,List.cons.injEq,AV.int.injEq,AV.bool.injEq,true_and,and_true]
  refine ⟨?_,?_⟩
  ·
   repeat' split
   all_goals omega
  · simp <;> omega
 ·
  refine Ah (Qp A0 (Qp Cj (Qp Be (Ag (A3 (fun hc2=>?_) fun hc2=>?_)))))
  ·
   refine Ah (Qp At (Qp Be (Ag (AW.ret (Ba (Aj ?_))))))
   refine Km (Iq _) (.bool _) ?_
   simp only [Bool.or_eq_true,Bool.or_eq_false_iff,decide_eq_true_eq,decide_eq_false_iff_not,beq_iff_eq,beq_eq_false_iff_ne] at *
   simp only [Ad,D4,AV.tuple.injEq,List.cons.injEq,AV.int.injEq,AV.bool.injEq,true_and,and_true]
   refine ⟨?_,?_⟩
   ·
    repeat' split
    all_goals omega
   · simp <;> omega
  ·
   refine Ah (Qp A0 (Qp A5 (Qp Be (Ag (A3 (fun hc3=>?_) fun hc3=>?_)))))
   ·
    refine Ah (Qp At (Qp Be (Ag (AW.ret (Ba (Aj ?_))))))
    refine Km (Iq _) (.bool _) ?_
    simp only [Bool.or_eq_true,Bool.or_eq_false_iff,decide_eq_true_eq,decide_eq_false_iff_not,beq_iff_eq,beq_eq_false_iff_ne] at *
    simp only [Ad,D4,AV.tuple.injEq,List.cons.injEq,AV.int.injEq,AV.bool.injEq,true_and,and_true]
    refine ⟨?_,?_⟩
    ·
     repeat' split
     all_goals omega
    · simp <;> omega
   ·
    refine AW.skip (Bq (Ae (Ah (Qp At (Qp Be (Ag (AW.ret ?_)))))))
    refine Km (Iq _) (.bool _) ?_
    simp only [Bool.or_eq_true,Bool.or_eq_false_iff,decide_eq_true_eq,decide_eq_false_iff_not,beq_iff_eq,beq_eq_false_iff_ne] at *
    simp only [Ad,D4,AV.tuple.injEq,List.cons.injEq,AV.int.injEq,AV.bool.injEq,true_and,and_true]
    refine ⟨?_,?_⟩
    ·
     repeat' split
     all_goals omega
    · simp <;> omega
theorem c100 (op:Int):Av Tryz.prog 159 [.int .i64 op] (.int .i64 (if 0≤op∧op≤12 then D4 op else -1)):=by
 refine Av.body (n:=20) Ai Tryz.func159 rfl rfl rfl fun H=>?_
 refine Ah (Qp At (Ag (AW.seq (Ah (Qp A0 (Ag (AW.block ?_)))))))
 refine AW.cut (fun (_:Unit)=>(⟨[(0,.int .i64 op),(3,.int .i64 op),(4,.bool (op==0||op==1||op==2||op==3||op==4))],H,20⟩:St)) (fun (_:Unit)=>True) ?_ ?_
 ·
  refine Ah (Qp A5 (Qp Be (Ag (A3 (fun hc1=>?_) fun hc1=>?_))))
  ·
   refine Bx ?_
   refine ⟨(),?_,GS.weaken ⟨rfl,rfl,congrArg AV.bool (by simp [*]),trivial⟩ (.refl _)⟩
   trivial
  ·
   refine Ah (Qp A5 (Qp Be (Ag (A3 (fun hc2=>?_) fun hc2=>?_))))
   ·
    refine Bx ?_
    refine ⟨(),?_,GS.weaken ⟨rfl,rfl,congrArg AV.bool (by simp [*]),trivial⟩ (.refl _)⟩
    trivial
   ·
    refine Ah (Qp A5 (Qp Be (Ag (A3 (fun hc3=>?_) fun hc3=>?_))))
    ·
     refine Bx ?_
     refine ⟨(),?_,GS.weaken ⟨rfl,rfl,congrArg AV.bool (by simp [*]),trivial⟩ (.refl _)⟩
     trivial
    ·
     refine Ah (Qp A5 (Qp Be (Ag (A3 (fun hc4=>?_) fun hc4=>?_))))
     ·
      refine Bx ?_
      refine ⟨(),?_,GS.weaken ⟨rfl,rfl,congrArg AV.bool (by simp [*]),trivial⟩ (.refl _)⟩
      trivial
     ·
      refine AW.region (Qp A5 (Qp Be (Ag ?_)))
      refine ⟨(),?_,GS.weaken ⟨rfl,rfl,congrArg AV.bool (by simp [*]),trivial⟩ (.refl _)⟩
      trivial
 ·
  rintro _ _
  refine A3 (fun hc5=>?_) fun hc5=>?_
  ·
   refine Ah (Qp At (Ag (AW.ret (Ba (Aj ?_)))))
   refine Qr (Iq _) ?_
   simp only [Bool.or_eq_true,Bool.or_eq_false_iff,beq_iff_eq,beq_eq_false_iff_ne] at *
   simp only [Ad,D4,AV.int.injEq,true_and]
   repeat' split
   all_goals omega
  ·
   refine Ah (Qp A5 (Qp Be (Ag (A3 (fun hc6=>?_) fun hc6=>?_))))
   ·
    refine Ah (Qp At (Ag (AW.ret (Ba (Aj ?_)))))
    refine Qr (Iq _) ?_
    simp only [Bool.or_eq_true,Bool.or_eq_false_iff,beq_iff_eq,beq_eq_false_iff_ne] at *
    simp only [Ad,D4,AV.int.injEq,true_and]
    repeat' split
    all_goals omega
   ·
    refine AW.cut (fun (_:Unit)=>(⟨[(12,.bool (op==5||op==6||op==7||op==8||op==9||op==10||op==11))],H,20⟩:St)) (fun (_:Unit)=>True) ?_ ?_
    ·
     refine Ah (Qp A5 (Qp Be (Ag (A3 (fun hc7=>?_) fun hc7=>?_))))
     ·
      refine Bx ?_
      refine ⟨(),?_,GS.weaken ⟨congrArg AV.bool (by simp [*]),trivial⟩ (.refl _)⟩
      trivial
     ·
      refine Ah (Qp A5 (Qp Be (Ag (A3 (fun hc8=>?_) fun hc8=>?_))))
      ·
       refine Bx ?_
       refine ⟨(),?_,GS.weaken ⟨congrArg AV.bool (by simp [*]),trivial⟩ (.refl _)⟩
       trivial
      ·
       refine Ah (Qp A5 (Qp Be (Ag (A3 (fun hc9=>?_) fun hc9=>?_))))
       ·
        refine Bx ?_
        refine ⟨(),?_,GS.weaken ⟨congrArg AV.bool (by simp [*]),trivial⟩ (.refl _)⟩
        trivial
       ·
        refine Ah (Qp A5 (Qp Be (Ag (A3 (fun hc10=>?_) fun hc10=>?_))))
        ·
         refine Bx ?_
         refine ⟨(),?_,GS.weaken ⟨congrArg AV.bool (by simp [*]),trivial⟩ (.refl _)⟩
         trivial
        ·
         refine Ah (Qp A5 (Qp Be (Ag (A3 (fun hc11=>?_) fun hc11=>?_))))
         ·
          refine Bx ?_
          refine ⟨(),?_,GS.weaken ⟨congrArg AV.bool (by simp [*]),trivial⟩ (.refl _)⟩
          trivial
         ·
          refine Ah (Qp A5 (Qp Be (Ag (A3 (fun hc12=>?_) fun hc12=>?_))))
          ·
           refine Bx ?_
           refine ⟨(),?_,GS.weaken ⟨congrArg AV.bool (by simp [*]),trivial⟩ (.refl _)⟩
           trivial
          ·
           refine AW.region (Qp A5 (Qp Be (Ag ?_)))
           refine ⟨(),?_,GS.weaken ⟨congrArg AV.bool (by simp [*]),trivial⟩ (.refl _)⟩
           trivial
    ·
     rintro _ _
     refine A3 (fun hc13=>?_) fun hc13=>?_
     ·
      refine Ah (Qp At (Ag (AW.ret (Ba (Aj ?_)))))
      refine Qr (Iq _) ?_
      simp only [Bool.or_eq_true,Bool.or_eq_false_iff,beq_iff_eq,beq_eq_false_iff_ne] at *
      simp only [Ad,D4,AV.int.injEq,true_and]
      repeat' split
      all_goals omega
     ·
      refine AW.skip (Bq (Ae (Ah (Qp At (Ag (AW.ret ?_))))))
      refine Qr (Iq _) ?_
      simp only [Bool.or_eq_true,Bool.or_eq_false_iff,beq_iff_eq,beq_eq_false_iff_ne] at *
      simp only [Ad,D4,AV.int.injEq,true_and]
      repeat' split
      all_goals omega
theorem Aaa (v:Vl):Av Tryz.prog 161 [.agg (cV v)] (.int .i64 (D8 v)):=by
  refine Av.body (n:=36) Ai Tryz.func161 rfl rfl rfl fun H=>?_
  refine AW.seq (AW.region (Qp (F5 [Iq _,Iq _,.str _]) (Qp At (AOL.nil (Ae (AW.seq (AW.block (AW.seq (AW.region ?_)))))))))
  refine Qp Jp (Qp Bs (Qp A5 (Qp Bp (Qg [] Qw Wi (Qg [(8,_)] Qw Bs (Qg [(9,_)] Qw Cj (Qg [(10,_)] Qw Bp (Qg [] Qw Wi (Qg [(12,_)] Qw Bs ?_)))))))))
  refine Qg [(13,_)] Qw Hg (Qg [(11,_),(14,_)] Qw E2 (Qp E1 (Qp Be (AOL.nil (Ae (A3 (fun hc1=>?_) fun hc1=>?_))))))
  · skip
    refine AW.seq (AW.region (Qp At (AOL.nil (Ae (AW.ret (Ba (Aj ?_)))))))
    refine Qr (Iq _) ?_
    try simp only [Cx,Bool.and_true] at *
    first
      | (simp only [Ad,D8];(first | rw [if_pos hc1] | skip);first | done | rfl)
      | (try simp only [Bool.not_eq_true',Bool.not_eq_false'] at *
         first
         | (simp only [Ad,D8, *,Bool.false_eq_true,↓reduceIte,Bool.true_or,Bool.or_true,Bool.false_or,Bool.or_false,Bool.true_and,Bool.and_true,Bool.false_and,Bool.and_false,Bool.not_true,Bool.not_false];done)
         | (simp [Ad,D8, *];done)
         | (simp_all [Ad,D8];done))
      | skip
  · skip
    refine AW.seq (AW.region (Qp Jp (Qp Bs (Qp A5 (Qp Bp (Qg [] Qw Wi (Qg [(22,_)] Qw Bs (Qg [(23,_)] Qw Cr (Qp E1 ?_)))))))))
    refine Qp Bp (Qg [] Qw Wi (Qg [(27,_)] Qw Bs (Qg [(28,_)] Qw Cr (Qp E1 (Qp Be (AOL.nil (Ae (A3 (fun hc2=>?_) fun hc2=>?_))))))))
    · skip
      refine AW.seq (AW.region (Qp At (AOL.nil (Ae (AW.ret (Ba (Aj ?_)))))))
      refine Qr (Iq _) ?_
      try simp only [Cx,Bool.and_true] at *
      first
        | (simp only [Ad,D8];(first | rw [iN hc1] | skip);(first | rw [if_pos hc2] | skip);first | done | rfl)
        | (try simp only [Bool.not_eq_true',Bool.not_eq_false'] at *
           first
           | (simp only [Ad,D8, *,Bool.false_eq_true,↓reduceIte,Bool.true_or,Bool.or_true,Bool.false_or,Bool.or_false,Bool.true_and,Bool.and_true,Bool.false_and,Bool.and_false,Bool.not_true,Bool.not_false];done)
           | (simp [Ad,D8, *];done)
           | (simp_all [Ad,D8];done))
        | skip
    · skip
      refine AW.seq (AW.region (Qp Qf7 (Qp Vr ?_)))
      refine Qp (Ho Ai rfl rfl rfl rfl) ?_
      refine Qp Hg (Qp Be (AOL.nil (Ae (A3 (fun hc3=>?_) fun hc3=>?_))))
      · skip
        refine AW.seq (AW.region (Qp At (AOL.nil (Ae (AW.ret (Ba (Aj ?_)))))))
        refine Qr (Iq _) ?_
        try simp only [Cx,Bool.and_true] at *
        first
          | (simp only [Ad,D8];(first | rw [iN hc1] | skip);(first | rw [iN hc2] | skip);(first | rw [if_pos hc3] | skip);first | done | rfl)
          | (try simp only [Bool.not_eq_true',Bool.not_eq_false'] at *
             first
             | (simp only [Ad,D8, *,Bool.false_eq_true,↓reduceIte,Bool.true_or,Bool.or_true,Bool.false_or,Bool.or_false,Bool.true_and,Bool.and_true,Bool.false_and,Bool.and_false,Bool.not_true,Bool.not_false];done)
             | (simp [Ad,D8, *];done)
             | (simp_all [Ad,D8];done))
          | skip
      · skip
        refine AW.skip (Bq (Ae (AW.seq (AW.region (Qp At (AOL.nil (Ae (AW.ret ?_))))))))
        refine Qr (Iq _) ?_
        try simp only [Cx,Bool.and_true] at *
        first
          | (simp only [Ad,D8];(first | rw [iN hc1] | skip);(first | rw [iN hc2] | skip);(first | rw [iN hc3] | skip);first | done | rfl)
          | (try simp only [Bool.not_eq_true',Bool.not_eq_false'] at *
             first
             | (simp only [Ad,D8, *,Bool.false_eq_true,↓reduceIte,Bool.true_or,Bool.or_true,Bool.false_or,Bool.or_false,Bool.true_and,Bool.and_true,Bool.false_and,Bool.and_false,Bool.not_true,Bool.not_false];done)
             | (simp [Ad,D8, *];done)
             | (simp_all [Ad,D8];done))
          | skip
theorem c94 (v:Vl):Av Tryz.prog 143 [.agg (cV v)] (.int .i64 (Ap v)):=by
  refine Av.body (n:=18) Ai Tryz.func143 rfl rfl rfl fun H=>?_
  refine AW.seq (AW.region (Qp (F5 [Iq _,Iq _,.str _]) (Qp At (AOL.nil (Ae (AW.seq (AW.seq (AW.region (Qp Jp ?_)))))))))
  refine Qp Bs (AOL.nil (Ae (AW.block (AW.seq (AW.seq (AW.region (Qp A5 (Qp Be (AOL.nil ?_)))))))))
  refine Ae (A3 (fun hc1=>?_) fun hc1=>?_)
  · skip
    refine Bx (A3 (fun hc2=>?_) fun hc2=>?_)
    · skip
      refine AW.seq (AW.region (Qp Qf7 (Qp Vr ?_)))
      refine Qp (Pz rfl rfl) ?_
      refine AOL.nil (Ae (A3 (fun hc3=>?_) fun hc3=>?_))
      · skip
        refine AW.seq (AW.region (Qp At (AOL.nil (Ae (AW.ret (Ba (Aj ?_)))))))
        refine Qr (Iq _) ?_
        try simp only [Cx,Bool.and_true] at *
        first
          | (simp only [Ad,Ap];(first | rw [if_pos hc1] | skip);(first | rw [if_pos hc2] | skip);(first | rw [if_pos hc3] | skip);first | done | rfl)
          | (try simp only [Bool.not_eq_true',Bool.not_eq_false'] at *
             first
             | (simp only [Ad,Ap, *,Bool.false_eq_true,↓reduceIte,Bool.true_or,Bool.or_true,Bool.false_or,Bool.or_false,Bool.true_and,Bool.and_true,Bool.false_and,Bool.and_false,Bool.not_true,Bool.not_false];done)
             | (simp [Ad,Ap, *];done)
             | (simp_all [Ad,Ap];done))
          | skip
      · skip
        refine AW.skip (Bq (Ae (AW.seq (AW.region (Qp (Ck [Iq _,Iq _,.str _]) ?_)))))
        refine Qp (Qc rfl (Aaa v)) ?_
        refine Qp At (AOL.nil (Ae (AW.ret ?_)))
        refine Qr (Iq _) ?_
        try simp only [Cx,Bool.and_true] at *
        first
          | (simp only [Ad,Ap];(first | rw [if_pos hc1] | skip);(first | rw [if_pos hc2] | skip);(first | rw [iN hc3] | skip);first | done | rfl)
          | (try simp only [Bool.not_eq_true',Bool.not_eq_false'] at *
             first
             | (simp only [Ad,Ap, *,Bool.false_eq_true,↓reduceIte,Bool.true_or,Bool.or_true,Bool.false_or,Bool.or_false,Bool.true_and,Bool.and_true,Bool.false_and,Bool.and_false,Bool.not_true,Bool.not_false];done)
             | (simp [Ad,Ap, *];done)
             | (simp_all [Ad,Ap];done))
          | skip
    · skip
      refine AW.seq (AW.region (Qp A5 (Qp Be (AOL.nil (Ae (A3 (fun hc4=>?_) fun hc4=>?_))))))
      · skip
        refine AW.seq (AW.region (Qp Wi (Qp Bs (Qp Cr (AOL.nil (Ae (A3 (fun hc5=>?_) fun hc5=>?_)))))))
        · skip
          refine AW.seq (AW.region (Qp At (AOL.nil (Ae (AW.ret (Ba (Aj ?_)))))))
          refine Qr (Iq _) ?_
          try simp only [Cx,Bool.and_true] at *
          first
            | (simp only [Ad,Ap];(first | rw [if_pos hc1] | skip);(first | rw [iN hc2] | skip);(first | rw [if_pos hc4] | skip);(first | rw [if_pos hc5] | skip);first | done | rfl)
            | (try simp only [Bool.not_eq_true',Bool.not_eq_false'] at *
               first
               | (simp only [Ad,Ap, *,Bool.false_eq_true,↓reduceIte,Bool.true_or,Bool.or_true,Bool.false_or,Bool.or_false,Bool.true_and,Bool.and_true,Bool.false_and,Bool.and_false,Bool.not_true,Bool.not_false];done)
               | (simp [Ad,Ap, *];done)
               | (simp_all [Ad,Ap];done))
            | skip
        · skip
          refine AW.skip (Bq (Ae (AW.seq (AW.region (Qp (Ck [Iq _,Iq _,.str _]) ?_)))))
          refine Qp (Qc rfl (Aaa v)) ?_
          refine Qp At (AOL.nil (Ae (AW.ret ?_)))
          refine Qr (Iq _) ?_
          try simp only [Cx,Bool.and_true] at *
          first
            | (simp only [Ad,Ap];(first | rw [if_pos hc1] | skip);(first | rw [iN hc2] | skip);(first | rw [if_pos hc4] | skip);(first | rw [iN hc5] | skip);first | done | rfl)
            | (try simp only [Bool.not_eq_true',Bool.not_eq_false'] at *
               first
               | (simp only [Ad,Ap, *,Bool.false_eq_true,↓reduceIte,Bool.true_or,Bool.or_true,Bool.false_or,Bool.or_false,Bool.true_and,Bool.and_true,Bool.false_and,Bool.and_false,Bool.not_true,Bool.not_false];done)
               | (simp [Ad,Ap, *];done)
               | (simp_all [Ad,Ap];done))
            | skip
      · skip
        refine AW.seq (AW.region (Qp At (AOL.nil (Ae (AW.ret (Ba (Aj ?_)))))))
        refine Qr (Iq _) ?_
        try simp only [Cx,Bool.and_true] at *
        first
          | (simp only [Ad,Ap];(first | rw [if_pos hc1] | skip);(first | rw [iN hc2] | skip);(first | rw [iN hc4] | skip);first | done | rfl)
          | (try simp only [Bool.not_eq_true',Bool.not_eq_false'] at *
             first
             | (simp only [Ad,Ap, *,Bool.false_eq_true,↓reduceIte,Bool.true_or,Bool.or_true,Bool.false_or,Bool.or_false,Bool.true_and,Bool.and_true,Bool.false_and,Bool.and_false,Bool.not_true,Bool.not_false];done)
             | (simp [Ad,Ap, *];done)
             | (simp_all [Ad,Ap];done))
          | skip
  · skip
    refine AW.region (Qp A5 (Qp Be (AOL.nil (Ae (A3 (fun hc6=>?_) fun hc6=>?_)))))
    · skip
      refine AW.seq (AW.region (Qp Qf7 (Qp Vr ?_)))
      refine Qp (Pz rfl rfl) ?_
      refine AOL.nil (Ae (A3 (fun hc7=>?_) fun hc7=>?_))
      · skip
        refine AW.seq (AW.region (Qp At (AOL.nil (Ae (AW.ret (Ba (Aj ?_)))))))
        refine Qr (Iq _) ?_
        try simp only [Cx,Bool.and_true] at *
        first
          | (simp only [Ad,Ap];(first | rw [iN hc1] | skip);(first | rw [if_pos hc6] | skip);(first | rw [if_pos hc7] | skip);first | done | rfl)
          | (try simp only [Bool.not_eq_true',Bool.not_eq_false'] at *
             first
             | (simp only [Ad,Ap, *,Bool.false_eq_true,↓reduceIte,Bool.true_or,Bool.or_true,Bool.false_or,Bool.or_false,Bool.true_and,Bool.and_true,Bool.false_and,Bool.and_false,Bool.not_true,Bool.not_false];done)
             | (simp [Ad,Ap, *];done)
             | (simp_all [Ad,Ap];done))
          | skip
      · skip
        refine AW.skip (Bq (Ae (AW.seq (AW.region (Qp (Ck [Iq _,Iq _,.str _]) ?_)))))
        refine Qp (Qc rfl (Aaa v)) ?_
        refine Qp At (AOL.nil (Ae (AW.ret ?_)))
        refine Qr (Iq _) ?_
        try simp only [Cx,Bool.and_true] at *
        first
          | (simp only [Ad,Ap];(first | rw [iN hc1] | skip);(first | rw [if_pos hc6] | skip);(first | rw [iN hc7] | skip);first | done | rfl)
          | (try simp only [Bool.not_eq_true',Bool.not_eq_false'] at *
             first
             | (simp only [Ad,Ap, *,Bool.false_eq_true,↓reduceIte,Bool.true_or,Bool.or_true,Bool.false_or,Bool.or_false,Bool.true_and,Bool.and_true,Bool.false_and,Bool.and_false,Bool.not_true,Bool.not_false];done)
             | (simp [Ad,Ap, *];done)
             | (simp_all [Ad,Ap];done))
          | skip
    · skip
      refine AW.seq (AW.region (Qp A5 (Qp Be (AOL.nil (Ae (A3 (fun hc8=>?_) fun hc8=>?_))))))
      · skip
        refine AW.seq (AW.region (Qp Wi (Qp Bs (Qp Cr (AOL.nil (Ae (A3 (fun hc9=>?_) fun hc9=>?_)))))))
        · skip
          refine AW.seq (AW.region (Qp At (AOL.nil (Ae (AW.ret (Ba (Aj ?_)))))))
          refine Qr (Iq _) ?_
          try simp only [Cx,Bool.and_true] at *
          first
            | (simp only [Ad,Ap];(first | rw [iN hc1] | skip);(first | rw [iN hc6] | skip);(first | rw [if_pos hc8] | skip);(first | rw [if_pos hc9] | skip);first | done | rfl)
            | (try simp only [Bool.not_eq_true',Bool.not_eq_false'] at *
               first
               | (simp only [Ad,Ap, *,Bool.false_eq_true,↓reduceIte,Bool.true_or,Bool.or_true,Bool.false_or,Bool.or_false,Bool.true_and,Bool.and_true,Bool.false_and,Bool.and_false,Bool.not_true,Bool.not_false];done)
               | (simp [Ad,Ap, *];done)
               | (simp_all [Ad,Ap];done))
            | skip
        · skip
          refine AW.skip (Bq (Ae (AW.seq (AW.region (Qp (Ck [Iq _,Iq _,.str _]) ?_)))))
          refine Qp (Qc rfl (Aaa v)) ?_
          refine Qp At (AOL.nil (Ae (AW.ret ?_)))
          refine Qr (Iq _) ?_
          try simp only [Cx,Bool.and_true] at *
          first
            | (simp only [Ad,Ap];(first | rw [iN hc1] | skip);(first | rw [iN hc6] | skip);(first | rw [if_pos hc8] | skip);(first | rw [iN hc9] | skip);first | done | rfl)
            | (try simp only [Bool.not_eq_true',Bool.not_eq_false'] at *
               first
               | (simp only [Ad,Ap, *,Bool.false_eq_true,↓reduceIte,Bool.true_or,Bool.or_true,Bool.false_or,Bool.or_false,Bool.true_and,Bool.and_true,Bool.false_and,Bool.and_false,Bool.not_true,Bool.not_false];done)
               | (simp [Ad,Ap, *];done)
               | (simp_all [Ad,Ap];done))
            | skip
      · skip
        refine AW.seq (AW.region (Qp At (AOL.nil (Ae (AW.ret (Ba (Aj ?_)))))))
        refine Qr (Iq _) ?_
        try simp only [Cx,Bool.and_true] at *
        first
          | (simp only [Ad,Ap];(first | rw [iN hc1] | skip);(first | rw [iN hc6] | skip);(first | rw [iN hc8] | skip);first | done | rfl)
          | (try simp only [Bool.not_eq_true',Bool.not_eq_false'] at *
             first
             | (simp only [Ad,Ap, *,Bool.false_eq_true,↓reduceIte,Bool.true_or,Bool.or_true,Bool.false_or,Bool.or_false,Bool.true_and,Bool.and_true,Bool.false_and,Bool.and_false,Bool.not_true,Bool.not_false];done)
             | (simp [Ad,Ap, *];done)
             | (simp_all [Ad,Ap];done))
          | skip
theorem c75 (b:Bool):Av Tryz.prog 107 [.bool b] (.agg (cV (D3 b))):=by
  refine Av.body (n:=8) Ai Tryz.func107 rfl rfl rfl fun H=>?_
  refine AW.seq (AW.region ?_)
  refine Qe (Al (l:=[.int .i64 0,.int .i64 0,.str []]) (by kernel_rfl)) ?_
  rintro _ _ ⟨b2,rfl,rfl⟩
  refine AOL.nil (Ae (AW.seq (AW.region (Qp (Ep [Iq _,Iq _,.str _]) ?_))))
  refine Qe (Al (l:=[.int .i64 0,.int .i64 0,.str []]) (by kernel_rfl)) ?_
  rintro _ _ ⟨b3,rfl,rfl⟩
  refine Cm 0 [Iq _,Iq _,.str _] (_::_::_) ?_
  refine AOL.nil (Ae (AW.seq (AW.seq (AW.region (Qp Bp (AOL.nil (Ae (A3 (fun hc1=>?_) fun hc1=>?_))))))))
  · skip
    refine AW.region (Qp Ir ?_)
    refine Cm 0 [Iq _,Iq _,.str _] (_::_::_) ?_
    refine AOL.nil (Ae (AW.seq (AW.region ?_)))
    refine AOL.Aai (Bz (k:=0) (l:=[Iq _,Iq _,.str _]) Ai rfl rfl rfl rfl rfl) rfl rfl ?_
    refine Cm 1 [Iq _,Iq _,.str _] (_::_::_) ?_
    refine AOL.nil (Ae (AW.ret ?_))
    refine ⟨.inr rfl,[.agg [Iq _,Iq _,.str _]],.cons (.box _ _ _ 1 _ _ _ _ rfl rfl rfl rfl rfl rfl) <| .nil,.cons _ (.cons _ (.refl _)),?_⟩
    try simp only [Cx,Bool.and_true] at *
    first
      | (simp only [Ad,D3,cV];(first | rw [if_pos hc1] | skip);first | done | rfl)
      | (try simp only [Bool.not_eq_true',Bool.not_eq_false'] at *
         first
         | (simp only [Ad,D3,cV, *,Bool.false_eq_true,↓reduceIte,Bool.true_or,Bool.or_true,Bool.false_or,Bool.or_false,Bool.true_and,Bool.and_true,Bool.false_and,Bool.and_false,Bool.not_true,Bool.not_false];done)
         | (simp [Ad,D3,cV, *];done)
         | (simp_all [Ad,D3,cV];done))
      | skip
  · skip
    refine Bx (AW.seq (AW.region ?_))
    refine AOL.Aai (Bz (k:=0) (l:=[Iq _,Iq _,.str _]) Ai rfl rfl rfl rfl rfl) rfl rfl ?_
    refine Cm 1 [Iq _,Iq _,.str _] (_::_::_) ?_
    refine AOL.nil (Ae (AW.ret ?_))
    refine ⟨.inr rfl,[.agg [Iq _,Iq _,.str _]],.cons (.box _ _ _ 1 _ _ _ _ rfl rfl rfl rfl rfl rfl) <| .nil,.cons _ (.cons _ (.refl _)),?_⟩
    try simp only [Cx,Bool.and_true] at *
    first
      | (simp only [Ad,D3,cV];(first | rw [iN hc1] | skip);first | done | rfl)
      | (try simp only [Bool.not_eq_true',Bool.not_eq_false'] at *
         first
         | (simp only [Ad,D3,cV, *,Bool.false_eq_true,↓reduceIte,Bool.true_or,Bool.or_true,Bool.false_or,Bool.or_false,Bool.true_and,Bool.and_true,Bool.false_and,Bool.and_false,Bool.not_true,Bool.not_false];done)
         | (simp [Ad,D3,cV, *];done)
         | (simp_all [Ad,D3,cV];done))
      | skip
theorem c42 (b:Bool):Av Tryz.prog 66 [.bool b] (.agg (cV (D3 b))):=by
  refine Av.body (n:=5) Ai Tryz.func66 rfl rfl rfl fun H=>?_
  refine AW.seq (AW.region ?_)
  refine Qe (Al (l:=[.int .i64 0,.int .i64 0,.str []]) (by kernel_rfl)) ?_
  rintro _ _ ⟨b2,rfl,rfl⟩
  refine AOL.nil (Ae (AW.seq (AW.region (Qp Bp ?_))))
  refine Qp (Qc rfl (c75 b)) ?_
  refine Cm 0 [Iq _,Iq _,.str _] (_::_) ?_
  refine AOL.nil (Ae (AW.ret ?_))
  refine ⟨.inr rfl,[.agg [Iq _,Iq _,.str _]],.cons (.box _ _ _ 0 _ _ _ _ rfl rfl rfl rfl rfl rfl) <| .nil,.cons _ (.refl _),?_⟩
  try simp only [Cx,Bool.and_true] at *
  first
    | (simp only [Ad,D3,cV];skip;first | done | rfl)
    | (try simp only [Bool.not_eq_true',Bool.not_eq_false'] at *
       first
       | (simp only [Ad,D3,cV, *,Bool.false_eq_true,↓reduceIte,Bool.true_or,Bool.or_true,Bool.false_or,Bool.or_false,Bool.true_and,Bool.and_true,Bool.false_and,Bool.and_false,Bool.not_true,Bool.not_false];done)
       | (simp [Ad,D3,cV, *];done)
       | (simp_all [Ad,D3,cV];done))
    | skip
theorem c79 (v:Vl):Av Tryz.prog 101 [.agg (cV v)] (.int .i64 (Ap v)):=by
  refine Av.body (n:=47) Ai Tryz.func101 rfl rfl rfl fun H=>?_
  refine AW.seq (AW.region (Qp (F5 [Iq _,Iq _,.str _]) (Qp At (AOL.nil (Ae (AW.seq (AW.seq (AW.region (Qp Jp ?_)))))))))
  refine Qp Bs (Qp Cj (Qp Bp (Qg [] Qw Jp (Qg [(7,_)] Qw Bs (Qg [(8,_)] Qw Hg (Qp E2 (AOL.nil (Ae (A3 (fun hc1=>?_) fun hc1=>?_)))))))))
  · skip
    refine AW.seq (AW.region (Qp At (AOL.nil (Ae (Dr ?_)))))
    refine Qr (Iq _) ?_
    rw [←Iz]
    try simp only [Cx,Bool.and_true] at *
    first
      | (simp only [Ad,Cn];(first | rw [if_pos hc1] | skip);first | done | rfl)
      | (try simp only [Bool.not_eq_true',Bool.not_eq_false'] at *
         first
         | (simp only [Ad,Cn, *,Bool.false_eq_true,↓reduceIte,Bool.true_or,Bool.or_true,Bool.false_or,Bool.or_false,Bool.true_and,Bool.and_true,Bool.false_and,Bool.and_false,Bool.not_true,Bool.not_false];done)
         | (simp [Ad,Cn, *];done)
         | (simp_all [Ad,Cn];done))
      | skip
  · skip
    refine Bx (AW.seq (AW.seq (AW.region (Qp Jp (Qp Bs (Qp A5 (AOL.nil (Ae (A3 (fun hc2=>?_) fun hc2=>?_)))))))))
    · skip
      refine AW.seq (AW.seq (AW.region (Qp Wi (Qp Bs (Qp Cr (AOL.nil (Ae (A3 (fun hc3=>?_) fun hc3=>?_))))))))
      · skip
        refine AW.seq (AW.region (Qp At (AOL.nil (Ae (Dr (Aj ?_))))))
        refine Qr (Iq _) ?_
        rw [←Iz]
        try simp only [Cx,Bool.and_true] at *
        first
          | (simp only [Ad,Cn];(first | rw [iN hc1] | skip);(first | rw [if_pos hc2] | skip);(first | rw [if_pos hc3] | skip);first | done | rfl)
          | (try simp only [Bool.not_eq_true',Bool.not_eq_false'] at *
             first
             | (simp only [Ad,Cn, *,Bool.false_eq_true,↓reduceIte,Bool.true_or,Bool.or_true,Bool.false_or,Bool.or_false,Bool.true_and,Bool.and_true,Bool.false_and,Bool.and_false,Bool.not_true,Bool.not_false];done)
             | (simp [Ad,Cn, *];done)
             | (simp_all [Ad,Cn];done))
          | skip
      · skip
        refine Bx (AW.seq (AW.seq (AW.region (Qp Qf7 (Qp Vr ?_)))))
        refine Qp (Ho Ai rfl rfl rfl rfl) ?_
        refine Qp Hg (AOL.nil (Ae (A3 (fun hc4=>?_) fun hc4=>?_)))
        · skip
          refine AW.seq (AW.region (Qp At (AOL.nil (Ae (Dr (Aj ?_))))))
          refine Qr (Iq _) ?_
          rw [←Iz]
          try simp only [Cx,Bool.and_true] at *
          first
            | (simp only [Ad,Cn];(first | rw [iN hc1] | skip);(first | rw [if_pos hc2] | skip);(first | rw [iN hc3] | skip);(first | rw [if_pos hc4] | skip);first | done | rfl)
            | (try simp only [Bool.not_eq_true',Bool.not_eq_false'] at *
               first
               | (simp only [Ad,Cn, *,Bool.false_eq_true,↓reduceIte,Bool.true_or,Bool.or_true,Bool.false_or,Bool.or_false,Bool.true_and,Bool.and_true,Bool.false_and,Bool.and_false,Bool.not_true,Bool.not_false];done)
               | (simp [Ad,Cn, *];done)
               | (simp_all [Ad,Cn];done))
            | skip
        · skip
          refine Bx (AW.seq (AW.region (Qp At (AOL.nil (Ae (Dr ?_))))))
          refine Qr (Iq _) ?_
          rw [←Iz]
          try simp only [Cx,Bool.and_true] at *
          first
            | (simp only [Ad,Cn];(first | rw [iN hc1] | skip);(first | rw [if_pos hc2] | skip);(first | rw [iN hc3] | skip);(first | rw [iN hc4] | skip);first | done | rfl)
            | (try simp only [Bool.not_eq_true',Bool.not_eq_false'] at *
               first
               | (simp only [Ad,Cn, *,Bool.false_eq_true,↓reduceIte,Bool.true_or,Bool.or_true,Bool.false_or,Bool.or_false,Bool.true_and,Bool.and_true,Bool.false_and,Bool.and_false,Bool.not_true,Bool.not_false];done)
               | (simp [Ad,Cn, *];done)
               | (simp_all [Ad,Cn];done))
            | skip
    · skip
      refine Bx (AW.seq (AW.seq (AW.region (Qp Qf7 (Qp Vr ?_)))))
      refine Qp (Pz rfl rfl) ?_
      refine AOL.nil (Ae (A3 (fun hc5=>?_) fun hc5=>?_))
      · skip
        refine AW.seq (AW.region (Qp At (AOL.nil (Ae (Dr ?_)))))
        refine Qr (Iq _) ?_
        rw [←Iz]
        try simp only [Cx,Bool.and_true] at *
        first
          | (simp only [Ad,Cn];(first | rw [iN hc1] | skip);(first | rw [iN hc2] | skip);(first | rw [if_pos hc5] | skip);first | done | rfl)
          | (try simp only [Bool.not_eq_true',Bool.not_eq_false'] at *
             first
             | (simp only [Ad,Cn, *,Bool.false_eq_true,↓reduceIte,Bool.true_or,Bool.or_true,Bool.false_or,Bool.or_false,Bool.true_and,Bool.and_true,Bool.false_and,Bool.and_false,Bool.not_true,Bool.not_false];done)
             | (simp [Ad,Cn, *];done)
             | (simp_all [Ad,Cn];done))
          | skip
      · skip
        refine Bx (AW.seq (AW.seq (AW.region (Qp Jp (Qp Bs (Qp A5 (Qp Bp (Qg [] Qw Wi (Qg [(28,_)] Qw Bs ?_)))))))))
        refine Qg [(29,_)] Qw Cj (Qg [(30,_)] Qw Bp (Qg [] Qw Wi (Qg [(32,_)] Qw Bs (Qg [(33,_)] Qw Hg (Qg [(31,_),(34,_)] Qw E2 (Qp E1 (Qp Bp (Qg [] Qw Wi (Qg [(38,_)] Qw Bs ?_)))))))))
        refine Qg [(39,_)] Qw Cj (Qp E2 (Qp Bp (Qg [] Qw Wi (Qg [(43,_)] Qw Bs (Qg [(44,_)] Qw Hg (Qp E2 (AOL.nil (Ae (A3 (fun hc6=>?_) fun hc6=>?_)))))))))
        · skip
          refine AW.seq (AW.region (Qp At (AOL.nil (Ae (Dr ?_)))))
          refine Qr (Iq _) ?_
          rw [←Iz]
          try simp only [Cx,Bool.and_true] at *
          first
            | (simp only [Ad,Cn];(first | rw [iN hc1] | skip);(first | rw [iN hc2] | skip);(first | rw [iN hc5] | skip);(first | rw [if_pos hc6] | skip);first | done | rfl)
            | (try simp only [Bool.not_eq_true',Bool.not_eq_false'] at *
               first
               | (simp only [Ad,Cn, *,Bool.false_eq_true,↓reduceIte,Bool.true_or,Bool.or_true,Bool.false_or,Bool.or_false,Bool.true_and,Bool.and_true,Bool.false_and,Bool.and_false,Bool.not_true,Bool.not_false];done)
               | (simp [Ad,Cn, *];done)
               | (simp_all [Ad,Cn];done))
            | skip
        · skip
          refine Bx (AW.seq (AW.region (Qp At (AOL.nil (Ae (AW.ret ?_))))))
          refine Qr (Iq _) ?_
          rw [←Iz]
          try simp only [Cx,Bool.and_true] at *
          first
            | (simp only [Ad,Cn];(first | rw [iN hc1] | skip);(first | rw [iN hc2] | skip);(first | rw [iN hc5] | skip);(first | rw [iN hc6] | skip);first | done | rfl)
            | (try simp only [Bool.not_eq_true',Bool.not_eq_false'] at *
               first
               | (simp only [Ad,Cn, *,Bool.false_eq_true,↓reduceIte,Bool.true_or,Bool.or_true,Bool.false_or,Bool.or_false,Bool.true_and,Bool.and_true,Bool.false_and,Bool.and_false,Bool.not_true,Bool.not_false];done)
               | (simp [Ad,Cn, *];done)
               | (simp_all [Ad,Cn];done))
            | skip
theorem c114 (k:Int):Av Tryz.prog 179 [.int .i64 k] (.bool (Dp k)):=by
  refine Av.body (n:=9) Ai Tryz.func179 rfl rfl rfl fun H=>?_
  refine AW.seq (AW.region (Qp Be (AOL.nil (Ae (AW.seq (AW.region (Qp A0 (Qp N9 (Qp Bp ?_)))))))))
  refine Qg [] Qw A0 (Qg [(6,_)] Qw Nx (Qp E1 (Qp Be (AOL.nil (Ae (AW.ret ?_))))))
  refine Qr (.bool _) ?_
  try simp only [Cx,Bool.and_true] at *
  first
    | (simp only [Ad,Dp];skip;first | done | rfl)
    | (try simp only [Bool.not_eq_true',Bool.not_eq_false'] at *
       first
       | (simp only [Ad,Dp, *,Bool.false_eq_true,↓reduceIte,Bool.true_or,Bool.or_true,Bool.false_or,Bool.or_false,Bool.true_and,Bool.and_true,Bool.false_and,Bool.and_false,Bool.not_true,Bool.not_false];done)
       | (simp [Ad,Dp, *];done)
       | (simp_all [Ad,Dp];done))
    | skip
theorem c124 (k:Int)(v:Vl):Av Tryz.prog 191 [.int .i64 k,.agg (cV v)] (.bool (Er k v)):=by
  refine Av.body (n:=20) Ai Tryz.func191 rfl rfl rfl fun H=>?_
  refine AW.seq (AW.region (Qp (F5 [Iq _,Iq _,.str _]) (Qp Be (AOL.nil (Ae (AW.seq (AW.region (Qp Jp (Qp Bs ?_)))))))))
  refine Qp A5 (Qp Bp (Qg [] Qw A0 (Qg [(9,_)] Qw Cr (Qg [(10,_)] Qw Bp (Qg [] Qw A0 (Qg [(12,_)] Qw Cr (Qg [(11,_),(13,_)] Qw E1 (Qg [(14,_)] Qw Bp (Qg [] Qw A0 ?_)))))))))
  refine Qg [(16,_)] Qw Cr (Qg [(15,_),(17,_)] Qw E1 (Qp E2 (Qp Be (AOL.nil (Ae (AW.ret ?_))))))
  refine Qr (.bool _) ?_
  try simp only [Cx,Bool.and_true] at *
  first
    | (simp only [Ad,Er];skip;first | done | rfl)
    | (try simp only [Bool.not_eq_true',Bool.not_eq_false'] at *
       first
       | (simp only [Ad,Er, *,Bool.false_eq_true,↓reduceIte,Bool.true_or,Bool.or_true,Bool.false_or,Bool.or_false,Bool.true_and,Bool.and_true,Bool.false_and,Bool.and_false,Bool.not_true,Bool.not_false];done)
       | (simp [Ad,Er, *];done)
       | (simp_all [Ad,Er];done))
    | skip
theorem c101 (k:Int)(v:Vl):Av Tryz.prog 150 [.int .i64 k,.agg (cV v)] (.bool (Ga k v)):=by
  refine Av.body (n:=20) Ai Tryz.func150 rfl rfl rfl fun H=>?_
  refine AW.seq (AW.region (Qp (F5 [Iq _,Iq _,.str _]) (Qp Be (AOL.nil (Ae (AW.seq (AW.region (Qp Jp (Qp Bs ?_)))))))))
  refine Qp A5 (Qp Bp (Qg [] Qw A0 (Qg [(9,_)] Qw A5 (Qp E2 (Qp Bp (Qg [] Qw A0 (Qg [(13,_)] Qw A5 (Qp E2 (Qp Bp ?_)))))))))
  refine Qg [] Qw A0 (Qg [(17,_)] Qw A5 (Qp E2 (Qp Be (AOL.nil (Ae (AW.ret ?_))))))
  refine Qr (.bool _) ?_
  try simp only [Cx,Bool.and_true] at *
  first
    | (simp only [Ad,Ga];skip;first | done | rfl)
    | (try simp only [Bool.not_eq_true',Bool.not_eq_false'] at *
       first
       | (simp only [Ad,Ga, *,Bool.false_eq_true,↓reduceIte,Bool.true_or,Bool.or_true,Bool.false_or,Bool.or_false,Bool.true_and,Bool.and_true,Bool.false_and,Bool.and_false,Bool.not_true,Bool.not_false];done)
       | (simp [Ad,Ga, *];done)
       | (simp_all [Ad,Ga];done))
    | skip
theorem c99 (k:Int)(v:Vl):Av Tryz.prog 148 [.int .i64 k,.agg (cV v)] (.bool (Du k v)):=by
  refine Av.body (n:=16) Ai Tryz.func148 rfl rfl rfl fun H=>?_
  refine AW.seq (AW.region (Qp (F5 [Iq _,Iq _,.str _]) (Qp Be (AOL.nil (Ae (AW.seq (AW.region (Qp Jp (Qp Bs ?_)))))))))
  refine Qp A5 (Qp Bp (Qg [] Qw A0 (Qg [(9,_)] Qw A5 (Qp E2 (Qp Bp (Qg [] Qw A0 (Qg [(13,_)] Qw A5 (Qp E2 (Qp Be ?_)))))))))
  refine AOL.nil (Ae (AW.ret ?_))
  refine Qr (.bool _) ?_
  try simp only [Cx,Bool.and_true] at *
  first
    | (simp only [Ad,Du];skip;first | done | rfl)
    | (try simp only [Bool.not_eq_true',Bool.not_eq_false'] at *
       first
       | (simp only [Ad,Du, *,Bool.false_eq_true,↓reduceIte,Bool.true_or,Bool.or_true,Bool.false_or,Bool.or_false,Bool.true_and,Bool.and_true,Bool.false_and,Bool.and_false,Bool.not_true,Bool.not_false];done)
       | (simp [Ad,Du, *];done)
       | (simp_all [Ad,Du];done))
    | skip
theorem c119 (k:Int)(v:Vl):Av Tryz.prog 184 [.int .i64 k,.agg (cV v)] (.agg (cV (E3 k v))):=by
  refine Av.body (n:=9) Ai Tryz.func184 rfl rfl rfl fun H=>?_
  refine AW.seq (AW.region (Qp (F5 [Iq _,Iq _,.str _]) ?_))
  refine Qe (Al (l:=[.int .i64 0,.int .i64 0,.str []]) (by kernel_rfl)) ?_
  rintro _ _ ⟨b4,rfl,rfl⟩
  refine AOL.nil (Ae (AW.seq (AW.seq (AW.region (Qp A0 (Qp A5 (AOL.nil (Ae (A3 (fun hc1=>?_) fun hc1=>?_)))))))))
  · skip
    refine AW.seq (AW.region (Qp (Ep [Iq _,Iq _,.str _]) ?_))
    refine Cm 0 [Iq _,Iq _,.str _] (_::_) ?_
    refine AOL.nil (Ae (Dr ?_))
    refine ⟨.inr rfl,[.agg [Iq _,Iq _,.str _]],.cons (.box _ _ _ 0 _ _ _ _ rfl rfl rfl rfl rfl rfl) <| .nil,.cons _ (.refl _),?_⟩
    try simp only [Cx,Bool.and_true] at *
    first
      | (simp only [Ad,E3,cV,v0];(first | rw [if_pos hc1] | skip);first | done | rfl)
      | (try simp only [Bool.not_eq_true',Bool.not_eq_false'] at *
         first
         | (simp only [Ad,E3,cV,v0, *,Bool.false_eq_true,↓reduceIte,Bool.true_or,Bool.or_true,Bool.false_or,Bool.or_false,Bool.true_and,Bool.and_true,Bool.false_and,Bool.and_false,Bool.not_true,Bool.not_false];done)
         | (simp [Ad,E3,cV,v0, *];done)
         | (simp_all [Ad,E3,cV,v0];done))
      | skip
  · skip
    refine Bx (AW.seq (AW.region (Qp (Ck [Iq _,Iq _,.str _]) ?_)))
    refine Cm 0 [Iq _,Iq _,.str _] (_::_) ?_
    refine AOL.nil (Ae (AW.ret ?_))
    refine ⟨.inr rfl,[.agg [Iq _,Iq _,.str _]],.cons (.box _ _ _ 0 _ _ _ _ rfl rfl rfl rfl rfl rfl) <| .nil,.cons _ (.refl _),?_⟩
    try simp only [Cx,Bool.and_true] at *
    first
      | (simp only [Ad,E3,cV,v0];(first | rw [iN hc1] | skip);first | done | rfl)
      | (try simp only [Bool.not_eq_true',Bool.not_eq_false'] at *
         first
         | (simp only [Ad,E3,cV,v0, *,Bool.false_eq_true,↓reduceIte,Bool.true_or,Bool.or_true,Bool.false_or,Bool.or_false,Bool.true_and,Bool.and_true,Bool.false_and,Bool.and_false,Bool.not_true,Bool.not_false];done)
         | (simp [Ad,E3,cV,v0, *];done)
         | (simp_all [Ad,E3,cV,v0];done))
      | skip
theorem c115 (k:Int)(v:Vl):Av Tryz.prog 180 [.int .i64 k,.agg (cV v)] (.int .i64 (Dl k v)):=by
  refine Av.body (n:=15) Ai Tryz.func180 rfl rfl rfl fun H=>?_
  refine AW.seq (AW.region (Qp (F5 [Iq _,Iq _,.str _]) (Qp At (AOL.nil (Ae (AW.seq (AW.seq (AW.region (Qp (Ck [Iq _,Iq _,.str _]) ?_)))))))))
  refine Qp (Qc rfl (c94 v)) ?_
  refine Qp At (AOL.nil (Ae (AW.seq (AW.region (Qp A0 (Qp Cr (AOL.nil (Ae (A3 (fun hc1=>?_) fun hc1=>?_)))))))))
  · skip
    refine AW.seq (AW.region (Qp A0 (Qp At (AOL.nil (Ae (Dr ?_))))))
    refine Qr (Iq _) ?_
    try simp only [Cx,Bool.and_true] at *
    first
      | (simp only [Ad,Dl];(first | rw [if_pos hc1] | skip);first | done | rfl)
      | (try simp only [Bool.not_eq_true',Bool.not_eq_false'] at *
         first
         | (simp only [Ad,Dl, *,Bool.false_eq_true,↓reduceIte,Bool.true_or,Bool.or_true,Bool.false_or,Bool.or_false,Bool.true_and,Bool.and_true,Bool.false_and,Bool.and_false,Bool.not_true,Bool.not_false];done)
         | (simp [Ad,Dl, *];done)
         | (simp_all [Ad,Dl];done))
      | skip
  · skip
    refine Bx (AW.seq (AW.seq (AW.region (Qp A0 (Qp (Ck [Iq _,Iq _,.str _]) ?_)))))
    refine Qp (Qc rfl (c124 k v)) ?_
    refine Qp Ge (AOL.nil (Ae (A3 (fun hc2=>?_) fun hc2=>?_)))
    · skip
      refine AW.seq (AW.region (Qp At (AOL.nil (Ae (Dr ?_)))))
      refine Qr (Iq _) ?_
      try simp only [Cx,Bool.and_true] at *
      first
        | (simp only [Ad,Dl];(first | rw [iN hc1] | skip);(first | rw [if_pos hc2] | skip);first | done | rfl)
        | (try simp only [Bool.not_eq_true',Bool.not_eq_false'] at *
           first
           | (simp only [Ad,Dl, *,Bool.false_eq_true,↓reduceIte,Bool.true_or,Bool.or_true,Bool.false_or,Bool.or_false,Bool.true_and,Bool.and_true,Bool.false_and,Bool.and_false,Bool.not_true,Bool.not_false];done)
           | (simp [Ad,Dl, *];done)
           | (simp_all [Ad,Dl];done))
        | skip
    · skip
      refine Bx (AW.seq (AW.region (Qp At (AOL.nil (Ae (AW.ret ?_))))))
      refine Qr (Iq _) ?_
      try simp only [Cx,Bool.and_true] at *
      first
        | (simp only [Ad,Dl];(first | rw [iN hc1] | skip);(first | rw [iN hc2] | skip);first | done | rfl)
        | (try simp only [Bool.not_eq_true',Bool.not_eq_false'] at *
           first
           | (simp only [Ad,Dl, *,Bool.false_eq_true,↓reduceIte,Bool.true_or,Bool.or_true,Bool.false_or,Bool.or_false,Bool.true_and,Bool.and_true,Bool.false_and,Bool.and_false,Bool.not_true,Bool.not_false];done)
           | (simp [Ad,Dl, *];done)
           | (simp_all [Ad,Dl];done))
        | skip

end Go.Proofs.YtkddpedfbicbeaaGreatDoor
