/-
  Walks of layer 8: nodes, sizes, checks. No condition.
-/
import Derived.Test.YtkddpedfbicbeaaGreatDoorAz
import Derived.Test.YtkddpedfbicbeaaGreatDoorW1
import Derived.Test.YtkddpedfbicbeaaGreatDoorK02
import Derived.KernelRfl
namespace Go.Proofs.YtkddpedfbicbeaaGreatDoor
open Go Go.Aw
set_option maxHeartbeats 400000
set_option maxRecDepth 20000
set_option linter.unusedVariables false
set_option linter.unusedSimpArgs false

theorem c82 (e:Ex):Ar Tryz.prog 110 [.agg (cE e)] (.int .i64 (Fb e)):=by
  refine Ar.body (n:=32) Ai Tryz.func110 rfl rfl rfl fun H=>?_
  refine AW.seq (AW.region (Qp K3 (Qp Ap (AOL.nil (Ae (AW.seq (AW.seq (AW.region (Qp J2 ?_)))))))))
  refine Qp (Cd [Iq _,Iq _,.str _]) ?_
  refine Qp (Qc rfl (c94 e.val)) ?_
  refine Qp Ap (AOL.nil (Ae (AW.seq (AW.region (Qp Az (Qp Ci (AOL.nil (Ae (A2 (fun hc1=>?_) fun hc1=>?_)))))))))
  · skip
    refine AW.seq (AW.region (Qp Az (Qp Ap (AOL.nil (Ae (Dq ?_))))))
    refine Qr (Iq _) ?_
    try simp only [Cx,Bool.and_true] at *
    first
      | (simp only [Ad,Fb];(first | rw [if_pos hc1] | skip);first | done | rfl)
      | (try simp only [Bool.not_eq_true',Bool.not_eq_false'] at *
         first
         | (simp only [Ad,Fb,isV0, *,Bool.false_eq_true,↓reduceIte,Bool.true_or,Bool.or_true,Bool.false_or,Bool.or_false,Bool.true_and,Bool.and_true,Bool.false_and,Bool.and_false,Bool.not_true,Bool.not_false];done)
         | (simp [Ad,Fb,isV0, *];done)
         | (simp_all [Ad,Fb,isV0];done))
      | skip
  · skip
    refine Bv (AW.seq (AW.seq (AW.region (Qp Kw (Qp Br (Qp A6 (Qp Bm (Qg [] Qw R6 (Qg [(14,_)] Qw Br ?_)))))))))
    refine Qg [] Qw J2 (Qg [(16,_)] Qw (Cd [Iq _,Iq _,.str _]) ?_)
    refine AOL.Aav (y:=.bool _) _ [(15,_),(17,_)] rfl (sB.all ⟨tO.self _ _,tO.self _ _,trivial⟩) (fun hG=>Ct (by kernel_rfl) rfl rfl (c99 e.kind e.val)) rfl ?_
    refine Qg [(18,_)] Qw Ge (Qg [(19,_)] Qw Bm (Qg [] Qw R6 (Qg [(21,_)] Qw Br (Qg [(22,_)] Qw A6 (Qg [(23,_)] Qw Bm (Qg [] Qw J2 (Qg [(25,_)] Qw (Cd [Iq _,Iq _,.str _]) (Qg [] Qw (El [Iq _,Iq _,.str _]) ?_))))))))
    refine AOL.Aav (y:=.bool _) _ [(26,_),(27,_)] rfl (sB.all ⟨tO.self _ _,tO.self _ _,trivial⟩) (fun hG=>Hg Ai rfl rfl rfl rfl rfl) rfl ?_
    refine Qg [(24,_),(28,_)] Qw Em (Qg [(20,_),(29,_)] Qw Ek (Qp Em (AOL.nil (Ae (A2 (fun hc2=>?_) fun hc2=>?_)))))
    · skip
      refine AW.seq (AW.region (Qp Ap (AOL.nil (Ae (Dq ?_)))))
      refine Qr (Iq _) ?_
      try simp only [Cx,Bool.and_true] at *
      first
        | (simp only [Ad,Fb];(first | rw [iN hc1] | skip);(first | rw [if_pos hc2] | skip);first | done | rfl)
        | (try simp only [Bool.not_eq_true',Bool.not_eq_false'] at *
           first
           | (simp only [Ad,Fb,isV0, *,Bool.false_eq_true,↓reduceIte,Bool.true_or,Bool.or_true,Bool.false_or,Bool.or_false,Bool.true_and,Bool.and_true,Bool.false_and,Bool.and_false,Bool.not_true,Bool.not_false];done)
           | (simp [Ad,Fb,isV0, *];done)
           | (simp_all [Ad,Fb,isV0];done))
        | skip
    · skip
      refine Bv (AW.seq (AW.region (Qp Ap (AOL.nil (Ae (AW.ret ?_))))))
      refine Qr (Iq _) ?_
      try simp only [Cx,Bool.and_true] at *
      first
        | (simp only [Ad,Fb];(first | rw [iN hc1] | skip);(first | rw [iN hc2] | skip);first | done | rfl)
        | (try simp only [Bool.not_eq_true',Bool.not_eq_false'] at *
           first
           | (simp only [Ad,Fb,isV0, *,Bool.false_eq_true,↓reduceIte,Bool.true_or,Bool.or_true,Bool.false_or,Bool.or_false,Bool.true_and,Bool.and_true,Bool.false_and,Bool.and_false,Bool.not_true,Bool.not_false];done)
           | (simp [Ad,Fb,isV0, *];done)
           | (simp_all [Ad,Fb,isV0];done))
        | skip
theorem c47 (e:Ex):Ar Tryz.prog 69 [.agg (cE e)] (.int .i64 (Bx e)):=by
  refine Ar.body (n:=114) Ai Tryz.func69 rfl rfl rfl fun H=>?_
  refine AW.seq (AW.region (Qp K3 (Qp Ap (AOL.nil (Ae (AW.seq (AW.region (Qp Kw (Qp Br ?_)))))))))
  refine Qp (Qc rfl (c81 e.op)) ?_
  refine Qp Lv (Qp Ih (Qp dK (Qp Ap (Qp Bc (AOL.nil (Ae (AW.seq (AW.seq (AW.region ?_)))))))))
  refine Qp Bm (Qp Ge (AOL.nil (Ae (A2 (fun hc1=>?_) fun hc1=>?_))))
  · skip
    refine AW.seq (AW.region (Qp Ap (AOL.nil (Ae (Dq ?_)))))
    refine Qr (Iq _) ?_
    try simp only [Cx,Bool.and_true] at *
    first
      | (simp only [Ad,Bx,Bl];(first | rw [if_pos hc1] | skip);first | done | rfl)
      | (try simp only [Bool.not_eq_true',Bool.not_eq_false'] at *
         first
         | (simp only [Ad,Bx,Bl,isV0, *,Bool.false_eq_true,↓reduceIte,Bool.true_or,Bool.or_true,Bool.false_or,Bool.or_false,Bool.true_and,Bool.and_true,Bool.false_and,Bool.and_false,Bool.not_true,Bool.not_false];done)
         | (simp [Ad,Bx,Bl,isV0, *];done)
         | (simp_all [Ad,Bx,Bl,isV0];done))
      | skip
  · skip
    refine Bv (AW.seq (AW.seq (AW.region (Qp Mr (Qp Dg ?_)))))
    refine Qp (Ak (n:=e.args.length) Ai rfl rfl rfl (by simp)) ?_
    refine Qp Az (Qp Ci (AOL.nil (Ae (A2 (fun hc2=>?_) fun hc2=>?_))))
    · skip
      refine AW.seq (AW.region (Qp Ap (AOL.nil (Ae (Dq ?_)))))
      refine Qr (Iq _) ?_
      try simp only [Cx,Bool.and_true] at *
      first
        | (simp only [Ad,Bx,Bl];(first | rw [iN hc1] | skip);(first | rw [if_pos hc2] | skip);first | done | rfl)
        | (try simp only [Bool.not_eq_true',Bool.not_eq_false'] at *
           first
           | (simp only [Ad,Bx,Bl,isV0, *,Bool.false_eq_true,↓reduceIte,Bool.true_or,Bool.or_true,Bool.false_or,Bool.or_false,Bool.true_and,Bool.and_true,Bool.false_and,Bool.and_false,Bool.not_true,Bool.not_false];done)
           | (simp [Ad,Bx,Bl,isV0, *];done)
           | (simp_all [Ad,Bx,Bl,isV0];done))
        | skip
    · skip
      refine Bv (AW.seq (AW.region (Qp Kw (Qp Br ?_))))
      refine Qp (Qc rfl (c52 e.op)) ?_
      refine Qp Lv (Qp dK (Qp dK (Qp Bc (Qp Bc (AOL.nil (Ae (AW.seq (AW.seq (AW.region ?_)))))))))
      refine Qp Bm (Qp Bm (Qg [] Qw Ym (Qg [(31,_)] Qw Br (Qg [(32,_)] Qw Cf (Qg [(33,_)] Qw Bm (Qg [] Qw Ym (Qg [(35,_)] Qw Br (Qg [(36,_)] Qw Ob (Qg [(34,_),(37,_)] Qw Ek ?_)))))))))
      refine Qp Em (Qp Bm (Qg [] Qw Bm (Qg [(41,_)] Qw Bm (Qg [] Qw Qv (Qg [(43,_)] Qw Br (Qg [(44,_)] Qw Cf (Qg [(45,_)] Qw Bm (Qg [] Qw Qv (Qg [(47,_)] Qw Br ?_)))))))))
      refine Qg [(48,_)] Qw Ob (Qg [(46,_),(49,_)] Qw Ek (Qg [(42,_),(50,_)] Qw Em (Qp Ek (AOL.nil (Ae (A2 (fun hc3=>?_) fun hc3=>?_))))))
      · skip
        refine AW.seq (AW.region (Qp Ap (AOL.nil (Ae (Dq ?_)))))
        refine Qr (Iq _) ?_
        try simp only [Cx,Bool.and_true] at *
        first
          | (simp only [Ad,Bx,Bl];(first | rw [iN hc1] | skip);(first | rw [iN hc2] | skip);(first | rw [if_pos hc3] | skip);first | done | rfl)
          | (try simp only [Bool.not_eq_true',Bool.not_eq_false'] at *
             first
             | (simp only [Ad,Bx,Bl,isV0, *,Bool.false_eq_true,↓reduceIte,Bool.true_or,Bool.or_true,Bool.false_or,Bool.or_false,Bool.true_and,Bool.and_true,Bool.false_and,Bool.and_false,Bool.not_true,Bool.not_false];done)
             | (simp [Ad,Bx,Bl,isV0, *];done)
             | (simp_all [Ad,Bx,Bl,isV0];done))
          | skip
      · skip
        refine Bv (AW.seq (AW.region (Qp Kw (Qp Br (Qp A6 (Qp Bc (AOL.nil (Ae (AW.seq ?_)))))))))
        refine AW.seq (AW.region (Qp Bm (Qp Bm (Qg [] Qw R6 (Qg [(58,_)] Qw Br (Qg [(59,_)] Qw Cf (Qg [(60,_)] Qw Bm (Qg [] Qw R6 (Qg [(62,_)] Qw Br ?_)))))))))
        refine Qg [(63,_)] Qw Hb (Qg [(61,_),(64,_)] Qw Ek (Qp Em (AOL.nil (Ae (A2 (fun hc4=>?_) fun hc4=>?_)))))
        · skip
          refine AW.seq (AW.region (Qp Ap (AOL.nil (Ae (Dq ?_)))))
          refine Qr (Iq _) ?_
          try simp only [Cx,Bool.and_true] at *
          first
            | (simp only [Ad,Bx,Bl];(first | rw [iN hc1] | skip);(first | rw [iN hc2] | skip);(first | rw [iN hc3] | skip);(first | rw [if_pos hc4] | skip);first | done | rfl)
            | (try simp only [Bool.not_eq_true',Bool.not_eq_false'] at *
               first
               | (simp only [Ad,Bx,Bl,isV0, *,Bool.false_eq_true,↓reduceIte,Bool.true_or,Bool.or_true,Bool.false_or,Bool.or_false,Bool.true_and,Bool.and_true,Bool.false_and,Bool.and_false,Bool.not_true,Bool.not_false];done)
               | (simp [Ad,Bx,Bl,isV0, *];done)
               | (simp_all [Ad,Bx,Bl,isV0];done))
            | skip
        · skip
          refine Bv (AW.seq (AW.region (Qp Bm (Qp Bm (Qg [] Qw Kw (Qg [(69,_)] Qw Br (Qg [(70,_)] Qw A6 (Qp Ek (Qp Bc ?_)))))))))
          refine AOL.nil (Ae (AW.seq (AW.seq (AW.region (Qp Bm (AOL.nil (Ae (A2 (fun hc5=>?_) fun hc5=>?_))))))))
          · skip
            refine AW.seq (AW.region (Qp Dh ?_))
            refine Qp (Qc rfl (c82 e)) ?_
            refine Qp Ap (AOL.nil (Ae (AW.seq (AW.region (Qp Az (Qp Ci (AOL.nil (Ae (A2 (fun hc6=>?_) fun hc6=>?_)))))))))
            · skip
              refine AW.seq (AW.region (Qp Az (Qp Ap (AOL.nil (Ae (Dq ?_))))))
              refine Qr (Iq _) ?_
              try simp only [Cx,Bool.and_true] at *
              first
                | (simp only [Ad,Bx,Bl];(first | rw [iN hc1] | skip);(first | rw [iN hc2] | skip);(first | rw [iN hc3] | skip);(first | rw [iN hc4] | skip);(first | rw [if_pos hc5] | skip);(first | rw [if_pos hc6] | skip);first | done | rfl)
                | (try simp only [Bool.not_eq_true',Bool.not_eq_false'] at *
                   first
                   | (simp only [Ad,Bx,Bl,isV0, *,Bool.false_eq_true,↓reduceIte,Bool.true_or,Bool.or_true,Bool.false_or,Bool.or_false,Bool.true_and,Bool.and_true,Bool.false_and,Bool.and_false,Bool.not_true,Bool.not_false];done)
                   | (simp [Ad,Bx,Bl,isV0, *];done)
                   | (simp_all [Ad,Bx,Bl,isV0];done))
                | skip
            · skip
              refine Bv (AW.seq (AW.seq (AW.region (Qp Bm (Qp Ge (Qp Bm (Qg [] Qw Ym (Qg [(82,_)] Qw Br (Qg [(83,_)] Qw Ci ?_)))))))))
              refine Qp Em (Qp Bm (Qg [] Qw Bm (Qg [(87,_)] Qw Ge (Qg [(88,_)] Qw Bm (Qg [] Qw Qv (Qg [(90,_)] Qw Br (Qg [(91,_)] Qw Ci (Qg [(89,_),(92,_)] Qw Em (Qp Ek ?_)))))))))
              refine Qp Bm (Qg [] Qw Bm (Qg [(96,_)] Qw Ge (Qg [(97,_)] Qw Bm (Qg [] Qw R6 (Qg [(99,_)] Qw Br (Qg [(100,_)] Qw Ci (Qg [(98,_),(101,_)] Qw Em (Qp Ek (Qp Bm ?_)))))))))
              refine Qg [] Qw Bm (Qg [(105,_)] Qw Ge (Qg [(106,_)] Qw Bm (Qg [] Qw J2 (Qg [(108,_)] Qw (Cd [Iq _,Iq _,.str _]) (Qg [] Qw (El [Iq _,Iq _,.str _]) ?_)))))
              refine AOL.Aav (y:=.bool _) _ [(109,_),(110,_)] rfl (sB.all ⟨tO.self _ _,tO.self _ _,trivial⟩) (fun hG=>Hg Ai rfl rfl rfl rfl rfl) rfl ?_
              refine Qg [(107,_),(111,_)] Qw Em (Qp Ek (AOL.nil (Ae (A2 (fun hc7=>?_) fun hc7=>?_))))
              · skip
                refine AW.seq (AW.region (Qp Ap (AOL.nil (Ae (Dq ?_)))))
                refine Qr (Iq _) ?_
                try simp only [Cx,Bool.and_true] at *
                first
                  | (simp only [Ad,Bx,Bl];(first | rw [iN hc1] | skip);(first | rw [iN hc2] | skip);(first | rw [iN hc3] | skip);(first | rw [iN hc4] | skip);(first | rw [if_pos hc5] | skip);(first | rw [iN hc6] | skip);(first | rw [if_pos hc7] | skip);first | done | rfl)
                  | (try simp only [Bool.not_eq_true',Bool.not_eq_false'] at *
                     first
                     | (simp only [Ad,Bx,Bl,isV0, *,Bool.false_eq_true,↓reduceIte,Bool.true_or,Bool.or_true,Bool.false_or,Bool.or_false,Bool.true_and,Bool.and_true,Bool.false_and,Bool.and_false,Bool.not_true,Bool.not_false];done)
                     | (simp [Ad,Bx,Bl,isV0, *];done)
                     | (simp_all [Ad,Bx,Bl,isV0];done))
                  | skip
              · skip
                refine Bv (AW.seq (AW.region (Qp Ap (AOL.nil (Ae (AW.ret ?_))))))
                refine Qr (Iq _) ?_
                try simp only [Cx,Bool.and_true] at *
                first
                  | (simp only [Ad,Bx,Bl];(first | rw [iN hc1] | skip);(first | rw [iN hc2] | skip);(first | rw [iN hc3] | skip);(first | rw [iN hc4] | skip);(first | rw [if_pos hc5] | skip);(first | rw [iN hc6] | skip);(first | rw [iN hc7] | skip);first | done | rfl)
                  | (try simp only [Bool.not_eq_true',Bool.not_eq_false'] at *
                     first
                     | (simp only [Ad,Bx,Bl,isV0, *,Bool.false_eq_true,↓reduceIte,Bool.true_or,Bool.or_true,Bool.false_or,Bool.or_false,Bool.true_and,Bool.and_true,Bool.false_and,Bool.and_false,Bool.not_true,Bool.not_false];done)
                     | (simp [Ad,Bx,Bl,isV0, *];done)
                     | (simp_all [Ad,Bx,Bl,isV0];done))
                  | skip
          · skip
            refine Bv (AW.seq (AW.seq (AW.region (Qp Bm (Qp Ge (Qp Bm (Qg [] Qw Ym (Qg [(82,_)] Qw Br (Qg [(83,_)] Qw Ci ?_)))))))))
            refine Qp Em (Qp Bm (Qg [] Qw Bm (Qg [(87,_)] Qw Ge (Qg [(88,_)] Qw Bm (Qg [] Qw Qv (Qg [(90,_)] Qw Br (Qg [(91,_)] Qw Ci (Qg [(89,_),(92,_)] Qw Em (Qp Ek ?_)))))))))
            refine Qp Bm (Qg [] Qw Bm (Qg [(96,_)] Qw Ge (Qg [(97,_)] Qw Bm (Qg [] Qw R6 (Qg [(99,_)] Qw Br (Qg [(100,_)] Qw Ci (Qg [(98,_),(101,_)] Qw Em (Qp Ek (Qp Bm ?_)))))))))
            refine Qg [] Qw Bm (Qg [(105,_)] Qw Ge (Qg [(106,_)] Qw Bm (Qg [] Qw J2 (Qg [(108,_)] Qw (Cd [Iq _,Iq _,.str _]) (Qg [] Qw (El [Iq _,Iq _,.str _]) ?_)))))
            refine AOL.Aav (y:=.bool _) _ [(109,_),(110,_)] rfl (sB.all ⟨tO.self _ _,tO.self _ _,trivial⟩) (fun hG=>Hg Ai rfl rfl rfl rfl rfl) rfl ?_
            refine Qg [(107,_),(111,_)] Qw Em (Qp Ek (AOL.nil (Ae (A2 (fun hc8=>?_) fun hc8=>?_))))
            · skip
              refine AW.seq (AW.region (Qp Ap (AOL.nil (Ae (Dq ?_)))))
              refine Qr (Iq _) ?_
              try simp only [Cx,Bool.and_true] at *
              first
                | (simp only [Ad,Bx,Bl];(first | rw [iN hc1] | skip);(first | rw [iN hc2] | skip);(first | rw [iN hc3] | skip);(first | rw [iN hc4] | skip);(first | rw [iN hc5] | skip);(first | rw [if_pos hc8] | skip);first | done | rfl)
                | (try simp only [Bool.not_eq_true',Bool.not_eq_false'] at *
                   first
                   | (simp only [Ad,Bx,Bl,isV0, *,Bool.false_eq_true,↓reduceIte,Bool.true_or,Bool.or_true,Bool.false_or,Bool.or_false,Bool.true_and,Bool.and_true,Bool.false_and,Bool.and_false,Bool.not_true,Bool.not_false];done)
                   | (simp [Ad,Bx,Bl,isV0, *];done)
                   | (simp_all [Ad,Bx,Bl,isV0];done))
                | skip
            · skip
              refine Bv (AW.seq (AW.region (Qp Ap (AOL.nil (Ae (AW.ret ?_))))))
              refine Qr (Iq _) ?_
              try simp only [Cx,Bool.and_true] at *
              first
                | (simp only [Ad,Bx,Bl];(first | rw [iN hc1] | skip);(first | rw [iN hc2] | skip);(first | rw [iN hc3] | skip);(first | rw [iN hc4] | skip);(first | rw [iN hc5] | skip);(first | rw [iN hc8] | skip);first | done | rfl)
                | (try simp only [Bool.not_eq_true',Bool.not_eq_false'] at *
                   first
                   | (simp only [Ad,Bx,Bl,isV0, *,Bool.false_eq_true,↓reduceIte,Bool.true_or,Bool.or_true,Bool.false_or,Bool.or_false,Bool.true_and,Bool.and_true,Bool.false_and,Bool.and_false,Bool.not_true,Bool.not_false];done)
                   | (simp [Ad,Bx,Bl,isV0, *];done)
                   | (simp_all [Ad,Bx,Bl,isV0];done))
                | skip
theorem c83 (e:Ex):Ar Tryz.prog 142 [.agg (cE e)] (.int .i64 (Bx e)):=by
  refine Ar.body (n:=131) Ai Tryz.func142 rfl rfl rfl fun H=>?_
  refine AW.seq (AW.region (Qp K3 (Qp Ap (AOL.nil (Ae (AW.seq (AW.region (Qp Kw (Qp Br ?_)))))))))
  refine Qp (Qc rfl (c100 e.op)) ?_
  refine Qp Ap (AOL.nil (Ae (AW.seq (AW.seq (AW.region (Qp Az (Qp Cf (AOL.nil (Ae (A2 (fun hc1=>?_) fun hc1=>?_))))))))))
  · skip
    refine AW.seq (AW.region (Qp Ap (AOL.nil (Ae (Dq ?_)))))
    refine Qr (Iq _) ?_
    rw [←Hx]
    try simp only [Cx,Bool.and_true] at *
    first
      | (simp only [Ad,Ck,Bl];(first | rw [if_pos hc1] | skip);first | done | rfl)
      | (try simp only [Bool.not_eq_true',Bool.not_eq_false'] at *
         first
         | (simp only [Ad,Ck,Bl,isV0, *,Bool.false_eq_true,↓reduceIte,Bool.true_or,Bool.or_true,Bool.false_or,Bool.or_false,Bool.true_and,Bool.and_true,Bool.false_and,Bool.and_false,Bool.not_true,Bool.not_false];done)
         | (simp [Ad,Ck,Bl,isV0, *];done)
         | (simp_all [Ad,Ck,Bl,isV0];done))
      | skip
  · skip
    refine Bv (AW.seq (AW.seq (AW.region (Qp Mr (Qp Dg ?_)))))
    refine Qp (Ak (n:=e.args.length) Ai rfl rfl rfl (by simp)) ?_
    refine Qp Az (Qp Ci (AOL.nil (Ae (A2 (fun hc2=>?_) fun hc2=>?_))))
    · skip
      refine AW.seq (AW.region (Qp Ap (AOL.nil (Ae (Dq ?_)))))
      refine Qr (Iq _) ?_
      rw [←Hx]
      try simp only [Cx,Bool.and_true] at *
      first
        | (simp only [Ad,Ck,Bl];(first | rw [iN hc1] | skip);(first | rw [if_pos hc2] | skip);first | done | rfl)
        | (try simp only [Bool.not_eq_true',Bool.not_eq_false'] at *
           first
           | (simp only [Ad,Ck,Bl,isV0, *,Bool.false_eq_true,↓reduceIte,Bool.true_or,Bool.or_true,Bool.false_or,Bool.or_false,Bool.true_and,Bool.and_true,Bool.false_and,Bool.and_false,Bool.not_true,Bool.not_false];done)
           | (simp [Ad,Ck,Bl,isV0, *];done)
           | (simp_all [Ad,Ck,Bl,isV0];done))
        | skip
    · skip
      refine Bv (AW.seq (AW.region (Qp Kw (Qp Br ?_))))
      refine Qp (Qc rfl (c84 e.op)) ?_
      refine Qp Lv (Qp dK (Qp dK (Qp Bc (Qp Bc (AOL.nil (Ae (AW.seq (AW.seq (AW.region ?_)))))))))
      refine Qp Bm (Qp Bm (Qg [] Qw Ym (Qg [(27,_)] Qw Br (Qg [(28,_)] Qw Cf (Qg [(29,_)] Qw Bm (Qg [] Qw Ym (Qg [(31,_)] Qw Br (Qg [(32,_)] Qw Ob (Qg [(30,_),(33,_)] Qw Ek ?_)))))))))
      refine Qp Em (Qp Bm (Qg [] Qw Bm (Qg [(37,_)] Qw Bm (Qg [] Qw Qv (Qg [(39,_)] Qw Br (Qg [(40,_)] Qw Cf (Qg [(41,_)] Qw Bm (Qg [] Qw Qv (Qg [(43,_)] Qw Br ?_)))))))))
      refine Qg [(44,_)] Qw Ob (Qg [(42,_),(45,_)] Qw Ek (Qg [(38,_),(46,_)] Qw Em (Qp Ek (AOL.nil (Ae (A2 (fun hc3=>?_) fun hc3=>?_))))))
      · skip
        refine AW.seq (AW.region (Qp Ap (AOL.nil (Ae (Dq ?_)))))
        refine Qr (Iq _) ?_
        rw [←Hx]
        try simp only [Cx,Bool.and_true] at *
        first
          | (simp only [Ad,Ck,Bl];(first | rw [iN hc1] | skip);(first | rw [iN hc2] | skip);(first | rw [if_pos hc3] | skip);first | done | rfl)
          | (try simp only [Bool.not_eq_true',Bool.not_eq_false'] at *
             first
             | (simp only [Ad,Ck,Bl,isV0, *,Bool.false_eq_true,↓reduceIte,Bool.true_or,Bool.or_true,Bool.false_or,Bool.or_false,Bool.true_and,Bool.and_true,Bool.false_and,Bool.and_false,Bool.not_true,Bool.not_false];done)
             | (simp [Ad,Ck,Bl,isV0, *];done)
             | (simp_all [Ad,Ck,Bl,isV0];done))
          | skip
      · skip
        refine Bv (AW.seq (AW.region (Qp Kw (Qp Br (Qp A6 (Qp Bc (AOL.nil (Ae (AW.seq ?_)))))))))
        refine AW.seq (AW.region (Qp Bm (Qp Bm (Qg [] Qw R6 (Qg [(54,_)] Qw Br (Qg [(55,_)] Qw Cf (Qg [(56,_)] Qw Bm (Qg [] Qw R6 (Qg [(58,_)] Qw Br ?_)))))))))
        refine Qg [(59,_)] Qw Hb (Qg [(57,_),(60,_)] Qw Ek (Qp Em (AOL.nil (Ae (A2 (fun hc4=>?_) fun hc4=>?_)))))
        · skip
          refine AW.seq (AW.region (Qp Ap (AOL.nil (Ae (Dq ?_)))))
          refine Qr (Iq _) ?_
          rw [←Hx]
          try simp only [Cx,Bool.and_true] at *
          first
            | (simp only [Ad,Ck,Bl];(first | rw [iN hc1] | skip);(first | rw [iN hc2] | skip);(first | rw [iN hc3] | skip);(first | rw [if_pos hc4] | skip);first | done | rfl)
            | (try simp only [Bool.not_eq_true',Bool.not_eq_false'] at *
               first
               | (simp only [Ad,Ck,Bl,isV0, *,Bool.false_eq_true,↓reduceIte,Bool.true_or,Bool.or_true,Bool.false_or,Bool.or_false,Bool.true_and,Bool.and_true,Bool.false_and,Bool.and_false,Bool.not_true,Bool.not_false];done)
               | (simp [Ad,Ck,Bl,isV0, *];done)
               | (simp_all [Ad,Ck,Bl,isV0];done))
            | skip
        · skip
          refine Bv (AW.seq (AW.region (Qp Bm (Qp Bm (Qg [] Qw Kw (Qg [(65,_)] Qw Br (Qg [(66,_)] Qw A6 (Qp Ek (Qp Bc ?_)))))))))
          refine AOL.nil (Ae (AW.seq (AW.seq (AW.region (Qp Bm (AOL.nil (Ae (A2 (fun hc5=>?_) fun hc5=>?_))))))))
          · skip
            refine AW.seq (AW.region (Qp J2 (Qp (Cd [Iq _,Iq _,.str _]) ?_)))
            refine Qp (Qc rfl (c79 e.val)) ?_
            refine Qp Ap (AOL.nil (Ae (AW.seq (AW.region (Qp Az (Qp Ci (AOL.nil (Ae (A2 (fun hc6=>?_) fun hc6=>?_)))))))))
            · skip
              refine AW.seq (AW.region (Qp Az (Qp Ap (AOL.nil (Ae (Dq ?_))))))
              refine Qr (Iq _) ?_
              rw [←Hx]
              try simp only [Cx,Bool.and_true] at *
              first
                | (simp only [Ad,Ck,Bl];(first | rw [iN hc1] | skip);(first | rw [iN hc2] | skip);(first | rw [iN hc3] | skip);(first | rw [iN hc4] | skip);(first | rw [if_pos hc5] | skip);(first | rw [if_pos hc6] | skip);first | done | rfl)
                | (try simp only [Bool.not_eq_true',Bool.not_eq_false'] at *
                   first
                   | (simp only [Ad,Ck,Bl,isV0, *,Bool.false_eq_true,↓reduceIte,Bool.true_or,Bool.or_true,Bool.false_or,Bool.or_false,Bool.true_and,Bool.and_true,Bool.false_and,Bool.and_false,Bool.not_true,Bool.not_false];done)
                   | (simp [Ad,Ck,Bl,isV0, *];done)
                   | (simp_all [Ad,Ck,Bl,isV0];done))
                | skip
            · skip
              refine Bv (AW.seq (AW.seq (AW.region (Qp Bm (Qp Bm (Qg [] Qw R6 (Qg [(78,_)] Qw Br (Qg [] Qw J2 (Qg [(80,_)] Qw (Cd [Iq _,Iq _,.str _]) ?_)))))))))
              refine AOL.Aav (y:=.bool _) _ [(79,_),(81,_)] rfl (sB.all ⟨tO.self _ _,tO.self _ _,trivial⟩) (fun hG=>Ct (by kernel_rfl) rfl rfl (c101 e.kind e.val)) rfl ?_
              refine Qg [(82,_)] Qw Ge (Qg [(83,_)] Qw Bm (Qg [] Qw R6 (Qg [(85,_)] Qw Br (Qg [(86,_)] Qw A6 (Qg [(87,_)] Qw Bm (Qg [] Qw J2 (Qg [(89,_)] Qw (Cd [Iq _,Iq _,.str _]) (Qg [] Qw (El [Iq _,Iq _,.str _]) ?_))))))))
              refine AOL.Aav (y:=.bool _) _ [(90,_),(91,_)] rfl (sB.all ⟨tO.self _ _,tO.self _ _,trivial⟩) (fun hG=>Hg Ai rfl rfl rfl rfl rfl) rfl ?_
              refine Qg [(88,_),(92,_)] Qw Em (Qg [(84,_),(93,_)] Qw Ek (Qp Em (AOL.nil (Ae (A2 (fun hc7=>?_) fun hc7=>?_)))))
              · skip
                refine AW.seq (AW.region (Qp Ap (AOL.nil (Ae (Dq ?_)))))
                refine Qr (Iq _) ?_
                rw [←Hx]
                try simp only [Cx,Bool.and_true] at *
                first
                  | (simp only [Ad,Ck,Bl];(first | rw [iN hc1] | skip);(first | rw [iN hc2] | skip);(first | rw [iN hc3] | skip);(first | rw [iN hc4] | skip);(first | rw [if_pos hc5] | skip);(first | rw [iN hc6] | skip);(first | rw [if_pos hc7] | skip);first | done | rfl)
                  | (try simp only [Bool.not_eq_true',Bool.not_eq_false'] at *
                     first
                     | (simp only [Ad,Ck,Bl,isV0, *,Bool.false_eq_true,↓reduceIte,Bool.true_or,Bool.or_true,Bool.false_or,Bool.or_false,Bool.true_and,Bool.and_true,Bool.false_and,Bool.and_false,Bool.not_true,Bool.not_false];done)
                     | (simp [Ad,Ck,Bl,isV0, *];done)
                     | (simp_all [Ad,Ck,Bl,isV0];done))
                  | skip
              · skip
                refine Bv (AW.seq (AW.seq (AW.region (Qp Bm (Qp Ge (Qp Bm (Qg [] Qw Ym (Qg [(99,_)] Qw Br (Qg [(100,_)] Qw Ci ?_)))))))))
                refine Qp Em (Qp Bm (Qg [] Qw Bm (Qg [(104,_)] Qw Ge (Qg [(105,_)] Qw Bm (Qg [] Qw Qv (Qg [(107,_)] Qw Br (Qg [(108,_)] Qw Ci (Qg [(106,_),(109,_)] Qw Em (Qp Ek ?_)))))))))
                refine Qp Bm (Qg [] Qw Bm (Qg [(113,_)] Qw Ge (Qg [(114,_)] Qw Bm (Qg [] Qw R6 (Qg [(116,_)] Qw Br (Qg [(117,_)] Qw Ci (Qg [(115,_),(118,_)] Qw Em (Qp Ek (Qp Bm ?_)))))))))
                refine Qg [] Qw Bm (Qg [(122,_)] Qw Ge (Qg [(123,_)] Qw Bm (Qg [] Qw J2 (Qg [(125,_)] Qw (Cd [Iq _,Iq _,.str _]) (Qg [] Qw (El [Iq _,Iq _,.str _]) ?_)))))
                refine AOL.Aav (y:=.bool _) _ [(126,_),(127,_)] rfl (sB.all ⟨tO.self _ _,tO.self _ _,trivial⟩) (fun hG=>Hg Ai rfl rfl rfl rfl rfl) rfl ?_
                refine Qg [(124,_),(128,_)] Qw Em (Qp Ek (AOL.nil (Ae (A2 (fun hc8=>?_) fun hc8=>?_))))
                · skip
                  refine AW.seq (AW.region (Qp Ap (AOL.nil (Ae (Dq ?_)))))
                  refine Qr (Iq _) ?_
                  rw [←Hx]
                  try simp only [Cx,Bool.and_true] at *
                  first
                    | (simp only [Ad,Ck,Bl];(first | rw [iN hc1] | skip);(first | rw [iN hc2] | skip);(first | rw [iN hc3] | skip);(first | rw [iN hc4] | skip);(first | rw [if_pos hc5] | skip);(first | rw [iN hc6] | skip);(first | rw [iN hc7] | skip);(first | rw [if_pos hc8] | skip);first | done | rfl)
                    | (try simp only [Bool.not_eq_true',Bool.not_eq_false'] at *
                       first
                       | (simp only [Ad,Ck,Bl,isV0, *,Bool.false_eq_true,↓reduceIte,Bool.true_or,Bool.or_true,Bool.false_or,Bool.or_false,Bool.true_and,Bool.and_true,Bool.false_and,Bool.and_false,Bool.not_true,Bool.not_false];done)
                       | (simp [Ad,Ck,Bl,isV0, *];done)
                       | (simp_all [Ad,Ck,Bl,isV0];done))
                    | skip
                · skip
                  refine Bv (AW.seq (AW.region (Qp Ap (AOL.nil (Ae (AW.ret ?_))))))
                  refine Qr (Iq _) ?_
                  rw [←Hx]
                  try simp only [Cx,Bool.and_true] at *
                  first
                    | (simp only [Ad,Ck,Bl];(first | rw [iN hc1] | skip);(first | rw [iN hc2] | skip);(first | rw [iN hc3] | skip);(first | rw [iN hc4] | skip);(first | rw [if_pos hc5] | skip);(first | rw [iN hc6] | skip);(first | rw [iN hc7] | skip);(first | rw [iN hc8] | skip);first | done | rfl)
                    | (try simp only [Bool.not_eq_true',Bool.not_eq_false'] at *
                       first
                       | (simp only [Ad,Ck,Bl,isV0, *,Bool.false_eq_true,↓reduceIte,Bool.true_or,Bool.or_true,Bool.false_or,Bool.or_false,Bool.true_and,Bool.and_true,Bool.false_and,Bool.and_false,Bool.not_true,Bool.not_false];done)
                       | (simp [Ad,Ck,Bl,isV0, *];done)
                       | (simp_all [Ad,Ck,Bl,isV0];done))
                    | skip
          · skip
            refine Bv (AW.seq (AW.seq (AW.region (Qp Bm (Qp Bm (Qg [] Qw R6 (Qg [(78,_)] Qw Br (Qg [] Qw J2 (Qg [(80,_)] Qw (Cd [Iq _,Iq _,.str _]) ?_)))))))))
            refine AOL.Aav (y:=.bool _) _ [(79,_),(81,_)] rfl (sB.all ⟨tO.self _ _,tO.self _ _,trivial⟩) (fun hG=>Ct (by kernel_rfl) rfl rfl (c101 e.kind e.val)) rfl ?_
            refine Qg [(82,_)] Qw Ge (Qg [(83,_)] Qw Bm (Qg [] Qw R6 (Qg [(85,_)] Qw Br (Qg [(86,_)] Qw A6 (Qg [(87,_)] Qw Bm (Qg [] Qw J2 (Qg [(89,_)] Qw (Cd [Iq _,Iq _,.str _]) (Qg [] Qw (El [Iq _,Iq _,.str _]) ?_))))))))
            refine AOL.Aav (y:=.bool _) _ [(90,_),(91,_)] rfl (sB.all ⟨tO.self _ _,tO.self _ _,trivial⟩) (fun hG=>Hg Ai rfl rfl rfl rfl rfl) rfl ?_
            refine Qg [(88,_),(92,_)] Qw Em (Qg [(84,_),(93,_)] Qw Ek (Qp Em (AOL.nil (Ae (A2 (fun hc9=>?_) fun hc9=>?_)))))
            · skip
              refine AW.seq (AW.region (Qp Ap (AOL.nil (Ae (Dq ?_)))))
              refine Qr (Iq _) ?_
              rw [←Hx]
              try simp only [Cx,Bool.and_true] at *
              first
                | (simp only [Ad,Ck,Bl];(first | rw [iN hc1] | skip);(first | rw [iN hc2] | skip);(first | rw [iN hc3] | skip);(first | rw [iN hc4] | skip);(first | rw [iN hc5] | skip);(first | rw [if_pos hc9] | skip);first | done | rfl)
                | (try simp only [Bool.not_eq_true',Bool.not_eq_false'] at *
                   first
                   | (simp only [Ad,Ck,Bl,isV0, *,Bool.false_eq_true,↓reduceIte,Bool.true_or,Bool.or_true,Bool.false_or,Bool.or_false,Bool.true_and,Bool.and_true,Bool.false_and,Bool.and_false,Bool.not_true,Bool.not_false];done)
                   | (simp [Ad,Ck,Bl,isV0, *];done)
                   | (simp_all [Ad,Ck,Bl,isV0];done))
                | skip
            · skip
              refine Bv (AW.seq (AW.seq (AW.region (Qp Bm (Qp Ge (Qp Bm (Qg [] Qw Ym (Qg [(99,_)] Qw Br (Qg [(100,_)] Qw Ci ?_)))))))))
              refine Qp Em (Qp Bm (Qg [] Qw Bm (Qg [(104,_)] Qw Ge (Qg [(105,_)] Qw Bm (Qg [] Qw Qv (Qg [(107,_)] Qw Br (Qg [(108,_)] Qw Ci (Qg [(106,_),(109,_)] Qw Em (Qp Ek ?_)))))))))
              refine Qp Bm (Qg [] Qw Bm (Qg [(113,_)] Qw Ge (Qg [(114,_)] Qw Bm (Qg [] Qw R6 (Qg [(116,_)] Qw Br (Qg [(117,_)] Qw Ci (Qg [(115,_),(118,_)] Qw Em (Qp Ek (Qp Bm ?_)))))))))
              refine Qg [] Qw Bm (Qg [(122,_)] Qw Ge (Qg [(123,_)] Qw Bm (Qg [] Qw J2 (Qg [(125,_)] Qw (Cd [Iq _,Iq _,.str _]) (Qg [] Qw (El [Iq _,Iq _,.str _]) ?_)))))
              refine AOL.Aav (y:=.bool _) _ [(126,_),(127,_)] rfl (sB.all ⟨tO.self _ _,tO.self _ _,trivial⟩) (fun hG=>Hg Ai rfl rfl rfl rfl rfl) rfl ?_
              refine Qg [(124,_),(128,_)] Qw Em (Qp Ek (AOL.nil (Ae (A2 (fun hc10=>?_) fun hc10=>?_))))
              · skip
                refine AW.seq (AW.region (Qp Ap (AOL.nil (Ae (Dq ?_)))))
                refine Qr (Iq _) ?_
                rw [←Hx]
                try simp only [Cx,Bool.and_true] at *
                first
                  | (simp only [Ad,Ck,Bl];(first | rw [iN hc1] | skip);(first | rw [iN hc2] | skip);(first | rw [iN hc3] | skip);(first | rw [iN hc4] | skip);(first | rw [iN hc5] | skip);(first | rw [iN hc9] | skip);(first | rw [if_pos hc10] | skip);first | done | rfl)
                  | (try simp only [Bool.not_eq_true',Bool.not_eq_false'] at *
                     first
                     | (simp only [Ad,Ck,Bl,isV0, *,Bool.false_eq_true,↓reduceIte,Bool.true_or,Bool.or_true,Bool.false_or,Bool.or_false,Bool.true_and,Bool.and_true,Bool.false_and,Bool.and_false,Bool.not_true,Bool.not_false];done)
                     | (simp [Ad,Ck,Bl,isV0, *];done)
                     | (simp_all [Ad,Ck,Bl,isV0];done))
                  | skip
              · skip
                refine Bv (AW.seq (AW.region (Qp Ap (AOL.nil (Ae (AW.ret ?_))))))
                refine Qr (Iq _) ?_
                rw [←Hx]
                try simp only [Cx,Bool.and_true] at *
                first
                  | (simp only [Ad,Ck,Bl];(first | rw [iN hc1] | skip);(first | rw [iN hc2] | skip);(first | rw [iN hc3] | skip);(first | rw [iN hc4] | skip);(first | rw [iN hc5] | skip);(first | rw [iN hc9] | skip);(first | rw [iN hc10] | skip);first | done | rfl)
                  | (try simp only [Bool.not_eq_true',Bool.not_eq_false'] at *
                     first
                     | (simp only [Ad,Ck,Bl,isV0, *,Bool.false_eq_true,↓reduceIte,Bool.true_or,Bool.or_true,Bool.false_or,Bool.or_false,Bool.true_and,Bool.and_true,Bool.false_and,Bool.and_false,Bool.not_true,Bool.not_false];done)
                     | (simp [Ad,Ck,Bl,isV0, *];done)
                     | (simp_all [Ad,Ck,Bl,isV0];done))
                  | skip
theorem c23 (e:Ex)(hs:Av e≤1048576):Ar Tryz.prog 67 [.agg (cE e)] (.tuple [.int .i64 (Av e),.int .i64 (Et e)]):=by
 revert hs
 induction e using Ex.Aa0
 rename_i e ih
 intro hs
 refine Ar.body (n:=32) Ai Tryz.func67 rfl rfl rfl fun H=>?_
 refine Ah (Qp K3 (Qp Ap (Qp Ap (Db (Qp Ap (Qp Ap (Ag (AW.seq (Ah ?_)))))))))
 refine Qp Mr (Qp Dg ?_)
 refine Qp (Ak (n:=e.args.length) Ai rfl rfl rfl (by simp)) ?_
 refine Qp Az (Ag (AW.block ?_))
 refine AW.sllen 11 rfl fun hlen=>?_
 simp only [List.length_map,maxLen] at hlen
 refine AW.Aau (fun (p:Nat×Nat×Nat)=>(⟨[(4,.int .i64 (p.2.1:Int)),(5,.int .i64 (p.2.2:Int)),(11,.sl 8 (e.args.map Gs)),(12,.int .i64 e.args.length),(13,.int .i64 (p.1:Int))],H,32⟩:St)) (fun (p:Nat×Nat×Nat)=>p.1≤e.args.length∧Av e=p.2.1+((e.args.drop p.1).map Av).sum∧Et e=max p.2.2 (((e.args.drop p.1).map Et).foldr max 0)+1∧p.2.2≤1048576) (fun (p:Nat×Nat×Nat)=>e.args.length-p.1) ((0,1,0)) ?_ (GS.weaken ⟨rfl,rfl,rfl,rfl,rfl,trivial⟩ (.refl _)) ?_
 · exact ⟨Nat.zero_le _,by simpa using Ef e,by simpa using Tu e,Nat.zero_le _⟩
 ·
  rintro p hR
  refine Ah (Qp Cf (Ag (AW.seq (A2 (fun hc1=>?_) fun hc1=>?_))))
  ·
   obtain ⟨a,ha⟩:=B1 hc1
   have hlt:=A8 ha
   have hm:=List.mem_of_getElem? ha
   have hsa:=F0 hm
   have hda:=J9 a
   have h1:=iM p.2.1 ha
   have h2:=O6 p.2.2 ha
   refine Bv (AW.seq (AW.block (Ah ?_)))
   refine Qp (Af (c:=[Iq _,_,Iq _,Iq _,Iq _,Iq _,Iq _,.str _]) Ai rfl rfl rfl rfl rfl rfl (by omega) (E0 ha)) ?_
   refine Qp Dh ?_
   refine Qe (Aj (l:=[.int .i64 0,.sl 8 [],.int .i64 0,.int .i64 0,.int .i64 0,.int .i64 0,.int .i64 0,.str []]) (by kernel_rfl)) ?_
   rintro _ _ ⟨b7,rfl,rfl⟩
   refine Cq 0 [Iq _,_,Iq _,Iq _,Iq _,Iq _,Iq _,.str _] (_::_) ?_
   refine AOL.ghost (GS.Aat (t:=7) 0 rfl rfl) ?_
   refine Db (Qp Dh ?_)
   refine Qp (Qc rfl (ih a hm (by have:=F0 hm;omega))) ?_
   refine Qp Lv (Qp Ih (Qp Ih (Qp Ap (Qp Ap (Ag (AW.region (Qp Az (Qp Az (Qp Fu ?_)))))))))
   refine Qp Az (Qp Az ?_)
   refine Qp (yG rfl rfl) ?_
   refine Qp Ap (Qp Ap (AOL.nil (Bp (Ae (AW.region (Qp Fu (Qp Az (Ag ?_))))))))
   refine ⟨(p.1+1,p.2.1+Av a,max p.2.2 (Et a)),?_,?_,GS.weaken ⟨rfl,congrArg (AV.int .i64) (by simp only;omega),rfl,rfl,rfl,trivial⟩ (.refl _)⟩
   · simp only;exact ⟨hlt,by omega,by omega,by omega⟩
   · first | omega | (simp only;omega)
  ·
   have hd:=Df hc1
   refine AW.exit ?_
   refine A3 (A3 (Bq (Ae (Ah (Qp Az (Qp Az ?_))))))
   refine Qp (jE rfl rfl rfl (by have:=J9 e;constructor <;> omega)) ?_
   refine Qp Ap (Qp Ap (Ag (AW.ret ?_)))
   refine J3 (Iq _) (Iq _) ?_
   rw [hd] at hR
   simp only [List.map_nil,List.sum_nil,List.foldr_nil] at hR
   simp only [Ad,AV.tuple.injEq,List.cons.injEq,AV.int.injEq,true_and,and_true]
   omega
theorem c48 (L:Nat)(e:Ex)(hs:Av e≤1048576):Ar Tryz.prog 56 [.agg (cE e),.int .i64 (L:Int)] (.int .i64 (Fc L e)):=by
 revert hs
 induction e using Ex.Aa0
 rename_i e ih
 intro hs
 refine Ar.body (n:=29) Ai Tryz.func56 rfl rfl rfl fun H=>?_
 refine Ah (Qp K3 (Qp Ap (Db (Qp Ap (Ag (AW.seq (Ah (Qp Ap (Ag ?_)))))))))
 refine AW.block ?_
 refine AW.Aau (fun (p:Nat×Nat)=>(⟨[(1,.int .i64 (L:Int)),(2,.ptr (cE e)),(5,.int .i64 (p.2:Int)),(6,.int .i64 (p.1:Int))],H,29⟩:St)) (fun (p:Nat×Nat)=>p.1≤e.args.length∧Fc L e=F6 L (e.args.drop p.1) p.2∧p.2+((e.args.drop p.1).map Av).sum≤Av e∧e.args.length≤1048576) (fun (p:Nat×Nat)=>e.args.length-p.1) ((0,1)) ?_ (GS.weaken ⟨rfl,rfl,rfl,rfl,trivial⟩ (.refl _)) ?_
 · exact ⟨Nat.zero_le _,by simpa using aN L e,by simpa using Nat.le_of_eq (Ef e).symm,L5 e hs⟩
 ·
  rintro p hR
  refine AW.seq (Ah (Qp Az (Qp Mr (Qp Dg ?_))))
  refine Qp (Ak (n:=e.args.length) Ai rfl rfl rfl (by simp)) ?_
  refine Qp Cf (Qp Bm (Qg [] Qw Az (Qg [] Qw Az ?_)))
  refine AOL.Aav (y:=.bool _) _ [(13,_),(14,_)] rfl (sB.all ⟨tO.self _ _,tO.self _ _,trivial⟩) (fun hG=>yU rfl rfl) rfl ?_
  refine Qp Em (Ag (A2 (fun hc1=>?_) fun hc1=>?_))
  ·
   simp only [Bool.and_eq_true] at hc1
   obtain ⟨a,ha⟩:=B1 hc1.1
   have hlt:=A8 ha
   have hm:=List.mem_of_getElem? ha
   have hsa:=F0 hm
   have hle:p.2≤L:=by simpa using hc1.2
   have h1:=iM p.2 ha
   have h2:=Rc L a
   have h3:=hR.2.1
   rw [A5 ha,F6,if_pos hle] at h3
   refine Bv (AW.seq (AW.block (AW.region (Qp Az (Qp Mr (Qp Dg (Qp Az ?_)))))))
   refine Qp (Af (c:=[Iq _,_,Iq _,Iq _,Iq _,Iq _,Iq _,.str _]) Ai rfl rfl rfl rfl rfl rfl (by omega) (E0 ha)) ?_
   refine Qp Dh (Qp Az ?_)
   refine Qp (Qc rfl (ih a hm (by have:=F0 hm;omega))) ?_
   refine Qp Fu (Qp Ap (AOL.nil (Bp (Ae (AW.region (Qp Az (Qp Fu (Qp Ap (Ag ?_)))))))))
   refine ⟨(p.1+1,p.2+Fc L a),?_,?_,GS.weaken ⟨rfl,rfl,rfl,rfl,trivial⟩ (.refl _)⟩
   · simp only;exact ⟨hlt,h3,by omega,hR.2.2.2⟩
   · first | omega | (simp only;omega)
  ·
   refine AW.exit ?_
   refine A3 (A3 (Bq (Ae (Ah (Qp Az (Qp Ap (Ag (AW.ret ?_))))))))
   refine Qr (Iq _) ?_
   simp only [Ad,AV.int.injEq,true_and]
   rw [hR.2.1]
   simp only [Bool.and_eq_false_iff] at hc1
   rcases hc1 with hc1 | hc1
   · rw [Df hc1,F6]
   · rw [dU (by simpa using hc1)]
theorem c49 (e:Ex)(hs:Av e≤1048576):Ar Tryz.prog 57 [.agg (cE e)] (.int .i64 (Et e)):=by
 revert hs
 induction e using Ex.Aa0
 rename_i e ih
 intro hs
 refine Ar.body (n:=22) Ai Tryz.func57 rfl rfl rfl fun H=>?_
 refine Ah (Qp K3 (Qp Ap (Db (Qp Ap (Ag (AW.seq (Ah (Qp Ap (Ag ?_)))))))))
 refine AW.block ?_
 refine AW.Aau (fun (p:Nat×Nat)=>(⟨[(1,.ptr (cE e)),(3,.int .i64 (p.2:Int)),(4,.int .i64 (p.1:Int))],H,22⟩:St)) (fun (p:Nat×Nat)=>p.1≤e.args.length∧Et e=max p.2 (((e.args.drop p.1).map Et).foldr max 0)+1∧p.2≤1048576∧e.args.length≤1048576) (fun (p:Nat×Nat)=>e.args.length-p.1) ((0,0)) ?_ (GS.weaken ⟨rfl,rfl,rfl,trivial⟩ (.refl _)) ?_
 · exact ⟨Nat.zero_le _,by simpa using Tu e,Nat.zero_le _,L5 e hs⟩
 ·
  rintro p hR
  refine AW.seq (Ah (Qp Az (Qp Mr (Qp Dg ?_))))
  refine Qp (Ak (n:=e.args.length) Ai rfl rfl rfl (by simp)) ?_
  refine Qp Cf (Ag (A2 (fun hc1=>?_) fun hc1=>?_))
  ·
   obtain ⟨a,ha⟩:=B1 hc1
   have hlt:=A8 ha
   have hm:=List.mem_of_getElem? ha
   have hsa:=F0 hm
   have hda:=J9 a
   have h2:=O6 p.2 ha
   refine Bv (AW.seq (AW.block (AW.region (Qp Az (Qp Mr (Qp Dg (Qp Az ?_)))))))
   refine Qp (Af (c:=[Iq _,_,Iq _,Iq _,Iq _,Iq _,Iq _,.str _]) Ai rfl rfl rfl rfl rfl rfl (by omega) (E0 ha)) ?_
   refine Qp Dh ?_
   refine Qp (Qc rfl (ih a hm (by have:=F0 hm;omega))) ?_
   refine Qp (yG rfl rfl) ?_
   refine Qp Ap (AOL.nil (Bp (Ae (AW.region (Qp Az (Qp Fu (Qp Ap (Ag ?_))))))))
   refine ⟨(p.1+1,max p.2 (Et a)),?_,?_,GS.weaken ⟨rfl,congrArg (AV.int .i64) (by simp only;omega),rfl,trivial⟩ (.refl _)⟩
   · simp only;exact ⟨hlt,by omega,by omega,hR.2.2.2⟩
   · first | omega | (simp only;omega)
  ·
   have hd:=Df hc1
   refine AW.exit ?_
   refine A3 (A3 (Bq (Ae (Ah (Qp Az ?_)))))
   refine Qp (jE rfl rfl rfl (by have:=J9 e;constructor <;> omega)) ?_
   refine Qp Ap (Ag (AW.ret ?_))
   refine Qr (Iq _) ?_
   rw [hd] at hR
   simp only [List.map_nil,List.foldr_nil] at hR
   simp only [Ad,AV.int.injEq,true_and]
   omega
theorem c50 (e:Ex)(hs:Av e≤1048576):Ar Tryz.prog 97 [.agg (cE e)] (.int .i64 (C0 e)):=by
 revert hs
 induction e using Ex.Aa0
 rename_i e ih
 intro hs
 refine Ar.body (n:=27) Ai Tryz.func97 rfl rfl rfl fun H=>?_
 refine Ah (Qp K3 (Qp Ap (Ag (AW.seq (Ah (Qp Dh ?_))))))
 refine Qp (Qc rfl (c83 e)) ?_
 refine Qp Ap (Db (Qp Az (Qp Ci (Ag (A2 (fun hc1=>?_) fun hc1=>?_)))))
 ·
  refine Ah (Qp Az (Qp Ap (Ag (Dq ?_))))
  refine Qr (Iq _) ?_
  simp only [Ad,AV.int.injEq,true_and]
  rw [Mz,if_pos hc1]
 ·
  have hn:C0 e=Aq C0 e.args:=by rw [Mz,if_neg (by simpa using hc1)]
  refine Bv (AW.seq (Ah (Qp Ap (Ag (AW.block ?_)))))
  have hlen:=L5 e hs
  refine AW.Aau (fun (p:Nat)=>(⟨[(1,.ptr (cE e)),(4,.int .i64 (p:Int))],H,27⟩:St)) (fun (p:Nat)=>p≤e.args.length∧C0 e=Aq C0 (e.args.drop p)) (fun (p:Nat)=>e.args.length-p) (0) ?_ (GS.weaken ⟨rfl,rfl,trivial⟩ (.refl _)) ?_
  · exact ⟨Nat.zero_le _,by simpa using hn⟩
  ·
   rintro p hR
   refine AW.seq (Ah (Qp Az (Qp Mr (Qp Dg ?_))))
   refine Qp (Ak (n:=e.args.length) Ai rfl rfl rfl (by simp)) ?_
   refine Qp Cf (Ag (A2 (fun hc2=>?_) fun hc2=>?_))
   ·
    obtain ⟨a,ha⟩:=B1 hc2
    have hlt:=A8 ha
    have hm:=List.mem_of_getElem? ha
    refine Bv (AW.seq (AW.block (Ah (Qp Mr (Qp Dg (Qp Az ?_))))))
    refine Qp (Af (c:=[Iq _,_,Iq _,Iq _,Iq _,Iq _,Iq _,.str _]) Ai rfl rfl rfl rfl rfl rfl (by omega) (E0 ha)) ?_
    refine Qp Dh ?_
    refine Qp (Qc rfl (ih a hm (by have:=F0 hm;omega))) ?_
    refine Qp Ap (Db (Qp Az (Qp Ci (Ag (A2 (fun hc3=>?_) fun hc3=>?_)))))
    ·
     refine Ah (Qp Az (Qp Ap (Ag (AW.ret (A9 (Al (Al (A9 (Al ?_)))))))))
     refine Qr (Iq _) ?_
     simp only [Ad,AV.int.injEq,true_and]
     rw [hR.2,A5 ha,Aq,if_pos hc3]
    ·
     refine AW.skip (Bp (Ae (AW.region (Qp Az (Qp Fu (Qp Ap (Ag ?_)))))))
     refine ⟨p+1,?_,?_,GS.weaken ⟨rfl,rfl,trivial⟩ (.refl _)⟩
     · exact ⟨hlt,by rw [hR.2,A5 ha,Aq,if_neg (by simpa using hc3)]⟩
     · first | omega | (simp only;omega)
   ·
    have hd:=Df hc2
    refine AW.exit ?_
    refine A3 (A3 (Bq (Ae (Ah (Qp Ap (Ag (AW.ret ?_)))))))
    refine Qr (Iq _) ?_
    simp only [Ad,AV.int.injEq,true_and]
    rw [hR.2,hd];rfl
theorem c46 (f:Nat)(hfn:vJ Tryz.prog f=true)(cap:List AV)(fs:Ex→Int)(Pr:Ex→Prop)(hp:∀a,Pr a→∀b∈a.args,Pr b)(hf:∀a,Pr a→Ar Tryz.prog f (.agg (cE a)::cap) (.int .i64 (fs a)))(e:Ex)(he:Pr e):Ar Tryz.prog 68 [.agg (cE e),.fn (.func f) [] cap] (.int .i64 (Jd fs e)):=by
 revert he
 induction e using Ex.Aa0
 rename_i e ih
 intro he
 refine Ar.body (n:=29) Ai Tryz.func68 rfl rfl rfl fun H=>?_
 refine Ah (Qp K3 (Qp Ap (Ag (AW.seq (Ah ?_)))))
 refine Qp (Bk (v:=.fn _ _ _) rfl) ?_
 refine Qp Dh ?_
 refine Qp (D4 hfn rfl rfl rfl (hf e he)) ?_
 refine Qp Ap (Db (Qp Az (Qp Ci (Ag (A2 (fun hc1=>?_) fun hc1=>?_)))))
 ·
  refine Ah (Qp Az (Qp Ap (Ag (Dq ?_))))
  refine Qr (Iq _) ?_
  simp only [Ad,AV.int.injEq,true_and]
  rw [T7,if_pos hc1]
 ·
  have hn:Jd fs e=Aq (Jd fs) e.args:=by rw [T7,if_neg (by simpa using hc1)]
  refine Bv (AW.seq (Ah (Qp Mr (Qp Dg ?_))))
  refine Qp (Ak (n:=e.args.length) Ai rfl rfl rfl (by simp)) ?_
  refine Qp Az (Ag (AW.block ?_))
  refine AW.sllen 16 rfl fun hlen=>?_
  simp only [List.length_map,maxLen] at hlen
  refine AW.Aau (fun (p:Nat)=>(⟨[(1,.fn (.func f) [] cap),(16,.sl 8 (e.args.map Gs)),(17,.int .i64 e.args.length),(18,.int .i64 (p:Int))],H,29⟩:St)) (fun (p:Nat)=>p≤e.args.length∧Jd fs e=Aq (Jd fs) (e.args.drop p)) (fun (p:Nat)=>e.args.length-p) (0) ?_ (GS.weaken ⟨rfl,rfl,rfl,rfl,trivial⟩ (.refl _)) ?_
  · exact ⟨Nat.zero_le _,by simpa using hn⟩
  ·
   rintro p hR
   refine Ah (Qp Cf (Ag (AW.seq (A2 (fun hc2=>?_) fun hc2=>?_))))
   ·
    obtain ⟨a,ha⟩:=B1 hc2
    have hlt:=A8 ha
    have hm:=List.mem_of_getElem? ha
    refine Bv (AW.seq (AW.block (Ah ?_)))
    refine Qp (Af (c:=[Iq _,_,Iq _,Iq _,Iq _,Iq _,Iq _,.str _]) Ai rfl rfl rfl rfl rfl rfl (by omega) (E0 ha)) ?_
    refine Qp Dh ?_
    refine Qe (Aj (l:=[.int .i64 0,.sl 8 [],.int .i64 0,.int .i64 0,.int .i64 0,.int .i64 0,.int .i64 0,.str []]) (by kernel_rfl)) ?_
    rintro _ _ ⟨b7,rfl,rfl⟩
    refine Cq 0 [Iq _,_,Iq _,Iq _,Iq _,Iq _,Iq _,.str _] (_::_) ?_
    refine AOL.ghost (GS.Aat (t:=7) 0 rfl rfl) ?_
    refine Db (Qp Dh ?_)
    refine Qp (Bk (v:=.fn _ _ _) rfl) ?_
    refine Qp (Qc rfl (ih a hm (hp e he a hm))) ?_
    refine Qp Ap (Db (Qp Az (Qp Ci (Ag (A2 (fun hc3=>?_) fun hc3=>?_)))))
    ·
     refine Ah (Qp Az (Qp Ap (Ag (AW.ret (A9 (Al (Al (A9 (Al ?_)))))))))
     refine Qr (Iq _) ?_
     simp only [Ad,AV.int.injEq,true_and]
     rw [hR.2,A5 ha,Aq,if_pos hc3]
    ·
     refine AW.skip (Bp (Ae (AW.region (Qp Fu (Qp Az (Ag ?_))))))
     refine ⟨p+1,?_,?_,GS.weaken ⟨rfl,rfl,rfl,rfl,trivial⟩ (.refl _)⟩
     · exact ⟨hlt,by rw [hR.2,A5 ha,Aq,if_neg (by simpa using hc3)]⟩
     · first | omega | (simp only;omega)
   ·
    have hd:=Df hc2
    refine AW.exit ?_
    refine A3 (A3 (Bq (Ae (Ah (Qp Ap (Ag (AW.ret ?_)))))))
    refine Qr (Iq _) ?_
    simp only [Ad,AV.int.injEq,true_and]
    rw [hR.2,hd];rfl
theorem c21 (e:Ex)(hs:Av e≤1048576):Ar Tryz.prog 29 [.agg (cE e)] (.int .i64 (B5 e)):=by
  refine Ar.body (n:=18) Ai Tryz.func29 rfl rfl rfl fun H=>?_
  refine AW.seq (AW.region (Qp K3 (Qp Ap (AOL.nil (Ae (AW.seq (AW.region (Qp Dh ?_))))))))
  refine Qp (Qc rfl (c23 e hs)) ?_
  refine Qp Lv (Qp Ih (Qp Ih (Qp Ap (Qp Ap (AOL.nil (Ae (AW.seq (AW.block (AW.seq ?_)))))))))
  refine AW.region (Qp Az (Qp Hb (Qp Bc (AOL.nil (Ae (A2 (fun hc1=>?_) fun hc1=>?_))))))
  · skip
    refine AW.seq (AW.region (Qp Ap (AOL.nil (Ae (AW.ret (A9 (Al ?_)))))))
    refine Qr (Iq _) ?_
    try simp only [Cx,Bool.and_true] at *
    first
      | (simp only [Ad,B5];(first | rw [if_pos hc1] | skip);first | done | rfl)
      | (try simp only [Bool.not_eq_true',Bool.not_eq_false'] at *
         first
         | (simp only [Ad,B5, *,Bool.false_eq_true,↓reduceIte,Bool.true_or,Bool.or_true,Bool.false_or,Bool.or_false,Bool.true_and,Bool.and_true,Bool.false_and,Bool.and_false,Bool.not_true,Bool.not_false];done)
         | (simp [Ad,B5, *];done)
         | (simp_all [Ad,B5];done))
      | skip
  · skip
    refine AW.seq (AW.region (Qp Az (Qp Hb (Qp Bc (AOL.nil (Ae (A2 (fun hc2=>?_) fun hc2=>?_)))))))
    · skip
      refine AW.seq (AW.region (Qp Ap (AOL.nil (Ae (AW.ret (A9 (Al ?_)))))))
      refine Qr (Iq _) ?_
      try simp only [Cx,Bool.and_true] at *
      first
        | (simp only [Ad,B5];(first | rw [iN hc1] | skip);(first | rw [if_pos hc2] | skip);first | done | rfl)
        | (try simp only [Bool.not_eq_true',Bool.not_eq_false'] at *
           first
           | (simp only [Ad,B5, *,Bool.false_eq_true,↓reduceIte,Bool.true_or,Bool.or_true,Bool.false_or,Bool.or_false,Bool.true_and,Bool.and_true,Bool.false_and,Bool.and_false,Bool.not_true,Bool.not_false];done)
           | (simp [Ad,B5, *];done)
           | (simp_all [Ad,B5];done))
        | skip
    · skip
      refine AW.skip (Bp (Ae (AW.seq (AW.region (Qp Dh ?_)))))
      refine Qp (Qc rfl (c46 69 (by kernel_rfl) [] Bx (fun _=>True) (fun _ _ _ _=>trivial) (fun a _=>c47 a) e trivial)) ?_
      refine Qp Ap (AOL.nil (Ae (AW.ret ?_)))
      refine Qr (Iq _) ?_
      try simp only [Cx,Bool.and_true] at *
      first
        | (simp only [Ad,B5];(first | rw [iN hc1] | skip);(first | rw [iN hc2] | skip);first | done | rfl)
        | (try simp only [Bool.not_eq_true',Bool.not_eq_false'] at *
           first
           | (simp only [Ad,B5, *,Bool.false_eq_true,↓reduceIte,Bool.true_or,Bool.or_true,Bool.false_or,Bool.or_false,Bool.true_and,Bool.and_true,Bool.false_and,Bool.and_false,Bool.not_true,Bool.not_false];done)
           | (simp [Ad,B5, *];done)
           | (simp_all [Ad,B5];done))
        | skip
theorem c25 (e:Ex)(hs:Av e≤1048576):Ar Tryz.prog 59 [.agg (cE e)] (.int .i64 (B5 e)):=by
  refine Ar.body (n:=11) Ai Tryz.func59 rfl rfl rfl fun H=>?_
  refine AW.seq (AW.region (Qp K3 (Qp Ap (AOL.nil (Ae (AW.seq (AW.seq (AW.region (Qp Dh ?_)))))))))
  refine Qp (Qc rfl (c48 64 e hs)) ?_
  refine Qp Hb (AOL.nil (Ae (A2 (fun hc1=>?_) fun hc1=>?_)))
  · skip
    have hct:decide (64<(Av e:Int))=true:=by have:=W7 64 e;simp at hc1 ⊢;omega
    refine AW.seq (AW.region (Qp Ap (AOL.nil (Ae (Dq ?_)))))
    refine Qr (Iq _) ?_
    try simp only [Cx,Bool.and_true] at *
    first
      | (simp only [Ad,B5];(first | rw [if_pos hc1] | skip);first | done | rfl)
      | (try simp only [Bool.not_eq_true',Bool.not_eq_false'] at *
         first
         | (simp only [Ad,B5, *,Bool.false_eq_true,↓reduceIte,Bool.true_or,Bool.or_true,Bool.false_or,Bool.or_false,Bool.true_and,Bool.and_true,Bool.false_and,Bool.and_false,Bool.not_true,Bool.not_false];done)
         | (simp [Ad,B5, *];done)
         | (simp_all [Ad,B5];done))
      | skip
  · skip
    have hct:decide (64<(Av e:Int))=false:=by have:=W7 64 e;simp at hc1 ⊢;omega
    refine Bv (AW.seq (AW.seq (AW.region (Qp Dh ?_))))
    refine Qp (Qc rfl (c49 e hs)) ?_
    refine Qp Hb (AOL.nil (Ae (A2 (fun hc2=>?_) fun hc2=>?_)))
    · skip
      refine AW.seq (AW.region (Qp Ap (AOL.nil (Ae (Dq ?_)))))
      refine Qr (Iq _) ?_
      try simp only [Cx,Bool.and_true] at *
      first
        | (simp only [Ad,B5];(first | rw [iN hc1] | skip);(first | rw [if_pos hc2] | skip);first | done | rfl)
        | (try simp only [Bool.not_eq_true',Bool.not_eq_false'] at *
           first
           | (simp only [Ad,B5, *,Bool.false_eq_true,↓reduceIte,Bool.true_or,Bool.or_true,Bool.false_or,Bool.or_false,Bool.true_and,Bool.and_true,Bool.false_and,Bool.and_false,Bool.not_true,Bool.not_false];done)
           | (simp [Ad,B5, *];done)
           | (simp_all [Ad,B5];done))
        | skip
    · skip
      refine Bv (AW.seq (AW.region (Qp Dh ?_)))
      refine Qp (Qc rfl (c50 e hs)) ?_
      refine Qp Ap (AOL.nil (Ae (AW.ret ?_)))
      refine Qr (Iq _) ?_
      try simp only [Cx,Bool.and_true] at *
      first
        | (simp only [Ad,B5];(first | rw [iN hc1] | skip);(first | rw [iN hc2] | skip);first | done | rfl)
        | (try simp only [Bool.not_eq_true',Bool.not_eq_false'] at *
           first
           | (simp only [Ad,B5, *,Bool.false_eq_true,↓reduceIte,Bool.true_or,Bool.or_true,Bool.false_or,Bool.or_false,Bool.true_and,Bool.and_true,Bool.false_and,Bool.and_false,Bool.not_true,Bool.not_false];done)
           | (simp [Ad,B5, *];done)
           | (simp_all [Ad,B5];done))
        | skip
theorem c34 (e:Ex)(hs:Av e≤1048576):Ar Tryz.prog 16 [.agg (cE e)] (.bool (decide (Av e≤200∧Et e≤100))):=by
 refine Ar.body (n:=11) Ai Tryz.func16 rfl rfl rfl fun H=>?_
 refine Ah (Qp K3 (Qp Bc (Db (Qp Dh ?_))))
 refine Qp (Qc rfl (c48 200 e hs)) ?_
 refine Qp Mt (Qp Bm (Qg [] Qw Dh ?_))
 refine Qg [(7,_)] Qw (Qc rfl (c49 e hs)) ?_
 refine Qg [(8,_)] Qw Mt (Qp Em (Qp Bc (Ag (AW.ret ?_))))
 refine Qr (.bool _) ?_
 have:=W7 200 e
 show AV.bool _=AV.bool _
 congr 1
 rw [Bool.eq_iff_iff]
 simp
 omega

end Go.Proofs.YtkddpedfbicbeaaGreatDoor
