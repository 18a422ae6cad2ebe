/-
  Several texts in one: W4, W23. No condition.
-/
import Derived.Test.YtkddpedfbicbeaaGreatDoorK01
import Derived.Test.YtkddpedfbicbeaaGreatDoorW1
import Derived.KernelRfl
import Derived.Test.YtkddpedfbicbeaaGreatDoorK02
set_option linter.unusedVariables false
set_option linter.unusedSimpArgs false
namespace Go.Proofs.YtkddpedfbicbeaaGreatDoor
open Go Go.Aw
set_option maxHeartbeats 400000
set_option maxRecDepth 20000

theorem c82 (e:Ex):Ax Tryz.prog 110 [.agg (cE e)] (.int .i64 (Fm e)):=by
  refine Ax.body (n:=32) Ai Tryz.func110 rfl rfl rfl fun H=>?_
  refine AW.seq (AW.region (Qp La (Qp Av (AOL.nil (Ae (AW.seq (AW.seq (AW.region (Qp Jr ?_)))))))))
  refine Qp (Cm [Iq _,Iq _,.str _]) ?_
  refine Qp (Qc rfl (c94 e.val)) ?_
  refine Qp Av (AOL.nil (Ae (AW.seq (AW.region (Qp A2 (Qp Ct (AOL.nil (Ae (A5 (fun hc1=>?_) fun hc1=>?_)))))))))
  · skip
    refine AW.seq (AW.region (Qp A2 (Qp Av (AOL.nil (Ae (Du ?_))))))
    refine Qr (Iq _) ?_
    try simp only [Cy,Bool.and_true] at *
    first
      | (simp only [Ad,Fm];(first | rw [if_pos hc1] | skip);first | done | rfl)
      | (try simp only [Bool.not_eq_true',Bool.not_eq_false'] at *
         first
         | (simp only [Ad,Fm,isV0, *,Bool.false_eq_true,↓reduceIte,Bool.true_or,Bool.or_true,Bool.false_or,Bool.or_false,Bool.true_and,Bool.and_true,Bool.false_and,Bool.and_false,Bool.not_true,Bool.not_false];done)
         | (simp [Ad,Fm,isV0, *];done)
         | (simp_all [Ad,Fm,isV0];done))
      | skip
  · skip
    refine Bz (AW.seq (AW.seq (AW.region (Qp Kv (Qp Bt (Qp A7 (Qp Br (Qg [] Qw R0 (Qg [(14,_)] Qw Bt ?_)))))))))
    refine Qg [] Qw Jr (Qg [(16,_)] Qw (Cm [Iq _,Iq _,.str _]) ?_)
    refine AOL.Aa6 (y:=.bool _) _ [(15,_),(17,_)] rfl (sF.all ⟨Ent.Aa3 _ _,Ent.Aa3 _ _,trivial⟩) (fun hG=>C8 (by kernel_rfl) rfl rfl (c99 e.kind e.val)) rfl ?_
    refine Qg [(18,_)] Qw Gt (Qg [(19,_)] Qw Br (Qg [] Qw R0 (Qg [(21,_)] Qw Bt (Qg [(22,_)] Qw A7 (Qg [(23,_)] Qw Br (Qg [] Qw Jr (Qg [(25,_)] Qw (Cm [Iq _,Iq _,.str _]) (Qg [] Qw (Et [Iq _,Iq _,.str _]) ?_))))))))
    refine AOL.Aa6 (y:=.bool _) _ [(26,_),(27,_)] rfl (sF.all ⟨Ent.Aa3 _ _,Ent.Aa3 _ _,trivial⟩) (fun hG=>Hp Ai rfl rfl rfl rfl rfl) rfl ?_
    refine Qg [(24,_),(28,_)] Qw E3 (Qg [(20,_),(29,_)] Qw E5 (Qp E3 (AOL.nil (Ae (A5 (fun hc2=>?_) fun hc2=>?_)))))
    · skip
      refine AW.seq (AW.region (Qp Av (AOL.nil (Ae (Du ?_)))))
      refine Qr (Iq _) ?_
      try simp only [Cy,Bool.and_true] at *
      first
        | (simp only [Ad,Fm];(first | rw [iN hc1] | skip);(first | rw [if_pos hc2] | skip);first | done | rfl)
        | (try simp only [Bool.not_eq_true',Bool.not_eq_false'] at *
           first
           | (simp only [Ad,Fm,isV0, *,Bool.false_eq_true,↓reduceIte,Bool.true_or,Bool.or_true,Bool.false_or,Bool.or_false,Bool.true_and,Bool.and_true,Bool.false_and,Bool.and_false,Bool.not_true,Bool.not_false];done)
           | (simp [Ad,Fm,isV0, *];done)
           | (simp_all [Ad,Fm,isV0];done))
        | skip
    · skip
      refine Bz (AW.seq (AW.region (Qp Av (AOL.nil (Ae (AW.ret ?_))))))
      refine Qr (Iq _) ?_
      try simp only [Cy,Bool.and_true] at *
      first
        | (simp only [Ad,Fm];(first | rw [iN hc1] | skip);(first | rw [iN hc2] | skip);first | done | rfl)
        | (try simp only [Bool.not_eq_true',Bool.not_eq_false'] at *
           first
           | (simp only [Ad,Fm,isV0, *,Bool.false_eq_true,↓reduceIte,Bool.true_or,Bool.or_true,Bool.false_or,Bool.or_false,Bool.true_and,Bool.and_true,Bool.false_and,Bool.and_false,Bool.not_true,Bool.not_false];done)
           | (simp [Ad,Fm,isV0, *];done)
           | (simp_all [Ad,Fm,isV0];done))
        | skip
theorem c47 (e:Ex):Ax Tryz.prog 69 [.agg (cE e)] (.int .i64 (By e)):=by
  refine Ax.body (n:=114) Ai Tryz.func69 rfl rfl rfl fun H=>?_
  refine AW.seq (AW.region (Qp La (Qp Av (AOL.nil (Ae (AW.seq (AW.region (Qp Kv (Qp Bt ?_)))))))))
  refine Qp (Qc rfl (c81 e.op)) ?_
  refine Qp Mx (Qp Jq (Qp kA (Qp Av (Qp Bg (AOL.nil (Ae (AW.seq (AW.seq (AW.region ?_)))))))))
  refine Qp Br (Qp Gt (AOL.nil (Ae (A5 (fun hc1=>?_) fun hc1=>?_))))
  · skip
    refine AW.seq (AW.region (Qp Av (AOL.nil (Ae (Du ?_)))))
    refine Qr (Iq _) ?_
    try simp only [Cy,Bool.and_true] at *
    first
      | (simp only [Ad,By,Bm];(first | rw [if_pos hc1] | skip);first | done | rfl)
      | (try simp only [Bool.not_eq_true',Bool.not_eq_false'] at *
         first
         | (simp only [Ad,By,Bm,isV0, *,Bool.false_eq_true,↓reduceIte,Bool.true_or,Bool.or_true,Bool.false_or,Bool.or_false,Bool.true_and,Bool.and_true,Bool.false_and,Bool.and_false,Bool.not_true,Bool.not_false];done)
         | (simp [Ad,By,Bm,isV0, *];done)
         | (simp_all [Ad,By,Bm,isV0];done))
      | skip
  · skip
    refine Bz (AW.seq (AW.seq (AW.region (Qp K7 (Qp Dm ?_)))))
    refine Qp (Ak (n:=e.args.length) Ai rfl rfl rfl (by simp)) ?_
    refine Qp A2 (Qp Ct (AOL.nil (Ae (A5 (fun hc2=>?_) fun hc2=>?_))))
    · skip
      refine AW.seq (AW.region (Qp Av (AOL.nil (Ae (Du ?_)))))
      refine Qr (Iq _) ?_
      try simp only [Cy,Bool.and_true] at *
      first
        | (simp only [Ad,By,Bm];(first | rw [iN hc1] | skip);(first | rw [if_pos hc2] | skip);first | done | rfl)
        | (try simp only [Bool.not_eq_true',Bool.not_eq_false'] at *
           first
           | (simp only [Ad,By,Bm,isV0, *,Bool.false_eq_true,↓reduceIte,Bool.true_or,Bool.or_true,Bool.false_or,Bool.or_false,Bool.true_and,Bool.and_true,Bool.false_and,Bool.and_false,Bool.not_true,Bool.not_false];done)
           | (simp [Ad,By,Bm,isV0, *];done)
           | (simp_all [Ad,By,Bm,isV0];done))
        | skip
    · skip
      refine Bz (AW.seq (AW.region (Qp Kv (Qp Bt ?_))))
      refine Qp (Qc rfl (c52 e.op)) ?_
      refine Qp Mx (Qp kA (Qp kA (Qp Bg (Qp Bg (AOL.nil (Ae (AW.seq (AW.seq (AW.region ?_)))))))))
      refine Qp Br (Qp Br (Qg [] Qw Yy (Qg [(31,_)] Qw Bt (Qg [(32,_)] Qw Cl (Qg [(33,_)] Qw Br (Qg [] Qw Yy (Qg [(35,_)] Qw Bt (Qg [(36,_)] Qw N7 (Qg [(34,_),(37,_)] Qw E5 ?_)))))))))
      refine Qp E3 (Qp Br (Qg [] Qw Br (Qg [(41,_)] Qw Br (Qg [] Qw Qt (Qg [(43,_)] Qw Bt (Qg [(44,_)] Qw Cl (Qg [(45,_)] Qw Br (Qg [] Qw Qt (Qg [(47,_)] Qw Bt ?_)))))))))
      refine Qg [(48,_)] Qw N7 (Qg [(46,_),(49,_)] Qw E5 (Qg [(42,_),(50,_)] Qw E3 (Qp E5 (AOL.nil (Ae (A5 (fun hc3=>?_) fun hc3=>?_))))))
      · skip
        refine AW.seq (AW.region (Qp Av (AOL.nil (Ae (Du ?_)))))
        refine Qr (Iq _) ?_
        try simp only [Cy,Bool.and_true] at *
        first
          | (simp only [Ad,By,Bm];(first | rw [iN hc1] | skip);(first | rw [iN hc2] | skip);(first | rw [if_pos hc3] | skip);first | done | rfl)
          | (try simp only [Bool.not_eq_true',Bool.not_eq_false'] at *
             first
             | (simp only [Ad,By,Bm,isV0, *,Bool.false_eq_true,↓reduceIte,Bool.true_or,Bool.or_true,Bool.false_or,Bool.or_false,Bool.true_and,Bool.and_true,Bool.false_and,Bool.and_false,Bool.not_true,Bool.not_false];done)
             | (simp [Ad,By,Bm,isV0, *];done)
             | (simp_all [Ad,By,Bm,isV0];done))
          | skip
      · skip
        refine Bz (AW.seq (AW.region (Qp Kv (Qp Bt (Qp A7 (Qp Bg (AOL.nil (Ae (AW.seq ?_)))))))))
        refine AW.seq (AW.region (Qp Br (Qp Br (Qg [] Qw R0 (Qg [(58,_)] Qw Bt (Qg [(59,_)] Qw Cl (Qg [(60,_)] Qw Br (Qg [] Qw R0 (Qg [(62,_)] Qw Bt ?_)))))))))
        refine Qg [(63,_)] Qw Hi (Qg [(61,_),(64,_)] Qw E5 (Qp E3 (AOL.nil (Ae (A5 (fun hc4=>?_) fun hc4=>?_)))))
        · skip
          refine AW.seq (AW.region (Qp Av (AOL.nil (Ae (Du ?_)))))
          refine Qr (Iq _) ?_
          try simp only [Cy,Bool.and_true] at *
          first
            | (simp only [Ad,By,Bm];(first | rw [iN hc1] | skip);(first | rw [iN hc2] | skip);(first | rw [iN hc3] | skip);(first | rw [if_pos hc4] | skip);first | done | rfl)
            | (try simp only [Bool.not_eq_true',Bool.not_eq_false'] at *
               first
               | (simp only [Ad,By,Bm,isV0, *,Bool.false_eq_true,↓reduceIte,Bool.true_or,Bool.or_true,Bool.false_or,Bool.or_false,Bool.true_and,Bool.and_true,Bool.false_and,Bool.and_false,Bool.not_true,Bool.not_false];done)
               | (simp [Ad,By,Bm,isV0, *];done)
               | (simp_all [Ad,By,Bm,isV0];done))
            | skip
        · skip
          refine Bz (AW.seq (AW.region (Qp Br (Qp Br (Qg [] Qw Kv (Qg [(69,_)] Qw Bt (Qg [(70,_)] Qw A7 (Qp E5 (Qp Bg ?_)))))))))
          refine AOL.nil (Ae (AW.seq (AW.seq (AW.region (Qp Br (AOL.nil (Ae (A5 (fun hc5=>?_) fun hc5=>?_))))))))
          · skip
            refine AW.seq (AW.region (Qp D1 ?_))
            refine Qp (Qc rfl (c82 e)) ?_
            refine Qp Av (AOL.nil (Ae (AW.seq (AW.region (Qp A2 (Qp Ct (AOL.nil (Ae (A5 (fun hc6=>?_) fun hc6=>?_)))))))))
            · skip
              refine AW.seq (AW.region (Qp A2 (Qp Av (AOL.nil (Ae (Du ?_))))))
              refine Qr (Iq _) ?_
              try simp only [Cy,Bool.and_true] at *
              first
                | (simp only [Ad,By,Bm];(first | rw [iN hc1] | skip);(first | rw [iN hc2] | skip);(first | rw [iN hc3] | skip);(first | rw [iN hc4] | skip);(first | rw [if_pos hc5] | skip);(first | rw [if_pos hc6] | skip);first | done | rfl)
                | (try simp only [Bool.not_eq_true',Bool.not_eq_false'] at *
                   first
                   | (simp only [Ad,By,Bm,isV0, *,Bool.false_eq_true,↓reduceIte,Bool.true_or,Bool.or_true,Bool.false_or,Bool.or_false,Bool.true_and,Bool.and_true,Bool.false_and,Bool.and_false,Bool.not_true,Bool.not_false];done)
                   | (simp [Ad,By,Bm,isV0, *];done)
                   | (simp_all [Ad,By,Bm,isV0];done))
                | skip
            · skip
              refine Bz (AW.seq (AW.seq (AW.region (Qp Br (Qp Gt (Qp Br (Qg [] Qw Yy (Qg [(82,_)] Qw Bt (Qg [(83,_)] Qw Ct ?_)))))))))
              refine Qp E3 (Qp Br (Qg [] Qw Br (Qg [(87,_)] Qw Gt (Qg [(88,_)] Qw Br (Qg [] Qw Qt (Qg [(90,_)] Qw Bt (Qg [(91,_)] Qw Ct (Qg [(89,_),(92,_)] Qw E3 (Qp E5 ?_)))))))))
              refine Qp Br (Qg [] Qw Br (Qg [(96,_)] Qw Gt (Qg [(97,_)] Qw Br (Qg [] Qw R0 (Qg [(99,_)] Qw Bt (Qg [(100,_)] Qw Ct (Qg [(98,_),(101,_)] Qw E3 (Qp E5 (Qp Br ?_)))))))))
              refine Qg [] Qw Br (Qg [(105,_)] Qw Gt (Qg [(106,_)] Qw Br (Qg [] Qw Jr (Qg [(108,_)] Qw (Cm [Iq _,Iq _,.str _]) (Qg [] Qw (Et [Iq _,Iq _,.str _]) ?_)))))
              refine AOL.Aa6 (y:=.bool _) _ [(109,_),(110,_)] rfl (sF.all ⟨Ent.Aa3 _ _,Ent.Aa3 _ _,trivial⟩) (fun hG=>Hp Ai rfl rfl rfl rfl rfl) rfl ?_
              refine Qg [(107,_),(111,_)] Qw E3 (Qp E5 (AOL.nil (Ae (A5 (fun hc7=>?_) fun hc7=>?_))))
              · skip
                refine AW.seq (AW.region (Qp Av (AOL.nil (Ae (Du ?_)))))
                refine Qr (Iq _) ?_
                try simp only [Cy,Bool.and_true] at *
                first
                  | (simp only [Ad,By,Bm];(first | rw [iN hc1] | skip);(first | rw [iN hc2] | skip);(first | rw [iN hc3] | skip);(first | rw [iN hc4] | skip);(first | rw [if_pos hc5] | skip);(first | rw [iN hc6] | skip);(first | rw [if_pos hc7] | skip);first | done | rfl)
                  | (try simp only [Bool.not_eq_true',Bool.not_eq_false'] at *
                     first
                     | (simp only [Ad,By,Bm,isV0, *,Bool.false_eq_true,↓reduceIte,Bool.true_or,Bool.or_true,Bool.false_or,Bool.or_false,Bool.true_and,Bool.and_true,Bool.false_and,Bool.and_false,Bool.not_true,Bool.not_false];done)
                     | (simp [Ad,By,Bm,isV0, *];done)
                     | (simp_all [Ad,By,Bm,isV0];done))
                  | skip
              · skip
                refine Bz (AW.seq (AW.region (Qp Av (AOL.nil (Ae (AW.ret ?_))))))
                refine Qr (Iq _) ?_
                try simp only [Cy,Bool.and_true] at *
                first
                  | (simp only [Ad,By,Bm];(first | rw [iN hc1] | skip);(first | rw [iN hc2] | skip);(first | rw [iN hc3] | skip);(first | rw [iN hc4] | skip);(first | rw [if_pos hc5] | skip);(first | rw [iN hc6] | skip);(first | rw [iN hc7] | skip);first | done | rfl)
                  | (try simp only [Bool.not_eq_true',Bool.not_eq_false'] at *
                     first
                     | (simp only [Ad,By,Bm,isV0, *,Bool.false_eq_true,↓reduceIte,Bool.true_or,Bool.or_true,Bool.false_or,Bool.or_false,Bool.true_and,Bool.and_true,Bool.false_and,Bool.and_false,Bool.not_true,Bool.not_false];done)
                     | (simp [Ad,By,Bm,isV0, *];done)
                     | (simp_all [Ad,By,Bm,isV0];done))
                  | skip
          · skip
            refine Bz (AW.seq (AW.seq (AW.region (Qp Br (Qp Gt (Qp Br (Qg [] Qw Yy (Qg [(82,_)] Qw Bt (Qg [(83,_)] Qw Ct ?_)))))))))
            refine Qp E3 (Qp Br (Qg [] Qw Br (Qg [(87,_)] Qw Gt (Qg [(88,_)] Qw Br (Qg [] Qw Qt (Qg [(90,_)] Qw Bt (Qg [(91,_)] Qw Ct (Qg [(89,_),(92,_)] Qw E3 (Qp E5 ?_)))))))))
            refine Qp Br (Qg [] Qw Br (Qg [(96,_)] Qw Gt (Qg [(97,_)] Qw Br (Qg [] Qw R0 (Qg [(99,_)] Qw Bt (Qg [(100,_)] Qw Ct (Qg [(98,_),(101,_)] Qw E3 (Qp E5 (Qp Br ?_)))))))))
            refine Qg [] Qw Br (Qg [(105,_)] Qw Gt (Qg [(106,_)] Qw Br (Qg [] Qw Jr (Qg [(108,_)] Qw (Cm [Iq _,Iq _,.str _]) (Qg [] Qw (Et [Iq _,Iq _,.str _]) ?_)))))
            refine AOL.Aa6 (y:=.bool _) _ [(109,_),(110,_)] rfl (sF.all ⟨Ent.Aa3 _ _,Ent.Aa3 _ _,trivial⟩) (fun hG=>Hp Ai rfl rfl rfl rfl rfl) rfl ?_
            refine Qg [(107,_),(111,_)] Qw E3 (Qp E5 (AOL.nil (Ae (A5 (fun hc8=>?_) fun hc8=>?_))))
            · skip
              refine AW.seq (AW.region (Qp Av (AOL.nil (Ae (Du ?_)))))
              refine Qr (Iq _) ?_
              try simp only [Cy,Bool.and_true] at *
              first
                | (simp only [Ad,By,Bm];(first | rw [iN hc1] | skip);(first | rw [iN hc2] | skip);(first | rw [iN hc3] | skip);(first | rw [iN hc4] | skip);(first | rw [iN hc5] | skip);(first | rw [if_pos hc8] | skip);first | done | rfl)
                | (try simp only [Bool.not_eq_true',Bool.not_eq_false'] at *
                   first
                   | (simp only [Ad,By,Bm,isV0, *,Bool.false_eq_true,↓reduceIte,Bool.true_or,Bool.or_true,Bool.false_or,Bool.or_false,Bool.true_and,Bool.and_true,Bool.false_and,Bool.and_false,Bool.not_true,Bool.not_false];done)
                   | (simp [Ad,By,Bm,isV0, *];done)
                   | (simp_all [Ad,By,Bm,isV0];done))
                | skip
            · skip
              refine Bz (AW.seq (AW.region (Qp Av (AOL.nil (Ae (AW.ret ?_))))))
              refine Qr (Iq _) ?_
              try simp only [Cy,Bool.and_true] at *
              first
                | (simp only [Ad,By,Bm];(first | rw [iN hc1] | skip);(first | rw [iN hc2] | skip);(first | rw [iN hc3] | skip);(first | rw [iN hc4] | skip);(first | rw [iN hc5] | skip);(first | rw [iN hc8] | skip);first | done | rfl)
                | (try simp only [Bool.not_eq_true',Bool.not_eq_false'] at *
                   first
                   | (simp only [Ad,By,Bm,isV0, *,Bool.false_eq_true,↓reduceIte,Bool.true_or,Bool.or_true,Bool.false_or,Bool.or_false,Bool.true_and,Bool.and_true,Bool.false_and,Bool.and_false,Bool.not_true,Bool.not_false];done)
                   | (simp [Ad,By,Bm,isV0, *];done)
                   | (simp_all [Ad,By,Bm,isV0];done))
                | skip
theorem c83 (e:Ex):Ax Tryz.prog 142 [.agg (cE e)] (.int .i64 (By e)):=by
  refine Ax.body (n:=131) Ai Tryz.func142 rfl rfl rfl fun H=>?_
  refine AW.seq (AW.region (Qp La (Qp Av (AOL.nil (Ae (AW.seq (AW.region (Qp Kv (Qp Bt ?_)))))))))
  refine Qp (Qc rfl (c100 e.op)) ?_
  refine Qp Av (AOL.nil (Ae (AW.seq (AW.seq (AW.region (Qp A2 (Qp Cl (AOL.nil (Ae (A5 (fun hc1=>?_) fun hc1=>?_))))))))))
  · skip
    refine AW.seq (AW.region (Qp Av (AOL.nil (Ae (Du ?_)))))
    refine Qr (Iq _) ?_
    rw [←H6]
    try simp only [Cy,Bool.and_true] at *
    first
      | (simp only [Ad,Cn,Bm];(first | rw [if_pos hc1] | skip);first | done | rfl)
      | (try simp only [Bool.not_eq_true',Bool.not_eq_false'] at *
         first
         | (simp only [Ad,Cn,Bm,isV0, *,Bool.false_eq_true,↓reduceIte,Bool.true_or,Bool.or_true,Bool.false_or,Bool.or_false,Bool.true_and,Bool.and_true,Bool.false_and,Bool.and_false,Bool.not_true,Bool.not_false];done)
         | (simp [Ad,Cn,Bm,isV0, *];done)
         | (simp_all [Ad,Cn,Bm,isV0];done))
      | skip
  · skip
    refine Bz (AW.seq (AW.seq (AW.region (Qp K7 (Qp Dm ?_)))))
    refine Qp (Ak (n:=e.args.length) Ai rfl rfl rfl (by simp)) ?_
    refine Qp A2 (Qp Ct (AOL.nil (Ae (A5 (fun hc2=>?_) fun hc2=>?_))))
    · skip
      refine AW.seq (AW.region (Qp Av (AOL.nil (Ae (Du ?_)))))
      refine Qr (Iq _) ?_
      rw [←H6]
      try simp only [Cy,Bool.and_true] at *
      first
        | (simp only [Ad,Cn,Bm];(first | rw [iN hc1] | skip);(first | rw [if_pos hc2] | skip);first | done | rfl)
        | (try simp only [Bool.not_eq_true',Bool.not_eq_false'] at *
           first
           | (simp only [Ad,Cn,Bm,isV0, *,Bool.false_eq_true,↓reduceIte,Bool.true_or,Bool.or_true,Bool.false_or,Bool.or_false,Bool.true_and,Bool.and_true,Bool.false_and,Bool.and_false,Bool.not_true,Bool.not_false];done)
           | (simp [Ad,Cn,Bm,isV0, *];done)
           | (simp_all [Ad,Cn,Bm,isV0];done))
        | skip
    · skip
      refine Bz (AW.seq (AW.region (Qp Kv (Qp Bt ?_))))
      refine Qp (Qc rfl (c84 e.op)) ?_
      refine Qp Mx (Qp kA (Qp kA (Qp Bg (Qp Bg (AOL.nil (Ae (AW.seq (AW.seq (AW.region ?_)))))))))
      refine Qp Br (Qp Br (Qg [] Qw Yy (Qg [(27,_)] Qw Bt (Qg [(28,_)] Qw Cl (Qg [(29,_)] Qw Br (Qg [] Qw Yy (Qg [(31,_)] Qw Bt (Qg [(32,_)] Qw N7 (Qg [(30,_),(33,_)] Qw E5 ?_)))))))))
      refine Qp E3 (Qp Br (Qg [] Qw Br (Qg [(37,_)] Qw Br (Qg [] Qw Qt (Qg [(39,_)] Qw Bt (Qg [(40,_)] Qw Cl (Qg [(41,_)] Qw Br (Qg [] Qw Qt (Qg [(43,_)] Qw Bt ?_)))))))))
      refine Qg [(44,_)] Qw N7 (Qg [(42,_),(45,_)] Qw E5 (Qg [(38,_),(46,_)] Qw E3 (Qp E5 (AOL.nil (Ae (A5 (fun hc3=>?_) fun hc3=>?_))))))
      · skip
        refine AW.seq (AW.region (Qp Av (AOL.nil (Ae (Du ?_)))))
        refine Qr (Iq _) ?_
        rw [←H6]
        try simp only [Cy,Bool.and_true] at *
        first
          | (simp only [Ad,Cn,Bm];(first | rw [iN hc1] | skip);(first | rw [iN hc2] | skip);(first | rw [if_pos hc3] | skip);first | done | rfl)
          | (try simp only [Bool.not_eq_true',Bool.not_eq_false'] at *
             first
             | (simp only [Ad,Cn,Bm,isV0, *,Bool.false_eq_true,↓reduceIte,Bool.true_or,Bool.or_true,Bool.false_or,Bool.or_false,Bool.true_and,Bool.and_true,Bool.false_and,Bool.and_false,Bool.not_true,Bool.not_false];done)
             | (simp [Ad,Cn,Bm,isV0, *];done)
             | (simp_all [Ad,Cn,Bm,isV0];done))
          | skip
      · skip
        refine Bz (AW.seq (AW.region (Qp Kv (Qp Bt (Qp A7 (Qp Bg (AOL.nil (Ae (AW.seq ?_)))))))))
        refine AW.seq (AW.region (Qp Br (Qp Br (Qg [] Qw R0 (Qg [(54,_)] Qw Bt (Qg [(55,_)] Qw Cl (Qg [(56,_)] Qw Br (Qg [] Qw R0 (Qg [(58,_)] Qw Bt ?_)))))))))
        refine Qg [(59,_)] Qw Hi (Qg [(57,_),(60,_)] Qw E5 (Qp E3 (AOL.nil (Ae (A5 (fun hc4=>?_) fun hc4=>?_)))))
        · skip
          refine AW.seq (AW.region (Qp Av (AOL.nil (Ae (Du ?_)))))
          refine Qr (Iq _) ?_
          rw [←H6]
          try simp only [Cy,Bool.and_true] at *
          first
            | (simp only [Ad,Cn,Bm];(first | rw [iN hc1] | skip);(first | rw [iN hc2] | skip);(first | rw [iN hc3] | skip);(first | rw [if_pos hc4] | skip);first | done | rfl)
            | (try simp only [Bool.not_eq_true',Bool.not_eq_false'] at *
               first
               | (simp only [Ad,Cn,Bm,isV0, *,Bool.false_eq_true,↓reduceIte,Bool.true_or,Bool.or_true,Bool.false_or,Bool.or_false,Bool.true_and,Bool.and_true,Bool.false_and,Bool.and_false,Bool.not_true,Bool.not_false];done)
               | (simp [Ad,Cn,Bm,isV0, *];done)
               | (simp_all [Ad,Cn,Bm,isV0];done))
            | skip
        · skip
          refine Bz (AW.seq (AW.region (Qp Br (Qp Br (Qg [] Qw Kv (Qg [(65,_)] Qw Bt (Qg [(66,_)] Qw A7 (Qp E5 (Qp Bg ?_)))))))))
          refine AOL.nil (Ae (AW.seq (AW.seq (AW.region (Qp Br (AOL.nil (Ae (A5 (fun hc5=>?_) fun hc5=>?_))))))))
          · skip
            refine AW.seq (AW.region (Qp Jr (Qp (Cm [Iq _,Iq _,.str _]) ?_)))
            refine Qp (Qc rfl (c79 e.val)) ?_
            refine Qp Av (AOL.nil (Ae (AW.seq (AW.region (Qp A2 (Qp Ct (AOL.nil (Ae (A5 (fun hc6=>?_) fun hc6=>?_)))))))))
            · skip
              refine AW.seq (AW.region (Qp A2 (Qp Av (AOL.nil (Ae (Du ?_))))))
              refine Qr (Iq _) ?_
              rw [←H6]
              try simp only [Cy,Bool.and_true] at *
              first
                | (simp only [Ad,Cn,Bm];(first | rw [iN hc1] | skip);(first | rw [iN hc2] | skip);(first | rw [iN hc3] | skip);(first | rw [iN hc4] | skip);(first | rw [if_pos hc5] | skip);(first | rw [if_pos hc6] | skip);first | done | rfl)
                | (try simp only [Bool.not_eq_true',Bool.not_eq_false'] at *
                   first
                   | (simp only [Ad,Cn,Bm,isV0, *,Bool.false_eq_true,↓reduceIte,Bool.true_or,Bool.or_true,Bool.false_or,Bool.or_false,Bool.true_and,Bool.and_true,Bool.false_and,Bool.and_false,Bool.not_true,Bool.not_false];done)
                   | (simp [Ad,Cn,Bm,isV0, *];done)
                   | (simp_all [Ad,Cn,Bm,isV0];done))
                | skip
            · skip
              refine Bz (AW.seq (AW.seq (AW.region (Qp Br (Qp Br (Qg [] Qw R0 (Qg [(78,_)] Qw Bt (Qg [] Qw Jr (Qg [(80,_)] Qw (Cm [Iq _,Iq _,.str _]) ?_)))))))))
              refine AOL.Aa6 (y:=.bool _) _ [(79,_),(81,_)] rfl (sF.all ⟨Ent.Aa3 _ _,Ent.Aa3 _ _,trivial⟩) (fun hG=>C8 (by kernel_rfl) rfl rfl (c101 e.kind e.val)) rfl ?_
              refine Qg [(82,_)] Qw Gt (Qg [(83,_)] Qw Br (Qg [] Qw R0 (Qg [(85,_)] Qw Bt (Qg [(86,_)] Qw A7 (Qg [(87,_)] Qw Br (Qg [] Qw Jr (Qg [(89,_)] Qw (Cm [Iq _,Iq _,.str _]) (Qg [] Qw (Et [Iq _,Iq _,.str _]) ?_))))))))
              refine AOL.Aa6 (y:=.bool _) _ [(90,_),(91,_)] rfl (sF.all ⟨Ent.Aa3 _ _,Ent.Aa3 _ _,trivial⟩) (fun hG=>Hp Ai rfl rfl rfl rfl rfl) rfl ?_
              refine Qg [(88,_),(92,_)] Qw E3 (Qg [(84,_),(93,_)] Qw E5 (Qp E3 (AOL.nil (Ae (A5 (fun hc7=>?_) fun hc7=>?_)))))
              · skip
                refine AW.seq (AW.region (Qp Av (AOL.nil (Ae (Du ?_)))))
                refine Qr (Iq _) ?_
                rw [←H6]
                try simp only [Cy,Bool.and_true] at *
                first
                  | (simp only [Ad,Cn,Bm];(first | rw [iN hc1] | skip);(first | rw [iN hc2] | skip);(first | rw [iN hc3] | skip);(first | rw [iN hc4] | skip);(first | rw [if_pos hc5] | skip);(first | rw [iN hc6] | skip);(first | rw [if_pos hc7] | skip);first | done | rfl)
                  | (try simp only [Bool.not_eq_true',Bool.not_eq_false'] at *
                     first
                     | (simp only [Ad,Cn,Bm,isV0, *,Bool.false_eq_true,↓reduceIte,Bool.true_or,Bool.or_true,Bool.false_or,Bool.or_false,Bool.true_and,Bool.and_true,Bool.false_and,Bool.and_false,Bool.not_true,Bool.not_false];done)
                     | (simp [Ad,Cn,Bm,isV0, *];done)
                     | (simp_all [Ad,Cn,Bm,isV0];done))
                  | skip
              · skip
                refine Bz (AW.seq (AW.seq (AW.region (Qp Br (Qp Gt (Qp Br (Qg [] Qw Yy (Qg [(99,_)] Qw Bt (Qg [(100,_)] Qw Ct ?_)))))))))
                refine Qp E3 (Qp Br (Qg [] Qw Br (Qg [(104,_)] Qw Gt (Qg [(105,_)] Qw Br (Qg [] Qw Qt (Qg [(107,_)] Qw Bt (Qg [(108,_)] Qw Ct (Qg [(106,_),(109,_)] Qw E3 (Qp E5 ?_)))))))))
                refine Qp Br (Qg [] Qw Br (Qg [(113,_)] Qw Gt (Qg [(114,_)] Qw Br (Qg [] Qw R0 (Qg [(116,_)] Qw Bt (Qg [(117,_)] Qw Ct (Qg [(115,_),(118,_)] Qw E3 (Qp E5 (Qp Br ?_)))))))))
                refine Qg [] Qw Br (Qg [(122,_)] Qw Gt (Qg [(123,_)] Qw Br (Qg [] Qw Jr (Qg [(125,_)] Qw (Cm [Iq _,Iq _,.str _]) (Qg [] Qw (Et [Iq _,Iq _,.str _]) ?_)))))
                refine AOL.Aa6 (y:=.bool _) _ [(126,_),(127,_)] rfl (sF.all ⟨Ent.Aa3 _ _,Ent.Aa3 _ _,trivial⟩) (fun hG=>Hp Ai rfl rfl rfl rfl rfl) rfl ?_
                refine Qg [(124,_),(128,_)] Qw E3 (Qp E5 (AOL.nil (Ae (A5 (fun hc8=>?_) fun hc8=>?_))))
                · skip
                  refine AW.seq (AW.region (Qp Av (AOL.nil (Ae (Du ?_)))))
                  refine Qr (Iq _) ?_
                  rw [←H6]
                  try simp only [Cy,Bool.and_true] at *
                  first
                    | (simp only [Ad,Cn,Bm];(first | rw [iN hc1] | skip);(first | rw [iN hc2] | skip);(first | rw [iN hc3] | skip);(first | rw [iN hc4] | skip);(first | rw [if_pos hc5] | skip);(first | rw [iN hc6] | skip);(first | rw [iN hc7] | skip);(first | rw [if_pos hc8] | skip);first | done | rfl)
                    | (try simp only [Bool.not_eq_true',Bool.not_eq_false'] at *
                       first
                       | (simp only [Ad,Cn,Bm,isV0, *,Bool.false_eq_true,↓reduceIte,Bool.true_or,Bool.or_true,Bool.false_or,Bool.or_false,Bool.true_and,Bool.and_true,Bool.false_and,Bool.and_false,Bool.not_true,Bool.not_false];done)
                       | (simp [Ad,Cn,Bm,isV0, *];done)
                       | (simp_all [Ad,Cn,Bm,isV0];done))
                    | skip
                · skip
                  refine Bz (AW.seq (AW.region (Qp Av (AOL.nil (Ae (AW.ret ?_))))))
                  refine Qr (Iq _) ?_
                  rw [←H6]
                  try simp only [Cy,Bool.and_true] at *
                  first
                    | (simp only [Ad,Cn,Bm];(first | rw [iN hc1] | skip);(first | rw [iN hc2] | skip);(first | rw [iN hc3] | skip);(first | rw [iN hc4] | skip);(first | rw [if_pos hc5] | skip);(first | rw [iN hc6] | skip);(first | rw [iN hc7] | skip);(first | rw [iN hc8] | skip);first | done | rfl)
                    | (try simp only [Bool.not_eq_true',Bool.not_eq_false'] at *
                       first
                       | (simp only [Ad,Cn,Bm,isV0, *,Bool.false_eq_true,↓reduceIte,Bool.true_or,Bool.or_true,Bool.false_or,Bool.or_false,Bool.true_and,Bool.and_true,Bool.false_and,Bool.and_false,Bool.not_true,Bool.not_false];done)
                       | (simp [Ad,Cn,Bm,isV0, *];done)
                       | (simp_all [Ad,Cn,Bm,isV0];done))
                    | skip
          · skip
            refine Bz (AW.seq (AW.seq (AW.region (Qp Br (Qp Br (Qg [] Qw R0 (Qg [(78,_)] Qw Bt (Qg [] Qw Jr (Qg [(80,_)] Qw (Cm [Iq _,Iq _,.str _]) ?_)))))))))
            refine AOL.Aa6 (y:=.bool _) _ [(79,_),(81,_)] rfl (sF.all ⟨Ent.Aa3 _ _,Ent.Aa3 _ _,trivial⟩) (fun hG=>C8 (by kernel_rfl) rfl rfl (c101 e.kind e.val)) rfl ?_
            refine Qg [(82,_)] Qw Gt (Qg [(83,_)] Qw Br (Qg [] Qw R0 (Qg [(85,_)] Qw Bt (Qg [(86,_)] Qw A7 (Qg [(87,_)] Qw Br (Qg [] Qw Jr (Qg [(89,_)] Qw (Cm [Iq _,Iq _,.str _]) (Qg [] Qw (Et [Iq _,Iq _,.str _]) ?_))))))))
            refine AOL.Aa6 (y:=.bool _) _ [(90,_),(91,_)] rfl (sF.all ⟨Ent.Aa3 _ _,Ent.Aa3 _ _,trivial⟩) (fun hG=>Hp Ai rfl rfl rfl rfl rfl) rfl ?_
            refine Qg [(88,_),(92,_)] Qw E3 (Qg [(84,_),(93,_)] Qw E5 (Qp E3 (AOL.nil (Ae (A5 (fun hc9=>?_) fun hc9=>?_)))))
            · skip
              refine AW.seq (AW.region (Qp Av (AOL.nil (Ae (Du ?_)))))
              refine Qr (Iq _) ?_
              rw [←H6]
              try simp only [Cy,Bool.and_true] at *
              first
                | (simp only [Ad,Cn,Bm];(first | rw [iN hc1] | skip);(first | rw [iN hc2] | skip);(first | rw [iN hc3] | skip);(first | rw [iN hc4] | skip);(first | rw [iN hc5] | skip);(first | rw [if_pos hc9] | skip);first | done | rfl)
                | (try simp only [Bool.not_eq_true',Bool.not_eq_false'] at *
                   first
                   | (simp only [Ad,Cn,Bm,isV0, *,Bool.false_eq_true,↓reduceIte,Bool.true_or,Bool.or_true,Bool.false_or,Bool.or_false,Bool.true_and,Bool.and_true,Bool.false_and,Bool.and_false,Bool.not_true,Bool.not_false];done)
                   | (simp [Ad,Cn,Bm,isV0, *];done)
                   | (simp_all [Ad,Cn,Bm,isV0];done))
                | skip
            · skip
              refine Bz (AW.seq (AW.seq (AW.region (Qp Br (Qp Gt (Qp Br (Qg [] Qw Yy (Qg [(99,_)] Qw Bt (Qg [(100,_)] Qw Ct ?_)))))))))
              refine Qp E3 (Qp Br (Qg [] Qw Br (Qg [(104,_)] Qw Gt (Qg [(105,_)] Qw Br (Qg [] Qw Qt (Qg [(107,_)] Qw Bt (Qg [(108,_)] Qw Ct (Qg [(106,_),(109,_)] Qw E3 (Qp E5 ?_)))))))))
              refine Qp Br (Qg [] Qw Br (Qg [(113,_)] Qw Gt (Qg [(114,_)] Qw Br (Qg [] Qw R0 (Qg [(116,_)] Qw Bt (Qg [(117,_)] Qw Ct (Qg [(115,_),(118,_)] Qw E3 (Qp E5 (Qp Br ?_)))))))))
              refine Qg [] Qw Br (Qg [(122,_)] Qw Gt (Qg [(123,_)] Qw Br (Qg [] Qw Jr (Qg [(125,_)] Qw (Cm [Iq _,Iq _,.str _]) (Qg [] Qw (Et [Iq _,Iq _,.str _]) ?_)))))
              refine AOL.Aa6 (y:=.bool _) _ [(126,_),(127,_)] rfl (sF.all ⟨Ent.Aa3 _ _,Ent.Aa3 _ _,trivial⟩) (fun hG=>Hp Ai rfl rfl rfl rfl rfl) rfl ?_
              refine Qg [(124,_),(128,_)] Qw E3 (Qp E5 (AOL.nil (Ae (A5 (fun hc10=>?_) fun hc10=>?_))))
              · skip
                refine AW.seq (AW.region (Qp Av (AOL.nil (Ae (Du ?_)))))
                refine Qr (Iq _) ?_
                rw [←H6]
                try simp only [Cy,Bool.and_true] at *
                first
                  | (simp only [Ad,Cn,Bm];(first | rw [iN hc1] | skip);(first | rw [iN hc2] | skip);(first | rw [iN hc3] | skip);(first | rw [iN hc4] | skip);(first | rw [iN hc5] | skip);(first | rw [iN hc9] | skip);(first | rw [if_pos hc10] | skip);first | done | rfl)
                  | (try simp only [Bool.not_eq_true',Bool.not_eq_false'] at *
                     first
                     | (simp only [Ad,Cn,Bm,isV0, *,Bool.false_eq_true,↓reduceIte,Bool.true_or,Bool.or_true,Bool.false_or,Bool.or_false,Bool.true_and,Bool.and_true,Bool.false_and,Bool.and_false,Bool.not_true,Bool.not_false];done)
                     | (simp [Ad,Cn,Bm,isV0, *];done)
                     | (simp_all [Ad,Cn,Bm,isV0];done))
                  | skip
              · skip
                refine Bz (AW.seq (AW.region (Qp Av (AOL.nil (Ae (AW.ret ?_))))))
                refine Qr (Iq _) ?_
                rw [←H6]
                try simp only [Cy,Bool.and_true] at *
                first
                  | (simp only [Ad,Cn,Bm];(first | rw [iN hc1] | skip);(first | rw [iN hc2] | skip);(first | rw [iN hc3] | skip);(first | rw [iN hc4] | skip);(first | rw [iN hc5] | skip);(first | rw [iN hc9] | skip);(first | rw [iN hc10] | skip);first | done | rfl)
                  | (try simp only [Bool.not_eq_true',Bool.not_eq_false'] at *
                     first
                     | (simp only [Ad,Cn,Bm,isV0, *,Bool.false_eq_true,↓reduceIte,Bool.true_or,Bool.or_true,Bool.false_or,Bool.or_false,Bool.true_and,Bool.and_true,Bool.false_and,Bool.and_false,Bool.not_true,Bool.not_false];done)
                     | (simp [Ad,Cn,Bm,isV0, *];done)
                     | (simp_all [Ad,Cn,Bm,isV0];done))
                  | skip
theorem c23 (e:Ex)(hs:At e≤1048576):Ax Tryz.prog 67 [.agg (cE e)] (.tuple [.int .i64 (At e),.int .i64 (E0 e)]):=by
 revert hs
 induction e using Ex.Abb
 rename_i e ih
 intro hs
 refine Ax.body (n:=32) Ai Tryz.func67 rfl rfl rfl fun H=>?_
 refine Ah (Qp La (Qp Av (Qp Av (Dh (Qp Av (Qp Av (Ag (AW.seq (Ah ?_)))))))))
 refine Qp K7 (Qp Dm ?_)
 refine Qp (Ak (n:=e.args.length) Ai rfl rfl rfl (by simp)) ?_
 refine Qp A2 (Ag (AW.block ?_))
 refine AW.sllen 11 rfl fun hlen=>?_
 simp only [List.length_map,maxLen] at hlen
 refine AW.Aa5 (fun (p:Nat×Nat×Nat)=>(⟨[(4,.int .i64 (p.2.1:Int)),(5,.int .i64 (p.2.2:Int)),(11,.sl 8 (e.args.map Fv)),(12,.int .i64 e.args.length),(13,.int .i64 (p.1:Int))],H,32⟩:St)) (fun (p:Nat×Nat×Nat)=>p.1≤e.args.length∧At e=p.2.1+((e.args.drop p.1).map At).sum∧E0 e=max p.2.2 (((e.args.drop p.1).map E0).foldr max 0)+1∧p.2.2≤1048576) (fun (p:Nat×Nat×Nat)=>e.args.length-p.1) ((0,1,0)) ?_ (GS.weaken ⟨rfl,rfl,rfl,rfl,rfl,trivial⟩ (.refl _)) ?_
 · exact ⟨Nat.zero_le _,by simpa using D7 e,by simpa using Ts e,Nat.zero_le _⟩
 ·
  rintro p hR
  refine Ah (Qp Cl (Ag (AW.seq (A5 (fun hc1=>?_) fun hc1=>?_))))
  ·
   obtain ⟨a,ha⟩:=B4 hc1
   have hlt:=Bb ha
   have hm:=List.mem_of_getElem? ha
   have hsa:=Gu hm
   have hda:=J7 a
   have h1:=iI p.2.1 ha
   have h2:=Pf p.2.2 ha
   refine Bz (AW.seq (AW.block (Ah ?_)))
   refine Qp (Af (c:=[Iq _,_,Iq _,Iq _,Iq _,Iq _,Iq _,.str _]) Ai rfl rfl rfl rfl rfl rfl (by omega) (Fb ha)) ?_
   refine Qp D1 ?_
   refine Qe (Al (l:=[.int .i64 0,.sl 8 [],.int .i64 0,.int .i64 0,.int .i64 0,.int .i64 0,.int .i64 0,.str []]) (by kernel_rfl)) ?_
   rintro _ _ ⟨b7,rfl,rfl⟩
   refine Co 0 [Iq _,_,Iq _,Iq _,Iq _,Iq _,Iq _,.str _] (_::_) ?_
   refine AOL.ghost (GS.Aa4 (t:=7) 0 rfl rfl) ?_
   refine Dh (Qp D1 ?_)
   refine Qp (Qc rfl (ih a hm (by have:=Gu hm;omega))) ?_
   refine Qp Mx (Qp Jq (Qp Jq (Qp Av (Qp Av (Ag (AW.region (Qp A2 (Qp A2 (Qp Fx ?_)))))))))
   refine Qp A2 (Qp A2 ?_)
   refine Qp (xB rfl rfl) ?_
   refine Qp Av (Qp Av (AOL.nil (Bs (Ae (AW.region (Qp Fx (Qp A2 (Ag ?_))))))))
   refine ⟨(p.1+1,p.2.1+At a,max p.2.2 (E0 a)),?_,?_,GS.weaken ⟨rfl,congrArg (AV.int .i64) (by simp only;omega),rfl,rfl,rfl,trivial⟩ (.refl _)⟩
   · simp only;exact ⟨hlt,by omega,by omega,by omega⟩
   · first | omega | (simp only;omega)
  ·
   have hd:=Di hc1
   refine AW.exit ?_
   refine A8 (A8 (Bw (Ae (Ah (Qp A2 (Qp A2 ?_))))))
   refine Qp (fF rfl rfl rfl (by have:=J7 e;constructor <;> omega)) ?_
   refine Qp Av (Qp Av (Ag (AW.ret ?_)))
   refine Ko (Iq _) (Iq _) ?_
   rw [hd] at hR
   simp only [List.map_nil,List.sum_nil,List.foldr_nil] at hR
   simp only [Ad,AV.tuple.injEq,List.cons.injEq,AV.int.injEq,true_and,and_true]
   omega
theorem c48 (L:Nat)(e:Ex)(hs:At e≤1048576):Ax Tryz.prog 56 [.agg (cE e),.int .i64 (L:Int)] (.int .i64 (Ha L e)):=by
 revert hs
 induction e using Ex.Abb
 rename_i e ih
 intro hs
 refine Ax.body (n:=29) Ai Tryz.func56 rfl rfl rfl fun H=>?_
 refine Ah (Qp La (Qp Av (Dh (Qp Av (Ag (AW.seq (Ah (Qp Av (Ag ?_)))))))))
 refine AW.block ?_
 refine AW.Aa5 (fun (p:Nat×Nat)=>(⟨[(1,.int .i64 (L:Int)),(2,.ptr (cE e)),(5,.int .i64 (p.2:Int)),(6,.int .i64 (p.1:Int))],H,29⟩:St)) (fun (p:Nat×Nat)=>p.1≤e.args.length∧Ha L e=F3 L (e.args.drop p.1) p.2∧p.2+((e.args.drop p.1).map At).sum≤At e∧e.args.length≤1048576) (fun (p:Nat×Nat)=>e.args.length-p.1) ((0,1)) ?_ (GS.weaken ⟨rfl,rfl,rfl,rfl,trivial⟩ (.refl _)) ?_
 · exact ⟨Nat.zero_le _,by simpa using Zs L e,by simpa using Nat.le_of_eq (D7 e).symm,Na e hs⟩
 ·
  rintro p hR
  refine AW.seq (Ah (Qp A2 (Qp K7 (Qp Dm ?_))))
  refine Qp (Ak (n:=e.args.length) Ai rfl rfl rfl (by simp)) ?_
  refine Qp Cl (Qp Br (Qg [] Qw A2 (Qg [] Qw A2 ?_)))
  refine AOL.Aa6 (y:=.bool _) _ [(13,_),(14,_)] rfl (sF.all ⟨Ent.Aa3 _ _,Ent.Aa3 _ _,trivial⟩) (fun hG=>yA rfl rfl) rfl ?_
  refine Qp E3 (Ag (A5 (fun hc1=>?_) fun hc1=>?_))
  ·
   simp only [Bool.and_eq_true] at hc1
   obtain ⟨a,ha⟩:=B4 hc1.1
   have hlt:=Bb ha
   have hm:=List.mem_of_getElem? ha
   have hsa:=Gu hm
   have hle:p.2≤L:=by simpa using hc1.2
   have h1:=iI p.2 ha
   have h2:=Xh L a
   have h3:=hR.2.1
   rw [Ba ha,F3,if_pos hle] at h3
   refine Bz (AW.seq (AW.block (AW.region (Qp A2 (Qp K7 (Qp Dm (Qp A2 ?_)))))))
   refine Qp (Af (c:=[Iq _,_,Iq _,Iq _,Iq _,Iq _,Iq _,.str _]) Ai rfl rfl rfl rfl rfl rfl (by omega) (Fb ha)) ?_
   refine Qp D1 (Qp A2 ?_)
   refine Qp (Qc rfl (ih a hm (by have:=Gu hm;omega))) ?_
   refine Qp Fx (Qp Av (AOL.nil (Bs (Ae (AW.region (Qp A2 (Qp Fx (Qp Av (Ag ?_)))))))))
   refine ⟨(p.1+1,p.2+Ha L a),?_,?_,GS.weaken ⟨rfl,rfl,rfl,rfl,trivial⟩ (.refl _)⟩
   · simp only;exact ⟨hlt,h3,by omega,hR.2.2.2⟩
   · first | omega | (simp only;omega)
  ·
   refine AW.exit ?_
   refine A8 (A8 (Bw (Ae (Ah (Qp A2 (Qp Av (Ag (AW.ret ?_))))))))
   refine Qr (Iq _) ?_
   simp only [Ad,AV.int.injEq,true_and]
   rw [hR.2.1]
   simp only [Bool.and_eq_false_iff] at hc1
   rcases hc1 with hc1 | hc1
   · rw [Di hc1,F3]
   · rw [dK (by simpa using hc1)]
theorem c49 (e:Ex)(hs:At e≤1048576):Ax Tryz.prog 57 [.agg (cE e)] (.int .i64 (E0 e)):=by
 revert hs
 induction e using Ex.Abb
 rename_i e ih
 intro hs
 refine Ax.body (n:=22) Ai Tryz.func57 rfl rfl rfl fun H=>?_
 refine Ah (Qp La (Qp Av (Dh (Qp Av (Ag (AW.seq (Ah (Qp Av (Ag ?_)))))))))
 refine AW.block ?_
 refine AW.Aa5 (fun (p:Nat×Nat)=>(⟨[(1,.ptr (cE e)),(3,.int .i64 (p.2:Int)),(4,.int .i64 (p.1:Int))],H,22⟩:St)) (fun (p:Nat×Nat)=>p.1≤e.args.length∧E0 e=max p.2 (((e.args.drop p.1).map E0).foldr max 0)+1∧p.2≤1048576∧e.args.length≤1048576) (fun (p:Nat×Nat)=>e.args.length-p.1) ((0,0)) ?_ (GS.weaken ⟨rfl,rfl,rfl,trivial⟩ (.refl _)) ?_
 · exact ⟨Nat.zero_le _,by simpa using Ts e,Nat.zero_le _,Na e hs⟩
 ·
  rintro p hR
  refine AW.seq (Ah (Qp A2 (Qp K7 (Qp Dm ?_))))
  refine Qp (Ak (n:=e.args.length) Ai rfl rfl rfl (by simp)) ?_
  refine Qp Cl (Ag (A5 (fun hc1=>?_) fun hc1=>?_))
  ·
   obtain ⟨a,ha⟩:=B4 hc1
   have hlt:=Bb ha
   have hm:=List.mem_of_getElem? ha
   have hsa:=Gu hm
   have hda:=J7 a
   have h2:=Pf p.2 ha
   refine Bz (AW.seq (AW.block (AW.region (Qp A2 (Qp K7 (Qp Dm (Qp A2 ?_)))))))
   refine Qp (Af (c:=[Iq _,_,Iq _,Iq _,Iq _,Iq _,Iq _,.str _]) Ai rfl rfl rfl rfl rfl rfl (by omega) (Fb ha)) ?_
   refine Qp D1 ?_
   refine Qp (Qc rfl (ih a hm (by have:=Gu hm;omega))) ?_
   refine Qp (xB rfl rfl) ?_
   refine Qp Av (AOL.nil (Bs (Ae (AW.region (Qp A2 (Qp Fx (Qp Av (Ag ?_))))))))
   refine ⟨(p.1+1,max p.2 (E0 a)),?_,?_,GS.weaken ⟨rfl,congrArg (AV.int .i64) (by simp only;omega),rfl,trivial⟩ (.refl _)⟩
   · simp only;exact ⟨hlt,by omega,by omega,hR.2.2.2⟩
   · first | omega | (simp only;omega)
  ·
   have hd:=Di hc1
   refine AW.exit ?_
   refine A8 (A8 (Bw (Ae (Ah (Qp A2 ?_)))))
   refine Qp (fF rfl rfl rfl (by have:=J7 e;constructor <;> omega)) ?_
   refine Qp Av (Ag (AW.ret ?_))
   refine Qr (Iq _) ?_
   rw [hd] at hR
   simp only [List.map_nil,List.foldr_nil] at hR
   simp only [Ad,AV.int.injEq,true_and]
   omega
theorem c50 (e:Ex)(hs:At e≤1048576):Ax Tryz.prog 97 [.agg (cE e)] (.int .i64 (C4 e)):=by
 revert hs
 induction e using Ex.Abb
 rename_i e ih
 intro hs
 refine Ax.body (n:=27) Ai Tryz.func97 rfl rfl rfl fun H=>?_
 refine Ah (Qp La (Qp Av (Ag (AW.seq (Ah (Qp D1 ?_))))))
 refine Qp (Qc rfl (c83 e)) ?_
 refine Qp Av (Dh (Qp A2 (Qp Ct (Ag (A5 (fun hc1=>?_) fun hc1=>?_)))))
 ·
  refine Ah (Qp A2 (Qp Av (Ag (Du ?_))))
  refine Qr (Iq _) ?_
  simp only [Ad,AV.int.injEq,true_and]
  rw [Lc,if_pos hc1]
 ·
  have hn:C4 e=Aq C4 e.args:=by rw [Lc,if_neg (by simpa using hc1)]
  refine Bz (AW.seq (Ah (Qp Av (Ag (AW.block ?_)))))
  have hlen:=Na e hs
  refine AW.Aa5 (fun (p:Nat)=>(⟨[(1,.ptr (cE e)),(4,.int .i64 (p:Int))],H,27⟩:St)) (fun (p:Nat)=>p≤e.args.length∧C4 e=Aq C4 (e.args.drop p)) (fun (p:Nat)=>e.args.length-p) (0) ?_ (GS.weaken ⟨rfl,rfl,trivial⟩ (.refl _)) ?_
  · exact ⟨Nat.zero_le _,by simpa using hn⟩
  ·
   rintro p hR
   refine AW.seq (Ah (Qp A2 (Qp K7 (Qp Dm ?_))))
   refine Qp (Ak (n:=e.args.length) Ai rfl rfl rfl (by simp)) ?_
   refine Qp Cl (Ag (A5 (fun hc2=>?_) fun hc2=>?_))
   ·
    obtain ⟨a,ha⟩:=B4 hc2
    have hlt:=Bb ha
    have hm:=List.mem_of_getElem? ha
    refine Bz (AW.seq (AW.block (Ah (Qp K7 (Qp Dm (Qp A2 ?_))))))
    refine Qp (Af (c:=[Iq _,_,Iq _,Iq _,Iq _,Iq _,Iq _,.str _]) Ai rfl rfl rfl rfl rfl rfl (by omega) (Fb ha)) ?_
    refine Qp D1 ?_
    refine Qp (Qc rfl (ih a hm (by have:=Gu hm;omega))) ?_
    refine Qp Av (Dh (Qp A2 (Qp Ct (Ag (A5 (fun hc3=>?_) fun hc3=>?_)))))
    ·
     refine Ah (Qp A2 (Qp Av (Ag (AW.ret (Bc (Aj (Aj (Bc (Aj ?_)))))))))
     refine Qr (Iq _) ?_
     simp only [Ad,AV.int.injEq,true_and]
     rw [hR.2,Ba ha,Aq,if_pos hc3]
    ·
     refine AW.skip (Bs (Ae (AW.region (Qp A2 (Qp Fx (Qp Av (Ag ?_)))))))
     refine ⟨p+1,?_,?_,GS.weaken ⟨rfl,rfl,trivial⟩ (.refl _)⟩
     · exact ⟨hlt,by rw [hR.2,Ba ha,Aq,if_neg (by simpa using hc3)]⟩
     · first | omega | (simp only;omega)
   ·
    have hd:=Di hc2
    refine AW.exit ?_
    refine A8 (A8 (Bw (Ae (Ah (Qp Av (Ag (AW.ret ?_)))))))
    refine Qr (Iq _) ?_
    simp only [Ad,AV.int.injEq,true_and]
    rw [hR.2,hd];rfl
theorem c46 (f:Nat)(hfn:vE Tryz.prog f=true)(cap:List AV)(fs:Ex→Int)(Pr:Ex→Prop)(hp:∀a,Pr a→∀b∈a.args,Pr b)(hf:∀a,Pr a→Ax Tryz.prog f (.agg (cE a)::cap) (.int .i64 (fs a)))(e:Ex)(he:Pr e):Ax Tryz.prog 68 [.agg (cE e),.fn (.func f) [] cap] (.int .i64 (Jg fs e)):=by
 revert he
 induction e using Ex.Abb
 rename_i e ih
 intro he
 refine Ax.body (n:=29) Ai Tryz.func68 rfl rfl rfl fun H=>?_
 refine Ah (Qp La (Qp Av (Ag (AW.seq (Ah ?_)))))
 refine Qp (Bl (v:=.fn _ _ _) rfl) ?_
 refine Qp D1 ?_
 refine Qp (D2 hfn rfl rfl rfl (hf e he)) ?_
 refine Qp Av (Dh (Qp A2 (Qp Ct (Ag (A5 (fun hc1=>?_) fun hc1=>?_)))))
 ·
  refine Ah (Qp A2 (Qp Av (Ag (Du ?_))))
  refine Qr (Iq _) ?_
  simp only [Ad,AV.int.injEq,true_and]
  rw [T0,if_pos hc1]
 ·
  have hn:Jg fs e=Aq (Jg fs) e.args:=by rw [T0,if_neg (by simpa using hc1)]
  refine Bz (AW.seq (Ah (Qp K7 (Qp Dm ?_))))
  refine Qp (Ak (n:=e.args.length) Ai rfl rfl rfl (by simp)) ?_
  refine Qp A2 (Ag (AW.block ?_))
  refine AW.sllen 16 rfl fun hlen=>?_
  simp only [List.length_map,maxLen] at hlen
  refine AW.Aa5 (fun (p:Nat)=>(⟨[(1,.fn (.func f) [] cap),(16,.sl 8 (e.args.map Fv)),(17,.int .i64 e.args.length),(18,.int .i64 (p:Int))],H,29⟩:St)) (fun (p:Nat)=>p≤e.args.length∧Jg fs e=Aq (Jg fs) (e.args.drop p)) (fun (p:Nat)=>e.args.length-p) (0) ?_ (GS.weaken ⟨rfl,rfl,rfl,rfl,trivial⟩ (.refl _)) ?_
  · exact ⟨Nat.zero_le _,by simpa using hn⟩
  ·
   rintro p hR
   refine Ah (Qp Cl (Ag (AW.seq (A5 (fun hc2=>?_) fun hc2=>?_))))
   ·
    obtain ⟨a,ha⟩:=B4 hc2
    have hlt:=Bb ha
    have hm:=List.mem_of_getElem? ha
    refine Bz (AW.seq (AW.block (Ah ?_)))
    refine Qp (Af (c:=[Iq _,_,Iq _,Iq _,Iq _,Iq _,Iq _,.str _]) Ai rfl rfl rfl rfl rfl rfl (by omega) (Fb ha)) ?_
    refine Qp D1 ?_
    refine Qe (Al (l:=[.int .i64 0,.sl 8 [],.int .i64 0,.int .i64 0,.int .i64 0,.int .i64 0,.int .i64 0,.str []]) (by kernel_rfl)) ?_
    rintro _ _ ⟨b7,rfl,rfl⟩
    refine Co 0 [Iq _,_,Iq _,Iq _,Iq _,Iq _,Iq _,.str _] (_::_) ?_
    refine AOL.ghost (GS.Aa4 (t:=7) 0 rfl rfl) ?_
    refine Dh (Qp D1 ?_)
    refine Qp (Bl (v:=.fn _ _ _) rfl) ?_
    refine Qp (Qc rfl (ih a hm (hp e he a hm))) ?_
    refine Qp Av (Dh (Qp A2 (Qp Ct (Ag (A5 (fun hc3=>?_) fun hc3=>?_)))))
    ·
     refine Ah (Qp A2 (Qp Av (Ag (AW.ret (Bc (Aj (Aj (Bc (Aj ?_)))))))))
     refine Qr (Iq _) ?_
     simp only [Ad,AV.int.injEq,true_and]
     rw [hR.2,Ba ha,Aq,if_pos hc3]
    ·
     refine AW.skip (Bs (Ae (AW.region (Qp Fx (Qp A2 (Ag ?_))))))
     refine ⟨p+1,?_,?_,GS.weaken ⟨rfl,rfl,rfl,rfl,trivial⟩ (.refl _)⟩
     · exact ⟨hlt,by rw [hR.2,Ba ha,Aq,if_neg (by simpa using hc3)]⟩
     · first | omega | (simp only;omega)
   ·
    have hd:=Di hc2
    refine AW.exit ?_
    refine A8 (A8 (Bw (Ae (Ah (Qp Av (Ag (AW.ret ?_)))))))
    refine Qr (Iq _) ?_
    simp only [Ad,AV.int.injEq,true_and]
    rw [hR.2,hd];rfl
theorem c21 (e:Ex)(hs:At e≤1048576):Ax Tryz.prog 29 [.agg (cE e)] (.int .i64 (Bx e)):=by
  refine Ax.body (n:=18) Ai Tryz.func29 rfl rfl rfl fun H=>?_
  refine AW.seq (AW.region (Qp La (Qp Av (AOL.nil (Ae (AW.seq (AW.region (Qp D1 ?_))))))))
  refine Qp (Qc rfl (c23 e hs)) ?_
  refine Qp Mx (Qp Jq (Qp Jq (Qp Av (Qp Av (AOL.nil (Ae (AW.seq (AW.block (AW.seq ?_)))))))))
  refine AW.region (Qp A2 (Qp Hi (Qp Bg (AOL.nil (Ae (A5 (fun hc1=>?_) fun hc1=>?_))))))
  · skip
    refine AW.seq (AW.region (Qp Av (AOL.nil (Ae (AW.ret (Bc (Aj ?_)))))))
    refine Qr (Iq _) ?_
    try simp only [Cy,Bool.and_true] at *
    first
      | (simp only [Ad,Bx];(first | rw [if_pos hc1] | skip);first | done | rfl)
      | (try simp only [Bool.not_eq_true',Bool.not_eq_false'] at *
         first
         | (simp only [Ad,Bx, *,Bool.false_eq_true,↓reduceIte,Bool.true_or,Bool.or_true,Bool.false_or,Bool.or_false,Bool.true_and,Bool.and_true,Bool.false_and,Bool.and_false,Bool.not_true,Bool.not_false];done)
         | (simp [Ad,Bx, *];done)
         | (simp_all [Ad,Bx];done))
      | skip
  · skip
    refine AW.seq (AW.region (Qp A2 (Qp Hi (Qp Bg (AOL.nil (Ae (A5 (fun hc2=>?_) fun hc2=>?_)))))))
    · skip
      refine AW.seq (AW.region (Qp Av (AOL.nil (Ae (AW.ret (Bc (Aj ?_)))))))
      refine Qr (Iq _) ?_
      try simp only [Cy,Bool.and_true] at *
      first
        | (simp only [Ad,Bx];(first | rw [iN hc1] | skip);(first | rw [if_pos hc2] | skip);first | done | rfl)
        | (try simp only [Bool.not_eq_true',Bool.not_eq_false'] at *
           first
           | (simp only [Ad,Bx, *,Bool.false_eq_true,↓reduceIte,Bool.true_or,Bool.or_true,Bool.false_or,Bool.or_false,Bool.true_and,Bool.and_true,Bool.false_and,Bool.and_false,Bool.not_true,Bool.not_false];done)
           | (simp [Ad,Bx, *];done)
           | (simp_all [Ad,Bx];done))
        | skip
    · skip
      refine AW.skip (Bs (Ae (AW.seq (AW.region (Qp D1 ?_)))))
      refine Qp (Qc rfl (c46 69 (by kernel_rfl) [] By (fun _=>True) (fun _ _ _ _=>trivial) (fun a _=>c47 a) e trivial)) ?_
      refine Qp Av (AOL.nil (Ae (AW.ret ?_)))
      refine Qr (Iq _) ?_
      try simp only [Cy,Bool.and_true] at *
      first
        | (simp only [Ad,Bx];(first | rw [iN hc1] | skip);(first | rw [iN hc2] | skip);first | done | rfl)
        | (try simp only [Bool.not_eq_true',Bool.not_eq_false'] at *
           first
           | (simp only [Ad,Bx, *,Bool.false_eq_true,↓reduceIte,Bool.true_or,Bool.or_true,Bool.false_or,Bool.or_false,Bool.true_and,Bool.and_true,Bool.false_and,Bool.and_false,Bool.not_true,Bool.not_false];done)
           | (simp [Ad,Bx, *];done)
           | (simp_all [Ad,Bx];done))
        | skip
theorem c25 (e:Ex)(hs:At e≤1048576):Ax Tryz.prog 59 [.agg (cE e)] (.int .i64 (Bx e)):=by
  refine Ax.body (n:=11) Ai Tryz.func59 rfl rfl rfl fun H=>?_
  refine AW.seq (AW.region (Qp La (Qp Av (AOL.nil (Ae (AW.seq (AW.seq (AW.region (Qp D1 ?_)))))))))
  refine Qp (Qc rfl (c48 64 e hs)) ?_
  refine Qp Hi (AOL.nil (Ae (A5 (fun hc1=>?_) fun hc1=>?_)))
  · skip
    have hct:decide (64<(At e:Int))=true:=by have:=Ys 64 e;simp at hc1 ⊢;omega
    refine AW.seq (AW.region (Qp Av (AOL.nil (Ae (Du ?_)))))
    refine Qr (Iq _) ?_
    try simp only [Cy,Bool.and_true] at *
    first
      | (simp only [Ad,Bx];(first | rw [if_pos hc1] | skip);first | done | rfl)
      | (try simp only [Bool.not_eq_true',Bool.not_eq_false'] at *
         first
         | (simp only [Ad,Bx, *,Bool.false_eq_true,↓reduceIte,Bool.true_or,Bool.or_true,Bool.false_or,Bool.or_false,Bool.true_and,Bool.and_true,Bool.false_and,Bool.and_false,Bool.not_true,Bool.not_false];done)
         | (simp [Ad,Bx, *];done)
         | (simp_all [Ad,Bx];done))
      | skip
  · skip
    have hct:decide (64<(At e:Int))=false:=by have:=Ys 64 e;simp at hc1 ⊢;omega
    refine Bz (AW.seq (AW.seq (AW.region (Qp D1 ?_))))
    refine Qp (Qc rfl (c49 e hs)) ?_
    refine Qp Hi (AOL.nil (Ae (A5 (fun hc2=>?_) fun hc2=>?_)))
    · skip
      refine AW.seq (AW.region (Qp Av (AOL.nil (Ae (Du ?_)))))
      refine Qr (Iq _) ?_
      try simp only [Cy,Bool.and_true] at *
      first
        | (simp only [Ad,Bx];(first | rw [iN hc1] | skip);(first | rw [if_pos hc2] | skip);first | done | rfl)
        | (try simp only [Bool.not_eq_true',Bool.not_eq_false'] at *
           first
           | (simp only [Ad,Bx, *,Bool.false_eq_true,↓reduceIte,Bool.true_or,Bool.or_true,Bool.false_or,Bool.or_false,Bool.true_and,Bool.and_true,Bool.false_and,Bool.and_false,Bool.not_true,Bool.not_false];done)
           | (simp [Ad,Bx, *];done)
           | (simp_all [Ad,Bx];done))
        | skip
    · skip
      refine Bz (AW.seq (AW.region (Qp D1 ?_)))
      refine Qp (Qc rfl (c50 e hs)) ?_
      refine Qp Av (AOL.nil (Ae (AW.ret ?_)))
      refine Qr (Iq _) ?_
      try simp only [Cy,Bool.and_true] at *
      first
        | (simp only [Ad,Bx];(first | rw [iN hc1] | skip);(first | rw [iN hc2] | skip);first | done | rfl)
        | (try simp only [Bool.not_eq_true',Bool.not_eq_false'] at *
           first
           | (simp only [Ad,Bx, *,Bool.false_eq_true,↓reduceIte,Bool.true_or,Bool.or_true,Bool.false_or,Bool.or_false,Bool.true_and,Bool.and_true,Bool.false_and,Bool.and_false,Bool.not_true,Bool.not_false];done)
           | (simp [Ad,Bx, *];done)
           | (simp_all [Ad,Bx];done))
        | skip
theorem c34 (e:Ex)(hs:At e≤1048576):Ax Tryz.prog 16 [.agg (cE e)] (.bool (decide (At e≤200∧E0 e≤100))):=by
 refine Ax.body (n:=11) Ai Tryz.func16 rfl rfl rfl fun H=>?_
 refine Ah (Qp La (Qp Bg (Dh (Qp D1 ?_))))
 refine Qp (Qc rfl (c48 200 e hs)) ?_
 refine Qp Ng (Qp Br (Qg [] Qw D1 ?_))
 refine Qg [(7,_)] Qw (Qc rfl (c49 e hs)) ?_
 refine Qg [(8,_)] Qw Ng (Qp E3 (Qp Bg (Ag (AW.ret ?_))))
 refine Qr (.bool _) ?_
 have:=Ys 200 e
 show AV.bool _=AV.bool _
 congr 1
 rw [Bool.eq_iff_iff]
 simp
 omega

set_option maxHeartbeats 400000
set_option maxRecDepth 20000

theorem nB {s:List UInt8}(h:s.length≠0):s[(0:Int).toNat]? = some (s.headD 0):=by
 cases s with
 | nil=>exact absurd rfl h
 | cons a r=>rfl
theorem bO {s:List UInt8}{x:Bool}(h:Ip [((((s.length:Nat):Int)==0||x),false)]):s.length≠0:=by
 have h1:=h _ (List.mem_singleton.2 rfl)
 intro h0
 simp [h0] at h1
theorem Td {s:List UInt8}{k:Nat}{c:UInt8}(h:s[k]? = some c):s[((k:Nat):Int).toNat]? = some c:=h
theorem Qb {s:List UInt8}(h:s.length=0∨24<s.length∨Ty ((s.headD 0).toNat)=true):L3 s=false:=by
 unfold L3
 rcases h with h | h | h
 ·
  have e:(s.length==0)=true:=by simp [h]
  rw [e];rfl
 ·
  have e:decide (s.length≤24)=false:=by simp;omega
  rw [e,Bool.and_false,Bool.false_and,Bool.false_and]
 · rw [h,Bool.not_true,Bool.and_false,Bool.false_and]
theorem jJ {s:List UInt8}(h:s.length≠0∧s.length≤24∧Ty ((s.headD 0).toNat)=false)(ha:s.all dU=true):L3 s=true:=by
 unfold L3
 have e1:(s.length==0)=false:=by rw [beq_eq_false_iff_ne];exact h.1
 have e2:decide (s.length≤24)=true:=by simp;exact h.2.1
 rw [e1,e2,h.2.2,ha];rfl
theorem lF {s:List UInt8}(h:Th ((s.headD 0).toNat)=false):L3 s=false:=by
  cases s with
  | nil=>rfl
  | cons a r=>
    have h1:Th a.toNat=false:=h
    cases hd:Ty a.toNat with
    | true=>exact Qb (.inr (.inr hd))
    | false=>
      unfold L3
      have:(a::r).all dU=false:=by rw [List.all_cons];unfold dU;rw [h1,hd];rfl
      rw [this,Bool.and_false]
theorem iT {s:List UInt8}{c:UInt8}(hm:c∈s)(h:dU c=false):s.all dU=false:=by
 rw [Bool.eq_false_iff];intro ha;rw [List.all_eq_true.1 ha c hm] at h;cases h
theorem Sn {s:List UInt8}{k:Nat}{c:UInt8}(hc:s[k]? = some c)(h:(s.take k).all dU=true)(hx:dU c=true):(s.take (k+1)).all dU=true:=by
 rw [Cu hc,List.all_append,h];simp [hx]
theorem zW {b:UInt8}(h:Th b.toNat=true):Ty b.toNat=false:=by
 simp [Th,Ty] at h ⊢;omega
theorem mX {l:List Fi}{k:Nat}{a:Fi}(h:l[k]? = some a):(l.take (k+1)).map (·.name)=(l.take k).map (·.name) ++ [a.name]:=by rw [Cu h];simp
theorem fE {l:List Sc}{k:Nat}{a:Sc}(h:l[k]? = some a):(l.take (k+1)).map (·.name)=(l.take k).map (·.name) ++ [a.name]:=by rw [Cu h];simp

theorem c111 (n:Int):Ax Tryz.prog 186 [.int .u8 n] (.bool (Ty n)):=by
 refine Ax.body (n:=9) Ai Tryz.func186 rfl rfl rfl fun H=>?_
 refine Ah (Qp Bg (Dh ?_))
 refine Qp (Bl (v:=.int .u8 _) rfl) ?_
 refine Qp N7 (Qp Br ?_)
 refine AOL.Aa6 (y:=.int .u8 _) _ [] rfl (sF.all trivial) (fun hG=>Bl (v:=.int .u8 _) rfl) rfl ?_
 refine Qg [(6,_)] Qw Ng (Qp E3 (Qp Bg (Ag (AW.ret ?_))))
 refine Qr (.bool _) ?_
 rfl
theorem c112 (n:Int):Ax Tryz.prog 187 [.int .u8 n] (.bool (Th n)):=by
 refine Ax.body (n:=21) Ai Tryz.func187 rfl rfl rfl fun H=>?_
 refine Ah (Qp Bg (Dh ?_))
 refine Qp (Bl (v:=.int .u8 _) rfl) ?_
 refine Qp A7 (Qp Br ?_)
 refine AOL.Aa6 (y:=.int .u8 _) _ [] rfl (sF.all trivial) (fun hG=>Bl (v:=.int .u8 _) rfl) rfl ?_
 refine Qg [(6,_)] Qw N7 (Qg [(7,_)] Qw Br ?_)
 refine AOL.Aa6 (y:=.int .u8 _) _ [] rfl (sF.all trivial) (fun hG=>Bl (v:=.int .u8 _) rfl) rfl ?_
 refine Qg [(9,_)] Qw Ng (Qg [(8,_),(10,_)] Qw E3 (Qp E5 (Qp Br ?_)))
 refine AOL.Aa6 (y:=.int .u8 _) _ [] rfl (sF.all trivial) (fun hG=>Bl (v:=.int .u8 _) rfl) rfl ?_
 refine Qg [(14,_)] Qw N7 (Qg [(15,_)] Qw Br ?_)
 refine AOL.Aa6 (y:=.int .u8 _) _ [] rfl (sF.all trivial) (fun hG=>Bl (v:=.int .u8 _) rfl) rfl ?_
 refine Qg [(17,_)] Qw Ng (Qg [(16,_),(18,_)] Qw E3 (Qp E5 (Qp Bg (Ag (AW.ret ?_)))))
 refine Qr (.bool _) ?_
 rfl
theorem c113 (n:Int):Ax Tryz.prog 149 [.int .u8 n] (.bool (Th n)):=by
 refine Ax.body (n:=21) Ai Tryz.func149 rfl rfl rfl fun H=>?_
 refine Ah (Qp Bg (Dh ?_))
 refine Qp (Bl (v:=.int .u8 _) rfl) ?_
 refine Qp N7 (Qp Br ?_)
 refine AOL.Aa6 (y:=.int .u8 _) _ [] rfl (sF.all trivial) (fun hG=>Bl (v:=.int .u8 _) rfl) rfl ?_
 refine Qg [(6,_)] Qw Ng (Qp E3 (Qp Br ?_))
 refine AOL.Aa6 (y:=.int .u8 _) _ [] rfl (sF.all trivial) (fun hG=>Bl (v:=.int .u8 _) rfl) rfl ?_
 refine Qg [(10,_)] Qw N7 (Qg [(11,_)] Qw Br ?_)
 refine AOL.Aa6 (y:=.int .u8 _) _ [] rfl (sF.all trivial) (fun hG=>Bl (v:=.int .u8 _) rfl) rfl ?_
 refine Qg [(13,_)] Qw Ng (Qg [(12,_),(14,_)] Qw E3 (Qp E5 (Qp Br ?_)))
 refine AOL.Aa6 (y:=.int .u8 _) _ [] rfl (sF.all trivial) (fun hG=>Bl (v:=.int .u8 _) rfl) rfl ?_
 refine Qg [(18,_)] Qw A7 (Qp E5 (Qp Bg (Ag (AW.ret ?_))))
 refine Qr (.bool _) ?_
 simp only [Ad,Th,AV.bool.injEq];cases h1:(n==95) <;> simp
theorem c102 (s:List UInt8)(hs:s.length≤1048576):Ax Tryz.prog 171 [.str s] (.bool (L3 s)):=by
 refine Ax.body (n:=35) Ai Tryz.func171 rfl rfl rfl fun H=>?_
 refine Ah (Qp Bg (Ag (AW.seq (Ah (Qp eM ?_)))))
 refine Qp (Ho (n:=s.length) Ai rfl rfl rfl (rfl)) ?_
 refine Qp A7 (Qp Br (Qg [] Qw eM ?_))
 refine AOL.Aa6 (y:=Iq _) _ [(8,_)] rfl (sF.all ⟨Ent.Aa3 _ _,trivial⟩) (fun hG=>Ho (n:=s.length) Ai rfl rfl rfl (rfl)) rfl ?_
 refine Qg [(9,_)] Qw Hi (Qp E5 (Qp Br (Qg [] Qw eM ?_)))
 refine AOL.Aa6 (y:=.int .u8 _) _ [(13,_)] rfl (sF.all ⟨Ent.Aa3 _ _,trivial⟩) (fun hG=>H8 Ai rfl rfl rfl rfl (by decide) (nB (bO hG))) rfl ?_
 refine Qg [(14,_)] Qw (Qc rfl (c111 _)) ?_
 refine Qp E5 (Ag (A5 (fun hc1=>?_) fun hc1=>?_))
 ·
  refine Ah (Qp Bg (Ag (Du ?_)))
  refine Qr (.bool _) ?_
  simp only [Ad,AV.bool.injEq]
  simp only [Bool.or_eq_true,decide_eq_true_eq,beq_iff_eq] at hc1
  rcases hc1 with (h1 | h1) | h1
  · exact (Qb (.inl (by omega))).symm
  · exact (Qb (.inr (.inl (by omega)))).symm
  · exact (Qb (.inr (.inr h1))).symm
 ·
  have hn1:s.length≠0∧s.length≤24∧Ty ((s.headD 0).toNat)=false:=by
     simp only [Bool.or_eq_false_iff,decide_eq_false_iff_not,beq_eq_false_iff_ne] at hc1
     exact ⟨by omega,by omega,hc1.2⟩
  refine Bz (AW.seq (Ah (Qp eM ?_)))
  refine Qp (Ho (n:=s.length) Ai rfl rfl rfl (rfl)) ?_
  refine Qp A2 (Ag (AW.block ?_))
  refine AW.Aa5 (fun (p:Nat)=>(⟨[(0,.str s),(18,.int .i64 s.length),(19,.int .i64 (p:Int))],H,35⟩:St)) (fun (p:Nat)=>p≤s.length∧(s.take p).all dU=true) (fun (p:Nat)=>s.length-p) (0) ?_ (GS.weaken ⟨rfl,rfl,rfl,trivial⟩ (.refl _)) ?_
  · exact ⟨Nat.zero_le _,by simp⟩
  ·
   rintro p hR
   refine Ah (Qp Cl (Ag (AW.seq (A5 (fun hc2=>?_) fun hc2=>?_))))
   ·
    obtain ⟨c,hc⟩:=B4 hc2
    have hlt:=Bb hc
    have hm:=List.mem_of_getElem? hc
    refine Bz (AW.seq (AW.block (Ah (Qp A2 (Qp Av (Dh (Qp eM (Qp A2 ?_))))))))
    refine Qp (H8 Ai rfl rfl rfl rfl (by omega) (Td hc)) ?_
    refine Qp (Qc rfl (c112 _)) ?_
    refine Qp Gt (Qp Br (Qg [] Qw eM (Qg [] Qw A2 ?_)))
    refine AOL.Aa6 (y:=.int .u8 _) _ [(28,_),(29,_)] rfl (sF.all ⟨Ent.Aa3 _ _,Ent.Aa3 _ _,trivial⟩) (fun hG=>H8 Ai rfl rfl rfl rfl (by omega) (Td hc)) rfl ?_
    refine Qg [(30,_)] Qw (Qc rfl (c111 _)) ?_
    refine Qg [(31,_)] Qw Gt (Qp E3 (Ag (A5 (fun hc3=>?_) fun hc3=>?_)))
    ·
     have hch:dU c=false:=by
      unfold dU;cases hl:Th c.toNat <;> cases hd:Ty c.toNat <;> simp_all
     refine Ah (Qp Bg (Ag (AW.ret (Bc (Aj (Aj (Bc (Aj ?_))))))))
     refine Qr (.bool _) ?_
     simp only [Ad,AV.bool.injEq]
     symm
     unfold L3
     rw [iT hm hch,Bool.and_false]
    ·
     have hch:dU c=true:=by
      unfold dU;cases hl:Th c.toNat <;> cases hd:Ty c.toNat <;> simp_all
     refine AW.skip (Bs (Ae (AW.region (Qp Fx (Qp A2 (Ag ?_))))))
     refine ⟨p+1,?_,?_,GS.weaken ⟨rfl,rfl,rfl,trivial⟩ (.refl _)⟩
     · exact ⟨hlt,Sn hc hR.2 hch⟩
     · omega
   ·
    have hte:=C5 hc2
    refine AW.exit ?_
    refine A8 (A8 (Bw (Ae (Ah (Qp Bg (Ag (AW.ret ?_)))))))
    refine Qr (.bool _) ?_
    simp only [Ad,AV.bool.injEq]
    exact (jJ hn1 (by rw [←hte];exact hR.2)).symm
theorem c104 (s:List UInt8)(hs:s.length≤1048576):Ax Tryz.prog 113 [.str s] (.bool (L3 s)):=by
 refine Ax.body (n:=41) Ai Tryz.func113 rfl rfl rfl fun H=>?_
 refine Ah (Qp Bg (Ag (AW.seq (Ah (Qp eM ?_)))))
 refine Qp (Ho (n:=s.length) Ai rfl rfl rfl (rfl)) ?_
 refine Qp A7 (Qp Br (Qg [] Qw eM ?_))
 refine AOL.Aa6 (y:=Iq _) _ [(8,_)] rfl (sF.all ⟨Ent.Aa3 _ _,trivial⟩) (fun hG=>Ho (n:=s.length) Ai rfl rfl rfl (rfl)) rfl ?_
 refine Qg [(9,_)] Qw Hi (Qp E5 (Qp Br (Qg [] Qw eM ?_)))
 refine AOL.Aa6 (y:=.int .u8 _) _ [(13,_)] rfl (sF.all ⟨Ent.Aa3 _ _,trivial⟩) (fun hG=>H8 Ai rfl rfl rfl rfl (by decide) (nB (bO hG))) rfl ?_
 refine Qg [(14,_)] Qw (Qc rfl (c113 _)) ?_
 refine Qg [(15,_)] Qw Gt (Qp E5 (Ag (A5 (fun hc1=>?_) fun hc1=>?_)))
 ·
  refine Ah (Qp Bg (Ag (Du ?_)))
  refine Qr (.bool _) ?_
  simp only [Ad,AV.bool.injEq]
  simp only [Bool.or_eq_true,decide_eq_true_eq,beq_iff_eq,Bool.not_eq_true'] at hc1
  rcases hc1 with (h1 | h1) | h1
  · exact (Qb (.inl (by omega))).symm
  · exact (Qb (.inr (.inl (by omega)))).symm
  · exact (lF h1).symm
 ·
  have hn1:s.length≠0∧s.length≤24∧Th ((s.headD 0).toNat)=true:=by
     simp only [Bool.or_eq_false_iff,decide_eq_false_iff_not,beq_eq_false_iff_ne,Bool.not_eq_false'] at hc1
     exact ⟨by omega,by omega,hc1.2⟩
  refine Bz (AW.seq (Ah (Qp Av (Ag (AW.block ?_)))))
  refine AW.Aa5 (fun (p:Nat)=>(⟨[(0,.str s),(3,.int .i64 (p:Int))],H,41⟩:St)) (fun (p:Nat)=>p≤s.length∧(s.take p).all dU=true) (fun (p:Nat)=>s.length-p) (0) ?_ (GS.weaken ⟨rfl,rfl,trivial⟩ (.refl _)) ?_
  · exact ⟨Nat.zero_le _,by simp⟩
  ·
   rintro p hR
   refine AW.seq (Ah (Qp A2 (Qp eM ?_)))
   refine Qp (Ho (n:=s.length) Ai rfl rfl rfl (rfl)) ?_
   refine Qp Cl (Ag (A5 (fun hc2=>?_) fun hc2=>?_))
   ·
    obtain ⟨c,hc⟩:=B4 hc2
    have hlt:=Bb hc
    have hm:=List.mem_of_getElem? hc
    refine Bz (AW.seq (AW.block (Ah (Qp eM (Qp A2 ?_)))))
    refine Qp (H8 Ai rfl rfl rfl rfl (by omega) (Td hc)) ?_
    refine Qp (Qc rfl (c113 _)) ?_
    refine Qp Gt (Qp Br (Qg [] Qw eM (Qg [] Qw A2 ?_)))
    refine AOL.Aa6 (y:=.int .u8 _) _ [(30,_),(31,_)] rfl (sF.all ⟨Ent.Aa3 _ _,Ent.Aa3 _ _,trivial⟩) (fun hG=>H8 Ai rfl rfl rfl rfl (by omega) (Td hc)) rfl ?_
    refine Qg [(32,_)] Qw Cl (Qg [(33,_)] Qw Br (Qg [] Qw eM (Qg [] Qw A2 ?_)))
    refine AOL.Aa6 (y:=.int .u8 _) _ [(35,_),(36,_)] rfl (sF.all ⟨Ent.Aa3 _ _,Ent.Aa3 _ _,trivial⟩) (fun hG=>H8 Ai rfl rfl rfl rfl (by omega) (Td hc)) rfl ?_
    refine Qg [(37,_)] Qw Hi (Qg [(34,_),(38,_)] Qw E5 (Qp E3 (Ag (A5 (fun hc3=>?_) fun hc3=>?_))))
    ·
     have hch:dU c=false:=by
      unfold dU Ty;cases hl:Th c.toNat <;> simp_all <;> omega
     refine Ah (Qp Bg (Ag (AW.ret (Bc (Aj (Aj (Bc (Aj ?_))))))))
     refine Qr (.bool _) ?_
     simp only [Ad,AV.bool.injEq]
     symm
     unfold L3
     rw [iT hm hch,Bool.and_false]
    ·
     have hch:dU c=true:=by
      unfold dU Ty;cases hl:Th c.toNat <;> simp_all <;> omega
     refine AW.skip (Bs (Ae (AW.region (Qp A2 (Qp Fx (Qp Av (Ag ?_)))))))
     refine ⟨p+1,?_,?_,GS.weaken ⟨rfl,rfl,trivial⟩ (.refl _)⟩
     · exact ⟨hlt,Sn hc hR.2 hch⟩
     · omega
   ·
    have hte:=C5 hc2
    refine AW.exit ?_
    refine A8 (A8 (Bw (Ae (Ah (Qp Bg (Ag (AW.ret ?_)))))))
    refine Qr (.bool _) ?_
    simp only [Ad,AV.bool.injEq]
    exact (jJ ⟨hn1.1,hn1.2.1,zW hn1.2.2⟩ (by rw [←hte];exact hR.2)).symm
theorem c103 (s:List UInt8)(hs:s.length≤1048576):Ax Tryz.prog 172 [.str s] (.bool (Og s)):=by
 refine Ax.body (n:=9) Ai Tryz.func172 rfl rfl rfl fun H=>?_
 refine Ah (Qp Bg (Dh (Qp eM ?_)))
 refine Qp (Qc rfl (c102 s hs)) ?_
 refine Qp Br (Qg [] Qw eM ?_)
 refine AOL.Aa6 (y:=.bool _) _ [(6,_)] rfl (sF.all ⟨Ent.Aa3 _ _,trivial⟩) (fun hG=>P6 rfl rfl) rfl ?_
 refine Qp E3 (Qp Bg (Ag (AW.ret ?_)))
 refine Qr (.bool _) ?_
 rfl

end Go.Proofs.YtkddpedfbicbeaaGreatDoor
