/-
  Walks of layer 8: nodes, sizes, checks. No condition.
-/
import Derived.Test.YtjedflcpjlgokaaGreatDoorAz
import Derived.Test.YtjedflcpjlgokaaGreatDoorW1
import Derived.Test.YtjedflcpjlgokaaGreatDoorK02
import Derived.KernelRfl
namespace Go.Proofs.YtjedflcpjlgokaaGreatDoor
open Go Go.Aw
set_option maxHeartbeats 400000
set_option maxRecDepth 20000
set_option linter.unusedVariables false
set_option linter.unusedSimpArgs false

theorem c82 (e:Ex):A1 Tryz.prog 132 [.agg (cE e)] (.int .i64 (Et e)):=by
  refine A1.body (n:=32) Aj Tryz.func132 rfl rfl rfl fun H=>?_
  refine AW.seq (AW.region (Qp Mt (Qp Aq (AOL.nil (Ad (AW.seq (AW.seq (AW.region (Qp Mv ?_)))))))))
  refine Qp (C8 [Iq _,Iq _,.str _]) ?_
  refine Qp (Qc rfl (c94 e.val)) ?_
  refine Qp Aq (AOL.nil (Ad (AW.seq (AW.region (Qp Az (Qp C1 (AOL.nil (Ad (A4 (fun hc1=>?_) fun hc1=>?_)))))))))
  · skip
    refine AW.seq (AW.region (Qp Az (Qp Aq (AOL.nil (Ad (D4 ?_))))))
    refine Qr (Iq _) ?_
    try simp only [D0,Bool.and_true] at *
    first
      | (simp only [Ae,Et];(first | rw [if_pos hc1] | skip);first | done | rfl)
      | (try simp only [Bool.not_eq_true',Bool.not_eq_false'] at *
         first
         | (simp only [Ae,Et,isV0, *,Bool.false_eq_true,↓reduceIte,Bool.true_or,Bool.or_true,Bool.false_or,Bool.or_false,Bool.true_and,Bool.and_true,Bool.false_and,Bool.and_false,Bool.not_true,Bool.not_false];done)
         | (simp [Ae,Et,isV0, *];done)
         | (simp_all [Ae,Et,isV0];done))
      | skip
  · skip
    refine Bx (AW.seq (AW.seq (AW.region (Qp Lm (Qp B2 (Qp Ba (Qp Bt (Qg [] Qw fG (Qg [(14,_)] Qw B2 ?_)))))))))
    refine Qg [] Qw Mv (Qg [(16,_)] Qw (C8 [Iq _,Iq _,.str _]) ?_)
    refine AOL.Aa5 (y:=.bool _) _ [(15,_),(17,_)] rfl (nI.all ⟨Ent.Aa1 _ _,Ent.Aa1 _ _,trivial⟩) (fun hG=>Fk (by kernel_rfl) rfl rfl (c99 e.kind e.val)) rfl ?_
    refine Qg [(18,_)] Qw Gj (Qg [(19,_)] Qw Bt (Qg [] Qw fG (Qg [(21,_)] Qw B2 (Qg [(22,_)] Qw Ba (Qg [(23,_)] Qw Bt (Qg [] Qw Mv (Qg [(25,_)] Qw (C8 [Iq _,Iq _,.str _]) (Qg [] Qw (Ij [Iq _,Iq _,.str _]) ?_))))))))
    refine AOL.Aa5 (y:=.bool _) _ [(26,_),(27,_)] rfl (nI.all ⟨Ent.Aa1 _ _,Ent.Aa1 _ _,trivial⟩) (fun hG=>H0 Aj rfl rfl rfl rfl rfl) rfl ?_
    refine Qg [(24,_),(28,_)] Qw G1 (Qg [(20,_),(29,_)] Qw Ew (Qp G1 (AOL.nil (Ad (A4 (fun hc2=>?_) fun hc2=>?_)))))
    · skip
      refine AW.seq (AW.region (Qp Aq (AOL.nil (Ad (D4 ?_)))))
      refine Qr (Iq _) ?_
      try simp only [D0,Bool.and_true] at *
      first
        | (simp only [Ae,Et];(first | rw [iN hc1] | skip);(first | rw [if_pos hc2] | skip);first | done | rfl)
        | (try simp only [Bool.not_eq_true',Bool.not_eq_false'] at *
           first
           | (simp only [Ae,Et,isV0, *,Bool.false_eq_true,↓reduceIte,Bool.true_or,Bool.or_true,Bool.false_or,Bool.or_false,Bool.true_and,Bool.and_true,Bool.false_and,Bool.and_false,Bool.not_true,Bool.not_false];done)
           | (simp [Ae,Et,isV0, *];done)
           | (simp_all [Ae,Et,isV0];done))
        | skip
    · skip
      refine Bx (AW.seq (AW.region (Qp Aq (AOL.nil (Ad (AW.ret ?_))))))
      refine Qr (Iq _) ?_
      try simp only [D0,Bool.and_true] at *
      first
        | (simp only [Ae,Et];(first | rw [iN hc1] | skip);(first | rw [iN hc2] | skip);first | done | rfl)
        | (try simp only [Bool.not_eq_true',Bool.not_eq_false'] at *
           first
           | (simp only [Ae,Et,isV0, *,Bool.false_eq_true,↓reduceIte,Bool.true_or,Bool.or_true,Bool.false_or,Bool.or_false,Bool.true_and,Bool.and_true,Bool.false_and,Bool.and_false,Bool.not_true,Bool.not_false];done)
           | (simp [Ae,Et,isV0, *];done)
           | (simp_all [Ae,Et,isV0];done))
        | skip
theorem c47 (e:Ex):A1 Tryz.prog 100 [.agg (cE e)] (.int .i64 (Bq e)):=by
  refine A1.body (n:=114) Aj Tryz.func100 rfl rfl rfl fun H=>?_
  refine AW.seq (AW.region (Qp Mt (Qp Aq (AOL.nil (Ad (AW.seq (AW.region (Qp Lm (Qp B2 ?_)))))))))
  refine Qp (Qc rfl (c81 e.op)) ?_
  refine Qp Om (Qp Kn (Qp X9 (Qp Aq (Qp Bb (AOL.nil (Ad (AW.seq (AW.seq (AW.region ?_)))))))))
  refine Qp Bt (Qp Gj (AOL.nil (Ad (A4 (fun hc1=>?_) fun hc1=>?_))))
  · skip
    refine AW.seq (AW.region (Qp Aq (AOL.nil (Ad (D4 ?_)))))
    refine Qr (Iq _) ?_
    try simp only [D0,Bool.and_true] at *
    first
      | (simp only [Ae,Bq,Bj];(first | rw [if_pos hc1] | skip);first | done | rfl)
      | (try simp only [Bool.not_eq_true',Bool.not_eq_false'] at *
         first
         | (simp only [Ae,Bq,Bj,isV0, *,Bool.false_eq_true,↓reduceIte,Bool.true_or,Bool.or_true,Bool.false_or,Bool.or_false,Bool.true_and,Bool.and_true,Bool.false_and,Bool.and_false,Bool.not_true,Bool.not_false];done)
         | (simp [Ae,Bq,Bj,isV0, *];done)
         | (simp_all [Ae,Bq,Bj,isV0];done))
      | skip
  · skip
    refine Bx (AW.seq (AW.seq (AW.region (Qp Oi (Qp D1 ?_)))))
    refine Qp (Al (n:=e.args.length) Aj rfl rfl rfl (by simp)) ?_
    refine Qp Az (Qp C1 (AOL.nil (Ad (A4 (fun hc2=>?_) fun hc2=>?_))))
    · skip
      refine AW.seq (AW.region (Qp Aq (AOL.nil (Ad (D4 ?_)))))
      refine Qr (Iq _) ?_
      try simp only [D0,Bool.and_true] at *
      first
        | (simp only [Ae,Bq,Bj];(first | rw [iN hc1] | skip);(first | rw [if_pos hc2] | skip);first | done | rfl)
        | (try simp only [Bool.not_eq_true',Bool.not_eq_false'] at *
           first
           | (simp only [Ae,Bq,Bj,isV0, *,Bool.false_eq_true,↓reduceIte,Bool.true_or,Bool.or_true,Bool.false_or,Bool.or_false,Bool.true_and,Bool.and_true,Bool.false_and,Bool.and_false,Bool.not_true,Bool.not_false];done)
           | (simp [Ae,Bq,Bj,isV0, *];done)
           | (simp_all [Ae,Bq,Bj,isV0];done))
        | skip
    · skip
      refine Bx (AW.seq (AW.region (Qp Lm (Qp B2 ?_))))
      refine Qp (Qc rfl (c52 e.op)) ?_
      refine Qp Om (Qp X9 (Qp X9 (Qp Bb (Qp Bb (AOL.nil (Ad (AW.seq (AW.seq (AW.region ?_)))))))))
      refine Qp Bt (Qp Bt (Qg [] Qw aW (Qg [(31,_)] Qw B2 (Qg [(32,_)] Qw Co (Qg [(33,_)] Qw Bt (Qg [] Qw aW (Qg [(35,_)] Qw B2 (Qg [(36,_)] Qw Mq (Qg [(34,_),(37,_)] Qw Ew ?_)))))))))
      refine Qp G1 (Qp Bt (Qg [] Qw Bt (Qg [(41,_)] Qw Bt (Qg [] Qw aV (Qg [(43,_)] Qw B2 (Qg [(44,_)] Qw Co (Qg [(45,_)] Qw Bt (Qg [] Qw aV (Qg [(47,_)] Qw B2 ?_)))))))))
      refine Qg [(48,_)] Qw Mq (Qg [(46,_),(49,_)] Qw Ew (Qg [(42,_),(50,_)] Qw G1 (Qp Ew (AOL.nil (Ad (A4 (fun hc3=>?_) fun hc3=>?_))))))
      · skip
        refine AW.seq (AW.region (Qp Aq (AOL.nil (Ad (D4 ?_)))))
        refine Qr (Iq _) ?_
        try simp only [D0,Bool.and_true] at *
        first
          | (simp only [Ae,Bq,Bj];(first | rw [iN hc1] | skip);(first | rw [iN hc2] | skip);(first | rw [if_pos hc3] | skip);first | done | rfl)
          | (try simp only [Bool.not_eq_true',Bool.not_eq_false'] at *
             first
             | (simp only [Ae,Bq,Bj,isV0, *,Bool.false_eq_true,↓reduceIte,Bool.true_or,Bool.or_true,Bool.false_or,Bool.or_false,Bool.true_and,Bool.and_true,Bool.false_and,Bool.and_false,Bool.not_true,Bool.not_false];done)
             | (simp [Ae,Bq,Bj,isV0, *];done)
             | (simp_all [Ae,Bq,Bj,isV0];done))
          | skip
      · skip
        refine Bx (AW.seq (AW.region (Qp Lm (Qp B2 (Qp Ba (Qp Bb (AOL.nil (Ad (AW.seq ?_)))))))))
        refine AW.seq (AW.region (Qp Bt (Qp Bt (Qg [] Qw fG (Qg [(58,_)] Qw B2 (Qg [(59,_)] Qw Co (Qg [(60,_)] Qw Bt (Qg [] Qw fG (Qg [(62,_)] Qw B2 ?_)))))))))
        refine Qg [(63,_)] Qw Gl (Qg [(61,_),(64,_)] Qw Ew (Qp G1 (AOL.nil (Ad (A4 (fun hc4=>?_) fun hc4=>?_)))))
        · skip
          refine AW.seq (AW.region (Qp Aq (AOL.nil (Ad (D4 ?_)))))
          refine Qr (Iq _) ?_
          try simp only [D0,Bool.and_true] at *
          first
            | (simp only [Ae,Bq,Bj];(first | rw [iN hc1] | skip);(first | rw [iN hc2] | skip);(first | rw [iN hc3] | skip);(first | rw [if_pos hc4] | skip);first | done | rfl)
            | (try simp only [Bool.not_eq_true',Bool.not_eq_false'] at *
               first
               | (simp only [Ae,Bq,Bj,isV0, *,Bool.false_eq_true,↓reduceIte,Bool.true_or,Bool.or_true,Bool.false_or,Bool.or_false,Bool.true_and,Bool.and_true,Bool.false_and,Bool.and_false,Bool.not_true,Bool.not_false];done)
               | (simp [Ae,Bq,Bj,isV0, *];done)
               | (simp_all [Ae,Bq,Bj,isV0];done))
            | skip
        · skip
          refine Bx (AW.seq (AW.region (Qp Bt (Qp Bt (Qg [] Qw Lm (Qg [(69,_)] Qw B2 (Qg [(70,_)] Qw Ba (Qp Ew (Qp Bb ?_)))))))))
          refine AOL.nil (Ad (AW.seq (AW.seq (AW.region (Qp Bt (AOL.nil (Ad (A4 (fun hc5=>?_) fun hc5=>?_))))))))
          · skip
            refine AW.seq (AW.region (Qp E2 ?_))
            refine Qp (Qc rfl (c82 e)) ?_
            refine Qp Aq (AOL.nil (Ad (AW.seq (AW.region (Qp Az (Qp C1 (AOL.nil (Ad (A4 (fun hc6=>?_) fun hc6=>?_)))))))))
            · skip
              refine AW.seq (AW.region (Qp Az (Qp Aq (AOL.nil (Ad (D4 ?_))))))
              refine Qr (Iq _) ?_
              try simp only [D0,Bool.and_true] at *
              first
                | (simp only [Ae,Bq,Bj];(first | rw [iN hc1] | skip);(first | rw [iN hc2] | skip);(first | rw [iN hc3] | skip);(first | rw [iN hc4] | skip);(first | rw [if_pos hc5] | skip);(first | rw [if_pos hc6] | skip);first | done | rfl)
                | (try simp only [Bool.not_eq_true',Bool.not_eq_false'] at *
                   first
                   | (simp only [Ae,Bq,Bj,isV0, *,Bool.false_eq_true,↓reduceIte,Bool.true_or,Bool.or_true,Bool.false_or,Bool.or_false,Bool.true_and,Bool.and_true,Bool.false_and,Bool.and_false,Bool.not_true,Bool.not_false];done)
                   | (simp [Ae,Bq,Bj,isV0, *];done)
                   | (simp_all [Ae,Bq,Bj,isV0];done))
                | skip
            · skip
              refine Bx (AW.seq (AW.seq (AW.region (Qp Bt (Qp Gj (Qp Bt (Qg [] Qw aW (Qg [(82,_)] Qw B2 (Qg [(83,_)] Qw C1 ?_)))))))))
              refine Qp G1 (Qp Bt (Qg [] Qw Bt (Qg [(87,_)] Qw Gj (Qg [(88,_)] Qw Bt (Qg [] Qw aV (Qg [(90,_)] Qw B2 (Qg [(91,_)] Qw C1 (Qg [(89,_),(92,_)] Qw G1 (Qp Ew ?_)))))))))
              refine Qp Bt (Qg [] Qw Bt (Qg [(96,_)] Qw Gj (Qg [(97,_)] Qw Bt (Qg [] Qw fG (Qg [(99,_)] Qw B2 (Qg [(100,_)] Qw C1 (Qg [(98,_),(101,_)] Qw G1 (Qp Ew (Qp Bt ?_)))))))))
              refine Qg [] Qw Bt (Qg [(105,_)] Qw Gj (Qg [(106,_)] Qw Bt (Qg [] Qw Mv (Qg [(108,_)] Qw (C8 [Iq _,Iq _,.str _]) (Qg [] Qw (Ij [Iq _,Iq _,.str _]) ?_)))))
              refine AOL.Aa5 (y:=.bool _) _ [(109,_),(110,_)] rfl (nI.all ⟨Ent.Aa1 _ _,Ent.Aa1 _ _,trivial⟩) (fun hG=>H0 Aj rfl rfl rfl rfl rfl) rfl ?_
              refine Qg [(107,_),(111,_)] Qw G1 (Qp Ew (AOL.nil (Ad (A4 (fun hc7=>?_) fun hc7=>?_))))
              · skip
                refine AW.seq (AW.region (Qp Aq (AOL.nil (Ad (D4 ?_)))))
                refine Qr (Iq _) ?_
                try simp only [D0,Bool.and_true] at *
                first
                  | (simp only [Ae,Bq,Bj];(first | rw [iN hc1] | skip);(first | rw [iN hc2] | skip);(first | rw [iN hc3] | skip);(first | rw [iN hc4] | skip);(first | rw [if_pos hc5] | skip);(first | rw [iN hc6] | skip);(first | rw [if_pos hc7] | skip);first | done | rfl)
                  | (try simp only [Bool.not_eq_true',Bool.not_eq_false'] at *
                     first
                     | (simp only [Ae,Bq,Bj,isV0, *,Bool.false_eq_true,↓reduceIte,Bool.true_or,Bool.or_true,Bool.false_or,Bool.or_false,Bool.true_and,Bool.and_true,Bool.false_and,Bool.and_false,Bool.not_true,Bool.not_false];done)
                     | (simp [Ae,Bq,Bj,isV0, *];done)
                     | (simp_all [Ae,Bq,Bj,isV0];done))
                  | skip
              · skip
                refine Bx (AW.seq (AW.region (Qp Aq (AOL.nil (Ad (AW.ret ?_))))))
                refine Qr (Iq _) ?_
                try simp only [D0,Bool.and_true] at *
                first
                  | (simp only [Ae,Bq,Bj];(first | rw [iN hc1] | skip);(first | rw [iN hc2] | skip);(first | rw [iN hc3] | skip);(first | rw [iN hc4] | skip);(first | rw [if_pos hc5] | skip);(first | rw [iN hc6] | skip);(first | rw [iN hc7] | skip);first | done | rfl)
                  | (try simp only [Bool.not_eq_true',Bool.not_eq_false'] at *
                     first
                     | (simp only [Ae,Bq,Bj,isV0, *,Bool.false_eq_true,↓reduceIte,Bool.true_or,Bool.or_true,Bool.false_or,Bool.or_false,Bool.true_and,Bool.and_true,Bool.false_and,Bool.and_false,Bool.not_true,Bool.not_false];done)
                     | (simp [Ae,Bq,Bj,isV0, *];done)
                     | (simp_all [Ae,Bq,Bj,isV0];done))
                  | skip
          · skip
            refine Bx (AW.seq (AW.seq (AW.region (Qp Bt (Qp Gj (Qp Bt (Qg [] Qw aW (Qg [(82,_)] Qw B2 (Qg [(83,_)] Qw C1 ?_)))))))))
            refine Qp G1 (Qp Bt (Qg [] Qw Bt (Qg [(87,_)] Qw Gj (Qg [(88,_)] Qw Bt (Qg [] Qw aV (Qg [(90,_)] Qw B2 (Qg [(91,_)] Qw C1 (Qg [(89,_),(92,_)] Qw G1 (Qp Ew ?_)))))))))
            refine Qp Bt (Qg [] Qw Bt (Qg [(96,_)] Qw Gj (Qg [(97,_)] Qw Bt (Qg [] Qw fG (Qg [(99,_)] Qw B2 (Qg [(100,_)] Qw C1 (Qg [(98,_),(101,_)] Qw G1 (Qp Ew (Qp Bt ?_)))))))))
            refine Qg [] Qw Bt (Qg [(105,_)] Qw Gj (Qg [(106,_)] Qw Bt (Qg [] Qw Mv (Qg [(108,_)] Qw (C8 [Iq _,Iq _,.str _]) (Qg [] Qw (Ij [Iq _,Iq _,.str _]) ?_)))))
            refine AOL.Aa5 (y:=.bool _) _ [(109,_),(110,_)] rfl (nI.all ⟨Ent.Aa1 _ _,Ent.Aa1 _ _,trivial⟩) (fun hG=>H0 Aj rfl rfl rfl rfl rfl) rfl ?_
            refine Qg [(107,_),(111,_)] Qw G1 (Qp Ew (AOL.nil (Ad (A4 (fun hc8=>?_) fun hc8=>?_))))
            · skip
              refine AW.seq (AW.region (Qp Aq (AOL.nil (Ad (D4 ?_)))))
              refine Qr (Iq _) ?_
              try simp only [D0,Bool.and_true] at *
              first
                | (simp only [Ae,Bq,Bj];(first | rw [iN hc1] | skip);(first | rw [iN hc2] | skip);(first | rw [iN hc3] | skip);(first | rw [iN hc4] | skip);(first | rw [iN hc5] | skip);(first | rw [if_pos hc8] | skip);first | done | rfl)
                | (try simp only [Bool.not_eq_true',Bool.not_eq_false'] at *
                   first
                   | (simp only [Ae,Bq,Bj,isV0, *,Bool.false_eq_true,↓reduceIte,Bool.true_or,Bool.or_true,Bool.false_or,Bool.or_false,Bool.true_and,Bool.and_true,Bool.false_and,Bool.and_false,Bool.not_true,Bool.not_false];done)
                   | (simp [Ae,Bq,Bj,isV0, *];done)
                   | (simp_all [Ae,Bq,Bj,isV0];done))
                | skip
            · skip
              refine Bx (AW.seq (AW.region (Qp Aq (AOL.nil (Ad (AW.ret ?_))))))
              refine Qr (Iq _) ?_
              try simp only [D0,Bool.and_true] at *
              first
                | (simp only [Ae,Bq,Bj];(first | rw [iN hc1] | skip);(first | rw [iN hc2] | skip);(first | rw [iN hc3] | skip);(first | rw [iN hc4] | skip);(first | rw [iN hc5] | skip);(first | rw [iN hc8] | skip);first | done | rfl)
                | (try simp only [Bool.not_eq_true',Bool.not_eq_false'] at *
                   first
                   | (simp only [Ae,Bq,Bj,isV0, *,Bool.false_eq_true,↓reduceIte,Bool.true_or,Bool.or_true,Bool.false_or,Bool.or_false,Bool.true_and,Bool.and_true,Bool.false_and,Bool.and_false,Bool.not_true,Bool.not_false];done)
                   | (simp [Ae,Bq,Bj,isV0, *];done)
                   | (simp_all [Ae,Bq,Bj,isV0];done))
                | skip
theorem c83 (e:Ex):A1 Tryz.prog 143 [.agg (cE e)] (.int .i64 (Bq e)):=by
  refine A1.body (n:=131) Aj Tryz.func143 rfl rfl rfl fun H=>?_
  refine AW.seq (AW.region (Qp Mt (Qp Aq (AOL.nil (Ad (AW.seq (AW.region (Qp Lm (Qp B2 ?_)))))))))
  refine Qp (Qc rfl (c100 e.op)) ?_
  refine Qp Aq (AOL.nil (Ad (AW.seq (AW.seq (AW.region (Qp Az (Qp Co (AOL.nil (Ad (A4 (fun hc1=>?_) fun hc1=>?_))))))))))
  · skip
    refine AW.seq (AW.region (Qp Aq (AOL.nil (Ad (D4 ?_)))))
    refine Qr (Iq _) ?_
    rw [←Gw]
    try simp only [D0,Bool.and_true] at *
    first
      | (simp only [Ae,Cd,Bj];(first | rw [if_pos hc1] | skip);first | done | rfl)
      | (try simp only [Bool.not_eq_true',Bool.not_eq_false'] at *
         first
         | (simp only [Ae,Cd,Bj,isV0, *,Bool.false_eq_true,↓reduceIte,Bool.true_or,Bool.or_true,Bool.false_or,Bool.or_false,Bool.true_and,Bool.and_true,Bool.false_and,Bool.and_false,Bool.not_true,Bool.not_false];done)
         | (simp [Ae,Cd,Bj,isV0, *];done)
         | (simp_all [Ae,Cd,Bj,isV0];done))
      | skip
  · skip
    refine Bx (AW.seq (AW.seq (AW.region (Qp Oi (Qp D1 ?_)))))
    refine Qp (Al (n:=e.args.length) Aj rfl rfl rfl (by simp)) ?_
    refine Qp Az (Qp C1 (AOL.nil (Ad (A4 (fun hc2=>?_) fun hc2=>?_))))
    · skip
      refine AW.seq (AW.region (Qp Aq (AOL.nil (Ad (D4 ?_)))))
      refine Qr (Iq _) ?_
      rw [←Gw]
      try simp only [D0,Bool.and_true] at *
      first
        | (simp only [Ae,Cd,Bj];(first | rw [iN hc1] | skip);(first | rw [if_pos hc2] | skip);first | done | rfl)
        | (try simp only [Bool.not_eq_true',Bool.not_eq_false'] at *
           first
           | (simp only [Ae,Cd,Bj,isV0, *,Bool.false_eq_true,↓reduceIte,Bool.true_or,Bool.or_true,Bool.false_or,Bool.or_false,Bool.true_and,Bool.and_true,Bool.false_and,Bool.and_false,Bool.not_true,Bool.not_false];done)
           | (simp [Ae,Cd,Bj,isV0, *];done)
           | (simp_all [Ae,Cd,Bj,isV0];done))
        | skip
    · skip
      refine Bx (AW.seq (AW.region (Qp Lm (Qp B2 ?_))))
      refine Qp (Qc rfl (c84 e.op)) ?_
      refine Qp Om (Qp X9 (Qp X9 (Qp Bb (Qp Bb (AOL.nil (Ad (AW.seq (AW.seq (AW.region ?_)))))))))
      refine Qp Bt (Qp Bt (Qg [] Qw aW (Qg [(27,_)] Qw B2 (Qg [(28,_)] Qw Co (Qg [(29,_)] Qw Bt (Qg [] Qw aW (Qg [(31,_)] Qw B2 (Qg [(32,_)] Qw Mq (Qg [(30,_),(33,_)] Qw Ew ?_)))))))))
      refine Qp G1 (Qp Bt (Qg [] Qw Bt (Qg [(37,_)] Qw Bt (Qg [] Qw aV (Qg [(39,_)] Qw B2 (Qg [(40,_)] Qw Co (Qg [(41,_)] Qw Bt (Qg [] Qw aV (Qg [(43,_)] Qw B2 ?_)))))))))
      refine Qg [(44,_)] Qw Mq (Qg [(42,_),(45,_)] Qw Ew (Qg [(38,_),(46,_)] Qw G1 (Qp Ew (AOL.nil (Ad (A4 (fun hc3=>?_) fun hc3=>?_))))))
      · skip
        refine AW.seq (AW.region (Qp Aq (AOL.nil (Ad (D4 ?_)))))
        refine Qr (Iq _) ?_
        rw [←Gw]
        try simp only [D0,Bool.and_true] at *
        first
          | (simp only [Ae,Cd,Bj];(first | rw [iN hc1] | skip);(first | rw [iN hc2] | skip);(first | rw [if_pos hc3] | skip);first | done | rfl)
          | (try simp only [Bool.not_eq_true',Bool.not_eq_false'] at *
             first
             | (simp only [Ae,Cd,Bj,isV0, *,Bool.false_eq_true,↓reduceIte,Bool.true_or,Bool.or_true,Bool.false_or,Bool.or_false,Bool.true_and,Bool.and_true,Bool.false_and,Bool.and_false,Bool.not_true,Bool.not_false];done)
             | (simp [Ae,Cd,Bj,isV0, *];done)
             | (simp_all [Ae,Cd,Bj,isV0];done))
          | skip
      · skip
        refine Bx (AW.seq (AW.region (Qp Lm (Qp B2 (Qp Ba (Qp Bb (AOL.nil (Ad (AW.seq ?_)))))))))
        refine AW.seq (AW.region (Qp Bt (Qp Bt (Qg [] Qw fG (Qg [(54,_)] Qw B2 (Qg [(55,_)] Qw Co (Qg [(56,_)] Qw Bt (Qg [] Qw fG (Qg [(58,_)] Qw B2 ?_)))))))))
        refine Qg [(59,_)] Qw Gl (Qg [(57,_),(60,_)] Qw Ew (Qp G1 (AOL.nil (Ad (A4 (fun hc4=>?_) fun hc4=>?_)))))
        · skip
          refine AW.seq (AW.region (Qp Aq (AOL.nil (Ad (D4 ?_)))))
          refine Qr (Iq _) ?_
          rw [←Gw]
          try simp only [D0,Bool.and_true] at *
          first
            | (simp only [Ae,Cd,Bj];(first | rw [iN hc1] | skip);(first | rw [iN hc2] | skip);(first | rw [iN hc3] | skip);(first | rw [if_pos hc4] | skip);first | done | rfl)
            | (try simp only [Bool.not_eq_true',Bool.not_eq_false'] at *
               first
               | (simp only [Ae,Cd,Bj,isV0, *,Bool.false_eq_true,↓reduceIte,Bool.true_or,Bool.or_true,Bool.false_or,Bool.or_false,Bool.true_and,Bool.and_true,Bool.false_and,Bool.and_false,Bool.not_true,Bool.not_false];done)
               | (simp [Ae,Cd,Bj,isV0, *];done)
               | (simp_all [Ae,Cd,Bj,isV0];done))
            | skip
        · skip
          refine Bx (AW.seq (AW.region (Qp Bt (Qp Bt (Qg [] Qw Lm (Qg [(65,_)] Qw B2 (Qg [(66,_)] Qw Ba (Qp Ew (Qp Bb ?_)))))))))
          refine AOL.nil (Ad (AW.seq (AW.seq (AW.region (Qp Bt (AOL.nil (Ad (A4 (fun hc5=>?_) fun hc5=>?_))))))))
          · skip
            refine AW.seq (AW.region (Qp Mv (Qp (C8 [Iq _,Iq _,.str _]) ?_)))
            refine Qp (Qc rfl (c79 e.val)) ?_
            refine Qp Aq (AOL.nil (Ad (AW.seq (AW.region (Qp Az (Qp C1 (AOL.nil (Ad (A4 (fun hc6=>?_) fun hc6=>?_)))))))))
            · skip
              refine AW.seq (AW.region (Qp Az (Qp Aq (AOL.nil (Ad (D4 ?_))))))
              refine Qr (Iq _) ?_
              rw [←Gw]
              try simp only [D0,Bool.and_true] at *
              first
                | (simp only [Ae,Cd,Bj];(first | rw [iN hc1] | skip);(first | rw [iN hc2] | skip);(first | rw [iN hc3] | skip);(first | rw [iN hc4] | skip);(first | rw [if_pos hc5] | skip);(first | rw [if_pos hc6] | skip);first | done | rfl)
                | (try simp only [Bool.not_eq_true',Bool.not_eq_false'] at *
                   first
                   | (simp only [Ae,Cd,Bj,isV0, *,Bool.false_eq_true,↓reduceIte,Bool.true_or,Bool.or_true,Bool.false_or,Bool.or_false,Bool.true_and,Bool.and_true,Bool.false_and,Bool.and_false,Bool.not_true,Bool.not_false];done)
                   | (simp [Ae,Cd,Bj,isV0, *];done)
                   | (simp_all [Ae,Cd,Bj,isV0];done))
                | skip
            · skip
              refine Bx (AW.seq (AW.seq (AW.region (Qp Bt (Qp Bt (Qg [] Qw fG (Qg [(78,_)] Qw B2 (Qg [] Qw Mv (Qg [(80,_)] Qw (C8 [Iq _,Iq _,.str _]) ?_)))))))))
              refine AOL.Aa5 (y:=.bool _) _ [(79,_),(81,_)] rfl (nI.all ⟨Ent.Aa1 _ _,Ent.Aa1 _ _,trivial⟩) (fun hG=>Fk (by kernel_rfl) rfl rfl (c101 e.kind e.val)) rfl ?_
              refine Qg [(82,_)] Qw Gj (Qg [(83,_)] Qw Bt (Qg [] Qw fG (Qg [(85,_)] Qw B2 (Qg [(86,_)] Qw Ba (Qg [(87,_)] Qw Bt (Qg [] Qw Mv (Qg [(89,_)] Qw (C8 [Iq _,Iq _,.str _]) (Qg [] Qw (Ij [Iq _,Iq _,.str _]) ?_))))))))
              refine AOL.Aa5 (y:=.bool _) _ [(90,_),(91,_)] rfl (nI.all ⟨Ent.Aa1 _ _,Ent.Aa1 _ _,trivial⟩) (fun hG=>H0 Aj rfl rfl rfl rfl rfl) rfl ?_
              refine Qg [(88,_),(92,_)] Qw G1 (Qg [(84,_),(93,_)] Qw Ew (Qp G1 (AOL.nil (Ad (A4 (fun hc7=>?_) fun hc7=>?_)))))
              · skip
                refine AW.seq (AW.region (Qp Aq (AOL.nil (Ad (D4 ?_)))))
                refine Qr (Iq _) ?_
                rw [←Gw]
                try simp only [D0,Bool.and_true] at *
                first
                  | (simp only [Ae,Cd,Bj];(first | rw [iN hc1] | skip);(first | rw [iN hc2] | skip);(first | rw [iN hc3] | skip);(first | rw [iN hc4] | skip);(first | rw [if_pos hc5] | skip);(first | rw [iN hc6] | skip);(first | rw [if_pos hc7] | skip);first | done | rfl)
                  | (try simp only [Bool.not_eq_true',Bool.not_eq_false'] at *
                     first
                     | (simp only [Ae,Cd,Bj,isV0, *,Bool.false_eq_true,↓reduceIte,Bool.true_or,Bool.or_true,Bool.false_or,Bool.or_false,Bool.true_and,Bool.and_true,Bool.false_and,Bool.and_false,Bool.not_true,Bool.not_false];done)
                     | (simp [Ae,Cd,Bj,isV0, *];done)
                     | (simp_all [Ae,Cd,Bj,isV0];done))
                  | skip
              · skip
                refine Bx (AW.seq (AW.seq (AW.region (Qp Bt (Qp Gj (Qp Bt (Qg [] Qw aW (Qg [(99,_)] Qw B2 (Qg [(100,_)] Qw C1 ?_)))))))))
                refine Qp G1 (Qp Bt (Qg [] Qw Bt (Qg [(104,_)] Qw Gj (Qg [(105,_)] Qw Bt (Qg [] Qw aV (Qg [(107,_)] Qw B2 (Qg [(108,_)] Qw C1 (Qg [(106,_),(109,_)] Qw G1 (Qp Ew ?_)))))))))
                refine Qp Bt (Qg [] Qw Bt (Qg [(113,_)] Qw Gj (Qg [(114,_)] Qw Bt (Qg [] Qw fG (Qg [(116,_)] Qw B2 (Qg [(117,_)] Qw C1 (Qg [(115,_),(118,_)] Qw G1 (Qp Ew (Qp Bt ?_)))))))))
                refine Qg [] Qw Bt (Qg [(122,_)] Qw Gj (Qg [(123,_)] Qw Bt (Qg [] Qw Mv (Qg [(125,_)] Qw (C8 [Iq _,Iq _,.str _]) (Qg [] Qw (Ij [Iq _,Iq _,.str _]) ?_)))))
                refine AOL.Aa5 (y:=.bool _) _ [(126,_),(127,_)] rfl (nI.all ⟨Ent.Aa1 _ _,Ent.Aa1 _ _,trivial⟩) (fun hG=>H0 Aj rfl rfl rfl rfl rfl) rfl ?_
                refine Qg [(124,_),(128,_)] Qw G1 (Qp Ew (AOL.nil (Ad (A4 (fun hc8=>?_) fun hc8=>?_))))
                · skip
                  refine AW.seq (AW.region (Qp Aq (AOL.nil (Ad (D4 ?_)))))
                  refine Qr (Iq _) ?_
                  rw [←Gw]
                  try simp only [D0,Bool.and_true] at *
                  first
                    | (simp only [Ae,Cd,Bj];(first | rw [iN hc1] | skip);(first | rw [iN hc2] | skip);(first | rw [iN hc3] | skip);(first | rw [iN hc4] | skip);(first | rw [if_pos hc5] | skip);(first | rw [iN hc6] | skip);(first | rw [iN hc7] | skip);(first | rw [if_pos hc8] | skip);first | done | rfl)
                    | (try simp only [Bool.not_eq_true',Bool.not_eq_false'] at *
                       first
                       | (simp only [Ae,Cd,Bj,isV0, *,Bool.false_eq_true,↓reduceIte,Bool.true_or,Bool.or_true,Bool.false_or,Bool.or_false,Bool.true_and,Bool.and_true,Bool.false_and,Bool.and_false,Bool.not_true,Bool.not_false];done)
                       | (simp [Ae,Cd,Bj,isV0, *];done)
                       | (simp_all [Ae,Cd,Bj,isV0];done))
                    | skip
                · skip
                  refine Bx (AW.seq (AW.region (Qp Aq (AOL.nil (Ad (AW.ret ?_))))))
                  refine Qr (Iq _) ?_
                  rw [←Gw]
                  try simp only [D0,Bool.and_true] at *
                  first
                    | (simp only [Ae,Cd,Bj];(first | rw [iN hc1] | skip);(first | rw [iN hc2] | skip);(first | rw [iN hc3] | skip);(first | rw [iN hc4] | skip);(first | rw [if_pos hc5] | skip);(first | rw [iN hc6] | skip);(first | rw [iN hc7] | skip);(first | rw [iN hc8] | skip);first | done | rfl)
                    | (try simp only [Bool.not_eq_true',Bool.not_eq_false'] at *
                       first
                       | (simp only [Ae,Cd,Bj,isV0, *,Bool.false_eq_true,↓reduceIte,Bool.true_or,Bool.or_true,Bool.false_or,Bool.or_false,Bool.true_and,Bool.and_true,Bool.false_and,Bool.and_false,Bool.not_true,Bool.not_false];done)
                       | (simp [Ae,Cd,Bj,isV0, *];done)
                       | (simp_all [Ae,Cd,Bj,isV0];done))
                    | skip
          · skip
            refine Bx (AW.seq (AW.seq (AW.region (Qp Bt (Qp Bt (Qg [] Qw fG (Qg [(78,_)] Qw B2 (Qg [] Qw Mv (Qg [(80,_)] Qw (C8 [Iq _,Iq _,.str _]) ?_)))))))))
            refine AOL.Aa5 (y:=.bool _) _ [(79,_),(81,_)] rfl (nI.all ⟨Ent.Aa1 _ _,Ent.Aa1 _ _,trivial⟩) (fun hG=>Fk (by kernel_rfl) rfl rfl (c101 e.kind e.val)) rfl ?_
            refine Qg [(82,_)] Qw Gj (Qg [(83,_)] Qw Bt (Qg [] Qw fG (Qg [(85,_)] Qw B2 (Qg [(86,_)] Qw Ba (Qg [(87,_)] Qw Bt (Qg [] Qw Mv (Qg [(89,_)] Qw (C8 [Iq _,Iq _,.str _]) (Qg [] Qw (Ij [Iq _,Iq _,.str _]) ?_))))))))
            refine AOL.Aa5 (y:=.bool _) _ [(90,_),(91,_)] rfl (nI.all ⟨Ent.Aa1 _ _,Ent.Aa1 _ _,trivial⟩) (fun hG=>H0 Aj rfl rfl rfl rfl rfl) rfl ?_
            refine Qg [(88,_),(92,_)] Qw G1 (Qg [(84,_),(93,_)] Qw Ew (Qp G1 (AOL.nil (Ad (A4 (fun hc9=>?_) fun hc9=>?_)))))
            · skip
              refine AW.seq (AW.region (Qp Aq (AOL.nil (Ad (D4 ?_)))))
              refine Qr (Iq _) ?_
              rw [←Gw]
              try simp only [D0,Bool.and_true] at *
              first
                | (simp only [Ae,Cd,Bj];(first | rw [iN hc1] | skip);(first | rw [iN hc2] | skip);(first | rw [iN hc3] | skip);(first | rw [iN hc4] | skip);(first | rw [iN hc5] | skip);(first | rw [if_pos hc9] | skip);first | done | rfl)
                | (try simp only [Bool.not_eq_true',Bool.not_eq_false'] at *
                   first
                   | (simp only [Ae,Cd,Bj,isV0, *,Bool.false_eq_true,↓reduceIte,Bool.true_or,Bool.or_true,Bool.false_or,Bool.or_false,Bool.true_and,Bool.and_true,Bool.false_and,Bool.and_false,Bool.not_true,Bool.not_false];done)
                   | (simp [Ae,Cd,Bj,isV0, *];done)
                   | (simp_all [Ae,Cd,Bj,isV0];done))
                | skip
            · skip
              refine Bx (AW.seq (AW.seq (AW.region (Qp Bt (Qp Gj (Qp Bt (Qg [] Qw aW (Qg [(99,_)] Qw B2 (Qg [(100,_)] Qw C1 ?_)))))))))
              refine Qp G1 (Qp Bt (Qg [] Qw Bt (Qg [(104,_)] Qw Gj (Qg [(105,_)] Qw Bt (Qg [] Qw aV (Qg [(107,_)] Qw B2 (Qg [(108,_)] Qw C1 (Qg [(106,_),(109,_)] Qw G1 (Qp Ew ?_)))))))))
              refine Qp Bt (Qg [] Qw Bt (Qg [(113,_)] Qw Gj (Qg [(114,_)] Qw Bt (Qg [] Qw fG (Qg [(116,_)] Qw B2 (Qg [(117,_)] Qw C1 (Qg [(115,_),(118,_)] Qw G1 (Qp Ew (Qp Bt ?_)))))))))
              refine Qg [] Qw Bt (Qg [(122,_)] Qw Gj (Qg [(123,_)] Qw Bt (Qg [] Qw Mv (Qg [(125,_)] Qw (C8 [Iq _,Iq _,.str _]) (Qg [] Qw (Ij [Iq _,Iq _,.str _]) ?_)))))
              refine AOL.Aa5 (y:=.bool _) _ [(126,_),(127,_)] rfl (nI.all ⟨Ent.Aa1 _ _,Ent.Aa1 _ _,trivial⟩) (fun hG=>H0 Aj rfl rfl rfl rfl rfl) rfl ?_
              refine Qg [(124,_),(128,_)] Qw G1 (Qp Ew (AOL.nil (Ad (A4 (fun hc10=>?_) fun hc10=>?_))))
              · skip
                refine AW.seq (AW.region (Qp Aq (AOL.nil (Ad (D4 ?_)))))
                refine Qr (Iq _) ?_
                rw [←Gw]
                try simp only [D0,Bool.and_true] at *
                first
                  | (simp only [Ae,Cd,Bj];(first | rw [iN hc1] | skip);(first | rw [iN hc2] | skip);(first | rw [iN hc3] | skip);(first | rw [iN hc4] | skip);(first | rw [iN hc5] | skip);(first | rw [iN hc9] | skip);(first | rw [if_pos hc10] | skip);first | done | rfl)
                  | (try simp only [Bool.not_eq_true',Bool.not_eq_false'] at *
                     first
                     | (simp only [Ae,Cd,Bj,isV0, *,Bool.false_eq_true,↓reduceIte,Bool.true_or,Bool.or_true,Bool.false_or,Bool.or_false,Bool.true_and,Bool.and_true,Bool.false_and,Bool.and_false,Bool.not_true,Bool.not_false];done)
                     | (simp [Ae,Cd,Bj,isV0, *];done)
                     | (simp_all [Ae,Cd,Bj,isV0];done))
                  | skip
              · skip
                refine Bx (AW.seq (AW.region (Qp Aq (AOL.nil (Ad (AW.ret ?_))))))
                refine Qr (Iq _) ?_
                rw [←Gw]
                try simp only [D0,Bool.and_true] at *
                first
                  | (simp only [Ae,Cd,Bj];(first | rw [iN hc1] | skip);(first | rw [iN hc2] | skip);(first | rw [iN hc3] | skip);(first | rw [iN hc4] | skip);(first | rw [iN hc5] | skip);(first | rw [iN hc9] | skip);(first | rw [iN hc10] | skip);first | done | rfl)
                  | (try simp only [Bool.not_eq_true',Bool.not_eq_false'] at *
                     first
                     | (simp only [Ae,Cd,Bj,isV0, *,Bool.false_eq_true,↓reduceIte,Bool.true_or,Bool.or_true,Bool.false_or,Bool.or_false,Bool.true_and,Bool.and_true,Bool.false_and,Bool.and_false,Bool.not_true,Bool.not_false];done)
                     | (simp [Ae,Cd,Bj,isV0, *];done)
                     | (simp_all [Ae,Cd,Bj,isV0];done))
                  | skip
theorem c23 (e:Ex)(hs:Av e≤1048576):A1 Tryz.prog 98 [.agg (cE e)] (.tuple [.int .i64 (Av e),.int .i64 (Ch e)]):=by
 revert hs
 induction e using Ex.Aa8
 rename_i e ih
 intro hs
 refine A1.body (n:=32) Aj Tryz.func98 rfl rfl rfl fun H=>?_
 refine Ah (Qp Mt (Qp Aq (Qp Aq (Dv (Qp Aq (Qp Aq (Ag (AW.seq (Ah ?_)))))))))
 refine Qp Oi (Qp D1 ?_)
 refine Qp (Al (n:=e.args.length) Aj rfl rfl rfl (by simp)) ?_
 refine Qp Az (Ag (AW.block ?_))
 refine AW.sllen 11 rfl fun hlen=>?_
 simp only [List.length_map,maxLen] at hlen
 refine AW.Aa3 (fun (p:Nat×Nat×Nat)=>(⟨[(4,.int .i64 (p.2.1:Int)),(5,.int .i64 (p.2.2:Int)),(11,.sl 8 (e.args.map Gq)),(12,.int .i64 e.args.length),(13,.int .i64 (p.1:Int))],H,32⟩:St)) (fun (p:Nat×Nat×Nat)=>p.1≤e.args.length∧Av e=p.2.1+((e.args.drop p.1).map Av).sum∧Ch e=max p.2.2 (((e.args.drop p.1).map Ch).foldr max 0)+1∧p.2.2≤1048576) (fun (p:Nat×Nat×Nat)=>e.args.length-p.1) ((0,1,0)) ?_ (GS.weaken ⟨rfl,rfl,rfl,rfl,rfl,trivial⟩ (.refl _)) ?_
 · exact ⟨Nat.zero_le _,by simpa using Dj e,by simpa using J3 e,Nat.zero_le _⟩
 ·
  rintro p hR
  refine Ah (Qp Co (Ag (AW.seq (A4 (fun hc1=>?_) fun hc1=>?_))))
  ·
   obtain ⟨a,ha⟩:=B5 hc1
   have hlt:=Bh ha
   have hm:=List.mem_of_getElem? ha
   have hsa:=E9 hm
   have hda:=I7 a
   have h1:=fD p.2.1 ha
   have h2:=Np p.2.2 ha
   refine Bx (AW.seq (AW.block (Ah ?_)))
   refine Qp (Af (c:=[Iq _,_,Iq _,Iq _,Iq _,Iq _,Iq _,.str _]) Aj rfl rfl rfl rfl rfl rfl (by omega) (Fg ha)) ?_
   refine Qp E2 ?_
   refine Qe (A0 (l:=[.int .i64 0,.sl 8 [],.int .i64 0,.int .i64 0,.int .i64 0,.int .i64 0,.int .i64 0,.str []]) (by kernel_rfl)) ?_
   rintro _ _ ⟨b7,rfl,rfl⟩
   refine Eu 0 [Iq _,_,Iq _,Iq _,Iq _,Iq _,Iq _,.str _] (_::_) ?_
   refine AOL.ghost (GS.Aa2 (t:=7) 0 rfl rfl) ?_
   refine Dv (Qp E2 ?_)
   refine Qp (Qc rfl (ih a hm (by have:=E9 hm;omega))) ?_
   refine Qp Om (Qp Kn (Qp Kn (Qp Aq (Qp Aq (Ag (AW.region (Qp Az (Qp Az (Qp Fb ?_)))))))))
   refine Qp Az (Qp Az ?_)
   refine Qp (yO rfl rfl) ?_
   refine Qp Aq (Qp Aq (AOL.nil (Bn (Ad (AW.region (Qp Fb (Qp Az (Ag ?_))))))))
   refine ⟨(p.1+1,p.2.1+Av a,max p.2.2 (Ch a)),?_,?_,GS.weaken ⟨rfl,congrArg (AV.int .i64) (by simp only;omega),rfl,rfl,rfl,trivial⟩ (.refl _)⟩
   · simp only;exact ⟨hlt,by omega,by omega,by omega⟩
   · first | omega | (simp only;omega)
  ·
   have hd:=Dq hc1
   refine AW.exit ?_
   refine A2 (A2 (Bo (Ad (Ah (Qp Az (Qp Az ?_))))))
   refine Qp (Xj rfl rfl rfl (by have:=I7 e;constructor <;> omega)) ?_
   refine Qp Aq (Qp Aq (Ag (AW.ret ?_)))
   refine Iw (Iq _) (Iq _) ?_
   rw [hd] at hR
   simp only [List.map_nil,List.sum_nil,List.foldr_nil] at hR
   simp only [Ae,AV.tuple.injEq,List.cons.injEq,AV.int.injEq,true_and,and_true]
   omega
theorem c48 (L:Nat)(e:Ex)(hs:Av e≤1048576):A1 Tryz.prog 53 [.agg (cE e),.int .i64 (L:Int)] (.int .i64 (Fv L e)):=by
 revert hs
 induction e using Ex.Aa8
 rename_i e ih
 intro hs
 refine A1.body (n:=29) Aj Tryz.func53 rfl rfl rfl fun H=>?_
 refine Ah (Qp Mt (Qp Aq (Dv (Qp Aq (Ag (AW.seq (Ah (Qp Aq (Ag ?_)))))))))
 refine AW.block ?_
 refine AW.Aa3 (fun (p:Nat×Nat)=>(⟨[(1,.int .i64 (L:Int)),(2,.ptr (cE e)),(5,.int .i64 (p.2:Int)),(6,.int .i64 (p.1:Int))],H,29⟩:St)) (fun (p:Nat×Nat)=>p.1≤e.args.length∧Fv L e=E8 L (e.args.drop p.1) p.2∧p.2+((e.args.drop p.1).map Av).sum≤Av e∧e.args.length≤1048576) (fun (p:Nat×Nat)=>e.args.length-p.1) ((0,1)) ?_ (GS.weaken ⟨rfl,rfl,rfl,rfl,trivial⟩ (.refl _)) ?_
 · exact ⟨Nat.zero_le _,by simpa using X7 L e,by simpa using Nat.le_of_eq (Dj e).symm,N2 e hs⟩
 ·
  rintro p hR
  refine AW.seq (Ah (Qp Az (Qp Oi (Qp D1 ?_))))
  refine Qp (Al (n:=e.args.length) Aj rfl rfl rfl (by simp)) ?_
  refine Qp Co (Qp Bt (Qg [] Qw Az (Qg [] Qw Az ?_)))
  refine AOL.Aa5 (y:=.bool _) _ [(13,_),(14,_)] rfl (nI.all ⟨Ent.Aa1 _ _,Ent.Aa1 _ _,trivial⟩) (fun hG=>zA rfl rfl) rfl ?_
  refine Qp G1 (Ag (A4 (fun hc1=>?_) fun hc1=>?_))
  ·
   simp only [Bool.and_eq_true] at hc1
   obtain ⟨a,ha⟩:=B5 hc1.1
   have hlt:=Bh ha
   have hm:=List.mem_of_getElem? ha
   have hsa:=E9 hm
   have hle:p.2≤L:=by simpa using hc1.2
   have h1:=fD p.2 ha
   have h2:=V4 L a
   have h3:=hR.2.1
   rw [Bi ha,E8,if_pos hle] at h3
   refine Bx (AW.seq (AW.block (AW.region (Qp Az (Qp Oi (Qp D1 (Qp Az ?_)))))))
   refine Qp (Af (c:=[Iq _,_,Iq _,Iq _,Iq _,Iq _,Iq _,.str _]) Aj rfl rfl rfl rfl rfl rfl (by omega) (Fg ha)) ?_
   refine Qp E2 (Qp Az ?_)
   refine Qp (Qc rfl (ih a hm (by have:=E9 hm;omega))) ?_
   refine Qp Fb (Qp Aq (AOL.nil (Bn (Ad (AW.region (Qp Az (Qp Fb (Qp Aq (Ag ?_)))))))))
   refine ⟨(p.1+1,p.2+Fv L a),?_,?_,GS.weaken ⟨rfl,rfl,rfl,rfl,trivial⟩ (.refl _)⟩
   · simp only;exact ⟨hlt,h3,by omega,hR.2.2.2⟩
   · first | omega | (simp only;omega)
  ·
   refine AW.exit ?_
   refine A2 (A2 (Bo (Ad (Ah (Qp Az (Qp Aq (Ag (AW.ret ?_))))))))
   refine Qr (Iq _) ?_
   simp only [Ae,AV.int.injEq,true_and]
   rw [hR.2.1]
   simp only [Bool.and_eq_false_iff] at hc1
   rcases hc1 with hc1 | hc1
   · rw [Dq hc1,E8]
   · rw [Yx (by simpa using hc1)]
theorem c49 (e:Ex)(hs:Av e≤1048576):A1 Tryz.prog 54 [.agg (cE e)] (.int .i64 (Ch e)):=by
 revert hs
 induction e using Ex.Aa8
 rename_i e ih
 intro hs
 refine A1.body (n:=22) Aj Tryz.func54 rfl rfl rfl fun H=>?_
 refine Ah (Qp Mt (Qp Aq (Dv (Qp Aq (Ag (AW.seq (Ah (Qp Aq (Ag ?_)))))))))
 refine AW.block ?_
 refine AW.Aa3 (fun (p:Nat×Nat)=>(⟨[(1,.ptr (cE e)),(3,.int .i64 (p.2:Int)),(4,.int .i64 (p.1:Int))],H,22⟩:St)) (fun (p:Nat×Nat)=>p.1≤e.args.length∧Ch e=max p.2 (((e.args.drop p.1).map Ch).foldr max 0)+1∧p.2≤1048576∧e.args.length≤1048576) (fun (p:Nat×Nat)=>e.args.length-p.1) ((0,0)) ?_ (GS.weaken ⟨rfl,rfl,rfl,trivial⟩ (.refl _)) ?_
 · exact ⟨Nat.zero_le _,by simpa using J3 e,Nat.zero_le _,N2 e hs⟩
 ·
  rintro p hR
  refine AW.seq (Ah (Qp Az (Qp Oi (Qp D1 ?_))))
  refine Qp (Al (n:=e.args.length) Aj rfl rfl rfl (by simp)) ?_
  refine Qp Co (Ag (A4 (fun hc1=>?_) fun hc1=>?_))
  ·
   obtain ⟨a,ha⟩:=B5 hc1
   have hlt:=Bh ha
   have hm:=List.mem_of_getElem? ha
   have hsa:=E9 hm
   have hda:=I7 a
   have h2:=Np p.2 ha
   refine Bx (AW.seq (AW.block (AW.region (Qp Az (Qp Oi (Qp D1 (Qp Az ?_)))))))
   refine Qp (Af (c:=[Iq _,_,Iq _,Iq _,Iq _,Iq _,Iq _,.str _]) Aj rfl rfl rfl rfl rfl rfl (by omega) (Fg ha)) ?_
   refine Qp E2 ?_
   refine Qp (Qc rfl (ih a hm (by have:=E9 hm;omega))) ?_
   refine Qp (yO rfl rfl) ?_
   refine Qp Aq (AOL.nil (Bn (Ad (AW.region (Qp Az (Qp Fb (Qp Aq (Ag ?_))))))))
   refine ⟨(p.1+1,max p.2 (Ch a)),?_,?_,GS.weaken ⟨rfl,congrArg (AV.int .i64) (by simp only;omega),rfl,trivial⟩ (.refl _)⟩
   · simp only;exact ⟨hlt,by omega,by omega,hR.2.2.2⟩
   · first | omega | (simp only;omega)
  ·
   have hd:=Dq hc1
   refine AW.exit ?_
   refine A2 (A2 (Bo (Ad (Ah (Qp Az ?_)))))
   refine Qp (Xj rfl rfl rfl (by have:=I7 e;constructor <;> omega)) ?_
   refine Qp Aq (Ag (AW.ret ?_))
   refine Qr (Iq _) ?_
   rw [hd] at hR
   simp only [List.map_nil,List.foldr_nil] at hR
   simp only [Ae,AV.int.injEq,true_and]
   omega
theorem c50 (e:Ex)(hs:Av e≤1048576):A1 Tryz.prog 117 [.agg (cE e)] (.int .i64 (Ci e)):=by
 revert hs
 induction e using Ex.Aa8
 rename_i e ih
 intro hs
 refine A1.body (n:=27) Aj Tryz.func117 rfl rfl rfl fun H=>?_
 refine Ah (Qp Mt (Qp Aq (Ag (AW.seq (Ah (Qp E2 ?_))))))
 refine Qp (Qc rfl (c83 e)) ?_
 refine Qp Aq (Dv (Qp Az (Qp C1 (Ag (A4 (fun hc1=>?_) fun hc1=>?_)))))
 ·
  refine Ah (Qp Az (Qp Aq (Ag (D4 ?_))))
  refine Qr (Iq _) ?_
  simp only [Ae,AV.int.injEq,true_and]
  rw [Oc,if_pos hc1]
 ·
  have hn:Ci e=At Ci e.args:=by rw [Oc,if_neg (by simpa using hc1)]
  refine Bx (AW.seq (Ah (Qp Aq (Ag (AW.block ?_)))))
  have hlen:=N2 e hs
  refine AW.Aa3 (fun (p:Nat)=>(⟨[(1,.ptr (cE e)),(4,.int .i64 (p:Int))],H,27⟩:St)) (fun (p:Nat)=>p≤e.args.length∧Ci e=At Ci (e.args.drop p)) (fun (p:Nat)=>e.args.length-p) (0) ?_ (GS.weaken ⟨rfl,rfl,trivial⟩ (.refl _)) ?_
  · exact ⟨Nat.zero_le _,by simpa using hn⟩
  ·
   rintro p hR
   refine AW.seq (Ah (Qp Az (Qp Oi (Qp D1 ?_))))
   refine Qp (Al (n:=e.args.length) Aj rfl rfl rfl (by simp)) ?_
   refine Qp Co (Ag (A4 (fun hc2=>?_) fun hc2=>?_))
   ·
    obtain ⟨a,ha⟩:=B5 hc2
    have hlt:=Bh ha
    have hm:=List.mem_of_getElem? ha
    refine Bx (AW.seq (AW.block (Ah (Qp Oi (Qp D1 (Qp Az ?_))))))
    refine Qp (Af (c:=[Iq _,_,Iq _,Iq _,Iq _,Iq _,Iq _,.str _]) Aj rfl rfl rfl rfl rfl rfl (by omega) (Fg ha)) ?_
    refine Qp E2 ?_
    refine Qp (Qc rfl (ih a hm (by have:=E9 hm;omega))) ?_
    refine Qp Aq (Dv (Qp Az (Qp C1 (Ag (A4 (fun hc3=>?_) fun hc3=>?_)))))
    ·
     refine Ah (Qp Az (Qp Aq (Ag (AW.ret (A6 (Ai (Ai (A6 (Ai ?_)))))))))
     refine Qr (Iq _) ?_
     simp only [Ae,AV.int.injEq,true_and]
     rw [hR.2,Bi ha,At,if_pos hc3]
    ·
     refine AW.skip (Bn (Ad (AW.region (Qp Az (Qp Fb (Qp Aq (Ag ?_)))))))
     refine ⟨p+1,?_,?_,GS.weaken ⟨rfl,rfl,trivial⟩ (.refl _)⟩
     · exact ⟨hlt,by rw [hR.2,Bi ha,At,if_neg (by simpa using hc3)]⟩
     · first | omega | (simp only;omega)
   ·
    have hd:=Dq hc2
    refine AW.exit ?_
    refine A2 (A2 (Bo (Ad (Ah (Qp Aq (Ag (AW.ret ?_)))))))
    refine Qr (Iq _) ?_
    simp only [Ae,AV.int.injEq,true_and]
    rw [hR.2,hd];rfl
theorem c46 (f:Nat)(hfn:kA Tryz.prog f=true)(cap:List AV)(fs:Ex→Int)(Pr:Ex→Prop)(hp:∀a,Pr a→∀b∈a.args,Pr b)(hf:∀a,Pr a→A1 Tryz.prog f (.agg (cE a)::cap) (.int .i64 (fs a)))(e:Ex)(he:Pr e):A1 Tryz.prog 99 [.agg (cE e),.fn (.func f) [] cap] (.int .i64 (Im fs e)):=by
 revert he
 induction e using Ex.Aa8
 rename_i e ih
 intro he
 refine A1.body (n:=29) Aj Tryz.func99 rfl rfl rfl fun H=>?_
 refine Ah (Qp Mt (Qp Aq (Ag (AW.seq (Ah ?_)))))
 refine Qp (Bk (v:=.fn _ _ _) rfl) ?_
 refine Qp E2 ?_
 refine Qp (Fq hfn rfl rfl rfl (hf e he)) ?_
 refine Qp Aq (Dv (Qp Az (Qp C1 (Ag (A4 (fun hc1=>?_) fun hc1=>?_)))))
 ·
  refine Ah (Qp Az (Qp Aq (Ag (D4 ?_))))
  refine Qr (Iq _) ?_
  simp only [Ae,AV.int.injEq,true_and]
  rw [Rk,if_pos hc1]
 ·
  have hn:Im fs e=At (Im fs) e.args:=by rw [Rk,if_neg (by simpa using hc1)]
  refine Bx (AW.seq (Ah (Qp Oi (Qp D1 ?_))))
  refine Qp (Al (n:=e.args.length) Aj rfl rfl rfl (by simp)) ?_
  refine Qp Az (Ag (AW.block ?_))
  refine AW.sllen 16 rfl fun hlen=>?_
  simp only [List.length_map,maxLen] at hlen
  refine AW.Aa3 (fun (p:Nat)=>(⟨[(1,.fn (.func f) [] cap),(16,.sl 8 (e.args.map Gq)),(17,.int .i64 e.args.length),(18,.int .i64 (p:Int))],H,29⟩:St)) (fun (p:Nat)=>p≤e.args.length∧Im fs e=At (Im fs) (e.args.drop p)) (fun (p:Nat)=>e.args.length-p) (0) ?_ (GS.weaken ⟨rfl,rfl,rfl,rfl,trivial⟩ (.refl _)) ?_
  · exact ⟨Nat.zero_le _,by simpa using hn⟩
  ·
   rintro p hR
   refine Ah (Qp Co (Ag (AW.seq (A4 (fun hc2=>?_) fun hc2=>?_))))
   ·
    obtain ⟨a,ha⟩:=B5 hc2
    have hlt:=Bh ha
    have hm:=List.mem_of_getElem? ha
    refine Bx (AW.seq (AW.block (Ah ?_)))
    refine Qp (Af (c:=[Iq _,_,Iq _,Iq _,Iq _,Iq _,Iq _,.str _]) Aj rfl rfl rfl rfl rfl rfl (by omega) (Fg ha)) ?_
    refine Qp E2 ?_
    refine Qe (A0 (l:=[.int .i64 0,.sl 8 [],.int .i64 0,.int .i64 0,.int .i64 0,.int .i64 0,.int .i64 0,.str []]) (by kernel_rfl)) ?_
    rintro _ _ ⟨b7,rfl,rfl⟩
    refine Eu 0 [Iq _,_,Iq _,Iq _,Iq _,Iq _,Iq _,.str _] (_::_) ?_
    refine AOL.ghost (GS.Aa2 (t:=7) 0 rfl rfl) ?_
    refine Dv (Qp E2 ?_)
    refine Qp (Bk (v:=.fn _ _ _) rfl) ?_
    refine Qp (Qc rfl (ih a hm (hp e he a hm))) ?_
    refine Qp Aq (Dv (Qp Az (Qp C1 (Ag (A4 (fun hc3=>?_) fun hc3=>?_)))))
    ·
     refine Ah (Qp Az (Qp Aq (Ag (AW.ret (A6 (Ai (Ai (A6 (Ai ?_)))))))))
     refine Qr (Iq _) ?_
     simp only [Ae,AV.int.injEq,true_and]
     rw [hR.2,Bi ha,At,if_pos hc3]
    ·
     refine AW.skip (Bn (Ad (AW.region (Qp Fb (Qp Az (Ag ?_))))))
     refine ⟨p+1,?_,?_,GS.weaken ⟨rfl,rfl,rfl,rfl,trivial⟩ (.refl _)⟩
     · exact ⟨hlt,by rw [hR.2,Bi ha,At,if_neg (by simpa using hc3)]⟩
     · first | omega | (simp only;omega)
   ·
    have hd:=Dq hc2
    refine AW.exit ?_
    refine A2 (A2 (Bo (Ad (Ah (Qp Aq (Ag (AW.ret ?_)))))))
    refine Qr (Iq _) ?_
    simp only [Ae,AV.int.injEq,true_and]
    rw [hR.2,hd];rfl
theorem c21 (e:Ex)(hs:Av e≤1048576):A1 Tryz.prog 69 [.agg (cE e)] (.int .i64 (Bp e)):=by
  refine A1.body (n:=18) Aj Tryz.func69 rfl rfl rfl fun H=>?_
  refine AW.seq (AW.region (Qp Mt (Qp Aq (AOL.nil (Ad (AW.seq (AW.region (Qp E2 ?_))))))))
  refine Qp (Qc rfl (c23 e hs)) ?_
  refine Qp Om (Qp Kn (Qp Kn (Qp Aq (Qp Aq (AOL.nil (Ad (AW.seq (AW.block (AW.seq ?_)))))))))
  refine AW.region (Qp Az (Qp Gl (Qp Bb (AOL.nil (Ad (A4 (fun hc1=>?_) fun hc1=>?_))))))
  · skip
    refine AW.seq (AW.region (Qp Aq (AOL.nil (Ad (AW.ret (A6 (Ai ?_)))))))
    refine Qr (Iq _) ?_
    try simp only [D0,Bool.and_true] at *
    first
      | (simp only [Ae,Bp];(first | rw [if_pos hc1] | skip);first | done | rfl)
      | (try simp only [Bool.not_eq_true',Bool.not_eq_false'] at *
         first
         | (simp only [Ae,Bp, *,Bool.false_eq_true,↓reduceIte,Bool.true_or,Bool.or_true,Bool.false_or,Bool.or_false,Bool.true_and,Bool.and_true,Bool.false_and,Bool.and_false,Bool.not_true,Bool.not_false];done)
         | (simp [Ae,Bp, *];done)
         | (simp_all [Ae,Bp];done))
      | skip
  · skip
    refine AW.seq (AW.region (Qp Az (Qp Gl (Qp Bb (AOL.nil (Ad (A4 (fun hc2=>?_) fun hc2=>?_)))))))
    · skip
      refine AW.seq (AW.region (Qp Aq (AOL.nil (Ad (AW.ret (A6 (Ai ?_)))))))
      refine Qr (Iq _) ?_
      try simp only [D0,Bool.and_true] at *
      first
        | (simp only [Ae,Bp];(first | rw [iN hc1] | skip);(first | rw [if_pos hc2] | skip);first | done | rfl)
        | (try simp only [Bool.not_eq_true',Bool.not_eq_false'] at *
           first
           | (simp only [Ae,Bp, *,Bool.false_eq_true,↓reduceIte,Bool.true_or,Bool.or_true,Bool.false_or,Bool.or_false,Bool.true_and,Bool.and_true,Bool.false_and,Bool.and_false,Bool.not_true,Bool.not_false];done)
           | (simp [Ae,Bp, *];done)
           | (simp_all [Ae,Bp];done))
        | skip
    · skip
      refine AW.skip (Bn (Ad (AW.seq (AW.region (Qp E2 ?_)))))
      refine Qp (Qc rfl (c46 100 (by kernel_rfl) [] Bq (fun _=>True) (fun _ _ _ _=>trivial) (fun a _=>c47 a) e trivial)) ?_
      refine Qp Aq (AOL.nil (Ad (AW.ret ?_)))
      refine Qr (Iq _) ?_
      try simp only [D0,Bool.and_true] at *
      first
        | (simp only [Ae,Bp];(first | rw [iN hc1] | skip);(first | rw [iN hc2] | skip);first | done | rfl)
        | (try simp only [Bool.not_eq_true',Bool.not_eq_false'] at *
           first
           | (simp only [Ae,Bp, *,Bool.false_eq_true,↓reduceIte,Bool.true_or,Bool.or_true,Bool.false_or,Bool.or_false,Bool.true_and,Bool.and_true,Bool.false_and,Bool.and_false,Bool.not_true,Bool.not_false];done)
           | (simp [Ae,Bp, *];done)
           | (simp_all [Ae,Bp];done))
        | skip
theorem c25 (e:Ex)(hs:Av e≤1048576):A1 Tryz.prog 87 [.agg (cE e)] (.int .i64 (Bp e)):=by
  refine A1.body (n:=11) Aj Tryz.func87 rfl rfl rfl fun H=>?_
  refine AW.seq (AW.region (Qp Mt (Qp Aq (AOL.nil (Ad (AW.seq (AW.seq (AW.region (Qp E2 ?_)))))))))
  refine Qp (Qc rfl (c48 64 e hs)) ?_
  refine Qp Gl (AOL.nil (Ad (A4 (fun hc1=>?_) fun hc1=>?_)))
  · skip
    have hct:decide (64<(Av e:Int))=true:=by have:=Vd 64 e;simp at hc1 ⊢;omega
    refine AW.seq (AW.region (Qp Aq (AOL.nil (Ad (D4 ?_)))))
    refine Qr (Iq _) ?_
    try simp only [D0,Bool.and_true] at *
    first
      | (simp only [Ae,Bp];(first | rw [if_pos hc1] | skip);first | done | rfl)
      | (try simp only [Bool.not_eq_true',Bool.not_eq_false'] at *
         first
         | (simp only [Ae,Bp, *,Bool.false_eq_true,↓reduceIte,Bool.true_or,Bool.or_true,Bool.false_or,Bool.or_false,Bool.true_and,Bool.and_true,Bool.false_and,Bool.and_false,Bool.not_true,Bool.not_false];done)
         | (simp [Ae,Bp, *];done)
         | (simp_all [Ae,Bp];done))
      | skip
  · skip
    have hct:decide (64<(Av e:Int))=false:=by have:=Vd 64 e;simp at hc1 ⊢;omega
    refine Bx (AW.seq (AW.seq (AW.region (Qp E2 ?_))))
    refine Qp (Qc rfl (c49 e hs)) ?_
    refine Qp Gl (AOL.nil (Ad (A4 (fun hc2=>?_) fun hc2=>?_)))
    · skip
      refine AW.seq (AW.region (Qp Aq (AOL.nil (Ad (D4 ?_)))))
      refine Qr (Iq _) ?_
      try simp only [D0,Bool.and_true] at *
      first
        | (simp only [Ae,Bp];(first | rw [iN hc1] | skip);(first | rw [if_pos hc2] | skip);first | done | rfl)
        | (try simp only [Bool.not_eq_true',Bool.not_eq_false'] at *
           first
           | (simp only [Ae,Bp, *,Bool.false_eq_true,↓reduceIte,Bool.true_or,Bool.or_true,Bool.false_or,Bool.or_false,Bool.true_and,Bool.and_true,Bool.false_and,Bool.and_false,Bool.not_true,Bool.not_false];done)
           | (simp [Ae,Bp, *];done)
           | (simp_all [Ae,Bp];done))
        | skip
    · skip
      refine Bx (AW.seq (AW.region (Qp E2 ?_)))
      refine Qp (Qc rfl (c50 e hs)) ?_
      refine Qp Aq (AOL.nil (Ad (AW.ret ?_)))
      refine Qr (Iq _) ?_
      try simp only [D0,Bool.and_true] at *
      first
        | (simp only [Ae,Bp];(first | rw [iN hc1] | skip);(first | rw [iN hc2] | skip);first | done | rfl)
        | (try simp only [Bool.not_eq_true',Bool.not_eq_false'] at *
           first
           | (simp only [Ae,Bp, *,Bool.false_eq_true,↓reduceIte,Bool.true_or,Bool.or_true,Bool.false_or,Bool.or_false,Bool.true_and,Bool.and_true,Bool.false_and,Bool.and_false,Bool.not_true,Bool.not_false];done)
           | (simp [Ae,Bp, *];done)
           | (simp_all [Ae,Bp];done))
        | skip
theorem c34 (e:Ex)(hs:Av e≤1048576):A1 Tryz.prog 24 [.agg (cE e)] (.bool (decide (Av e≤200∧Ch e≤100))):=by
 refine A1.body (n:=11) Aj Tryz.func24 rfl rfl rfl fun H=>?_
 refine Ah (Qp Mt (Qp Bb (Dv (Qp E2 ?_))))
 refine Qp (Qc rfl (c48 200 e hs)) ?_
 refine Qp Pk (Qp Bt (Qg [] Qw E2 ?_))
 refine Qg [(7,_)] Qw (Qc rfl (c49 e hs)) ?_
 refine Qg [(8,_)] Qw Pk (Qp G1 (Qp Bb (Ag (AW.ret ?_))))
 refine Qr (.bool _) ?_
 have:=Vd 200 e
 show AV.bool _=AV.bool _
 congr 1
 rw [Bool.eq_iff_iff]
 simp
 omega

end Go.Proofs.YtjedflcpjlgokaaGreatDoor
