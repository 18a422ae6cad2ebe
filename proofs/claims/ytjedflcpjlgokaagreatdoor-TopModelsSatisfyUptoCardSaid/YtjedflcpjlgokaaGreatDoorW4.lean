/-
  Walks of layer 8: nodes, sizes, checks. No condition.
-/
import Derived.Test.YtjedflcpjlgokaaGreatDoorAz
import Derived.Test.YtjedflcpjlgokaaGreatDoorW1
import Derived.Test.YtjedflcpjlgokaaGreatDoorK02
import Derived.KernelRfl
namespace Go.Proofs.YtjedflcpjlgokaaGreatDoor
open Go Go.Aw
set_option maxHeartbeats 400000
set_option maxRecDepth 20000
set_option linter.unusedVariables false
set_option linter.unusedSimpArgs false

theorem c82 (e:Ex):Ax Tryz.prog 132 [.agg (cE e)] (.int .i64 (Fb e)):=by
  refine Ax.body (n:=32) Ah Tryz.func132 rfl rfl rfl fun H=>?_
  refine AW.seq (AW.region (Qp Kx (Qp Ap (AOL.nil (Ad (AW.seq (AW.seq (AW.region (Qp Jq ?_)))))))))
  refine Qp (Cq [Iq _,Iq _,.str _]) ?_
  refine Qp (Qc rfl (c94 e.val)) ?_
  refine Qp Ap (AOL.nil (Ad (AW.seq (AW.region (Qp Az (Qp Cr (AOL.nil (Ad (A6 (fun hc1=>?_) fun hc1=>?_)))))))))
  · skip
    refine AW.seq (AW.region (Qp Az (Qp Ap (AOL.nil (Ad (Dw ?_))))))
    refine Qr (Iq _) ?_
    try simp only [C1,Bool.and_true] at *
    first
      | (simp only [Ae,Fb];(first | rw [if_pos hc1] | skip);first | done | rfl)
      | (try simp only [Bool.not_eq_true',Bool.not_eq_false'] at *
         first
         | (simp only [Ae,Fb,isV0, *,Bool.false_eq_true,↓reduceIte,Bool.true_or,Bool.or_true,Bool.false_or,Bool.or_false,Bool.true_and,Bool.and_true,Bool.false_and,Bool.and_false,Bool.not_true,Bool.not_false];done)
         | (simp [Ae,Fb,isV0, *];done)
         | (simp_all [Ae,Fb,isV0];done))
      | skip
  · skip
    refine By (AW.seq (AW.seq (AW.region (Qp Jl (Qp Bp (Qp A9 (Qp B0 (Qg [] Qw Sj (Qg [(14,_)] Qw Bp ?_)))))))))
    refine Qg [] Qw Jq (Qg [(16,_)] Qw (Cq [Iq _,Iq _,.str _]) ?_)
    refine AOL.Aar (y:=.bool _) _ [(15,_),(17,_)] rfl (nC.all ⟨Ent.Aam _ _,Ent.Aam _ _,trivial⟩) (fun hG=>E3 (by kernel_rfl) rfl rfl (c99 e.kind e.val)) rfl ?_
    refine Qg [(18,_)] Qw Hc (Qg [(19,_)] Qw B0 (Qg [] Qw Sj (Qg [(21,_)] Qw Bp (Qg [(22,_)] Qw A9 (Qg [(23,_)] Qw B0 (Qg [] Qw Jq (Qg [(25,_)] Qw (Cq [Iq _,Iq _,.str _]) (Qg [] Qw (Fz [Iq _,Iq _,.str _]) ?_))))))))
    refine AOL.Aar (y:=.bool _) _ [(26,_),(27,_)] rfl (nC.all ⟨Ent.Aam _ _,Ent.Aam _ _,trivial⟩) (fun hG=>H0 Ah rfl rfl rfl rfl rfl) rfl ?_
    refine Qg [(24,_),(28,_)] Qw F7 (Qg [(20,_),(29,_)] Qw E1 (Qp F7 (AOL.nil (Ad (A6 (fun hc2=>?_) fun hc2=>?_)))))
    · skip
      refine AW.seq (AW.region (Qp Ap (AOL.nil (Ad (Dw ?_)))))
      refine Qr (Iq _) ?_
      try simp only [C1,Bool.and_true] at *
      first
        | (simp only [Ae,Fb];(first | rw [iN hc1] | skip);(first | rw [if_pos hc2] | skip);first | done | rfl)
        | (try simp only [Bool.not_eq_true',Bool.not_eq_false'] at *
           first
           | (simp only [Ae,Fb,isV0, *,Bool.false_eq_true,↓reduceIte,Bool.true_or,Bool.or_true,Bool.false_or,Bool.or_false,Bool.true_and,Bool.and_true,Bool.false_and,Bool.and_false,Bool.not_true,Bool.not_false];done)
           | (simp [Ae,Fb,isV0, *];done)
           | (simp_all [Ae,Fb,isV0];done))
        | skip
    · skip
      refine By (AW.seq (AW.region (Qp Ap (AOL.nil (Ad (AW.ret ?_))))))
      refine Qr (Iq _) ?_
      try simp only [C1,Bool.and_true] at *
      first
        | (simp only [Ae,Fb];(first | rw [iN hc1] | skip);(first | rw [iN hc2] | skip);first | done | rfl)
        | (try simp only [Bool.not_eq_true',Bool.not_eq_false'] at *
           first
           | (simp only [Ae,Fb,isV0, *,Bool.false_eq_true,↓reduceIte,Bool.true_or,Bool.or_true,Bool.false_or,Bool.or_false,Bool.true_and,Bool.and_true,Bool.false_and,Bool.and_false,Bool.not_true,Bool.not_false];done)
           | (simp [Ae,Fb,isV0, *];done)
           | (simp_all [Ae,Fb,isV0];done))
        | skip
theorem c47 (e:Ex):Ax Tryz.prog 100 [.agg (cE e)] (.int .i64 (B3 e)):=by
  refine Ax.body (n:=114) Ah Tryz.func100 rfl rfl rfl fun H=>?_
  refine AW.seq (AW.region (Qp Kx (Qp Ap (AOL.nil (Ad (AW.seq (AW.region (Qp Jl (Qp Bp ?_)))))))))
  refine Qp (Qc rfl (c81 e.op)) ?_
  refine Qp N6 (Qp Ke (Qp bB (Qp Ap (Qp Bl (AOL.nil (Ad (AW.seq (AW.seq (AW.region ?_)))))))))
  refine Qp B0 (Qp Hc (AOL.nil (Ad (A6 (fun hc1=>?_) fun hc1=>?_))))
  · skip
    refine AW.seq (AW.region (Qp Ap (AOL.nil (Ad (Dw ?_)))))
    refine Qr (Iq _) ?_
    try simp only [C1,Bool.and_true] at *
    first
      | (simp only [Ae,B3,Br];(first | rw [if_pos hc1] | skip);first | done | rfl)
      | (try simp only [Bool.not_eq_true',Bool.not_eq_false'] at *
         first
         | (simp only [Ae,B3,Br,isV0, *,Bool.false_eq_true,↓reduceIte,Bool.true_or,Bool.or_true,Bool.false_or,Bool.or_false,Bool.true_and,Bool.and_true,Bool.false_and,Bool.and_false,Bool.not_true,Bool.not_false];done)
         | (simp [Ae,B3,Br,isV0, *];done)
         | (simp_all [Ae,B3,Br,isV0];done))
      | skip
  · skip
    refine By (AW.seq (AW.seq (AW.region (Qp Lp (Qp Dy ?_)))))
    refine Qp (Al (n:=e.args.length) Ah rfl rfl rfl (by simp)) ?_
    refine Qp Az (Qp Cr (AOL.nil (Ad (A6 (fun hc2=>?_) fun hc2=>?_))))
    · skip
      refine AW.seq (AW.region (Qp Ap (AOL.nil (Ad (Dw ?_)))))
      refine Qr (Iq _) ?_
      try simp only [C1,Bool.and_true] at *
      first
        | (simp only [Ae,B3,Br];(first | rw [iN hc1] | skip);(first | rw [if_pos hc2] | skip);first | done | rfl)
        | (try simp only [Bool.not_eq_true',Bool.not_eq_false'] at *
           first
           | (simp only [Ae,B3,Br,isV0, *,Bool.false_eq_true,↓reduceIte,Bool.true_or,Bool.or_true,Bool.false_or,Bool.or_false,Bool.true_and,Bool.and_true,Bool.false_and,Bool.and_false,Bool.not_true,Bool.not_false];done)
           | (simp [Ae,B3,Br,isV0, *];done)
           | (simp_all [Ae,B3,Br,isV0];done))
        | skip
    · skip
      refine By (AW.seq (AW.region (Qp Jl (Qp Bp ?_))))
      refine Qp (Qc rfl (c52 e.op)) ?_
      refine Qp N6 (Qp bB (Qp bB (Qp Bl (Qp Bl (AOL.nil (Ad (AW.seq (AW.seq (AW.region ?_)))))))))
      refine Qp B0 (Qp B0 (Qg [] Qw Te (Qg [(31,_)] Qw Bp (Qg [(32,_)] Qw Ch (Qg [(33,_)] Qw B0 (Qg [] Qw Te (Qg [(35,_)] Qw Bp (Qg [(36,_)] Qw Nt (Qg [(34,_),(37,_)] Qw E1 ?_)))))))))
      refine Qp F7 (Qp B0 (Qg [] Qw B0 (Qg [(41,_)] Qw B0 (Qg [] Qw Oq (Qg [(43,_)] Qw Bp (Qg [(44,_)] Qw Ch (Qg [(45,_)] Qw B0 (Qg [] Qw Oq (Qg [(47,_)] Qw Bp ?_)))))))))
      refine Qg [(48,_)] Qw Nt (Qg [(46,_),(49,_)] Qw E1 (Qg [(42,_),(50,_)] Qw F7 (Qp E1 (AOL.nil (Ad (A6 (fun hc3=>?_) fun hc3=>?_))))))
      · skip
        refine AW.seq (AW.region (Qp Ap (AOL.nil (Ad (Dw ?_)))))
        refine Qr (Iq _) ?_
        try simp only [C1,Bool.and_true] at *
        first
          | (simp only [Ae,B3,Br];(first | rw [iN hc1] | skip);(first | rw [iN hc2] | skip);(first | rw [if_pos hc3] | skip);first | done | rfl)
          | (try simp only [Bool.not_eq_true',Bool.not_eq_false'] at *
             first
             | (simp only [Ae,B3,Br,isV0, *,Bool.false_eq_true,↓reduceIte,Bool.true_or,Bool.or_true,Bool.false_or,Bool.or_false,Bool.true_and,Bool.and_true,Bool.false_and,Bool.and_false,Bool.not_true,Bool.not_false];done)
             | (simp [Ae,B3,Br,isV0, *];done)
             | (simp_all [Ae,B3,Br,isV0];done))
          | skip
      · skip
        refine By (AW.seq (AW.region (Qp Jl (Qp Bp (Qp A9 (Qp Bl (AOL.nil (Ad (AW.seq ?_)))))))))
        refine AW.seq (AW.region (Qp B0 (Qp B0 (Qg [] Qw Sj (Qg [(58,_)] Qw Bp (Qg [(59,_)] Qw Ch (Qg [(60,_)] Qw B0 (Qg [] Qw Sj (Qg [(62,_)] Qw Bp ?_)))))))))
        refine Qg [(63,_)] Qw Ha (Qg [(61,_),(64,_)] Qw E1 (Qp F7 (AOL.nil (Ad (A6 (fun hc4=>?_) fun hc4=>?_)))))
        · skip
          refine AW.seq (AW.region (Qp Ap (AOL.nil (Ad (Dw ?_)))))
          refine Qr (Iq _) ?_
          try simp only [C1,Bool.and_true] at *
          first
            | (simp only [Ae,B3,Br];(first | rw [iN hc1] | skip);(first | rw [iN hc2] | skip);(first | rw [iN hc3] | skip);(first | rw [if_pos hc4] | skip);first | done | rfl)
            | (try simp only [Bool.not_eq_true',Bool.not_eq_false'] at *
               first
               | (simp only [Ae,B3,Br,isV0, *,Bool.false_eq_true,↓reduceIte,Bool.true_or,Bool.or_true,Bool.false_or,Bool.or_false,Bool.true_and,Bool.and_true,Bool.false_and,Bool.and_false,Bool.not_true,Bool.not_false];done)
               | (simp [Ae,B3,Br,isV0, *];done)
               | (simp_all [Ae,B3,Br,isV0];done))
            | skip
        · skip
          refine By (AW.seq (AW.region (Qp B0 (Qp B0 (Qg [] Qw Jl (Qg [(69,_)] Qw Bp (Qg [(70,_)] Qw A9 (Qp E1 (Qp Bl ?_)))))))))
          refine AOL.nil (Ad (AW.seq (AW.seq (AW.region (Qp B0 (AOL.nil (Ad (A6 (fun hc5=>?_) fun hc5=>?_))))))))
          · skip
            refine AW.seq (AW.region (Qp El ?_))
            refine Qp (Qc rfl (c82 e)) ?_
            refine Qp Ap (AOL.nil (Ad (AW.seq (AW.region (Qp Az (Qp Cr (AOL.nil (Ad (A6 (fun hc6=>?_) fun hc6=>?_)))))))))
            · skip
              refine AW.seq (AW.region (Qp Az (Qp Ap (AOL.nil (Ad (Dw ?_))))))
              refine Qr (Iq _) ?_
              try simp only [C1,Bool.and_true] at *
              first
                | (simp only [Ae,B3,Br];(first | rw [iN hc1] | skip);(first | rw [iN hc2] | skip);(first | rw [iN hc3] | skip);(first | rw [iN hc4] | skip);(first | rw [if_pos hc5] | skip);(first | rw [if_pos hc6] | skip);first | done | rfl)
                | (try simp only [Bool.not_eq_true',Bool.not_eq_false'] at *
                   first
                   | (simp only [Ae,B3,Br,isV0, *,Bool.false_eq_true,↓reduceIte,Bool.true_or,Bool.or_true,Bool.false_or,Bool.or_false,Bool.true_and,Bool.and_true,Bool.false_and,Bool.and_false,Bool.not_true,Bool.not_false];done)
                   | (simp [Ae,B3,Br,isV0, *];done)
                   | (simp_all [Ae,B3,Br,isV0];done))
                | skip
            · skip
              refine By (AW.seq (AW.seq (AW.region (Qp B0 (Qp Hc (Qp B0 (Qg [] Qw Te (Qg [(82,_)] Qw Bp (Qg [(83,_)] Qw Cr ?_)))))))))
              refine Qp F7 (Qp B0 (Qg [] Qw B0 (Qg [(87,_)] Qw Hc (Qg [(88,_)] Qw B0 (Qg [] Qw Oq (Qg [(90,_)] Qw Bp (Qg [(91,_)] Qw Cr (Qg [(89,_),(92,_)] Qw F7 (Qp E1 ?_)))))))))
              refine Qp B0 (Qg [] Qw B0 (Qg [(96,_)] Qw Hc (Qg [(97,_)] Qw B0 (Qg [] Qw Sj (Qg [(99,_)] Qw Bp (Qg [(100,_)] Qw Cr (Qg [(98,_),(101,_)] Qw F7 (Qp E1 (Qp B0 ?_)))))))))
              refine Qg [] Qw B0 (Qg [(105,_)] Qw Hc (Qg [(106,_)] Qw B0 (Qg [] Qw Jq (Qg [(108,_)] Qw (Cq [Iq _,Iq _,.str _]) (Qg [] Qw (Fz [Iq _,Iq _,.str _]) ?_)))))
              refine AOL.Aar (y:=.bool _) _ [(109,_),(110,_)] rfl (nC.all ⟨Ent.Aam _ _,Ent.Aam _ _,trivial⟩) (fun hG=>H0 Ah rfl rfl rfl rfl rfl) rfl ?_
              refine Qg [(107,_),(111,_)] Qw F7 (Qp E1 (AOL.nil (Ad (A6 (fun hc7=>?_) fun hc7=>?_))))
              · skip
                refine AW.seq (AW.region (Qp Ap (AOL.nil (Ad (Dw ?_)))))
                refine Qr (Iq _) ?_
                try simp only [C1,Bool.and_true] at *
                first
                  | (simp only [Ae,B3,Br];(first | rw [iN hc1] | skip);(first | rw [iN hc2] | skip);(first | rw [iN hc3] | skip);(first | rw [iN hc4] | skip);(first | rw [if_pos hc5] | skip);(first | rw [iN hc6] | skip);(first | rw [if_pos hc7] | skip);first | done | rfl)
                  | (try simp only [Bool.not_eq_true',Bool.not_eq_false'] at *
                     first
                     | (simp only [Ae,B3,Br,isV0, *,Bool.false_eq_true,↓reduceIte,Bool.true_or,Bool.or_true,Bool.false_or,Bool.or_false,Bool.true_and,Bool.and_true,Bool.false_and,Bool.and_false,Bool.not_true,Bool.not_false];done)
                     | (simp [Ae,B3,Br,isV0, *];done)
                     | (simp_all [Ae,B3,Br,isV0];done))
                  | skip
              · skip
                refine By (AW.seq (AW.region (Qp Ap (AOL.nil (Ad (AW.ret ?_))))))
                refine Qr (Iq _) ?_
                try simp only [C1,Bool.and_true] at *
                first
                  | (simp only [Ae,B3,Br];(first | rw [iN hc1] | skip);(first | rw [iN hc2] | skip);(first | rw [iN hc3] | skip);(first | rw [iN hc4] | skip);(first | rw [if_pos hc5] | skip);(first | rw [iN hc6] | skip);(first | rw [iN hc7] | skip);first | done | rfl)
                  | (try simp only [Bool.not_eq_true',Bool.not_eq_false'] at *
                     first
                     | (simp only [Ae,B3,Br,isV0, *,Bool.false_eq_true,↓reduceIte,Bool.true_or,Bool.or_true,Bool.false_or,Bool.or_false,Bool.true_and,Bool.and_true,Bool.false_and,Bool.and_false,Bool.not_true,Bool.not_false];done)
                     | (simp [Ae,B3,Br,isV0, *];done)
                     | (simp_all [Ae,B3,Br,isV0];done))
                  | skip
          · skip
            refine By (AW.seq (AW.seq (AW.region (Qp B0 (Qp Hc (Qp B0 (Qg [] Qw Te (Qg [(82,_)] Qw Bp (Qg [(83,_)] Qw Cr ?_)))))))))
            refine Qp F7 (Qp B0 (Qg [] Qw B0 (Qg [(87,_)] Qw Hc (Qg [(88,_)] Qw B0 (Qg [] Qw Oq (Qg [(90,_)] Qw Bp (Qg [(91,_)] Qw Cr (Qg [(89,_),(92,_)] Qw F7 (Qp E1 ?_)))))))))
            refine Qp B0 (Qg [] Qw B0 (Qg [(96,_)] Qw Hc (Qg [(97,_)] Qw B0 (Qg [] Qw Sj (Qg [(99,_)] Qw Bp (Qg [(100,_)] Qw Cr (Qg [(98,_),(101,_)] Qw F7 (Qp E1 (Qp B0 ?_)))))))))
            refine Qg [] Qw B0 (Qg [(105,_)] Qw Hc (Qg [(106,_)] Qw B0 (Qg [] Qw Jq (Qg [(108,_)] Qw (Cq [Iq _,Iq _,.str _]) (Qg [] Qw (Fz [Iq _,Iq _,.str _]) ?_)))))
            refine AOL.Aar (y:=.bool _) _ [(109,_),(110,_)] rfl (nC.all ⟨Ent.Aam _ _,Ent.Aam _ _,trivial⟩) (fun hG=>H0 Ah rfl rfl rfl rfl rfl) rfl ?_
            refine Qg [(107,_),(111,_)] Qw F7 (Qp E1 (AOL.nil (Ad (A6 (fun hc8=>?_) fun hc8=>?_))))
            · skip
              refine AW.seq (AW.region (Qp Ap (AOL.nil (Ad (Dw ?_)))))
              refine Qr (Iq _) ?_
              try simp only [C1,Bool.and_true] at *
              first
                | (simp only [Ae,B3,Br];(first | rw [iN hc1] | skip);(first | rw [iN hc2] | skip);(first | rw [iN hc3] | skip);(first | rw [iN hc4] | skip);(first | rw [iN hc5] | skip);(first | rw [if_pos hc8] | skip);first | done | rfl)
                | (try simp only [Bool.not_eq_true',Bool.not_eq_false'] at *
                   first
                   | (simp only [Ae,B3,Br,isV0, *,Bool.false_eq_true,↓reduceIte,Bool.true_or,Bool.or_true,Bool.false_or,Bool.or_false,Bool.true_and,Bool.and_true,Bool.false_and,Bool.and_false,Bool.not_true,Bool.not_false];done)
                   | (simp [Ae,B3,Br,isV0, *];done)
                   | (simp_all [Ae,B3,Br,isV0];done))
                | skip
            · skip
              refine By (AW.seq (AW.region (Qp Ap (AOL.nil (Ad (AW.ret ?_))))))
              refine Qr (Iq _) ?_
              try simp only [C1,Bool.and_true] at *
              first
                | (simp only [Ae,B3,Br];(first | rw [iN hc1] | skip);(first | rw [iN hc2] | skip);(first | rw [iN hc3] | skip);(first | rw [iN hc4] | skip);(first | rw [iN hc5] | skip);(first | rw [iN hc8] | skip);first | done | rfl)
                | (try simp only [Bool.not_eq_true',Bool.not_eq_false'] at *
                   first
                   | (simp only [Ae,B3,Br,isV0, *,Bool.false_eq_true,↓reduceIte,Bool.true_or,Bool.or_true,Bool.false_or,Bool.or_false,Bool.true_and,Bool.and_true,Bool.false_and,Bool.and_false,Bool.not_true,Bool.not_false];done)
                   | (simp [Ae,B3,Br,isV0, *];done)
                   | (simp_all [Ae,B3,Br,isV0];done))
                | skip
theorem c83 (e:Ex):Ax Tryz.prog 143 [.agg (cE e)] (.int .i64 (B3 e)):=by
  refine Ax.body (n:=131) Ah Tryz.func143 rfl rfl rfl fun H=>?_
  refine AW.seq (AW.region (Qp Kx (Qp Ap (AOL.nil (Ad (AW.seq (AW.region (Qp Jl (Qp Bp ?_)))))))))
  refine Qp (Qc rfl (c100 e.op)) ?_
  refine Qp Ap (AOL.nil (Ad (AW.seq (AW.seq (AW.region (Qp Az (Qp Ch (AOL.nil (Ad (A6 (fun hc1=>?_) fun hc1=>?_))))))))))
  · skip
    refine AW.seq (AW.region (Qp Ap (AOL.nil (Ad (Dw ?_)))))
    refine Qr (Iq _) ?_
    rw [←Hr]
    try simp only [C1,Bool.and_true] at *
    first
      | (simp only [Ae,Cm,Br];(first | rw [if_pos hc1] | skip);first | done | rfl)
      | (try simp only [Bool.not_eq_true',Bool.not_eq_false'] at *
         first
         | (simp only [Ae,Cm,Br,isV0, *,Bool.false_eq_true,↓reduceIte,Bool.true_or,Bool.or_true,Bool.false_or,Bool.or_false,Bool.true_and,Bool.and_true,Bool.false_and,Bool.and_false,Bool.not_true,Bool.not_false];done)
         | (simp [Ae,Cm,Br,isV0, *];done)
         | (simp_all [Ae,Cm,Br,isV0];done))
      | skip
  · skip
    refine By (AW.seq (AW.seq (AW.region (Qp Lp (Qp Dy ?_)))))
    refine Qp (Al (n:=e.args.length) Ah rfl rfl rfl (by simp)) ?_
    refine Qp Az (Qp Cr (AOL.nil (Ad (A6 (fun hc2=>?_) fun hc2=>?_))))
    · skip
      refine AW.seq (AW.region (Qp Ap (AOL.nil (Ad (Dw ?_)))))
      refine Qr (Iq _) ?_
      rw [←Hr]
      try simp only [C1,Bool.and_true] at *
      first
        | (simp only [Ae,Cm,Br];(first | rw [iN hc1] | skip);(first | rw [if_pos hc2] | skip);first | done | rfl)
        | (try simp only [Bool.not_eq_true',Bool.not_eq_false'] at *
           first
           | (simp only [Ae,Cm,Br,isV0, *,Bool.false_eq_true,↓reduceIte,Bool.true_or,Bool.or_true,Bool.false_or,Bool.or_false,Bool.true_and,Bool.and_true,Bool.false_and,Bool.and_false,Bool.not_true,Bool.not_false];done)
           | (simp [Ae,Cm,Br,isV0, *];done)
           | (simp_all [Ae,Cm,Br,isV0];done))
        | skip
    · skip
      refine By (AW.seq (AW.region (Qp Jl (Qp Bp ?_))))
      refine Qp (Qc rfl (c84 e.op)) ?_
      refine Qp N6 (Qp bB (Qp bB (Qp Bl (Qp Bl (AOL.nil (Ad (AW.seq (AW.seq (AW.region ?_)))))))))
      refine Qp B0 (Qp B0 (Qg [] Qw Te (Qg [(27,_)] Qw Bp (Qg [(28,_)] Qw Ch (Qg [(29,_)] Qw B0 (Qg [] Qw Te (Qg [(31,_)] Qw Bp (Qg [(32,_)] Qw Nt (Qg [(30,_),(33,_)] Qw E1 ?_)))))))))
      refine Qp F7 (Qp B0 (Qg [] Qw B0 (Qg [(37,_)] Qw B0 (Qg [] Qw Oq (Qg [(39,_)] Qw Bp (Qg [(40,_)] Qw Ch (Qg [(41,_)] Qw B0 (Qg [] Qw Oq (Qg [(43,_)] Qw Bp ?_)))))))))
      refine Qg [(44,_)] Qw Nt (Qg [(42,_),(45,_)] Qw E1 (Qg [(38,_),(46,_)] Qw F7 (Qp E1 (AOL.nil (Ad (A6 (fun hc3=>?_) fun hc3=>?_))))))
      · skip
        refine AW.seq (AW.region (Qp Ap (AOL.nil (Ad (Dw ?_)))))
        refine Qr (Iq _) ?_
        rw [←Hr]
        try simp only [C1,Bool.and_true] at *
        first
          | (simp only [Ae,Cm,Br];(first | rw [iN hc1] | skip);(first | rw [iN hc2] | skip);(first | rw [if_pos hc3] | skip);first | done | rfl)
          | (try simp only [Bool.not_eq_true',Bool.not_eq_false'] at *
             first
             | (simp only [Ae,Cm,Br,isV0, *,Bool.false_eq_true,↓reduceIte,Bool.true_or,Bool.or_true,Bool.false_or,Bool.or_false,Bool.true_and,Bool.and_true,Bool.false_and,Bool.and_false,Bool.not_true,Bool.not_false];done)
             | (simp [Ae,Cm,Br,isV0, *];done)
             | (simp_all [Ae,Cm,Br,isV0];done))
          | skip
      · skip
        refine By (AW.seq (AW.region (Qp Jl (Qp Bp (Qp A9 (Qp Bl (AOL.nil (Ad (AW.seq ?_)))))))))
        refine AW.seq (AW.region (Qp B0 (Qp B0 (Qg [] Qw Sj (Qg [(54,_)] Qw Bp (Qg [(55,_)] Qw Ch (Qg [(56,_)] Qw B0 (Qg [] Qw Sj (Qg [(58,_)] Qw Bp ?_)))))))))
        refine Qg [(59,_)] Qw Ha (Qg [(57,_),(60,_)] Qw E1 (Qp F7 (AOL.nil (Ad (A6 (fun hc4=>?_) fun hc4=>?_)))))
        · skip
          refine AW.seq (AW.region (Qp Ap (AOL.nil (Ad (Dw ?_)))))
          refine Qr (Iq _) ?_
          rw [←Hr]
          try simp only [C1,Bool.and_true] at *
          first
            | (simp only [Ae,Cm,Br];(first | rw [iN hc1] | skip);(first | rw [iN hc2] | skip);(first | rw [iN hc3] | skip);(first | rw [if_pos hc4] | skip);first | done | rfl)
            | (try simp only [Bool.not_eq_true',Bool.not_eq_false'] at *
               first
               | (simp only [Ae,Cm,Br,isV0, *,Bool.false_eq_true,↓reduceIte,Bool.true_or,Bool.or_true,Bool.false_or,Bool.or_false,Bool.true_and,Bool.and_true,Bool.false_and,Bool.and_false,Bool.not_true,Bool.not_false];done)
               | (simp [Ae,Cm,Br,isV0, *];done)
               | (simp_all [Ae,Cm,Br,isV0];done))
            | skip
        · skip
          refine By (AW.seq (AW.region (Qp B0 (Qp B0 (Qg [] Qw Jl (Qg [(65,_)] Qw Bp (Qg [(66,_)] Qw A9 (Qp E1 (Qp Bl ?_)))))))))
          refine AOL.nil (Ad (AW.seq (AW.seq (AW.region (Qp B0 (AOL.nil (Ad (A6 (fun hc5=>?_) fun hc5=>?_))))))))
          · skip
            refine AW.seq (AW.region (Qp Jq (Qp (Cq [Iq _,Iq _,.str _]) ?_)))
            refine Qp (Qc rfl (c79 e.val)) ?_
            refine Qp Ap (AOL.nil (Ad (AW.seq (AW.region (Qp Az (Qp Cr (AOL.nil (Ad (A6 (fun hc6=>?_) fun hc6=>?_)))))))))
            · skip
              refine AW.seq (AW.region (Qp Az (Qp Ap (AOL.nil (Ad (Dw ?_))))))
              refine Qr (Iq _) ?_
              rw [←Hr]
              try simp only [C1,Bool.and_true] at *
              first
                | (simp only [Ae,Cm,Br];(first | rw [iN hc1] | skip);(first | rw [iN hc2] | skip);(first | rw [iN hc3] | skip);(first | rw [iN hc4] | skip);(first | rw [if_pos hc5] | skip);(first | rw [if_pos hc6] | skip);first | done | rfl)
                | (try simp only [Bool.not_eq_true',Bool.not_eq_false'] at *
                   first
                   | (simp only [Ae,Cm,Br,isV0, *,Bool.false_eq_true,↓reduceIte,Bool.true_or,Bool.or_true,Bool.false_or,Bool.or_false,Bool.true_and,Bool.and_true,Bool.false_and,Bool.and_false,Bool.not_true,Bool.not_false];done)
                   | (simp [Ae,Cm,Br,isV0, *];done)
                   | (simp_all [Ae,Cm,Br,isV0];done))
                | skip
            · skip
              refine By (AW.seq (AW.seq (AW.region (Qp B0 (Qp B0 (Qg [] Qw Sj (Qg [(78,_)] Qw Bp (Qg [] Qw Jq (Qg [(80,_)] Qw (Cq [Iq _,Iq _,.str _]) ?_)))))))))
              refine AOL.Aar (y:=.bool _) _ [(79,_),(81,_)] rfl (nC.all ⟨Ent.Aam _ _,Ent.Aam _ _,trivial⟩) (fun hG=>E3 (by kernel_rfl) rfl rfl (c101 e.kind e.val)) rfl ?_
              refine Qg [(82,_)] Qw Hc (Qg [(83,_)] Qw B0 (Qg [] Qw Sj (Qg [(85,_)] Qw Bp (Qg [(86,_)] Qw A9 (Qg [(87,_)] Qw B0 (Qg [] Qw Jq (Qg [(89,_)] Qw (Cq [Iq _,Iq _,.str _]) (Qg [] Qw (Fz [Iq _,Iq _,.str _]) ?_))))))))
              refine AOL.Aar (y:=.bool _) _ [(90,_),(91,_)] rfl (nC.all ⟨Ent.Aam _ _,Ent.Aam _ _,trivial⟩) (fun hG=>H0 Ah rfl rfl rfl rfl rfl) rfl ?_
              refine Qg [(88,_),(92,_)] Qw F7 (Qg [(84,_),(93,_)] Qw E1 (Qp F7 (AOL.nil (Ad (A6 (fun hc7=>?_) fun hc7=>?_)))))
              · skip
                refine AW.seq (AW.region (Qp Ap (AOL.nil (Ad (Dw ?_)))))
                refine Qr (Iq _) ?_
                rw [←Hr]
                try simp only [C1,Bool.and_true] at *
                first
                  | (simp only [Ae,Cm,Br];(first | rw [iN hc1] | skip);(first | rw [iN hc2] | skip);(first | rw [iN hc3] | skip);(first | rw [iN hc4] | skip);(first | rw [if_pos hc5] | skip);(first | rw [iN hc6] | skip);(first | rw [if_pos hc7] | skip);first | done | rfl)
                  | (try simp only [Bool.not_eq_true',Bool.not_eq_false'] at *
                     first
                     | (simp only [Ae,Cm,Br,isV0, *,Bool.false_eq_true,↓reduceIte,Bool.true_or,Bool.or_true,Bool.false_or,Bool.or_false,Bool.true_and,Bool.and_true,Bool.false_and,Bool.and_false,Bool.not_true,Bool.not_false];done)
                     | (simp [Ae,Cm,Br,isV0, *];done)
                     | (simp_all [Ae,Cm,Br,isV0];done))
                  | skip
              · skip
                refine By (AW.seq (AW.seq (AW.region (Qp B0 (Qp Hc (Qp B0 (Qg [] Qw Te (Qg [(99,_)] Qw Bp (Qg [(100,_)] Qw Cr ?_)))))))))
                refine Qp F7 (Qp B0 (Qg [] Qw B0 (Qg [(104,_)] Qw Hc (Qg [(105,_)] Qw B0 (Qg [] Qw Oq (Qg [(107,_)] Qw Bp (Qg [(108,_)] Qw Cr (Qg [(106,_),(109,_)] Qw F7 (Qp E1 ?_)))))))))
                refine Qp B0 (Qg [] Qw B0 (Qg [(113,_)] Qw Hc (Qg [(114,_)] Qw B0 (Qg [] Qw Sj (Qg [(116,_)] Qw Bp (Qg [(117,_)] Qw Cr (Qg [(115,_),(118,_)] Qw F7 (Qp E1 (Qp B0 ?_)))))))))
                refine Qg [] Qw B0 (Qg [(122,_)] Qw Hc (Qg [(123,_)] Qw B0 (Qg [] Qw Jq (Qg [(125,_)] Qw (Cq [Iq _,Iq _,.str _]) (Qg [] Qw (Fz [Iq _,Iq _,.str _]) ?_)))))
                refine AOL.Aar (y:=.bool _) _ [(126,_),(127,_)] rfl (nC.all ⟨Ent.Aam _ _,Ent.Aam _ _,trivial⟩) (fun hG=>H0 Ah rfl rfl rfl rfl rfl) rfl ?_
                refine Qg [(124,_),(128,_)] Qw F7 (Qp E1 (AOL.nil (Ad (A6 (fun hc8=>?_) fun hc8=>?_))))
                · skip
                  refine AW.seq (AW.region (Qp Ap (AOL.nil (Ad (Dw ?_)))))
                  refine Qr (Iq _) ?_
                  rw [←Hr]
                  try simp only [C1,Bool.and_true] at *
                  first
                    | (simp only [Ae,Cm,Br];(first | rw [iN hc1] | skip);(first | rw [iN hc2] | skip);(first | rw [iN hc3] | skip);(first | rw [iN hc4] | skip);(first | rw [if_pos hc5] | skip);(first | rw [iN hc6] | skip);(first | rw [iN hc7] | skip);(first | rw [if_pos hc8] | skip);first | done | rfl)
                    | (try simp only [Bool.not_eq_true',Bool.not_eq_false'] at *
                       first
                       | (simp only [Ae,Cm,Br,isV0, *,Bool.false_eq_true,↓reduceIte,Bool.true_or,Bool.or_true,Bool.false_or,Bool.or_false,Bool.true_and,Bool.and_true,Bool.false_and,Bool.and_false,Bool.not_true,Bool.not_false];done)
                       | (simp [Ae,Cm,Br,isV0, *];done)
                       | (simp_all [Ae,Cm,Br,isV0];done))
                    | skip
                · skip
                  refine By (AW.seq (AW.region (Qp Ap (AOL.nil (Ad (AW.ret ?_))))))
                  refine Qr (Iq _) ?_
                  rw [←Hr]
                  try simp only [C1,Bool.and_true] at *
                  first
                    | (simp only [Ae,Cm,Br];(first | rw [iN hc1] | skip);(first | rw [iN hc2] | skip);(first | rw [iN hc3] | skip);(first | rw [iN hc4] | skip);(first | rw [if_pos hc5] | skip);(first | rw [iN hc6] | skip);(first | rw [iN hc7] | skip);(first | rw [iN hc8] | skip);first | done | rfl)
                    | (try simp only [Bool.not_eq_true',Bool.not_eq_false'] at *
                       first
                       | (simp only [Ae,Cm,Br,isV0, *,Bool.false_eq_true,↓reduceIte,Bool.true_or,Bool.or_true,Bool.false_or,Bool.or_false,Bool.true_and,Bool.and_true,Bool.false_and,Bool.and_false,Bool.not_true,Bool.not_false];done)
                       | (simp [Ae,Cm,Br,isV0, *];done)
                       | (simp_all [Ae,Cm,Br,isV0];done))
                    | skip
          · skip
            refine By (AW.seq (AW.seq (AW.region (Qp B0 (Qp B0 (Qg [] Qw Sj (Qg [(78,_)] Qw Bp (Qg [] Qw Jq (Qg [(80,_)] Qw (Cq [Iq _,Iq _,.str _]) ?_)))))))))
            refine AOL.Aar (y:=.bool _) _ [(79,_),(81,_)] rfl (nC.all ⟨Ent.Aam _ _,Ent.Aam _ _,trivial⟩) (fun hG=>E3 (by kernel_rfl) rfl rfl (c101 e.kind e.val)) rfl ?_
            refine Qg [(82,_)] Qw Hc (Qg [(83,_)] Qw B0 (Qg [] Qw Sj (Qg [(85,_)] Qw Bp (Qg [(86,_)] Qw A9 (Qg [(87,_)] Qw B0 (Qg [] Qw Jq (Qg [(89,_)] Qw (Cq [Iq _,Iq _,.str _]) (Qg [] Qw (Fz [Iq _,Iq _,.str _]) ?_))))))))
            refine AOL.Aar (y:=.bool _) _ [(90,_),(91,_)] rfl (nC.all ⟨Ent.Aam _ _,Ent.Aam _ _,trivial⟩) (fun hG=>H0 Ah rfl rfl rfl rfl rfl) rfl ?_
            refine Qg [(88,_),(92,_)] Qw F7 (Qg [(84,_),(93,_)] Qw E1 (Qp F7 (AOL.nil (Ad (A6 (fun hc9=>?_) fun hc9=>?_)))))
            · skip
              refine AW.seq (AW.region (Qp Ap (AOL.nil (Ad (Dw ?_)))))
              refine Qr (Iq _) ?_
              rw [←Hr]
              try simp only [C1,Bool.and_true] at *
              first
                | (simp only [Ae,Cm,Br];(first | rw [iN hc1] | skip);(first | rw [iN hc2] | skip);(first | rw [iN hc3] | skip);(first | rw [iN hc4] | skip);(first | rw [iN hc5] | skip);(first | rw [if_pos hc9] | skip);first | done | rfl)
                | (try simp only [Bool.not_eq_true',Bool.not_eq_false'] at *
                   first
                   | (simp only [Ae,Cm,Br,isV0, *,Bool.false_eq_true,↓reduceIte,Bool.true_or,Bool.or_true,Bool.false_or,Bool.or_false,Bool.true_and,Bool.and_true,Bool.false_and,Bool.and_false,Bool.not_true,Bool.not_false];done)
                   | (simp [Ae,Cm,Br,isV0, *];done)
                   | (simp_all [Ae,Cm,Br,isV0];done))
                | skip
            · skip
              refine By (AW.seq (AW.seq (AW.region (Qp B0 (Qp Hc (Qp B0 (Qg [] Qw Te (Qg [(99,_)] Qw Bp (Qg [(100,_)] Qw Cr ?_)))))))))
              refine Qp F7 (Qp B0 (Qg [] Qw B0 (Qg [(104,_)] Qw Hc (Qg [(105,_)] Qw B0 (Qg [] Qw Oq (Qg [(107,_)] Qw Bp (Qg [(108,_)] Qw Cr (Qg [(106,_),(109,_)] Qw F7 (Qp E1 ?_)))))))))
              refine Qp B0 (Qg [] Qw B0 (Qg [(113,_)] Qw Hc (Qg [(114,_)] Qw B0 (Qg [] Qw Sj (Qg [(116,_)] Qw Bp (Qg [(117,_)] Qw Cr (Qg [(115,_),(118,_)] Qw F7 (Qp E1 (Qp B0 ?_)))))))))
              refine Qg [] Qw B0 (Qg [(122,_)] Qw Hc (Qg [(123,_)] Qw B0 (Qg [] Qw Jq (Qg [(125,_)] Qw (Cq [Iq _,Iq _,.str _]) (Qg [] Qw (Fz [Iq _,Iq _,.str _]) ?_)))))
              refine AOL.Aar (y:=.bool _) _ [(126,_),(127,_)] rfl (nC.all ⟨Ent.Aam _ _,Ent.Aam _ _,trivial⟩) (fun hG=>H0 Ah rfl rfl rfl rfl rfl) rfl ?_
              refine Qg [(124,_),(128,_)] Qw F7 (Qp E1 (AOL.nil (Ad (A6 (fun hc10=>?_) fun hc10=>?_))))
              · skip
                refine AW.seq (AW.region (Qp Ap (AOL.nil (Ad (Dw ?_)))))
                refine Qr (Iq _) ?_
                rw [←Hr]
                try simp only [C1,Bool.and_true] at *
                first
                  | (simp only [Ae,Cm,Br];(first | rw [iN hc1] | skip);(first | rw [iN hc2] | skip);(first | rw [iN hc3] | skip);(first | rw [iN hc4] | skip);(first | rw [iN hc5] | skip);(first | rw [iN hc9] | skip);(first | rw [if_pos hc10] | skip);first | done | rfl)
                  | (try simp only [Bool.not_eq_true',Bool.not_eq_false'] at *
                     first
                     | (simp only [Ae,Cm,Br,isV0, *,Bool.false_eq_true,↓reduceIte,Bool.true_or,Bool.or_true,Bool.false_or,Bool.or_false,Bool.true_and,Bool.and_true,Bool.false_and,Bool.and_false,Bool.not_true,Bool.not_false];done)
                     | (simp [Ae,Cm,Br,isV0, *];done)
                     | (simp_all [Ae,Cm,Br,isV0];done))
                  | skip
              · skip
                refine By (AW.seq (AW.region (Qp Ap (AOL.nil (Ad (AW.ret ?_))))))
                refine Qr (Iq _) ?_
                rw [←Hr]
                try simp only [C1,Bool.and_true] at *
                first
                  | (simp only [Ae,Cm,Br];(first | rw [iN hc1] | skip);(first | rw [iN hc2] | skip);(first | rw [iN hc3] | skip);(first | rw [iN hc4] | skip);(first | rw [iN hc5] | skip);(first | rw [iN hc9] | skip);(first | rw [iN hc10] | skip);first | done | rfl)
                  | (try simp only [Bool.not_eq_true',Bool.not_eq_false'] at *
                     first
                     | (simp only [Ae,Cm,Br,isV0, *,Bool.false_eq_true,↓reduceIte,Bool.true_or,Bool.or_true,Bool.false_or,Bool.or_false,Bool.true_and,Bool.and_true,Bool.false_and,Bool.and_false,Bool.not_true,Bool.not_false];done)
                     | (simp [Ae,Cm,Br,isV0, *];done)
                     | (simp_all [Ae,Cm,Br,isV0];done))
                  | skip
theorem c23 (e:Ex)(hs:Ar e≤1048576):Ax Tryz.prog 98 [.agg (cE e)] (.tuple [.int .i64 (Ar e),.int .i64 (Ct e)]):=by
 revert hs
 induction e using Ex.Aav
 rename_i e ih
 intro hs
 refine Ax.body (n:=32) Ah Tryz.func98 rfl rfl rfl fun H=>?_
 refine Ai (Qp Kx (Qp Ap (Qp Ap (Dm (Qp Ap (Qp Ap (Ag (AW.seq (Ai ?_)))))))))
 refine Qp Lp (Qp Dy ?_)
 refine Qp (Al (n:=e.args.length) Ah rfl rfl rfl (by simp)) ?_
 refine Qp Az (Ag (AW.block ?_))
 refine AW.sllen 11 rfl fun hlen=>?_
 simp only [List.length_map,maxLen] at hlen
 refine AW.Aao (fun (p:Nat×Nat×Nat)=>(⟨[(4,.int .i64 (p.2.1:Int)),(5,.int .i64 (p.2.2:Int)),(11,.sl 8 (e.args.map G8)),(12,.int .i64 e.args.length),(13,.int .i64 (p.1:Int))],H,32⟩:St)) (fun (p:Nat×Nat×Nat)=>p.1≤e.args.length∧Ar e=p.2.1+((e.args.drop p.1).map Ar).sum∧Ct e=max p.2.2 (((e.args.drop p.1).map Ct).foldr max 0)+1∧p.2.2≤1048576) (fun (p:Nat×Nat×Nat)=>e.args.length-p.1) ((0,1,0)) ?_ (GS.weaken ⟨rfl,rfl,rfl,rfl,rfl,trivial⟩ (.refl _)) ?_
 · exact ⟨Nat.zero_le _,by simpa using Dp e,by simpa using K5 e,Nat.zero_le _⟩
 ·
  rintro p hR
  refine Ai (Qp Ch (Ag (AW.seq (A6 (fun hc1=>?_) fun hc1=>?_))))
  ·
   obtain ⟨a,ha⟩:=B5 hc1
   have hlt:=A4 ha
   have hm:=List.mem_of_getElem? ha
   have hsa:=Fe hm
   have hda:=Jz a
   have h1:=gI p.2.1 ha
   have h2:=Og p.2.2 ha
   refine By (AW.seq (AW.block (Ai ?_)))
   refine Qp (Af (c:=[Iq _,_,Iq _,Iq _,Iq _,Iq _,Iq _,.str _]) Ah rfl rfl rfl rfl rfl rfl (by omega) (Fo ha)) ?_
   refine Qp El ?_
   refine Qe (Ak (l:=[.int .i64 0,.sl 8 [],.int .i64 0,.int .i64 0,.int .i64 0,.int .i64 0,.int .i64 0,.str []]) (by kernel_rfl)) ?_
   rintro _ _ ⟨b7,rfl,rfl⟩
   refine Cv 0 [Iq _,_,Iq _,Iq _,Iq _,Iq _,Iq _,.str _] (_::_) ?_
   refine AOL.ghost (GS.Aan (t:=7) 0 rfl rfl) ?_
   refine Dm (Qp El ?_)
   refine Qp (Qc rfl (ih a hm (by have:=Fe hm;omega))) ?_
   refine Qp N6 (Qp Ke (Qp Ke (Qp Ap (Qp Ap (Ag (AW.region (Qp Az (Qp Az (Qp Ey ?_)))))))))
   refine Qp Az (Qp Az ?_)
   refine Qp (sB rfl rfl) ?_
   refine Qp Ap (Qp Ap (AOL.nil (Bu (Ad (AW.region (Qp Ey (Qp Az (Ag ?_))))))))
   refine ⟨(p.1+1,p.2.1+Ar a,max p.2.2 (Ct a)),?_,?_,GS.weaken ⟨rfl,congrArg (AV.int .i64) (by simp only;omega),rfl,rfl,rfl,trivial⟩ (.refl _)⟩
   · simp only;exact ⟨hlt,by omega,by omega,by omega⟩
   · first | omega | (simp only;omega)
  ·
   have hd:=Dc hc1
   refine AW.exit ?_
   refine A5 (A5 (Bq (Ad (Ai (Qp Az (Qp Az ?_))))))
   refine Qp (mU rfl rfl rfl (by have:=Jz e;constructor <;> omega)) ?_
   refine Qp Ap (Qp Ap (Ag (AW.ret ?_)))
   refine La (Iq _) (Iq _) ?_
   rw [hd] at hR
   simp only [List.map_nil,List.sum_nil,List.foldr_nil] at hR
   simp only [Ae,AV.tuple.injEq,List.cons.injEq,AV.int.injEq,true_and,and_true]
   omega
theorem c48 (L:Nat)(e:Ex)(hs:Ar e≤1048576):Ax Tryz.prog 53 [.agg (cE e),.int .i64 (L:Int)] (.int .i64 (Gw L e)):=by
 revert hs
 induction e using Ex.Aav
 rename_i e ih
 intro hs
 refine Ax.body (n:=29) Ah Tryz.func53 rfl rfl rfl fun H=>?_
 refine Ai (Qp Kx (Qp Ap (Dm (Qp Ap (Ag (AW.seq (Ai (Qp Ap (Ag ?_)))))))))
 refine AW.block ?_
 refine AW.Aao (fun (p:Nat×Nat)=>(⟨[(1,.int .i64 (L:Int)),(2,.ptr (cE e)),(5,.int .i64 (p.2:Int)),(6,.int .i64 (p.1:Int))],H,29⟩:St)) (fun (p:Nat×Nat)=>p.1≤e.args.length∧Gw L e=F5 L (e.args.drop p.1) p.2∧p.2+((e.args.drop p.1).map Ar).sum≤Ar e∧e.args.length≤1048576) (fun (p:Nat×Nat)=>e.args.length-p.1) ((0,1)) ?_ (GS.weaken ⟨rfl,rfl,rfl,rfl,trivial⟩ (.refl _)) ?_
 · exact ⟨Nat.zero_le _,by simpa using Zp L e,by simpa using Nat.le_of_eq (Dp e).symm,Ng e hs⟩
 ·
  rintro p hR
  refine AW.seq (Ai (Qp Az (Qp Lp (Qp Dy ?_))))
  refine Qp (Al (n:=e.args.length) Ah rfl rfl rfl (by simp)) ?_
  refine Qp Ch (Qp B0 (Qg [] Qw Az (Qg [] Qw Az ?_)))
  refine AOL.Aar (y:=.bool _) _ [(13,_),(14,_)] rfl (nC.all ⟨Ent.Aam _ _,Ent.Aam _ _,trivial⟩) (fun hG=>rP rfl rfl) rfl ?_
  refine Qp F7 (Ag (A6 (fun hc1=>?_) fun hc1=>?_))
  ·
   simp only [Bool.and_eq_true] at hc1
   obtain ⟨a,ha⟩:=B5 hc1.1
   have hlt:=A4 ha
   have hm:=List.mem_of_getElem? ha
   have hsa:=Fe hm
   have hle:p.2≤L:=by simpa using hc1.2
   have h1:=gI p.2 ha
   have h2:=W0 L a
   have h3:=hR.2.1
   rw [A8 ha,F5,if_pos hle] at h3
   refine By (AW.seq (AW.block (AW.region (Qp Az (Qp Lp (Qp Dy (Qp Az ?_)))))))
   refine Qp (Af (c:=[Iq _,_,Iq _,Iq _,Iq _,Iq _,Iq _,.str _]) Ah rfl rfl rfl rfl rfl rfl (by omega) (Fo ha)) ?_
   refine Qp El (Qp Az ?_)
   refine Qp (Qc rfl (ih a hm (by have:=Fe hm;omega))) ?_
   refine Qp Ey (Qp Ap (AOL.nil (Bu (Ad (AW.region (Qp Az (Qp Ey (Qp Ap (Ag ?_)))))))))
   refine ⟨(p.1+1,p.2+Gw L a),?_,?_,GS.weaken ⟨rfl,rfl,rfl,rfl,trivial⟩ (.refl _)⟩
   · simp only;exact ⟨hlt,h3,by omega,hR.2.2.2⟩
   · first | omega | (simp only;omega)
  ·
   refine AW.exit ?_
   refine A5 (A5 (Bq (Ad (Ai (Qp Az (Qp Ap (Ag (AW.ret ?_))))))))
   refine Qr (Iq _) ?_
   simp only [Ae,AV.int.injEq,true_and]
   rw [hR.2.1]
   simp only [Bool.and_eq_false_iff] at hc1
   rcases hc1 with hc1 | hc1
   · rw [Dc hc1,F5]
   · rw [bE (by simpa using hc1)]
theorem c49 (e:Ex)(hs:Ar e≤1048576):Ax Tryz.prog 54 [.agg (cE e)] (.int .i64 (Ct e)):=by
 revert hs
 induction e using Ex.Aav
 rename_i e ih
 intro hs
 refine Ax.body (n:=22) Ah Tryz.func54 rfl rfl rfl fun H=>?_
 refine Ai (Qp Kx (Qp Ap (Dm (Qp Ap (Ag (AW.seq (Ai (Qp Ap (Ag ?_)))))))))
 refine AW.block ?_
 refine AW.Aao (fun (p:Nat×Nat)=>(⟨[(1,.ptr (cE e)),(3,.int .i64 (p.2:Int)),(4,.int .i64 (p.1:Int))],H,22⟩:St)) (fun (p:Nat×Nat)=>p.1≤e.args.length∧Ct e=max p.2 (((e.args.drop p.1).map Ct).foldr max 0)+1∧p.2≤1048576∧e.args.length≤1048576) (fun (p:Nat×Nat)=>e.args.length-p.1) ((0,0)) ?_ (GS.weaken ⟨rfl,rfl,rfl,trivial⟩ (.refl _)) ?_
 · exact ⟨Nat.zero_le _,by simpa using K5 e,Nat.zero_le _,Ng e hs⟩
 ·
  rintro p hR
  refine AW.seq (Ai (Qp Az (Qp Lp (Qp Dy ?_))))
  refine Qp (Al (n:=e.args.length) Ah rfl rfl rfl (by simp)) ?_
  refine Qp Ch (Ag (A6 (fun hc1=>?_) fun hc1=>?_))
  ·
   obtain ⟨a,ha⟩:=B5 hc1
   have hlt:=A4 ha
   have hm:=List.mem_of_getElem? ha
   have hsa:=Fe hm
   have hda:=Jz a
   have h2:=Og p.2 ha
   refine By (AW.seq (AW.block (AW.region (Qp Az (Qp Lp (Qp Dy (Qp Az ?_)))))))
   refine Qp (Af (c:=[Iq _,_,Iq _,Iq _,Iq _,Iq _,Iq _,.str _]) Ah rfl rfl rfl rfl rfl rfl (by omega) (Fo ha)) ?_
   refine Qp El ?_
   refine Qp (Qc rfl (ih a hm (by have:=Fe hm;omega))) ?_
   refine Qp (sB rfl rfl) ?_
   refine Qp Ap (AOL.nil (Bu (Ad (AW.region (Qp Az (Qp Ey (Qp Ap (Ag ?_))))))))
   refine ⟨(p.1+1,max p.2 (Ct a)),?_,?_,GS.weaken ⟨rfl,congrArg (AV.int .i64) (by simp only;omega),rfl,trivial⟩ (.refl _)⟩
   · simp only;exact ⟨hlt,by omega,by omega,hR.2.2.2⟩
   · first | omega | (simp only;omega)
  ·
   have hd:=Dc hc1
   refine AW.exit ?_
   refine A5 (A5 (Bq (Ad (Ai (Qp Az ?_)))))
   refine Qp (mU rfl rfl rfl (by have:=Jz e;constructor <;> omega)) ?_
   refine Qp Ap (Ag (AW.ret ?_))
   refine Qr (Iq _) ?_
   rw [hd] at hR
   simp only [List.map_nil,List.foldr_nil] at hR
   simp only [Ae,AV.int.injEq,true_and]
   omega
theorem c50 (e:Ex)(hs:Ar e≤1048576):Ax Tryz.prog 117 [.agg (cE e)] (.int .i64 (Ca e)):=by
 revert hs
 induction e using Ex.Aav
 rename_i e ih
 intro hs
 refine Ax.body (n:=27) Ah Tryz.func117 rfl rfl rfl fun H=>?_
 refine Ai (Qp Kx (Qp Ap (Ag (AW.seq (Ai (Qp El ?_))))))
 refine Qp (Qc rfl (c83 e)) ?_
 refine Qp Ap (Dm (Qp Az (Qp Cr (Ag (A6 (fun hc1=>?_) fun hc1=>?_)))))
 ·
  refine Ai (Qp Az (Qp Ap (Ag (Dw ?_))))
  refine Qr (Iq _) ?_
  simp only [Ae,AV.int.injEq,true_and]
  rw [Pv,if_pos hc1]
 ·
  have hn:Ca e=Ao Ca e.args:=by rw [Pv,if_neg (by simpa using hc1)]
  refine By (AW.seq (Ai (Qp Ap (Ag (AW.block ?_)))))
  have hlen:=Ng e hs
  refine AW.Aao (fun (p:Nat)=>(⟨[(1,.ptr (cE e)),(4,.int .i64 (p:Int))],H,27⟩:St)) (fun (p:Nat)=>p≤e.args.length∧Ca e=Ao Ca (e.args.drop p)) (fun (p:Nat)=>e.args.length-p) (0) ?_ (GS.weaken ⟨rfl,rfl,trivial⟩ (.refl _)) ?_
  · exact ⟨Nat.zero_le _,by simpa using hn⟩
  ·
   rintro p hR
   refine AW.seq (Ai (Qp Az (Qp Lp (Qp Dy ?_))))
   refine Qp (Al (n:=e.args.length) Ah rfl rfl rfl (by simp)) ?_
   refine Qp Ch (Ag (A6 (fun hc2=>?_) fun hc2=>?_))
   ·
    obtain ⟨a,ha⟩:=B5 hc2
    have hlt:=A4 ha
    have hm:=List.mem_of_getElem? ha
    refine By (AW.seq (AW.block (Ai (Qp Lp (Qp Dy (Qp Az ?_))))))
    refine Qp (Af (c:=[Iq _,_,Iq _,Iq _,Iq _,Iq _,Iq _,.str _]) Ah rfl rfl rfl rfl rfl rfl (by omega) (Fo ha)) ?_
    refine Qp El ?_
    refine Qp (Qc rfl (ih a hm (by have:=Fe hm;omega))) ?_
    refine Qp Ap (Dm (Qp Az (Qp Cr (Ag (A6 (fun hc3=>?_) fun hc3=>?_)))))
    ·
     refine Ai (Qp Az (Qp Ap (Ag (AW.ret (Bb (Aj (Aj (Bb (Aj ?_)))))))))
     refine Qr (Iq _) ?_
     simp only [Ae,AV.int.injEq,true_and]
     rw [hR.2,A8 ha,Ao,if_pos hc3]
    ·
     refine AW.skip (Bu (Ad (AW.region (Qp Az (Qp Ey (Qp Ap (Ag ?_)))))))
     refine ⟨p+1,?_,?_,GS.weaken ⟨rfl,rfl,trivial⟩ (.refl _)⟩
     · exact ⟨hlt,by rw [hR.2,A8 ha,Ao,if_neg (by simpa using hc3)]⟩
     · first | omega | (simp only;omega)
   ·
    have hd:=Dc hc2
    refine AW.exit ?_
    refine A5 (A5 (Bq (Ad (Ai (Qp Ap (Ag (AW.ret ?_)))))))
    refine Qr (Iq _) ?_
    simp only [Ae,AV.int.injEq,true_and]
    rw [hR.2,hd];rfl
theorem c46 (f:Nat)(hfn:vH Tryz.prog f=true)(cap:List AV)(fs:Ex→Int)(Pr:Ex→Prop)(hp:∀a,Pr a→∀b∈a.args,Pr b)(hf:∀a,Pr a→Ax Tryz.prog f (.agg (cE a)::cap) (.int .i64 (fs a)))(e:Ex)(he:Pr e):Ax Tryz.prog 99 [.agg (cE e),.fn (.func f) [] cap] (.int .i64 (I4 fs e)):=by
 revert he
 induction e using Ex.Aav
 rename_i e ih
 intro he
 refine Ax.body (n:=29) Ah Tryz.func99 rfl rfl rfl fun H=>?_
 refine Ai (Qp Kx (Qp Ap (Ag (AW.seq (Ai ?_)))))
 refine Qp (Bm (v:=.fn _ _ _) rfl) ?_
 refine Qp El ?_
 refine Qp (Eg hfn rfl rfl rfl (hf e he)) ?_
 refine Qp Ap (Dm (Qp Az (Qp Cr (Ag (A6 (fun hc1=>?_) fun hc1=>?_)))))
 ·
  refine Ai (Qp Az (Qp Ap (Ag (Dw ?_))))
  refine Qr (Iq _) ?_
  simp only [Ae,AV.int.injEq,true_and]
  rw [To,if_pos hc1]
 ·
  have hn:I4 fs e=Ao (I4 fs) e.args:=by rw [To,if_neg (by simpa using hc1)]
  refine By (AW.seq (Ai (Qp Lp (Qp Dy ?_))))
  refine Qp (Al (n:=e.args.length) Ah rfl rfl rfl (by simp)) ?_
  refine Qp Az (Ag (AW.block ?_))
  refine AW.sllen 16 rfl fun hlen=>?_
  simp only [List.length_map,maxLen] at hlen
  refine AW.Aao (fun (p:Nat)=>(⟨[(1,.fn (.func f) [] cap),(16,.sl 8 (e.args.map G8)),(17,.int .i64 e.args.length),(18,.int .i64 (p:Int))],H,29⟩:St)) (fun (p:Nat)=>p≤e.args.length∧I4 fs e=Ao (I4 fs) (e.args.drop p)) (fun (p:Nat)=>e.args.length-p) (0) ?_ (GS.weaken ⟨rfl,rfl,rfl,rfl,trivial⟩ (.refl _)) ?_
  · exact ⟨Nat.zero_le _,by simpa using hn⟩
  ·
   rintro p hR
   refine Ai (Qp Ch (Ag (AW.seq (A6 (fun hc2=>?_) fun hc2=>?_))))
   ·
    obtain ⟨a,ha⟩:=B5 hc2
    have hlt:=A4 ha
    have hm:=List.mem_of_getElem? ha
    refine By (AW.seq (AW.block (Ai ?_)))
    refine Qp (Af (c:=[Iq _,_,Iq _,Iq _,Iq _,Iq _,Iq _,.str _]) Ah rfl rfl rfl rfl rfl rfl (by omega) (Fo ha)) ?_
    refine Qp El ?_
    refine Qe (Ak (l:=[.int .i64 0,.sl 8 [],.int .i64 0,.int .i64 0,.int .i64 0,.int .i64 0,.int .i64 0,.str []]) (by kernel_rfl)) ?_
    rintro _ _ ⟨b7,rfl,rfl⟩
    refine Cv 0 [Iq _,_,Iq _,Iq _,Iq _,Iq _,Iq _,.str _] (_::_) ?_
    refine AOL.ghost (GS.Aan (t:=7) 0 rfl rfl) ?_
    refine Dm (Qp El ?_)
    refine Qp (Bm (v:=.fn _ _ _) rfl) ?_
    refine Qp (Qc rfl (ih a hm (hp e he a hm))) ?_
    refine Qp Ap (Dm (Qp Az (Qp Cr (Ag (A6 (fun hc3=>?_) fun hc3=>?_)))))
    ·
     refine Ai (Qp Az (Qp Ap (Ag (AW.ret (Bb (Aj (Aj (Bb (Aj ?_)))))))))
     refine Qr (Iq _) ?_
     simp only [Ae,AV.int.injEq,true_and]
     rw [hR.2,A8 ha,Ao,if_pos hc3]
    ·
     refine AW.skip (Bu (Ad (AW.region (Qp Ey (Qp Az (Ag ?_))))))
     refine ⟨p+1,?_,?_,GS.weaken ⟨rfl,rfl,rfl,rfl,trivial⟩ (.refl _)⟩
     · exact ⟨hlt,by rw [hR.2,A8 ha,Ao,if_neg (by simpa using hc3)]⟩
     · first | omega | (simp only;omega)
   ·
    have hd:=Dc hc2
    refine AW.exit ?_
    refine A5 (A5 (Bq (Ad (Ai (Qp Ap (Ag (AW.ret ?_)))))))
    refine Qr (Iq _) ?_
    simp only [Ae,AV.int.injEq,true_and]
    rw [hR.2,hd];rfl
theorem c21 (e:Ex)(hs:Ar e≤1048576):Ax Tryz.prog 69 [.agg (cE e)] (.int .i64 (B4 e)):=by
  refine Ax.body (n:=18) Ah Tryz.func69 rfl rfl rfl fun H=>?_
  refine AW.seq (AW.region (Qp Kx (Qp Ap (AOL.nil (Ad (AW.seq (AW.region (Qp El ?_))))))))
  refine Qp (Qc rfl (c23 e hs)) ?_
  refine Qp N6 (Qp Ke (Qp Ke (Qp Ap (Qp Ap (AOL.nil (Ad (AW.seq (AW.block (AW.seq ?_)))))))))
  refine AW.region (Qp Az (Qp Ha (Qp Bl (AOL.nil (Ad (A6 (fun hc1=>?_) fun hc1=>?_))))))
  · skip
    refine AW.seq (AW.region (Qp Ap (AOL.nil (Ad (AW.ret (Bb (Aj ?_)))))))
    refine Qr (Iq _) ?_
    try simp only [C1,Bool.and_true] at *
    first
      | (simp only [Ae,B4];(first | rw [if_pos hc1] | skip);first | done | rfl)
      | (try simp only [Bool.not_eq_true',Bool.not_eq_false'] at *
         first
         | (simp only [Ae,B4, *,Bool.false_eq_true,↓reduceIte,Bool.true_or,Bool.or_true,Bool.false_or,Bool.or_false,Bool.true_and,Bool.and_true,Bool.false_and,Bool.and_false,Bool.not_true,Bool.not_false];done)
         | (simp [Ae,B4, *];done)
         | (simp_all [Ae,B4];done))
      | skip
  · skip
    refine AW.seq (AW.region (Qp Az (Qp Ha (Qp Bl (AOL.nil (Ad (A6 (fun hc2=>?_) fun hc2=>?_)))))))
    · skip
      refine AW.seq (AW.region (Qp Ap (AOL.nil (Ad (AW.ret (Bb (Aj ?_)))))))
      refine Qr (Iq _) ?_
      try simp only [C1,Bool.and_true] at *
      first
        | (simp only [Ae,B4];(first | rw [iN hc1] | skip);(first | rw [if_pos hc2] | skip);first | done | rfl)
        | (try simp only [Bool.not_eq_true',Bool.not_eq_false'] at *
           first
           | (simp only [Ae,B4, *,Bool.false_eq_true,↓reduceIte,Bool.true_or,Bool.or_true,Bool.false_or,Bool.or_false,Bool.true_and,Bool.and_true,Bool.false_and,Bool.and_false,Bool.not_true,Bool.not_false];done)
           | (simp [Ae,B4, *];done)
           | (simp_all [Ae,B4];done))
        | skip
    · skip
      refine AW.skip (Bu (Ad (AW.seq (AW.region (Qp El ?_)))))
      refine Qp (Qc rfl (c46 100 (by kernel_rfl) [] B3 (fun _=>True) (fun _ _ _ _=>trivial) (fun a _=>c47 a) e trivial)) ?_
      refine Qp Ap (AOL.nil (Ad (AW.ret ?_)))
      refine Qr (Iq _) ?_
      try simp only [C1,Bool.and_true] at *
      first
        | (simp only [Ae,B4];(first | rw [iN hc1] | skip);(first | rw [iN hc2] | skip);first | done | rfl)
        | (try simp only [Bool.not_eq_true',Bool.not_eq_false'] at *
           first
           | (simp only [Ae,B4, *,Bool.false_eq_true,↓reduceIte,Bool.true_or,Bool.or_true,Bool.false_or,Bool.or_false,Bool.true_and,Bool.and_true,Bool.false_and,Bool.and_false,Bool.not_true,Bool.not_false];done)
           | (simp [Ae,B4, *];done)
           | (simp_all [Ae,B4];done))
        | skip
theorem c25 (e:Ex)(hs:Ar e≤1048576):Ax Tryz.prog 87 [.agg (cE e)] (.int .i64 (B4 e)):=by
  refine Ax.body (n:=11) Ah Tryz.func87 rfl rfl rfl fun H=>?_
  refine AW.seq (AW.region (Qp Kx (Qp Ap (AOL.nil (Ad (AW.seq (AW.seq (AW.region (Qp El ?_)))))))))
  refine Qp (Qc rfl (c48 64 e hs)) ?_
  refine Qp Ha (AOL.nil (Ad (A6 (fun hc1=>?_) fun hc1=>?_)))
  · skip
    have hct:decide (64<(Ar e:Int))=true:=by have:=Wi 64 e;simp at hc1 ⊢;omega
    refine AW.seq (AW.region (Qp Ap (AOL.nil (Ad (Dw ?_)))))
    refine Qr (Iq _) ?_
    try simp only [C1,Bool.and_true] at *
    first
      | (simp only [Ae,B4];(first | rw [if_pos hc1] | skip);first | done | rfl)
      | (try simp only [Bool.not_eq_true',Bool.not_eq_false'] at *
         first
         | (simp only [Ae,B4, *,Bool.false_eq_true,↓reduceIte,Bool.true_or,Bool.or_true,Bool.false_or,Bool.or_false,Bool.true_and,Bool.and_true,Bool.false_and,Bool.and_false,Bool.not_true,Bool.not_false];done)
         | (simp [Ae,B4, *];done)
         | (simp_all [Ae,B4];done))
      | skip
  · skip
    have hct:decide (64<(Ar e:Int))=false:=by have:=Wi 64 e;simp at hc1 ⊢;omega
    refine By (AW.seq (AW.seq (AW.region (Qp El ?_))))
    refine Qp (Qc rfl (c49 e hs)) ?_
    refine Qp Ha (AOL.nil (Ad (A6 (fun hc2=>?_) fun hc2=>?_)))
    · skip
      refine AW.seq (AW.region (Qp Ap (AOL.nil (Ad (Dw ?_)))))
      refine Qr (Iq _) ?_
      try simp only [C1,Bool.and_true] at *
      first
        | (simp only [Ae,B4];(first | rw [iN hc1] | skip);(first | rw [if_pos hc2] | skip);first | done | rfl)
        | (try simp only [Bool.not_eq_true',Bool.not_eq_false'] at *
           first
           | (simp only [Ae,B4, *,Bool.false_eq_true,↓reduceIte,Bool.true_or,Bool.or_true,Bool.false_or,Bool.or_false,Bool.true_and,Bool.and_true,Bool.false_and,Bool.and_false,Bool.not_true,Bool.not_false];done)
           | (simp [Ae,B4, *];done)
           | (simp_all [Ae,B4];done))
        | skip
    · skip
      refine By (AW.seq (AW.region (Qp El ?_)))
      refine Qp (Qc rfl (c50 e hs)) ?_
      refine Qp Ap (AOL.nil (Ad (AW.ret ?_)))
      refine Qr (Iq _) ?_
      try simp only [C1,Bool.and_true] at *
      first
        | (simp only [Ae,B4];(first | rw [iN hc1] | skip);(first | rw [iN hc2] | skip);first | done | rfl)
        | (try simp only [Bool.not_eq_true',Bool.not_eq_false'] at *
           first
           | (simp only [Ae,B4, *,Bool.false_eq_true,↓reduceIte,Bool.true_or,Bool.or_true,Bool.false_or,Bool.or_false,Bool.true_and,Bool.and_true,Bool.false_and,Bool.and_false,Bool.not_true,Bool.not_false];done)
           | (simp [Ae,B4, *];done)
           | (simp_all [Ae,B4];done))
        | skip
theorem c34 (e:Ex)(hs:Ar e≤1048576):Ax Tryz.prog 24 [.agg (cE e)] (.bool (decide (Ar e≤200∧Ct e≤100))):=by
 refine Ax.body (n:=11) Ah Tryz.func24 rfl rfl rfl fun H=>?_
 refine Ai (Qp Kx (Qp Bl (Dm (Qp El ?_))))
 refine Qp (Qc rfl (c48 200 e hs)) ?_
 refine Qp N8 (Qp B0 (Qg [] Qw El ?_))
 refine Qg [(7,_)] Qw (Qc rfl (c49 e hs)) ?_
 refine Qg [(8,_)] Qw N8 (Qp F7 (Qp Bl (Ag (AW.ret ?_))))
 refine Qr (.bool _) ?_
 have:=Wi 200 e
 show AV.bool _=AV.bool _
 congr 1
 rw [Bool.eq_iff_iff]
 simp
 omega

end Go.Proofs.YtjedflcpjlgokaaGreatDoor
