/-
  Walks of layer 8: nodes, sizes, checks. No condition.
-/
import Derived.Test.YtjedflcpjlgokaaGreatDoorAz
import Derived.Test.YtjedflcpjlgokaaGreatDoorW1
import Derived.Test.YtjedflcpjlgokaaGreatDoorK02
import Derived.KernelRfl
namespace Go.Proofs.YtjedflcpjlgokaaGreatDoor
open Go Go.Aw
set_option maxHeartbeats 400000
set_option maxRecDepth 20000
set_option linter.unusedVariables false
set_option linter.unusedSimpArgs false

theorem c82 (e:Ex):Ax Tryz.prog 132 [.agg (cE e)] (.int .i64 (E3 e)):=by
  refine Ax.body (n:=32) Ai Tryz.func132 rfl rfl rfl fun H=>?_
  refine AW.seq (AW.region (Qp Nc (Qp Ar (AOL.nil (Ae (AW.seq (AW.seq (AW.region (Qp J2 ?_)))))))))
  refine Qp (Cv [Iq _,Iq _,.str _]) ?_
  refine Qp (Qc rfl (c94 e.val)) ?_
  refine Qp Ar (AOL.nil (Ae (AW.seq (AW.region (Qp A0 (Qp Cr (AOL.nil (Ae (A3 (fun hc1=>?_) fun hc1=>?_)))))))))
  · skip
    refine AW.seq (AW.region (Qp A0 (Qp Ar (AOL.nil (Ae (Du ?_))))))
    refine Qr (Iq _) ?_
    try simp only [Co,Bool.and_true] at *
    first
      | (simp only [Ad,E3];(first | rw [if_pos hc1] | skip);first | done | rfl)
      | (try simp only [Bool.not_eq_true',Bool.not_eq_false'] at *
         first
         | (simp only [Ad,E3,isV0, *,Bool.false_eq_true,↓reduceIte,Bool.true_or,Bool.or_true,Bool.false_or,Bool.or_false,Bool.true_and,Bool.and_true,Bool.false_and,Bool.and_false,Bool.not_true,Bool.not_false];done)
         | (simp [Ad,E3,isV0, *];done)
         | (simp_all [Ad,E3,isV0];done))
      | skip
  · skip
    refine By (AW.seq (AW.seq (AW.region (Qp K9 (Qp Bp (Qp A6 (Qp Bu (Qg [] Qw Sl (Qg [(14,_)] Qw Bp ?_)))))))))
    refine Qg [] Qw J2 (Qg [(16,_)] Qw (Cv [Iq _,Iq _,.str _]) ?_)
    refine AOL.Aaf (y:=.bool _) _ [(15,_),(17,_)] rfl (oE.all ⟨Ent.Aab _ _,Ent.Aab _ _,trivial⟩) (fun hG=>E6 (by kernel_rfl) rfl rfl (c99 e.kind e.val)) rfl ?_
    refine Qg [(18,_)] Qw Hp (Qg [(19,_)] Qw Bu (Qg [] Qw Sl (Qg [(21,_)] Qw Bp (Qg [(22,_)] Qw A6 (Qg [(23,_)] Qw Bu (Qg [] Qw J2 (Qg [(25,_)] Qw (Cv [Iq _,Iq _,.str _]) (Qg [] Qw (Fr [Iq _,Iq _,.str _]) ?_))))))))
    refine AOL.Aaf (y:=.bool _) _ [(26,_),(27,_)] rfl (oE.all ⟨Ent.Aab _ _,Ent.Aab _ _,trivial⟩) (fun hG=>Ii Ai rfl rfl rfl rfl rfl) rfl ?_
    refine Qg [(24,_),(28,_)] Qw Gg (Qg [(20,_),(29,_)] Qw E2 (Qp Gg (AOL.nil (Ae (A3 (fun hc2=>?_) fun hc2=>?_)))))
    · skip
      refine AW.seq (AW.region (Qp Ar (AOL.nil (Ae (Du ?_)))))
      refine Qr (Iq _) ?_
      try simp only [Co,Bool.and_true] at *
      first
        | (simp only [Ad,E3];(first | rw [iN hc1] | skip);(first | rw [if_pos hc2] | skip);first | done | rfl)
        | (try simp only [Bool.not_eq_true',Bool.not_eq_false'] at *
           first
           | (simp only [Ad,E3,isV0, *,Bool.false_eq_true,↓reduceIte,Bool.true_or,Bool.or_true,Bool.false_or,Bool.or_false,Bool.true_and,Bool.and_true,Bool.false_and,Bool.and_false,Bool.not_true,Bool.not_false];done)
           | (simp [Ad,E3,isV0, *];done)
           | (simp_all [Ad,E3,isV0];done))
        | skip
    · skip
      refine By (AW.seq (AW.region (Qp Ar (AOL.nil (Ae (AW.ret ?_))))))
      refine Qr (Iq _) ?_
      try simp only [Co,Bool.and_true] at *
      first
        | (simp only [Ad,E3];(first | rw [iN hc1] | skip);(first | rw [iN hc2] | skip);first | done | rfl)
        | (try simp only [Bool.not_eq_true',Bool.not_eq_false'] at *
           first
           | (simp only [Ad,E3,isV0, *,Bool.false_eq_true,↓reduceIte,Bool.true_or,Bool.or_true,Bool.false_or,Bool.or_false,Bool.true_and,Bool.and_true,Bool.false_and,Bool.and_false,Bool.not_true,Bool.not_false];done)
           | (simp [Ad,E3,isV0, *];done)
           | (simp_all [Ad,E3,isV0];done))
        | skip
theorem c47 (e:Ex):Ax Tryz.prog 100 [.agg (cE e)] (.int .i64 (Bt e)):=by
  refine Ax.body (n:=114) Ai Tryz.func100 rfl rfl rfl fun H=>?_
  refine AW.seq (AW.region (Qp Nc (Qp Ar (AOL.nil (Ae (AW.seq (AW.region (Qp K9 (Qp Bp ?_)))))))))
  refine Qp (Qc rfl (c81 e.op)) ?_
  refine Qp Nb (Qp I6 (Qp eR (Qp Ar (Qp Bm (AOL.nil (Ae (AW.seq (AW.seq (AW.region ?_)))))))))
  refine Qp Bu (Qp Hp (AOL.nil (Ae (A3 (fun hc1=>?_) fun hc1=>?_))))
  · skip
    refine AW.seq (AW.region (Qp Ar (AOL.nil (Ae (Du ?_)))))
    refine Qr (Iq _) ?_
    try simp only [Co,Bool.and_true] at *
    first
      | (simp only [Ad,Bt,Bg];(first | rw [if_pos hc1] | skip);first | done | rfl)
      | (try simp only [Bool.not_eq_true',Bool.not_eq_false'] at *
         first
         | (simp only [Ad,Bt,Bg,isV0, *,Bool.false_eq_true,↓reduceIte,Bool.true_or,Bool.or_true,Bool.false_or,Bool.or_false,Bool.true_and,Bool.and_true,Bool.false_and,Bool.and_false,Bool.not_true,Bool.not_false];done)
         | (simp [Ad,Bt,Bg,isV0, *];done)
         | (simp_all [Ad,Bt,Bg,isV0];done))
      | skip
  · skip
    refine By (AW.seq (AW.seq (AW.region (Qp Oy (Qp Ee ?_)))))
    refine Qp (Al (n:=e.args.length) Ai rfl rfl rfl (by simp)) ?_
    refine Qp A0 (Qp Cr (AOL.nil (Ae (A3 (fun hc2=>?_) fun hc2=>?_))))
    · skip
      refine AW.seq (AW.region (Qp Ar (AOL.nil (Ae (Du ?_)))))
      refine Qr (Iq _) ?_
      try simp only [Co,Bool.and_true] at *
      first
        | (simp only [Ad,Bt,Bg];(first | rw [iN hc1] | skip);(first | rw [if_pos hc2] | skip);first | done | rfl)
        | (try simp only [Bool.not_eq_true',Bool.not_eq_false'] at *
           first
           | (simp only [Ad,Bt,Bg,isV0, *,Bool.false_eq_true,↓reduceIte,Bool.true_or,Bool.or_true,Bool.false_or,Bool.or_false,Bool.true_and,Bool.and_true,Bool.false_and,Bool.and_false,Bool.not_true,Bool.not_false];done)
           | (simp [Ad,Bt,Bg,isV0, *];done)
           | (simp_all [Ad,Bt,Bg,isV0];done))
        | skip
    · skip
      refine By (AW.seq (AW.region (Qp K9 (Qp Bp ?_))))
      refine Qp (Qc rfl (c52 e.op)) ?_
      refine Qp Nb (Qp eR (Qp eR (Qp Bm (Qp Bm (AOL.nil (Ae (AW.seq (AW.seq (AW.region ?_)))))))))
      refine Qp Bu (Qp Bu (Qg [] Qw Xs (Qg [(31,_)] Qw Bp (Qg [(32,_)] Qw Ck (Qg [(33,_)] Qw Bu (Qg [] Qw Xs (Qg [(35,_)] Qw Bp (Qg [(36,_)] Qw Nj (Qg [(34,_),(37,_)] Qw E2 ?_)))))))))
      refine Qp Gg (Qp Bu (Qg [] Qw Bu (Qg [(41,_)] Qw Bu (Qg [] Qw Qv (Qg [(43,_)] Qw Bp (Qg [(44,_)] Qw Ck (Qg [(45,_)] Qw Bu (Qg [] Qw Qv (Qg [(47,_)] Qw Bp ?_)))))))))
      refine Qg [(48,_)] Qw Nj (Qg [(46,_),(49,_)] Qw E2 (Qg [(42,_),(50,_)] Qw Gg (Qp E2 (AOL.nil (Ae (A3 (fun hc3=>?_) fun hc3=>?_))))))
      · skip
        refine AW.seq (AW.region (Qp Ar (AOL.nil (Ae (Du ?_)))))
        refine Qr (Iq _) ?_
        try simp only [Co,Bool.and_true] at *
        first
          | (simp only [Ad,Bt,Bg];(first | rw [iN hc1] | skip);(first | rw [iN hc2] | skip);(first | rw [if_pos hc3] | skip);first | done | rfl)
          | (try simp only [Bool.not_eq_true',Bool.not_eq_false'] at *
             first
             | (simp only [Ad,Bt,Bg,isV0, *,Bool.false_eq_true,↓reduceIte,Bool.true_or,Bool.or_true,Bool.false_or,Bool.or_false,Bool.true_and,Bool.and_true,Bool.false_and,Bool.and_false,Bool.not_true,Bool.not_false];done)
             | (simp [Ad,Bt,Bg,isV0, *];done)
             | (simp_all [Ad,Bt,Bg,isV0];done))
          | skip
      · skip
        refine By (AW.seq (AW.region (Qp K9 (Qp Bp (Qp A6 (Qp Bm (AOL.nil (Ae (AW.seq ?_)))))))))
        refine AW.seq (AW.region (Qp Bu (Qp Bu (Qg [] Qw Sl (Qg [(58,_)] Qw Bp (Qg [(59,_)] Qw Ck (Qg [(60,_)] Qw Bu (Qg [] Qw Sl (Qg [(62,_)] Qw Bp ?_)))))))))
        refine Qg [(63,_)] Qw G6 (Qg [(61,_),(64,_)] Qw E2 (Qp Gg (AOL.nil (Ae (A3 (fun hc4=>?_) fun hc4=>?_)))))
        · skip
          refine AW.seq (AW.region (Qp Ar (AOL.nil (Ae (Du ?_)))))
          refine Qr (Iq _) ?_
          try simp only [Co,Bool.and_true] at *
          first
            | (simp only [Ad,Bt,Bg];(first | rw [iN hc1] | skip);(first | rw [iN hc2] | skip);(first | rw [iN hc3] | skip);(first | rw [if_pos hc4] | skip);first | done | rfl)
            | (try simp only [Bool.not_eq_true',Bool.not_eq_false'] at *
               first
               | (simp only [Ad,Bt,Bg,isV0, *,Bool.false_eq_true,↓reduceIte,Bool.true_or,Bool.or_true,Bool.false_or,Bool.or_false,Bool.true_and,Bool.and_true,Bool.false_and,Bool.and_false,Bool.not_true,Bool.not_false];done)
               | (simp [Ad,Bt,Bg,isV0, *];done)
               | (simp_all [Ad,Bt,Bg,isV0];done))
            | skip
        · skip
          refine By (AW.seq (AW.region (Qp Bu (Qp Bu (Qg [] Qw K9 (Qg [(69,_)] Qw Bp (Qg [(70,_)] Qw A6 (Qp E2 (Qp Bm ?_)))))))))
          refine AOL.nil (Ae (AW.seq (AW.seq (AW.region (Qp Bu (AOL.nil (Ae (A3 (fun hc5=>?_) fun hc5=>?_))))))))
          · skip
            refine AW.seq (AW.region (Qp E7 ?_))
            refine Qp (Qc rfl (c82 e)) ?_
            refine Qp Ar (AOL.nil (Ae (AW.seq (AW.region (Qp A0 (Qp Cr (AOL.nil (Ae (A3 (fun hc6=>?_) fun hc6=>?_)))))))))
            · skip
              refine AW.seq (AW.region (Qp A0 (Qp Ar (AOL.nil (Ae (Du ?_))))))
              refine Qr (Iq _) ?_
              try simp only [Co,Bool.and_true] at *
              first
                | (simp only [Ad,Bt,Bg];(first | rw [iN hc1] | skip);(first | rw [iN hc2] | skip);(first | rw [iN hc3] | skip);(first | rw [iN hc4] | skip);(first | rw [if_pos hc5] | skip);(first | rw [if_pos hc6] | skip);first | done | rfl)
                | (try simp only [Bool.not_eq_true',Bool.not_eq_false'] at *
                   first
                   | (simp only [Ad,Bt,Bg,isV0, *,Bool.false_eq_true,↓reduceIte,Bool.true_or,Bool.or_true,Bool.false_or,Bool.or_false,Bool.true_and,Bool.and_true,Bool.false_and,Bool.and_false,Bool.not_true,Bool.not_false];done)
                   | (simp [Ad,Bt,Bg,isV0, *];done)
                   | (simp_all [Ad,Bt,Bg,isV0];done))
                | skip
            · skip
              refine By (AW.seq (AW.seq (AW.region (Qp Bu (Qp Hp (Qp Bu (Qg [] Qw Xs (Qg [(82,_)] Qw Bp (Qg [(83,_)] Qw Cr ?_)))))))))
              refine Qp Gg (Qp Bu (Qg [] Qw Bu (Qg [(87,_)] Qw Hp (Qg [(88,_)] Qw Bu (Qg [] Qw Qv (Qg [(90,_)] Qw Bp (Qg [(91,_)] Qw Cr (Qg [(89,_),(92,_)] Qw Gg (Qp E2 ?_)))))))))
              refine Qp Bu (Qg [] Qw Bu (Qg [(96,_)] Qw Hp (Qg [(97,_)] Qw Bu (Qg [] Qw Sl (Qg [(99,_)] Qw Bp (Qg [(100,_)] Qw Cr (Qg [(98,_),(101,_)] Qw Gg (Qp E2 (Qp Bu ?_)))))))))
              refine Qg [] Qw Bu (Qg [(105,_)] Qw Hp (Qg [(106,_)] Qw Bu (Qg [] Qw J2 (Qg [(108,_)] Qw (Cv [Iq _,Iq _,.str _]) (Qg [] Qw (Fr [Iq _,Iq _,.str _]) ?_)))))
              refine AOL.Aaf (y:=.bool _) _ [(109,_),(110,_)] rfl (oE.all ⟨Ent.Aab _ _,Ent.Aab _ _,trivial⟩) (fun hG=>Ii Ai rfl rfl rfl rfl rfl) rfl ?_
              refine Qg [(107,_),(111,_)] Qw Gg (Qp E2 (AOL.nil (Ae (A3 (fun hc7=>?_) fun hc7=>?_))))
              · skip
                refine AW.seq (AW.region (Qp Ar (AOL.nil (Ae (Du ?_)))))
                refine Qr (Iq _) ?_
                try simp only [Co,Bool.and_true] at *
                first
                  | (simp only [Ad,Bt,Bg];(first | rw [iN hc1] | skip);(first | rw [iN hc2] | skip);(first | rw [iN hc3] | skip);(first | rw [iN hc4] | skip);(first | rw [if_pos hc5] | skip);(first | rw [iN hc6] | skip);(first | rw [if_pos hc7] | skip);first | done | rfl)
                  | (try simp only [Bool.not_eq_true',Bool.not_eq_false'] at *
                     first
                     | (simp only [Ad,Bt,Bg,isV0, *,Bool.false_eq_true,↓reduceIte,Bool.true_or,Bool.or_true,Bool.false_or,Bool.or_false,Bool.true_and,Bool.and_true,Bool.false_and,Bool.and_false,Bool.not_true,Bool.not_false];done)
                     | (simp [Ad,Bt,Bg,isV0, *];done)
                     | (simp_all [Ad,Bt,Bg,isV0];done))
                  | skip
              · skip
                refine By (AW.seq (AW.region (Qp Ar (AOL.nil (Ae (AW.ret ?_))))))
                refine Qr (Iq _) ?_
                try simp only [Co,Bool.and_true] at *
                first
                  | (simp only [Ad,Bt,Bg];(first | rw [iN hc1] | skip);(first | rw [iN hc2] | skip);(first | rw [iN hc3] | skip);(first | rw [iN hc4] | skip);(first | rw [if_pos hc5] | skip);(first | rw [iN hc6] | skip);(first | rw [iN hc7] | skip);first | done | rfl)
                  | (try simp only [Bool.not_eq_true',Bool.not_eq_false'] at *
                     first
                     | (simp only [Ad,Bt,Bg,isV0, *,Bool.false_eq_true,↓reduceIte,Bool.true_or,Bool.or_true,Bool.false_or,Bool.or_false,Bool.true_and,Bool.and_true,Bool.false_and,Bool.and_false,Bool.not_true,Bool.not_false];done)
                     | (simp [Ad,Bt,Bg,isV0, *];done)
                     | (simp_all [Ad,Bt,Bg,isV0];done))
                  | skip
          · skip
            refine By (AW.seq (AW.seq (AW.region (Qp Bu (Qp Hp (Qp Bu (Qg [] Qw Xs (Qg [(82,_)] Qw Bp (Qg [(83,_)] Qw Cr ?_)))))))))
            refine Qp Gg (Qp Bu (Qg [] Qw Bu (Qg [(87,_)] Qw Hp (Qg [(88,_)] Qw Bu (Qg [] Qw Qv (Qg [(90,_)] Qw Bp (Qg [(91,_)] Qw Cr (Qg [(89,_),(92,_)] Qw Gg (Qp E2 ?_)))))))))
            refine Qp Bu (Qg [] Qw Bu (Qg [(96,_)] Qw Hp (Qg [(97,_)] Qw Bu (Qg [] Qw Sl (Qg [(99,_)] Qw Bp (Qg [(100,_)] Qw Cr (Qg [(98,_),(101,_)] Qw Gg (Qp E2 (Qp Bu ?_)))))))))
            refine Qg [] Qw Bu (Qg [(105,_)] Qw Hp (Qg [(106,_)] Qw Bu (Qg [] Qw J2 (Qg [(108,_)] Qw (Cv [Iq _,Iq _,.str _]) (Qg [] Qw (Fr [Iq _,Iq _,.str _]) ?_)))))
            refine AOL.Aaf (y:=.bool _) _ [(109,_),(110,_)] rfl (oE.all ⟨Ent.Aab _ _,Ent.Aab _ _,trivial⟩) (fun hG=>Ii Ai rfl rfl rfl rfl rfl) rfl ?_
            refine Qg [(107,_),(111,_)] Qw Gg (Qp E2 (AOL.nil (Ae (A3 (fun hc8=>?_) fun hc8=>?_))))
            · skip
              refine AW.seq (AW.region (Qp Ar (AOL.nil (Ae (Du ?_)))))
              refine Qr (Iq _) ?_
              try simp only [Co,Bool.and_true] at *
              first
                | (simp only [Ad,Bt,Bg];(first | rw [iN hc1] | skip);(first | rw [iN hc2] | skip);(first | rw [iN hc3] | skip);(first | rw [iN hc4] | skip);(first | rw [iN hc5] | skip);(first | rw [if_pos hc8] | skip);first | done | rfl)
                | (try simp only [Bool.not_eq_true',Bool.not_eq_false'] at *
                   first
                   | (simp only [Ad,Bt,Bg,isV0, *,Bool.false_eq_true,↓reduceIte,Bool.true_or,Bool.or_true,Bool.false_or,Bool.or_false,Bool.true_and,Bool.and_true,Bool.false_and,Bool.and_false,Bool.not_true,Bool.not_false];done)
                   | (simp [Ad,Bt,Bg,isV0, *];done)
                   | (simp_all [Ad,Bt,Bg,isV0];done))
                | skip
            · skip
              refine By (AW.seq (AW.region (Qp Ar (AOL.nil (Ae (AW.ret ?_))))))
              refine Qr (Iq _) ?_
              try simp only [Co,Bool.and_true] at *
              first
                | (simp only [Ad,Bt,Bg];(first | rw [iN hc1] | skip);(first | rw [iN hc2] | skip);(first | rw [iN hc3] | skip);(first | rw [iN hc4] | skip);(first | rw [iN hc5] | skip);(first | rw [iN hc8] | skip);first | done | rfl)
                | (try simp only [Bool.not_eq_true',Bool.not_eq_false'] at *
                   first
                   | (simp only [Ad,Bt,Bg,isV0, *,Bool.false_eq_true,↓reduceIte,Bool.true_or,Bool.or_true,Bool.false_or,Bool.or_false,Bool.true_and,Bool.and_true,Bool.false_and,Bool.and_false,Bool.not_true,Bool.not_false];done)
                   | (simp [Ad,Bt,Bg,isV0, *];done)
                   | (simp_all [Ad,Bt,Bg,isV0];done))
                | skip
theorem c83 (e:Ex):Ax Tryz.prog 143 [.agg (cE e)] (.int .i64 (Bt e)):=by
  refine Ax.body (n:=131) Ai Tryz.func143 rfl rfl rfl fun H=>?_
  refine AW.seq (AW.region (Qp Nc (Qp Ar (AOL.nil (Ae (AW.seq (AW.region (Qp K9 (Qp Bp ?_)))))))))
  refine Qp (Qc rfl (c100 e.op)) ?_
  refine Qp Ar (AOL.nil (Ae (AW.seq (AW.seq (AW.region (Qp A0 (Qp Ck (AOL.nil (Ae (A3 (fun hc1=>?_) fun hc1=>?_))))))))))
  · skip
    refine AW.seq (AW.region (Qp Ar (AOL.nil (Ae (Du ?_)))))
    refine Qr (Iq _) ?_
    rw [←Hh]
    try simp only [Co,Bool.and_true] at *
    first
      | (simp only [Ad,Cf,Bg];(first | rw [if_pos hc1] | skip);first | done | rfl)
      | (try simp only [Bool.not_eq_true',Bool.not_eq_false'] at *
         first
         | (simp only [Ad,Cf,Bg,isV0, *,Bool.false_eq_true,↓reduceIte,Bool.true_or,Bool.or_true,Bool.false_or,Bool.or_false,Bool.true_and,Bool.and_true,Bool.false_and,Bool.and_false,Bool.not_true,Bool.not_false];done)
         | (simp [Ad,Cf,Bg,isV0, *];done)
         | (simp_all [Ad,Cf,Bg,isV0];done))
      | skip
  · skip
    refine By (AW.seq (AW.seq (AW.region (Qp Oy (Qp Ee ?_)))))
    refine Qp (Al (n:=e.args.length) Ai rfl rfl rfl (by simp)) ?_
    refine Qp A0 (Qp Cr (AOL.nil (Ae (A3 (fun hc2=>?_) fun hc2=>?_))))
    · skip
      refine AW.seq (AW.region (Qp Ar (AOL.nil (Ae (Du ?_)))))
      refine Qr (Iq _) ?_
      rw [←Hh]
      try simp only [Co,Bool.and_true] at *
      first
        | (simp only [Ad,Cf,Bg];(first | rw [iN hc1] | skip);(first | rw [if_pos hc2] | skip);first | done | rfl)
        | (try simp only [Bool.not_eq_true',Bool.not_eq_false'] at *
           first
           | (simp only [Ad,Cf,Bg,isV0, *,Bool.false_eq_true,↓reduceIte,Bool.true_or,Bool.or_true,Bool.false_or,Bool.or_false,Bool.true_and,Bool.and_true,Bool.false_and,Bool.and_false,Bool.not_true,Bool.not_false];done)
           | (simp [Ad,Cf,Bg,isV0, *];done)
           | (simp_all [Ad,Cf,Bg,isV0];done))
        | skip
    · skip
      refine By (AW.seq (AW.region (Qp K9 (Qp Bp ?_))))
      refine Qp (Qc rfl (c84 e.op)) ?_
      refine Qp Nb (Qp eR (Qp eR (Qp Bm (Qp Bm (AOL.nil (Ae (AW.seq (AW.seq (AW.region ?_)))))))))
      refine Qp Bu (Qp Bu (Qg [] Qw Xs (Qg [(27,_)] Qw Bp (Qg [(28,_)] Qw Ck (Qg [(29,_)] Qw Bu (Qg [] Qw Xs (Qg [(31,_)] Qw Bp (Qg [(32,_)] Qw Nj (Qg [(30,_),(33,_)] Qw E2 ?_)))))))))
      refine Qp Gg (Qp Bu (Qg [] Qw Bu (Qg [(37,_)] Qw Bu (Qg [] Qw Qv (Qg [(39,_)] Qw Bp (Qg [(40,_)] Qw Ck (Qg [(41,_)] Qw Bu (Qg [] Qw Qv (Qg [(43,_)] Qw Bp ?_)))))))))
      refine Qg [(44,_)] Qw Nj (Qg [(42,_),(45,_)] Qw E2 (Qg [(38,_),(46,_)] Qw Gg (Qp E2 (AOL.nil (Ae (A3 (fun hc3=>?_) fun hc3=>?_))))))
      · skip
        refine AW.seq (AW.region (Qp Ar (AOL.nil (Ae (Du ?_)))))
        refine Qr (Iq _) ?_
        rw [←Hh]
        try simp only [Co,Bool.and_true] at *
        first
          | (simp only [Ad,Cf,Bg];(first | rw [iN hc1] | skip);(first | rw [iN hc2] | skip);(first | rw [if_pos hc3] | skip);first | done | rfl)
          | (try simp only [Bool.not_eq_true',Bool.not_eq_false'] at *
             first
             | (simp only [Ad,Cf,Bg,isV0, *,Bool.false_eq_true,↓reduceIte,Bool.true_or,Bool.or_true,Bool.false_or,Bool.or_false,Bool.true_and,Bool.and_true,Bool.false_and,Bool.and_false,Bool.not_true,Bool.not_false];done)
             | (simp [Ad,Cf,Bg,isV0, *];done)
             | (simp_all [Ad,Cf,Bg,isV0];done))
          | skip
      · skip
        refine By (AW.seq (AW.region (Qp K9 (Qp Bp (Qp A6 (Qp Bm (AOL.nil (Ae (AW.seq ?_)))))))))
        refine AW.seq (AW.region (Qp Bu (Qp Bu (Qg [] Qw Sl (Qg [(54,_)] Qw Bp (Qg [(55,_)] Qw Ck (Qg [(56,_)] Qw Bu (Qg [] Qw Sl (Qg [(58,_)] Qw Bp ?_)))))))))
        refine Qg [(59,_)] Qw G6 (Qg [(57,_),(60,_)] Qw E2 (Qp Gg (AOL.nil (Ae (A3 (fun hc4=>?_) fun hc4=>?_)))))
        · skip
          refine AW.seq (AW.region (Qp Ar (AOL.nil (Ae (Du ?_)))))
          refine Qr (Iq _) ?_
          rw [←Hh]
          try simp only [Co,Bool.and_true] at *
          first
            | (simp only [Ad,Cf,Bg];(first | rw [iN hc1] | skip);(first | rw [iN hc2] | skip);(first | rw [iN hc3] | skip);(first | rw [if_pos hc4] | skip);first | done | rfl)
            | (try simp only [Bool.not_eq_true',Bool.not_eq_false'] at *
               first
               | (simp only [Ad,Cf,Bg,isV0, *,Bool.false_eq_true,↓reduceIte,Bool.true_or,Bool.or_true,Bool.false_or,Bool.or_false,Bool.true_and,Bool.and_true,Bool.false_and,Bool.and_false,Bool.not_true,Bool.not_false];done)
               | (simp [Ad,Cf,Bg,isV0, *];done)
               | (simp_all [Ad,Cf,Bg,isV0];done))
            | skip
        · skip
          refine By (AW.seq (AW.region (Qp Bu (Qp Bu (Qg [] Qw K9 (Qg [(65,_)] Qw Bp (Qg [(66,_)] Qw A6 (Qp E2 (Qp Bm ?_)))))))))
          refine AOL.nil (Ae (AW.seq (AW.seq (AW.region (Qp Bu (AOL.nil (Ae (A3 (fun hc5=>?_) fun hc5=>?_))))))))
          · skip
            refine AW.seq (AW.region (Qp J2 (Qp (Cv [Iq _,Iq _,.str _]) ?_)))
            refine Qp (Qc rfl (c79 e.val)) ?_
            refine Qp Ar (AOL.nil (Ae (AW.seq (AW.region (Qp A0 (Qp Cr (AOL.nil (Ae (A3 (fun hc6=>?_) fun hc6=>?_)))))))))
            · skip
              refine AW.seq (AW.region (Qp A0 (Qp Ar (AOL.nil (Ae (Du ?_))))))
              refine Qr (Iq _) ?_
              rw [←Hh]
              try simp only [Co,Bool.and_true] at *
              first
                | (simp only [Ad,Cf,Bg];(first | rw [iN hc1] | skip);(first | rw [iN hc2] | skip);(first | rw [iN hc3] | skip);(first | rw [iN hc4] | skip);(first | rw [if_pos hc5] | skip);(first | rw [if_pos hc6] | skip);first | done | rfl)
                | (try simp only [Bool.not_eq_true',Bool.not_eq_false'] at *
                   first
                   | (simp only [Ad,Cf,Bg,isV0, *,Bool.false_eq_true,↓reduceIte,Bool.true_or,Bool.or_true,Bool.false_or,Bool.or_false,Bool.true_and,Bool.and_true,Bool.false_and,Bool.and_false,Bool.not_true,Bool.not_false];done)
                   | (simp [Ad,Cf,Bg,isV0, *];done)
                   | (simp_all [Ad,Cf,Bg,isV0];done))
                | skip
            · skip
              refine By (AW.seq (AW.seq (AW.region (Qp Bu (Qp Bu (Qg [] Qw Sl (Qg [(78,_)] Qw Bp (Qg [] Qw J2 (Qg [(80,_)] Qw (Cv [Iq _,Iq _,.str _]) ?_)))))))))
              refine AOL.Aaf (y:=.bool _) _ [(79,_),(81,_)] rfl (oE.all ⟨Ent.Aab _ _,Ent.Aab _ _,trivial⟩) (fun hG=>E6 (by kernel_rfl) rfl rfl (c101 e.kind e.val)) rfl ?_
              refine Qg [(82,_)] Qw Hp (Qg [(83,_)] Qw Bu (Qg [] Qw Sl (Qg [(85,_)] Qw Bp (Qg [(86,_)] Qw A6 (Qg [(87,_)] Qw Bu (Qg [] Qw J2 (Qg [(89,_)] Qw (Cv [Iq _,Iq _,.str _]) (Qg [] Qw (Fr [Iq _,Iq _,.str _]) ?_))))))))
              refine AOL.Aaf (y:=.bool _) _ [(90,_),(91,_)] rfl (oE.all ⟨Ent.Aab _ _,Ent.Aab _ _,trivial⟩) (fun hG=>Ii Ai rfl rfl rfl rfl rfl) rfl ?_
              refine Qg [(88,_),(92,_)] Qw Gg (Qg [(84,_),(93,_)] Qw E2 (Qp Gg (AOL.nil (Ae (A3 (fun hc7=>?_) fun hc7=>?_)))))
              · skip
                refine AW.seq (AW.region (Qp Ar (AOL.nil (Ae (Du ?_)))))
                refine Qr (Iq _) ?_
                rw [←Hh]
                try simp only [Co,Bool.and_true] at *
                first
                  | (simp only [Ad,Cf,Bg];(first | rw [iN hc1] | skip);(first | rw [iN hc2] | skip);(first | rw [iN hc3] | skip);(first | rw [iN hc4] | skip);(first | rw [if_pos hc5] | skip);(first | rw [iN hc6] | skip);(first | rw [if_pos hc7] | skip);first | done | rfl)
                  | (try simp only [Bool.not_eq_true',Bool.not_eq_false'] at *
                     first
                     | (simp only [Ad,Cf,Bg,isV0, *,Bool.false_eq_true,↓reduceIte,Bool.true_or,Bool.or_true,Bool.false_or,Bool.or_false,Bool.true_and,Bool.and_true,Bool.false_and,Bool.and_false,Bool.not_true,Bool.not_false];done)
                     | (simp [Ad,Cf,Bg,isV0, *];done)
                     | (simp_all [Ad,Cf,Bg,isV0];done))
                  | skip
              · skip
                refine By (AW.seq (AW.seq (AW.region (Qp Bu (Qp Hp (Qp Bu (Qg [] Qw Xs (Qg [(99,_)] Qw Bp (Qg [(100,_)] Qw Cr ?_)))))))))
                refine Qp Gg (Qp Bu (Qg [] Qw Bu (Qg [(104,_)] Qw Hp (Qg [(105,_)] Qw Bu (Qg [] Qw Qv (Qg [(107,_)] Qw Bp (Qg [(108,_)] Qw Cr (Qg [(106,_),(109,_)] Qw Gg (Qp E2 ?_)))))))))
                refine Qp Bu (Qg [] Qw Bu (Qg [(113,_)] Qw Hp (Qg [(114,_)] Qw Bu (Qg [] Qw Sl (Qg [(116,_)] Qw Bp (Qg [(117,_)] Qw Cr (Qg [(115,_),(118,_)] Qw Gg (Qp E2 (Qp Bu ?_)))))))))
                refine Qg [] Qw Bu (Qg [(122,_)] Qw Hp (Qg [(123,_)] Qw Bu (Qg [] Qw J2 (Qg [(125,_)] Qw (Cv [Iq _,Iq _,.str _]) (Qg [] Qw (Fr [Iq _,Iq _,.str _]) ?_)))))
                refine AOL.Aaf (y:=.bool _) _ [(126,_),(127,_)] rfl (oE.all ⟨Ent.Aab _ _,Ent.Aab _ _,trivial⟩) (fun hG=>Ii Ai rfl rfl rfl rfl rfl) rfl ?_
                refine Qg [(124,_),(128,_)] Qw Gg (Qp E2 (AOL.nil (Ae (A3 (fun hc8=>?_) fun hc8=>?_))))
                · skip
                  refine AW.seq (AW.region (Qp Ar (AOL.nil (Ae (Du ?_)))))
                  refine Qr (Iq _) ?_
                  rw [←Hh]
                  try simp only [Co,Bool.and_true] at *
                  first
                    | (simp only [Ad,Cf,Bg];(first | rw [iN hc1] | skip);(first | rw [iN hc2] | skip);(first | rw [iN hc3] | skip);(first | rw [iN hc4] | skip);(first | rw [if_pos hc5] | skip);(first | rw [iN hc6] | skip);(first | rw [iN hc7] | skip);(first | rw [if_pos hc8] | skip);first | done | rfl)
                    | (try simp only [Bool.not_eq_true',Bool.not_eq_false'] at *
                       first
                       | (simp only [Ad,Cf,Bg,isV0, *,Bool.false_eq_true,↓reduceIte,Bool.true_or,Bool.or_true,Bool.false_or,Bool.or_false,Bool.true_and,Bool.and_true,Bool.false_and,Bool.and_false,Bool.not_true,Bool.not_false];done)
                       | (simp [Ad,Cf,Bg,isV0, *];done)
                       | (simp_all [Ad,Cf,Bg,isV0];done))
                    | skip
                · skip
                  refine By (AW.seq (AW.region (Qp Ar (AOL.nil (Ae (AW.ret ?_))))))
                  refine Qr (Iq _) ?_
                  rw [←Hh]
                  try simp only [Co,Bool.and_true] at *
                  first
                    | (simp only [Ad,Cf,Bg];(first | rw [iN hc1] | skip);(first | rw [iN hc2] | skip);(first | rw [iN hc3] | skip);(first | rw [iN hc4] | skip);(first | rw [if_pos hc5] | skip);(first | rw [iN hc6] | skip);(first | rw [iN hc7] | skip);(first | rw [iN hc8] | skip);first | done | rfl)
                    | (try simp only [Bool.not_eq_true',Bool.not_eq_false'] at *
                       first
                       | (simp only [Ad,Cf,Bg,isV0, *,Bool.false_eq_true,↓reduceIte,Bool.true_or,Bool.or_true,Bool.false_or,Bool.or_false,Bool.true_and,Bool.and_true,Bool.false_and,Bool.and_false,Bool.not_true,Bool.not_false];done)
                       | (simp [Ad,Cf,Bg,isV0, *];done)
                       | (simp_all [Ad,Cf,Bg,isV0];done))
                    | skip
          · skip
            refine By (AW.seq (AW.seq (AW.region (Qp Bu (Qp Bu (Qg [] Qw Sl (Qg [(78,_)] Qw Bp (Qg [] Qw J2 (Qg [(80,_)] Qw (Cv [Iq _,Iq _,.str _]) ?_)))))))))
            refine AOL.Aaf (y:=.bool _) _ [(79,_),(81,_)] rfl (oE.all ⟨Ent.Aab _ _,Ent.Aab _ _,trivial⟩) (fun hG=>E6 (by kernel_rfl) rfl rfl (c101 e.kind e.val)) rfl ?_
            refine Qg [(82,_)] Qw Hp (Qg [(83,_)] Qw Bu (Qg [] Qw Sl (Qg [(85,_)] Qw Bp (Qg [(86,_)] Qw A6 (Qg [(87,_)] Qw Bu (Qg [] Qw J2 (Qg [(89,_)] Qw (Cv [Iq _,Iq _,.str _]) (Qg [] Qw (Fr [Iq _,Iq _,.str _]) ?_))))))))
            refine AOL.Aaf (y:=.bool _) _ [(90,_),(91,_)] rfl (oE.all ⟨Ent.Aab _ _,Ent.Aab _ _,trivial⟩) (fun hG=>Ii Ai rfl rfl rfl rfl rfl) rfl ?_
            refine Qg [(88,_),(92,_)] Qw Gg (Qg [(84,_),(93,_)] Qw E2 (Qp Gg (AOL.nil (Ae (A3 (fun hc9=>?_) fun hc9=>?_)))))
            · skip
              refine AW.seq (AW.region (Qp Ar (AOL.nil (Ae (Du ?_)))))
              refine Qr (Iq _) ?_
              rw [←Hh]
              try simp only [Co,Bool.and_true] at *
              first
                | (simp only [Ad,Cf,Bg];(first | rw [iN hc1] | skip);(first | rw [iN hc2] | skip);(first | rw [iN hc3] | skip);(first | rw [iN hc4] | skip);(first | rw [iN hc5] | skip);(first | rw [if_pos hc9] | skip);first | done | rfl)
                | (try simp only [Bool.not_eq_true',Bool.not_eq_false'] at *
                   first
                   | (simp only [Ad,Cf,Bg,isV0, *,Bool.false_eq_true,↓reduceIte,Bool.true_or,Bool.or_true,Bool.false_or,Bool.or_false,Bool.true_and,Bool.and_true,Bool.false_and,Bool.and_false,Bool.not_true,Bool.not_false];done)
                   | (simp [Ad,Cf,Bg,isV0, *];done)
                   | (simp_all [Ad,Cf,Bg,isV0];done))
                | skip
            · skip
              refine By (AW.seq (AW.seq (AW.region (Qp Bu (Qp Hp (Qp Bu (Qg [] Qw Xs (Qg [(99,_)] Qw Bp (Qg [(100,_)] Qw Cr ?_)))))))))
              refine Qp Gg (Qp Bu (Qg [] Qw Bu (Qg [(104,_)] Qw Hp (Qg [(105,_)] Qw Bu (Qg [] Qw Qv (Qg [(107,_)] Qw Bp (Qg [(108,_)] Qw Cr (Qg [(106,_),(109,_)] Qw Gg (Qp E2 ?_)))))))))
              refine Qp Bu (Qg [] Qw Bu (Qg [(113,_)] Qw Hp (Qg [(114,_)] Qw Bu (Qg [] Qw Sl (Qg [(116,_)] Qw Bp (Qg [(117,_)] Qw Cr (Qg [(115,_),(118,_)] Qw Gg (Qp E2 (Qp Bu ?_)))))))))
              refine Qg [] Qw Bu (Qg [(122,_)] Qw Hp (Qg [(123,_)] Qw Bu (Qg [] Qw J2 (Qg [(125,_)] Qw (Cv [Iq _,Iq _,.str _]) (Qg [] Qw (Fr [Iq _,Iq _,.str _]) ?_)))))
              refine AOL.Aaf (y:=.bool _) _ [(126,_),(127,_)] rfl (oE.all ⟨Ent.Aab _ _,Ent.Aab _ _,trivial⟩) (fun hG=>Ii Ai rfl rfl rfl rfl rfl) rfl ?_
              refine Qg [(124,_),(128,_)] Qw Gg (Qp E2 (AOL.nil (Ae (A3 (fun hc10=>?_) fun hc10=>?_))))
              · skip
                refine AW.seq (AW.region (Qp Ar (AOL.nil (Ae (Du ?_)))))
                refine Qr (Iq _) ?_
                rw [←Hh]
                try simp only [Co,Bool.and_true] at *
                first
                  | (simp only [Ad,Cf,Bg];(first | rw [iN hc1] | skip);(first | rw [iN hc2] | skip);(first | rw [iN hc3] | skip);(first | rw [iN hc4] | skip);(first | rw [iN hc5] | skip);(first | rw [iN hc9] | skip);(first | rw [if_pos hc10] | skip);first | done | rfl)
                  | (try simp only [Bool.not_eq_true',Bool.not_eq_false'] at *
                     first
                     | (simp only [Ad,Cf,Bg,isV0, *,Bool.false_eq_true,↓reduceIte,Bool.true_or,Bool.or_true,Bool.false_or,Bool.or_false,Bool.true_and,Bool.and_true,Bool.false_and,Bool.and_false,Bool.not_true,Bool.not_false];done)
                     | (simp [Ad,Cf,Bg,isV0, *];done)
                     | (simp_all [Ad,Cf,Bg,isV0];done))
                  | skip
              · skip
                refine By (AW.seq (AW.region (Qp Ar (AOL.nil (Ae (AW.ret ?_))))))
                refine Qr (Iq _) ?_
                rw [←Hh]
                try simp only [Co,Bool.and_true] at *
                first
                  | (simp only [Ad,Cf,Bg];(first | rw [iN hc1] | skip);(first | rw [iN hc2] | skip);(first | rw [iN hc3] | skip);(first | rw [iN hc4] | skip);(first | rw [iN hc5] | skip);(first | rw [iN hc9] | skip);(first | rw [iN hc10] | skip);first | done | rfl)
                  | (try simp only [Bool.not_eq_true',Bool.not_eq_false'] at *
                     first
                     | (simp only [Ad,Cf,Bg,isV0, *,Bool.false_eq_true,↓reduceIte,Bool.true_or,Bool.or_true,Bool.false_or,Bool.or_false,Bool.true_and,Bool.and_true,Bool.false_and,Bool.and_false,Bool.not_true,Bool.not_false];done)
                     | (simp [Ad,Cf,Bg,isV0, *];done)
                     | (simp_all [Ad,Cf,Bg,isV0];done))
                  | skip
theorem c23 (e:Ex)(hs:At e≤1048576):Ax Tryz.prog 98 [.agg (cE e)] (.tuple [.int .i64 (At e),.int .i64 (El e)]):=by
 revert hs
 induction e using Ex.Aaj
 rename_i e ih
 intro hs
 refine Ax.body (n:=32) Ai Tryz.func98 rfl rfl rfl fun H=>?_
 refine Ah (Qp Nc (Qp Ar (Qp Ar (Do (Qp Ar (Qp Ar (Ag (AW.seq (Ah ?_)))))))))
 refine Qp Oy (Qp Ee ?_)
 refine Qp (Al (n:=e.args.length) Ai rfl rfl rfl (by simp)) ?_
 refine Qp A0 (Ag (AW.block ?_))
 refine AW.sllen 11 rfl fun hlen=>?_
 simp only [List.length_map,maxLen] at hlen
 refine AW.Aad (fun (p:Nat×Nat×Nat)=>(⟨[(4,.int .i64 (p.2.1:Int)),(5,.int .i64 (p.2.2:Int)),(11,.sl 8 (e.args.map G7)),(12,.int .i64 e.args.length),(13,.int .i64 (p.1:Int))],H,32⟩:St)) (fun (p:Nat×Nat×Nat)=>p.1≤e.args.length∧At e=p.2.1+((e.args.drop p.1).map At).sum∧El e=max p.2.2 (((e.args.drop p.1).map El).foldr max 0)+1∧p.2.2≤1048576) (fun (p:Nat×Nat×Nat)=>e.args.length-p.1) ((0,1,0)) ?_ (GS.weaken ⟨rfl,rfl,rfl,rfl,rfl,trivial⟩ (.refl _)) ?_
 · exact ⟨Nat.zero_le _,by simpa using Ek e,by simpa using S6 e,Nat.zero_le _⟩
 ·
  rintro p hR
  refine Ah (Qp Ck (Ag (AW.seq (A3 (fun hc1=>?_) fun hc1=>?_))))
  ·
   obtain ⟨a,ha⟩:=B7 hc1
   have hlt:=Bb ha
   have hm:=List.mem_of_getElem? ha
   have hsa:=G0 hm
   have hda:=Jr a
   have h1:=eV p.2.1 ha
   have h2:=N3 p.2.2 ha
   refine By (AW.seq (AW.block (Ah ?_)))
   refine Qp (Af (c:=[Iq _,_,Iq _,Iq _,Iq _,Iq _,Iq _,.str _]) Ai rfl rfl rfl rfl rfl rfl (by omega) (F2 ha)) ?_
   refine Qp E7 ?_
   refine Qe (Am (l:=[.int .i64 0,.sl 8 [],.int .i64 0,.int .i64 0,.int .i64 0,.int .i64 0,.int .i64 0,.str []]) (by kernel_rfl)) ?_
   rintro _ _ ⟨b7,rfl,rfl⟩
   refine Cz 0 [Iq _,_,Iq _,Iq _,Iq _,Iq _,Iq _,.str _] (_::_) ?_
   refine AOL.ghost (GS.Aac (t:=7) 0 rfl rfl) ?_
   refine Do (Qp E7 ?_)
   refine Qp (Qc rfl (ih a hm (by have:=G0 hm;omega))) ?_
   refine Qp Nb (Qp I6 (Qp I6 (Qp Ar (Qp Ar (Ag (AW.region (Qp A0 (Qp A0 (Qp F7 ?_)))))))))
   refine Qp A0 (Qp A0 ?_)
   refine Qp (vE rfl rfl) ?_
   refine Qp Ar (Qp Ar (AOL.nil (Bv (Ae (AW.region (Qp F7 (Qp A0 (Ag ?_))))))))
   refine ⟨(p.1+1,p.2.1+At a,max p.2.2 (El a)),?_,?_,GS.weaken ⟨rfl,congrArg (AV.int .i64) (by simp only;omega),rfl,rfl,rfl,trivial⟩ (.refl _)⟩
   · simp only;exact ⟨hlt,by omega,by omega,by omega⟩
   · first | omega | (simp only;omega)
  ·
   have hd:=C8 hc1
   refine AW.exit ?_
   refine A5 (A5 (Bx (Ae (Ah (Qp A0 (Qp A0 ?_))))))
   refine Qp (mR rfl rfl rfl (by have:=Jr e;constructor <;> omega)) ?_
   refine Qp Ar (Qp Ar (Ag (AW.ret ?_)))
   refine Kg (Iq _) (Iq _) ?_
   rw [hd] at hR
   simp only [List.map_nil,List.sum_nil,List.foldr_nil] at hR
   simp only [Ad,AV.tuple.injEq,List.cons.injEq,AV.int.injEq,true_and,and_true]
   omega
theorem c48 (L:Nat)(e:Ex)(hs:At e≤1048576):Ax Tryz.prog 53 [.agg (cE e),.int .i64 (L:Int)] (.int .i64 (Gr L e)):=by
 revert hs
 induction e using Ex.Aaj
 rename_i e ih
 intro hs
 refine Ax.body (n:=29) Ai Tryz.func53 rfl rfl rfl fun H=>?_
 refine Ah (Qp Nc (Qp Ar (Do (Qp Ar (Ag (AW.seq (Ah (Qp Ar (Ag ?_)))))))))
 refine AW.block ?_
 refine AW.Aad (fun (p:Nat×Nat)=>(⟨[(1,.int .i64 (L:Int)),(2,.ptr (cE e)),(5,.int .i64 (p.2:Int)),(6,.int .i64 (p.1:Int))],H,29⟩:St)) (fun (p:Nat×Nat)=>p.1≤e.args.length∧Gr L e=Fl L (e.args.drop p.1) p.2∧p.2+((e.args.drop p.1).map At).sum≤At e∧e.args.length≤1048576) (fun (p:Nat×Nat)=>e.args.length-p.1) ((0,1)) ?_ (GS.weaken ⟨rfl,rfl,rfl,rfl,trivial⟩ (.refl _)) ?_
 · exact ⟨Nat.zero_le _,by simpa using X9 L e,by simpa using Nat.le_of_eq (Ek e).symm,O7 e hs⟩
 ·
  rintro p hR
  refine AW.seq (Ah (Qp A0 (Qp Oy (Qp Ee ?_))))
  refine Qp (Al (n:=e.args.length) Ai rfl rfl rfl (by simp)) ?_
  refine Qp Ck (Qp Bu (Qg [] Qw A0 (Qg [] Qw A0 ?_)))
  refine AOL.Aaf (y:=.bool _) _ [(13,_),(14,_)] rfl (oE.all ⟨Ent.Aab _ _,Ent.Aab _ _,trivial⟩) (fun hG=>sC rfl rfl) rfl ?_
  refine Qp Gg (Ag (A3 (fun hc1=>?_) fun hc1=>?_))
  ·
   simp only [Bool.and_eq_true] at hc1
   obtain ⟨a,ha⟩:=B7 hc1.1
   have hlt:=Bb ha
   have hm:=List.mem_of_getElem? ha
   have hsa:=G0 hm
   have hle:p.2≤L:=by simpa using hc1.2
   have h1:=eV p.2 ha
   have h2:=V0 L a
   have h3:=hR.2.1
   rw [A4 ha,Fl,if_pos hle] at h3
   refine By (AW.seq (AW.block (AW.region (Qp A0 (Qp Oy (Qp Ee (Qp A0 ?_)))))))
   refine Qp (Af (c:=[Iq _,_,Iq _,Iq _,Iq _,Iq _,Iq _,.str _]) Ai rfl rfl rfl rfl rfl rfl (by omega) (F2 ha)) ?_
   refine Qp E7 (Qp A0 ?_)
   refine Qp (Qc rfl (ih a hm (by have:=G0 hm;omega))) ?_
   refine Qp F7 (Qp Ar (AOL.nil (Bv (Ae (AW.region (Qp A0 (Qp F7 (Qp Ar (Ag ?_)))))))))
   refine ⟨(p.1+1,p.2+Gr L a),?_,?_,GS.weaken ⟨rfl,rfl,rfl,rfl,trivial⟩ (.refl _)⟩
   · simp only;exact ⟨hlt,h3,by omega,hR.2.2.2⟩
   · first | omega | (simp only;omega)
  ·
   refine AW.exit ?_
   refine A5 (A5 (Bx (Ae (Ah (Qp A0 (Qp Ar (Ag (AW.ret ?_))))))))
   refine Qr (Iq _) ?_
   simp only [Ad,AV.int.injEq,true_and]
   rw [hR.2.1]
   simp only [Bool.and_eq_false_iff] at hc1
   rcases hc1 with hc1 | hc1
   · rw [C8 hc1,Fl]
   · rw [bM (by simpa using hc1)]
theorem c49 (e:Ex)(hs:At e≤1048576):Ax Tryz.prog 54 [.agg (cE e)] (.int .i64 (El e)):=by
 revert hs
 induction e using Ex.Aaj
 rename_i e ih
 intro hs
 refine Ax.body (n:=22) Ai Tryz.func54 rfl rfl rfl fun H=>?_
 refine Ah (Qp Nc (Qp Ar (Do (Qp Ar (Ag (AW.seq (Ah (Qp Ar (Ag ?_)))))))))
 refine AW.block ?_
 refine AW.Aad (fun (p:Nat×Nat)=>(⟨[(1,.ptr (cE e)),(3,.int .i64 (p.2:Int)),(4,.int .i64 (p.1:Int))],H,22⟩:St)) (fun (p:Nat×Nat)=>p.1≤e.args.length∧El e=max p.2 (((e.args.drop p.1).map El).foldr max 0)+1∧p.2≤1048576∧e.args.length≤1048576) (fun (p:Nat×Nat)=>e.args.length-p.1) ((0,0)) ?_ (GS.weaken ⟨rfl,rfl,rfl,trivial⟩ (.refl _)) ?_
 · exact ⟨Nat.zero_le _,by simpa using S6 e,Nat.zero_le _,O7 e hs⟩
 ·
  rintro p hR
  refine AW.seq (Ah (Qp A0 (Qp Oy (Qp Ee ?_))))
  refine Qp (Al (n:=e.args.length) Ai rfl rfl rfl (by simp)) ?_
  refine Qp Ck (Ag (A3 (fun hc1=>?_) fun hc1=>?_))
  ·
   obtain ⟨a,ha⟩:=B7 hc1
   have hlt:=Bb ha
   have hm:=List.mem_of_getElem? ha
   have hsa:=G0 hm
   have hda:=Jr a
   have h2:=N3 p.2 ha
   refine By (AW.seq (AW.block (AW.region (Qp A0 (Qp Oy (Qp Ee (Qp A0 ?_)))))))
   refine Qp (Af (c:=[Iq _,_,Iq _,Iq _,Iq _,Iq _,Iq _,.str _]) Ai rfl rfl rfl rfl rfl rfl (by omega) (F2 ha)) ?_
   refine Qp E7 ?_
   refine Qp (Qc rfl (ih a hm (by have:=G0 hm;omega))) ?_
   refine Qp (vE rfl rfl) ?_
   refine Qp Ar (AOL.nil (Bv (Ae (AW.region (Qp A0 (Qp F7 (Qp Ar (Ag ?_))))))))
   refine ⟨(p.1+1,max p.2 (El a)),?_,?_,GS.weaken ⟨rfl,congrArg (AV.int .i64) (by simp only;omega),rfl,trivial⟩ (.refl _)⟩
   · simp only;exact ⟨hlt,by omega,by omega,hR.2.2.2⟩
   · first | omega | (simp only;omega)
  ·
   have hd:=C8 hc1
   refine AW.exit ?_
   refine A5 (A5 (Bx (Ae (Ah (Qp A0 ?_)))))
   refine Qp (mR rfl rfl rfl (by have:=Jr e;constructor <;> omega)) ?_
   refine Qp Ar (Ag (AW.ret ?_))
   refine Qr (Iq _) ?_
   rw [hd] at hR
   simp only [List.map_nil,List.foldr_nil] at hR
   simp only [Ad,AV.int.injEq,true_and]
   omega
theorem c50 (e:Ex)(hs:At e≤1048576):Ax Tryz.prog 117 [.agg (cE e)] (.int .i64 (Dc e)):=by
 revert hs
 induction e using Ex.Aaj
 rename_i e ih
 intro hs
 refine Ax.body (n:=27) Ai Tryz.func117 rfl rfl rfl fun H=>?_
 refine Ah (Qp Nc (Qp Ar (Ag (AW.seq (Ah (Qp E7 ?_))))))
 refine Qp (Qc rfl (c83 e)) ?_
 refine Qp Ar (Do (Qp A0 (Qp Cr (Ag (A3 (fun hc1=>?_) fun hc1=>?_)))))
 ·
  refine Ah (Qp A0 (Qp Ar (Ag (Du ?_))))
  refine Qr (Iq _) ?_
  simp only [Ad,AV.int.injEq,true_and]
  rw [Or,if_pos hc1]
 ·
  have hn:Dc e=Aq Dc e.args:=by rw [Or,if_neg (by simpa using hc1)]
  refine By (AW.seq (Ah (Qp Ar (Ag (AW.block ?_)))))
  have hlen:=O7 e hs
  refine AW.Aad (fun (p:Nat)=>(⟨[(1,.ptr (cE e)),(4,.int .i64 (p:Int))],H,27⟩:St)) (fun (p:Nat)=>p≤e.args.length∧Dc e=Aq Dc (e.args.drop p)) (fun (p:Nat)=>e.args.length-p) (0) ?_ (GS.weaken ⟨rfl,rfl,trivial⟩ (.refl _)) ?_
  · exact ⟨Nat.zero_le _,by simpa using hn⟩
  ·
   rintro p hR
   refine AW.seq (Ah (Qp A0 (Qp Oy (Qp Ee ?_))))
   refine Qp (Al (n:=e.args.length) Ai rfl rfl rfl (by simp)) ?_
   refine Qp Ck (Ag (A3 (fun hc2=>?_) fun hc2=>?_))
   ·
    obtain ⟨a,ha⟩:=B7 hc2
    have hlt:=Bb ha
    have hm:=List.mem_of_getElem? ha
    refine By (AW.seq (AW.block (Ah (Qp Oy (Qp Ee (Qp A0 ?_))))))
    refine Qp (Af (c:=[Iq _,_,Iq _,Iq _,Iq _,Iq _,Iq _,.str _]) Ai rfl rfl rfl rfl rfl rfl (by omega) (F2 ha)) ?_
    refine Qp E7 ?_
    refine Qp (Qc rfl (ih a hm (by have:=G0 hm;omega))) ?_
    refine Qp Ar (Do (Qp A0 (Qp Cr (Ag (A3 (fun hc3=>?_) fun hc3=>?_)))))
    ·
     refine Ah (Qp A0 (Qp Ar (Ag (AW.ret (A7 (Aj (Aj (A7 (Aj ?_)))))))))
     refine Qr (Iq _) ?_
     simp only [Ad,AV.int.injEq,true_and]
     rw [hR.2,A4 ha,Aq,if_pos hc3]
    ·
     refine AW.skip (Bv (Ae (AW.region (Qp A0 (Qp F7 (Qp Ar (Ag ?_)))))))
     refine ⟨p+1,?_,?_,GS.weaken ⟨rfl,rfl,trivial⟩ (.refl _)⟩
     · exact ⟨hlt,by rw [hR.2,A4 ha,Aq,if_neg (by simpa using hc3)]⟩
     · first | omega | (simp only;omega)
   ·
    have hd:=C8 hc2
    refine AW.exit ?_
    refine A5 (A5 (Bx (Ae (Ah (Qp Ar (Ag (AW.ret ?_)))))))
    refine Qr (Iq _) ?_
    simp only [Ad,AV.int.injEq,true_and]
    rw [hR.2,hd];rfl
theorem c46 (f:Nat)(hfn:qY Tryz.prog f=true)(cap:List AV)(fs:Ex→Int)(Pr:Ex→Prop)(hp:∀a,Pr a→∀b∈a.args,Pr b)(hf:∀a,Pr a→Ax Tryz.prog f (.agg (cE a)::cap) (.int .i64 (fs a)))(e:Ex)(he:Pr e):Ax Tryz.prog 99 [.agg (cE e),.fn (.func f) [] cap] (.int .i64 (Iy fs e)):=by
 revert he
 induction e using Ex.Aaj
 rename_i e ih
 intro he
 refine Ax.body (n:=29) Ai Tryz.func99 rfl rfl rfl fun H=>?_
 refine Ah (Qp Nc (Qp Ar (Ag (AW.seq (Ah ?_)))))
 refine Qp (Bk (v:=.fn _ _ _) rfl) ?_
 refine Qp E7 ?_
 refine Qp (Ec hfn rfl rfl rfl (hf e he)) ?_
 refine Qp Ar (Do (Qp A0 (Qp Cr (Ag (A3 (fun hc1=>?_) fun hc1=>?_)))))
 ·
  refine Ah (Qp A0 (Qp Ar (Ag (Du ?_))))
  refine Qr (Iq _) ?_
  simp only [Ad,AV.int.injEq,true_and]
  rw [Ss,if_pos hc1]
 ·
  have hn:Iy fs e=Aq (Iy fs) e.args:=by rw [Ss,if_neg (by simpa using hc1)]
  refine By (AW.seq (Ah (Qp Oy (Qp Ee ?_))))
  refine Qp (Al (n:=e.args.length) Ai rfl rfl rfl (by simp)) ?_
  refine Qp A0 (Ag (AW.block ?_))
  refine AW.sllen 16 rfl fun hlen=>?_
  simp only [List.length_map,maxLen] at hlen
  refine AW.Aad (fun (p:Nat)=>(⟨[(1,.fn (.func f) [] cap),(16,.sl 8 (e.args.map G7)),(17,.int .i64 e.args.length),(18,.int .i64 (p:Int))],H,29⟩:St)) (fun (p:Nat)=>p≤e.args.length∧Iy fs e=Aq (Iy fs) (e.args.drop p)) (fun (p:Nat)=>e.args.length-p) (0) ?_ (GS.weaken ⟨rfl,rfl,rfl,rfl,trivial⟩ (.refl _)) ?_
  · exact ⟨Nat.zero_le _,by simpa using hn⟩
  ·
   rintro p hR
   refine Ah (Qp Ck (Ag (AW.seq (A3 (fun hc2=>?_) fun hc2=>?_))))
   ·
    obtain ⟨a,ha⟩:=B7 hc2
    have hlt:=Bb ha
    have hm:=List.mem_of_getElem? ha
    refine By (AW.seq (AW.block (Ah ?_)))
    refine Qp (Af (c:=[Iq _,_,Iq _,Iq _,Iq _,Iq _,Iq _,.str _]) Ai rfl rfl rfl rfl rfl rfl (by omega) (F2 ha)) ?_
    refine Qp E7 ?_
    refine Qe (Am (l:=[.int .i64 0,.sl 8 [],.int .i64 0,.int .i64 0,.int .i64 0,.int .i64 0,.int .i64 0,.str []]) (by kernel_rfl)) ?_
    rintro _ _ ⟨b7,rfl,rfl⟩
    refine Cz 0 [Iq _,_,Iq _,Iq _,Iq _,Iq _,Iq _,.str _] (_::_) ?_
    refine AOL.ghost (GS.Aac (t:=7) 0 rfl rfl) ?_
    refine Do (Qp E7 ?_)
    refine Qp (Bk (v:=.fn _ _ _) rfl) ?_
    refine Qp (Qc rfl (ih a hm (hp e he a hm))) ?_
    refine Qp Ar (Do (Qp A0 (Qp Cr (Ag (A3 (fun hc3=>?_) fun hc3=>?_)))))
    ·
     refine Ah (Qp A0 (Qp Ar (Ag (AW.ret (A7 (Aj (Aj (A7 (Aj ?_)))))))))
     refine Qr (Iq _) ?_
     simp only [Ad,AV.int.injEq,true_and]
     rw [hR.2,A4 ha,Aq,if_pos hc3]
    ·
     refine AW.skip (Bv (Ae (AW.region (Qp F7 (Qp A0 (Ag ?_))))))
     refine ⟨p+1,?_,?_,GS.weaken ⟨rfl,rfl,rfl,rfl,trivial⟩ (.refl _)⟩
     · exact ⟨hlt,by rw [hR.2,A4 ha,Aq,if_neg (by simpa using hc3)]⟩
     · first | omega | (simp only;omega)
   ·
    have hd:=C8 hc2
    refine AW.exit ?_
    refine A5 (A5 (Bx (Ae (Ah (Qp Ar (Ag (AW.ret ?_)))))))
    refine Qr (Iq _) ?_
    simp only [Ad,AV.int.injEq,true_and]
    rw [hR.2,hd];rfl
theorem c21 (e:Ex)(hs:At e≤1048576):Ax Tryz.prog 69 [.agg (cE e)] (.int .i64 (B4 e)):=by
  refine Ax.body (n:=18) Ai Tryz.func69 rfl rfl rfl fun H=>?_
  refine AW.seq (AW.region (Qp Nc (Qp Ar (AOL.nil (Ae (AW.seq (AW.region (Qp E7 ?_))))))))
  refine Qp (Qc rfl (c23 e hs)) ?_
  refine Qp Nb (Qp I6 (Qp I6 (Qp Ar (Qp Ar (AOL.nil (Ae (AW.seq (AW.block (AW.seq ?_)))))))))
  refine AW.region (Qp A0 (Qp G6 (Qp Bm (AOL.nil (Ae (A3 (fun hc1=>?_) fun hc1=>?_))))))
  · skip
    refine AW.seq (AW.region (Qp Ar (AOL.nil (Ae (AW.ret (A7 (Aj ?_)))))))
    refine Qr (Iq _) ?_
    try simp only [Co,Bool.and_true] at *
    first
      | (simp only [Ad,B4];(first | rw [if_pos hc1] | skip);first | done | rfl)
      | (try simp only [Bool.not_eq_true',Bool.not_eq_false'] at *
         first
         | (simp only [Ad,B4, *,Bool.false_eq_true,↓reduceIte,Bool.true_or,Bool.or_true,Bool.false_or,Bool.or_false,Bool.true_and,Bool.and_true,Bool.false_and,Bool.and_false,Bool.not_true,Bool.not_false];done)
         | (simp [Ad,B4, *];done)
         | (simp_all [Ad,B4];done))
      | skip
  · skip
    refine AW.seq (AW.region (Qp A0 (Qp G6 (Qp Bm (AOL.nil (Ae (A3 (fun hc2=>?_) fun hc2=>?_)))))))
    · skip
      refine AW.seq (AW.region (Qp Ar (AOL.nil (Ae (AW.ret (A7 (Aj ?_)))))))
      refine Qr (Iq _) ?_
      try simp only [Co,Bool.and_true] at *
      first
        | (simp only [Ad,B4];(first | rw [iN hc1] | skip);(first | rw [if_pos hc2] | skip);first | done | rfl)
        | (try simp only [Bool.not_eq_true',Bool.not_eq_false'] at *
           first
           | (simp only [Ad,B4, *,Bool.false_eq_true,↓reduceIte,Bool.true_or,Bool.or_true,Bool.false_or,Bool.or_false,Bool.true_and,Bool.and_true,Bool.false_and,Bool.and_false,Bool.not_true,Bool.not_false];done)
           | (simp [Ad,B4, *];done)
           | (simp_all [Ad,B4];done))
        | skip
    · skip
      refine AW.skip (Bv (Ae (AW.seq (AW.region (Qp E7 ?_)))))
      refine Qp (Qc rfl (c46 100 (by kernel_rfl) [] Bt (fun _=>True) (fun _ _ _ _=>trivial) (fun a _=>c47 a) e trivial)) ?_
      refine Qp Ar (AOL.nil (Ae (AW.ret ?_)))
      refine Qr (Iq _) ?_
      try simp only [Co,Bool.and_true] at *
      first
        | (simp only [Ad,B4];(first | rw [iN hc1] | skip);(first | rw [iN hc2] | skip);first | done | rfl)
        | (try simp only [Bool.not_eq_true',Bool.not_eq_false'] at *
           first
           | (simp only [Ad,B4, *,Bool.false_eq_true,↓reduceIte,Bool.true_or,Bool.or_true,Bool.false_or,Bool.or_false,Bool.true_and,Bool.and_true,Bool.false_and,Bool.and_false,Bool.not_true,Bool.not_false];done)
           | (simp [Ad,B4, *];done)
           | (simp_all [Ad,B4];done))
        | skip
theorem c25 (e:Ex)(hs:At e≤1048576):Ax Tryz.prog 87 [.agg (cE e)] (.int .i64 (B4 e)):=by
  refine Ax.body (n:=11) Ai Tryz.func87 rfl rfl rfl fun H=>?_
  refine AW.seq (AW.region (Qp Nc (Qp Ar (AOL.nil (Ae (AW.seq (AW.seq (AW.region (Qp E7 ?_)))))))))
  refine Qp (Qc rfl (c48 64 e hs)) ?_
  refine Qp G6 (AOL.nil (Ae (A3 (fun hc1=>?_) fun hc1=>?_)))
  · skip
    have hct:decide (64<(At e:Int))=true:=by have:=Vm 64 e;simp at hc1 ⊢;omega
    refine AW.seq (AW.region (Qp Ar (AOL.nil (Ae (Du ?_)))))
    refine Qr (Iq _) ?_
    try simp only [Co,Bool.and_true] at *
    first
      | (simp only [Ad,B4];(first | rw [if_pos hc1] | skip);first | done | rfl)
      | (try simp only [Bool.not_eq_true',Bool.not_eq_false'] at *
         first
         | (simp only [Ad,B4, *,Bool.false_eq_true,↓reduceIte,Bool.true_or,Bool.or_true,Bool.false_or,Bool.or_false,Bool.true_and,Bool.and_true,Bool.false_and,Bool.and_false,Bool.not_true,Bool.not_false];done)
         | (simp [Ad,B4, *];done)
         | (simp_all [Ad,B4];done))
      | skip
  · skip
    have hct:decide (64<(At e:Int))=false:=by have:=Vm 64 e;simp at hc1 ⊢;omega
    refine By (AW.seq (AW.seq (AW.region (Qp E7 ?_))))
    refine Qp (Qc rfl (c49 e hs)) ?_
    refine Qp G6 (AOL.nil (Ae (A3 (fun hc2=>?_) fun hc2=>?_)))
    · skip
      refine AW.seq (AW.region (Qp Ar (AOL.nil (Ae (Du ?_)))))
      refine Qr (Iq _) ?_
      try simp only [Co,Bool.and_true] at *
      first
        | (simp only [Ad,B4];(first | rw [iN hc1] | skip);(first | rw [if_pos hc2] | skip);first | done | rfl)
        | (try simp only [Bool.not_eq_true',Bool.not_eq_false'] at *
           first
           | (simp only [Ad,B4, *,Bool.false_eq_true,↓reduceIte,Bool.true_or,Bool.or_true,Bool.false_or,Bool.or_false,Bool.true_and,Bool.and_true,Bool.false_and,Bool.and_false,Bool.not_true,Bool.not_false];done)
           | (simp [Ad,B4, *];done)
           | (simp_all [Ad,B4];done))
        | skip
    · skip
      refine By (AW.seq (AW.region (Qp E7 ?_)))
      refine Qp (Qc rfl (c50 e hs)) ?_
      refine Qp Ar (AOL.nil (Ae (AW.ret ?_)))
      refine Qr (Iq _) ?_
      try simp only [Co,Bool.and_true] at *
      first
        | (simp only [Ad,B4];(first | rw [iN hc1] | skip);(first | rw [iN hc2] | skip);first | done | rfl)
        | (try simp only [Bool.not_eq_true',Bool.not_eq_false'] at *
           first
           | (simp only [Ad,B4, *,Bool.false_eq_true,↓reduceIte,Bool.true_or,Bool.or_true,Bool.false_or,Bool.or_false,Bool.true_and,Bool.and_true,Bool.false_and,Bool.and_false,Bool.not_true,Bool.not_false];done)
           | (simp [Ad,B4, *];done)
           | (simp_all [Ad,B4];done))
        | skip
theorem c34 (e:Ex)(hs:At e≤1048576):Ax Tryz.prog 24 [.agg (cE e)] (.bool (decide (At e≤200∧El e≤100))):=by
 refine Ax.body (n:=11) Ai Tryz.func24 rfl rfl rfl fun H=>?_
 refine Ah (Qp Nc (Qp Bm (Do (Qp E7 ?_))))
 refine Qp (Qc rfl (c48 200 e hs)) ?_
 refine Qp Ph (Qp Bu (Qg [] Qw E7 ?_))
 refine Qg [(7,_)] Qw (Qc rfl (c49 e hs)) ?_
 refine Qg [(8,_)] Qw Ph (Qp Gg (Qp Bm (Ag (AW.ret ?_))))
 refine Qr (.bool _) ?_
 have:=Vm 200 e
 show AV.bool _=AV.bool _
 congr 1
 rw [Bool.eq_iff_iff]
 simp
 omega

end Go.Proofs.YtjedflcpjlgokaaGreatDoor
