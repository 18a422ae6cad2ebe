/-
  Walks of layer 8: nodes, sizes, checks. No condition.
-/
import Derived.Test.YtkddpedfbicbeaaGreatDoorAz
import Derived.Test.YtkddpedfbicbeaaGreatDoorW1
import Derived.Test.YtkddpedfbicbeaaGreatDoorK02
import Derived.KernelRfl
namespace Go.Proofs.YtkddpedfbicbeaaGreatDoor
open Go Go.Aw
set_option maxHeartbeats 400000
set_option maxRecDepth 20000
set_option linter.unusedVariables false
set_option linter.unusedSimpArgs false

theorem c82 (e:Ex):Av Tryz.prog 110 [.agg (cE e)] (.int .i64 (Fl e)):=by
  refine Av.body (n:=32) Ai Tryz.func110 rfl rfl rfl fun H=>?_
  refine AW.seq (AW.region (Qp K8 (Qp At (AOL.nil (Ae (AW.seq (AW.seq (AW.region (Qp Jp ?_)))))))))
  refine Qp (Ck [Iq _,Iq _,.str _]) ?_
  refine Qp (Qc rfl (c94 e.val)) ?_
  refine Qp At (AOL.nil (Ae (AW.seq (AW.region (Qp A0 (Qp Cr (AOL.nil (Ae (A3 (fun hc1=>?_) fun hc1=>?_)))))))))
  · skip
    refine AW.seq (AW.region (Qp A0 (Qp At (AOL.nil (Ae (Dr ?_))))))
    refine Qr (Iq _) ?_
    try simp only [Cx,Bool.and_true] at *
    first
      | (simp only [Ad,Fl];(first | rw [if_pos hc1] | skip);first | done | rfl)
      | (try simp only [Bool.not_eq_true',Bool.not_eq_false'] at *
         first
         | (simp only [Ad,Fl,isV0, *,Bool.false_eq_true,↓reduceIte,Bool.true_or,Bool.or_true,Bool.false_or,Bool.or_false,Bool.true_and,Bool.and_true,Bool.false_and,Bool.and_false,Bool.not_true,Bool.not_false];done)
         | (simp [Ad,Fl,isV0, *];done)
         | (simp_all [Ad,Fl,isV0];done))
      | skip
  · skip
    refine Bx (AW.seq (AW.seq (AW.region (Qp Ks (Qp Bs (Qp A5 (Qp Bp (Qg [] Qw R1 (Qg [(14,_)] Qw Bs ?_)))))))))
    refine Qg [] Qw Jp (Qg [(16,_)] Qw (Ck [Iq _,Iq _,.str _]) ?_)
    refine AOL.Aaf (y:=.bool _) _ [(15,_),(17,_)] rfl (rX.all ⟨Ent.Aac _ _,Ent.Aac _ _,trivial⟩) (fun hG=>C7 (by kernel_rfl) rfl rfl (c99 e.kind e.val)) rfl ?_
    refine Qg [(18,_)] Qw Ge (Qg [(19,_)] Qw Bp (Qg [] Qw R1 (Qg [(21,_)] Qw Bs (Qg [(22,_)] Qw A5 (Qg [(23,_)] Qw Bp (Qg [] Qw Jp (Qg [(25,_)] Qw (Ck [Iq _,Iq _,.str _]) (Qg [] Qw (Ep [Iq _,Iq _,.str _]) ?_))))))))
    refine AOL.Aaf (y:=.bool _) _ [(26,_),(27,_)] rfl (rX.all ⟨Ent.Aac _ _,Ent.Aac _ _,trivial⟩) (fun hG=>Hm Ai rfl rfl rfl rfl rfl) rfl ?_
    refine Qg [(24,_),(28,_)] Qw E1 (Qg [(20,_),(29,_)] Qw E2 (Qp E1 (AOL.nil (Ae (A3 (fun hc2=>?_) fun hc2=>?_)))))
    · skip
      refine AW.seq (AW.region (Qp At (AOL.nil (Ae (Dr ?_)))))
      refine Qr (Iq _) ?_
      try simp only [Cx,Bool.and_true] at *
      first
        | (simp only [Ad,Fl];(first | rw [iN hc1] | skip);(first | rw [if_pos hc2] | skip);first | done | rfl)
        | (try simp only [Bool.not_eq_true',Bool.not_eq_false'] at *
           first
           | (simp only [Ad,Fl,isV0, *,Bool.false_eq_true,↓reduceIte,Bool.true_or,Bool.or_true,Bool.false_or,Bool.or_false,Bool.true_and,Bool.and_true,Bool.false_and,Bool.and_false,Bool.not_true,Bool.not_false];done)
           | (simp [Ad,Fl,isV0, *];done)
           | (simp_all [Ad,Fl,isV0];done))
        | skip
    · skip
      refine Bx (AW.seq (AW.region (Qp At (AOL.nil (Ae (AW.ret ?_))))))
      refine Qr (Iq _) ?_
      try simp only [Cx,Bool.and_true] at *
      first
        | (simp only [Ad,Fl];(first | rw [iN hc1] | skip);(first | rw [iN hc2] | skip);first | done | rfl)
        | (try simp only [Bool.not_eq_true',Bool.not_eq_false'] at *
           first
           | (simp only [Ad,Fl,isV0, *,Bool.false_eq_true,↓reduceIte,Bool.true_or,Bool.or_true,Bool.false_or,Bool.or_false,Bool.true_and,Bool.and_true,Bool.false_and,Bool.and_false,Bool.not_true,Bool.not_false];done)
           | (simp [Ad,Fl,isV0, *];done)
           | (simp_all [Ad,Fl,isV0];done))
        | skip
theorem c47 (e:Ex):Av Tryz.prog 69 [.agg (cE e)] (.int .i64 (Bw e)):=by
  refine Av.body (n:=114) Ai Tryz.func69 rfl rfl rfl fun H=>?_
  refine AW.seq (AW.region (Qp K8 (Qp At (AOL.nil (Ae (AW.seq (AW.region (Qp Ks (Qp Bs ?_)))))))))
  refine Qp (Qc rfl (c81 e.op)) ?_
  refine Qp Mv (Qp Jn (Qp eN (Qp At (Qp Be (AOL.nil (Ae (AW.seq (AW.seq (AW.region ?_)))))))))
  refine Qp Bp (Qp Ge (AOL.nil (Ae (A3 (fun hc1=>?_) fun hc1=>?_))))
  · skip
    refine AW.seq (AW.region (Qp At (AOL.nil (Ae (Dr ?_)))))
    refine Qr (Iq _) ?_
    try simp only [Cx,Bool.and_true] at *
    first
      | (simp only [Ad,Bw,Bk];(first | rw [if_pos hc1] | skip);first | done | rfl)
      | (try simp only [Bool.not_eq_true',Bool.not_eq_false'] at *
         first
         | (simp only [Ad,Bw,Bk,isV0, *,Bool.false_eq_true,↓reduceIte,Bool.true_or,Bool.or_true,Bool.false_or,Bool.or_false,Bool.true_and,Bool.and_true,Bool.false_and,Bool.and_false,Bool.not_true,Bool.not_false];done)
         | (simp [Ad,Bw,Bk,isV0, *];done)
         | (simp_all [Ad,Bw,Bk,isV0];done))
      | skip
  · skip
    refine Bx (AW.seq (AW.seq (AW.region (Qp K5 (Qp Dk ?_)))))
    refine Qp (Ak (n:=e.args.length) Ai rfl rfl rfl (by simp)) ?_
    refine Qp A0 (Qp Cr (AOL.nil (Ae (A3 (fun hc2=>?_) fun hc2=>?_))))
    · skip
      refine AW.seq (AW.region (Qp At (AOL.nil (Ae (Dr ?_)))))
      refine Qr (Iq _) ?_
      try simp only [Cx,Bool.and_true] at *
      first
        | (simp only [Ad,Bw,Bk];(first | rw [iN hc1] | skip);(first | rw [if_pos hc2] | skip);first | done | rfl)
        | (try simp only [Bool.not_eq_true',Bool.not_eq_false'] at *
           first
           | (simp only [Ad,Bw,Bk,isV0, *,Bool.false_eq_true,↓reduceIte,Bool.true_or,Bool.or_true,Bool.false_or,Bool.or_false,Bool.true_and,Bool.and_true,Bool.false_and,Bool.and_false,Bool.not_true,Bool.not_false];done)
           | (simp [Ad,Bw,Bk,isV0, *];done)
           | (simp_all [Ad,Bw,Bk,isV0];done))
        | skip
    · skip
      refine Bx (AW.seq (AW.region (Qp Ks (Qp Bs ?_))))
      refine Qp (Qc rfl (c52 e.op)) ?_
      refine Qp Mv (Qp eN (Qp eN (Qp Be (Qp Be (AOL.nil (Ae (AW.seq (AW.seq (AW.region ?_)))))))))
      refine Qp Bp (Qp Bp (Qg [] Qw Xo (Qg [(31,_)] Qw Bs (Qg [(32,_)] Qw Cj (Qg [(33,_)] Qw Bp (Qg [] Qw Xo (Qg [(35,_)] Qw Bs (Qg [(36,_)] Qw N9 (Qg [(34,_),(37,_)] Qw E2 ?_)))))))))
      refine Qp E1 (Qp Bp (Qg [] Qw Bp (Qg [(41,_)] Qw Bp (Qg [] Qw Q2 (Qg [(43,_)] Qw Bs (Qg [(44,_)] Qw Cj (Qg [(45,_)] Qw Bp (Qg [] Qw Q2 (Qg [(47,_)] Qw Bs ?_)))))))))
      refine Qg [(48,_)] Qw N9 (Qg [(46,_),(49,_)] Qw E2 (Qg [(42,_),(50,_)] Qw E1 (Qp E2 (AOL.nil (Ae (A3 (fun hc3=>?_) fun hc3=>?_))))))
      · skip
        refine AW.seq (AW.region (Qp At (AOL.nil (Ae (Dr ?_)))))
        refine Qr (Iq _) ?_
        try simp only [Cx,Bool.and_true] at *
        first
          | (simp only [Ad,Bw,Bk];(first | rw [iN hc1] | skip);(first | rw [iN hc2] | skip);(first | rw [if_pos hc3] | skip);first | done | rfl)
          | (try simp only [Bool.not_eq_true',Bool.not_eq_false'] at *
             first
             | (simp only [Ad,Bw,Bk,isV0, *,Bool.false_eq_true,↓reduceIte,Bool.true_or,Bool.or_true,Bool.false_or,Bool.or_false,Bool.true_and,Bool.and_true,Bool.false_and,Bool.and_false,Bool.not_true,Bool.not_false];done)
             | (simp [Ad,Bw,Bk,isV0, *];done)
             | (simp_all [Ad,Bw,Bk,isV0];done))
          | skip
      · skip
        refine Bx (AW.seq (AW.region (Qp Ks (Qp Bs (Qp A5 (Qp Be (AOL.nil (Ae (AW.seq ?_)))))))))
        refine AW.seq (AW.region (Qp Bp (Qp Bp (Qg [] Qw R1 (Qg [(58,_)] Qw Bs (Qg [(59,_)] Qw Cj (Qg [(60,_)] Qw Bp (Qg [] Qw R1 (Qg [(62,_)] Qw Bs ?_)))))))))
        refine Qg [(63,_)] Qw Hg (Qg [(61,_),(64,_)] Qw E2 (Qp E1 (AOL.nil (Ae (A3 (fun hc4=>?_) fun hc4=>?_)))))
        · skip
          refine AW.seq (AW.region (Qp At (AOL.nil (Ae (Dr ?_)))))
          refine Qr (Iq _) ?_
          try simp only [Cx,Bool.and_true] at *
          first
            | (simp only [Ad,Bw,Bk];(first | rw [iN hc1] | skip);(first | rw [iN hc2] | skip);(first | rw [iN hc3] | skip);(first | rw [if_pos hc4] | skip);first | done | rfl)
            | (try simp only [Bool.not_eq_true',Bool.not_eq_false'] at *
               first
               | (simp only [Ad,Bw,Bk,isV0, *,Bool.false_eq_true,↓reduceIte,Bool.true_or,Bool.or_true,Bool.false_or,Bool.or_false,Bool.true_and,Bool.and_true,Bool.false_and,Bool.and_false,Bool.not_true,Bool.not_false];done)
               | (simp [Ad,Bw,Bk,isV0, *];done)
               | (simp_all [Ad,Bw,Bk,isV0];done))
            | skip
        · skip
          refine Bx (AW.seq (AW.region (Qp Bp (Qp Bp (Qg [] Qw Ks (Qg [(69,_)] Qw Bs (Qg [(70,_)] Qw A5 (Qp E2 (Qp Be ?_)))))))))
          refine AOL.nil (Ae (AW.seq (AW.seq (AW.region (Qp Bp (AOL.nil (Ae (A3 (fun hc5=>?_) fun hc5=>?_))))))))
          · skip
            refine AW.seq (AW.region (Qp D0 ?_))
            refine Qp (Qc rfl (c82 e)) ?_
            refine Qp At (AOL.nil (Ae (AW.seq (AW.region (Qp A0 (Qp Cr (AOL.nil (Ae (A3 (fun hc6=>?_) fun hc6=>?_)))))))))
            · skip
              refine AW.seq (AW.region (Qp A0 (Qp At (AOL.nil (Ae (Dr ?_))))))
              refine Qr (Iq _) ?_
              try simp only [Cx,Bool.and_true] at *
              first
                | (simp only [Ad,Bw,Bk];(first | rw [iN hc1] | skip);(first | rw [iN hc2] | skip);(first | rw [iN hc3] | skip);(first | rw [iN hc4] | skip);(first | rw [if_pos hc5] | skip);(first | rw [if_pos hc6] | skip);first | done | rfl)
                | (try simp only [Bool.not_eq_true',Bool.not_eq_false'] at *
                   first
                   | (simp only [Ad,Bw,Bk,isV0, *,Bool.false_eq_true,↓reduceIte,Bool.true_or,Bool.or_true,Bool.false_or,Bool.or_false,Bool.true_and,Bool.and_true,Bool.false_and,Bool.and_false,Bool.not_true,Bool.not_false];done)
                   | (simp [Ad,Bw,Bk,isV0, *];done)
                   | (simp_all [Ad,Bw,Bk,isV0];done))
                | skip
            · skip
              refine Bx (AW.seq (AW.seq (AW.region (Qp Bp (Qp Ge (Qp Bp (Qg [] Qw Xo (Qg [(82,_)] Qw Bs (Qg [(83,_)] Qw Cr ?_)))))))))
              refine Qp E1 (Qp Bp (Qg [] Qw Bp (Qg [(87,_)] Qw Ge (Qg [(88,_)] Qw Bp (Qg [] Qw Q2 (Qg [(90,_)] Qw Bs (Qg [(91,_)] Qw Cr (Qg [(89,_),(92,_)] Qw E1 (Qp E2 ?_)))))))))
              refine Qp Bp (Qg [] Qw Bp (Qg [(96,_)] Qw Ge (Qg [(97,_)] Qw Bp (Qg [] Qw R1 (Qg [(99,_)] Qw Bs (Qg [(100,_)] Qw Cr (Qg [(98,_),(101,_)] Qw E1 (Qp E2 (Qp Bp ?_)))))))))
              refine Qg [] Qw Bp (Qg [(105,_)] Qw Ge (Qg [(106,_)] Qw Bp (Qg [] Qw Jp (Qg [(108,_)] Qw (Ck [Iq _,Iq _,.str _]) (Qg [] Qw (Ep [Iq _,Iq _,.str _]) ?_)))))
              refine AOL.Aaf (y:=.bool _) _ [(109,_),(110,_)] rfl (rX.all ⟨Ent.Aac _ _,Ent.Aac _ _,trivial⟩) (fun hG=>Hm Ai rfl rfl rfl rfl rfl) rfl ?_
              refine Qg [(107,_),(111,_)] Qw E1 (Qp E2 (AOL.nil (Ae (A3 (fun hc7=>?_) fun hc7=>?_))))
              · skip
                refine AW.seq (AW.region (Qp At (AOL.nil (Ae (Dr ?_)))))
                refine Qr (Iq _) ?_
                try simp only [Cx,Bool.and_true] at *
                first
                  | (simp only [Ad,Bw,Bk];(first | rw [iN hc1] | skip);(first | rw [iN hc2] | skip);(first | rw [iN hc3] | skip);(first | rw [iN hc4] | skip);(first | rw [if_pos hc5] | skip);(first | rw [iN hc6] | skip);(first | rw [if_pos hc7] | skip);first | done | rfl)
                  | (try simp only [Bool.not_eq_true',Bool.not_eq_false'] at *
                     first
                     | (simp only [Ad,Bw,Bk,isV0, *,Bool.false_eq_true,↓reduceIte,Bool.true_or,Bool.or_true,Bool.false_or,Bool.or_false,Bool.true_and,Bool.and_true,Bool.false_and,Bool.and_false,Bool.not_true,Bool.not_false];done)
                     | (simp [Ad,Bw,Bk,isV0, *];done)
                     | (simp_all [Ad,Bw,Bk,isV0];done))
                  | skip
              · skip
                refine Bx (AW.seq (AW.region (Qp At (AOL.nil (Ae (AW.ret ?_))))))
                refine Qr (Iq _) ?_
                try simp only [Cx,Bool.and_true] at *
                first
                  | (simp only [Ad,Bw,Bk];(first | rw [iN hc1] | skip);(first | rw [iN hc2] | skip);(first | rw [iN hc3] | skip);(first | rw [iN hc4] | skip);(first | rw [if_pos hc5] | skip);(first | rw [iN hc6] | skip);(first | rw [iN hc7] | skip);first | done | rfl)
                  | (try simp only [Bool.not_eq_true',Bool.not_eq_false'] at *
                     first
                     | (simp only [Ad,Bw,Bk,isV0, *,Bool.false_eq_true,↓reduceIte,Bool.true_or,Bool.or_true,Bool.false_or,Bool.or_false,Bool.true_and,Bool.and_true,Bool.false_and,Bool.and_false,Bool.not_true,Bool.not_false];done)
                     | (simp [Ad,Bw,Bk,isV0, *];done)
                     | (simp_all [Ad,Bw,Bk,isV0];done))
                  | skip
          · skip
            refine Bx (AW.seq (AW.seq (AW.region (Qp Bp (Qp Ge (Qp Bp (Qg [] Qw Xo (Qg [(82,_)] Qw Bs (Qg [(83,_)] Qw Cr ?_)))))))))
            refine Qp E1 (Qp Bp (Qg [] Qw Bp (Qg [(87,_)] Qw Ge (Qg [(88,_)] Qw Bp (Qg [] Qw Q2 (Qg [(90,_)] Qw Bs (Qg [(91,_)] Qw Cr (Qg [(89,_),(92,_)] Qw E1 (Qp E2 ?_)))))))))
            refine Qp Bp (Qg [] Qw Bp (Qg [(96,_)] Qw Ge (Qg [(97,_)] Qw Bp (Qg [] Qw R1 (Qg [(99,_)] Qw Bs (Qg [(100,_)] Qw Cr (Qg [(98,_),(101,_)] Qw E1 (Qp E2 (Qp Bp ?_)))))))))
            refine Qg [] Qw Bp (Qg [(105,_)] Qw Ge (Qg [(106,_)] Qw Bp (Qg [] Qw Jp (Qg [(108,_)] Qw (Ck [Iq _,Iq _,.str _]) (Qg [] Qw (Ep [Iq _,Iq _,.str _]) ?_)))))
            refine AOL.Aaf (y:=.bool _) _ [(109,_),(110,_)] rfl (rX.all ⟨Ent.Aac _ _,Ent.Aac _ _,trivial⟩) (fun hG=>Hm Ai rfl rfl rfl rfl rfl) rfl ?_
            refine Qg [(107,_),(111,_)] Qw E1 (Qp E2 (AOL.nil (Ae (A3 (fun hc8=>?_) fun hc8=>?_))))
            · skip
              refine AW.seq (AW.region (Qp At (AOL.nil (Ae (Dr ?_)))))
              refine Qr (Iq _) ?_
              try simp only [Cx,Bool.and_true] at *
              first
                | (simp only [Ad,Bw,Bk];(first | rw [iN hc1] | skip);(first | rw [iN hc2] | skip);(first | rw [iN hc3] | skip);(first | rw [iN hc4] | skip);(first | rw [iN hc5] | skip);(first | rw [if_pos hc8] | skip);first | done | rfl)
                | (try simp only [Bool.not_eq_true',Bool.not_eq_false'] at *
                   first
                   | (simp only [Ad,Bw,Bk,isV0, *,Bool.false_eq_true,↓reduceIte,Bool.true_or,Bool.or_true,Bool.false_or,Bool.or_false,Bool.true_and,Bool.and_true,Bool.false_and,Bool.and_false,Bool.not_true,Bool.not_false];done)
                   | (simp [Ad,Bw,Bk,isV0, *];done)
                   | (simp_all [Ad,Bw,Bk,isV0];done))
                | skip
            · skip
              refine Bx (AW.seq (AW.region (Qp At (AOL.nil (Ae (AW.ret ?_))))))
              refine Qr (Iq _) ?_
              try simp only [Cx,Bool.and_true] at *
              first
                | (simp only [Ad,Bw,Bk];(first | rw [iN hc1] | skip);(first | rw [iN hc2] | skip);(first | rw [iN hc3] | skip);(first | rw [iN hc4] | skip);(first | rw [iN hc5] | skip);(first | rw [iN hc8] | skip);first | done | rfl)
                | (try simp only [Bool.not_eq_true',Bool.not_eq_false'] at *
                   first
                   | (simp only [Ad,Bw,Bk,isV0, *,Bool.false_eq_true,↓reduceIte,Bool.true_or,Bool.or_true,Bool.false_or,Bool.or_false,Bool.true_and,Bool.and_true,Bool.false_and,Bool.and_false,Bool.not_true,Bool.not_false];done)
                   | (simp [Ad,Bw,Bk,isV0, *];done)
                   | (simp_all [Ad,Bw,Bk,isV0];done))
                | skip
theorem c83 (e:Ex):Av Tryz.prog 142 [.agg (cE e)] (.int .i64 (Bw e)):=by
  refine Av.body (n:=131) Ai Tryz.func142 rfl rfl rfl fun H=>?_
  refine AW.seq (AW.region (Qp K8 (Qp At (AOL.nil (Ae (AW.seq (AW.region (Qp Ks (Qp Bs ?_)))))))))
  refine Qp (Qc rfl (c100 e.op)) ?_
  refine Qp At (AOL.nil (Ae (AW.seq (AW.seq (AW.region (Qp A0 (Qp Cj (AOL.nil (Ae (A3 (fun hc1=>?_) fun hc1=>?_))))))))))
  · skip
    refine AW.seq (AW.region (Qp At (AOL.nil (Ae (Dr ?_)))))
    refine Qr (Iq _) ?_
    rw [←H5]
    try simp only [Cx,Bool.and_true] at *
    first
      | (simp only [Ad,Cl,Bk];(first | rw [if_pos hc1] | skip);first | done | rfl)
      | (try simp only [Bool.not_eq_true',Bool.not_eq_false'] at *
         first
         | (simp only [Ad,Cl,Bk,isV0, *,Bool.false_eq_true,↓reduceIte,Bool.true_or,Bool.or_true,Bool.false_or,Bool.or_false,Bool.true_and,Bool.and_true,Bool.false_and,Bool.and_false,Bool.not_true,Bool.not_false];done)
         | (simp [Ad,Cl,Bk,isV0, *];done)
         | (simp_all [Ad,Cl,Bk,isV0];done))
      | skip
  · skip
    refine Bx (AW.seq (AW.seq (AW.region (Qp K5 (Qp Dk ?_)))))
    refine Qp (Ak (n:=e.args.length) Ai rfl rfl rfl (by simp)) ?_
    refine Qp A0 (Qp Cr (AOL.nil (Ae (A3 (fun hc2=>?_) fun hc2=>?_))))
    · skip
      refine AW.seq (AW.region (Qp At (AOL.nil (Ae (Dr ?_)))))
      refine Qr (Iq _) ?_
      rw [←H5]
      try simp only [Cx,Bool.and_true] at *
      first
        | (simp only [Ad,Cl,Bk];(first | rw [iN hc1] | skip);(first | rw [if_pos hc2] | skip);first | done | rfl)
        | (try simp only [Bool.not_eq_true',Bool.not_eq_false'] at *
           first
           | (simp only [Ad,Cl,Bk,isV0, *,Bool.false_eq_true,↓reduceIte,Bool.true_or,Bool.or_true,Bool.false_or,Bool.or_false,Bool.true_and,Bool.and_true,Bool.false_and,Bool.and_false,Bool.not_true,Bool.not_false];done)
           | (simp [Ad,Cl,Bk,isV0, *];done)
           | (simp_all [Ad,Cl,Bk,isV0];done))
        | skip
    · skip
      refine Bx (AW.seq (AW.region (Qp Ks (Qp Bs ?_))))
      refine Qp (Qc rfl (c84 e.op)) ?_
      refine Qp Mv (Qp eN (Qp eN (Qp Be (Qp Be (AOL.nil (Ae (AW.seq (AW.seq (AW.region ?_)))))))))
      refine Qp Bp (Qp Bp (Qg [] Qw Xo (Qg [(27,_)] Qw Bs (Qg [(28,_)] Qw Cj (Qg [(29,_)] Qw Bp (Qg [] Qw Xo (Qg [(31,_)] Qw Bs (Qg [(32,_)] Qw N9 (Qg [(30,_),(33,_)] Qw E2 ?_)))))))))
      refine Qp E1 (Qp Bp (Qg [] Qw Bp (Qg [(37,_)] Qw Bp (Qg [] Qw Q2 (Qg [(39,_)] Qw Bs (Qg [(40,_)] Qw Cj (Qg [(41,_)] Qw Bp (Qg [] Qw Q2 (Qg [(43,_)] Qw Bs ?_)))))))))
      refine Qg [(44,_)] Qw N9 (Qg [(42,_),(45,_)] Qw E2 (Qg [(38,_),(46,_)] Qw E1 (Qp E2 (AOL.nil (Ae (A3 (fun hc3=>?_) fun hc3=>?_))))))
      · skip
        refine AW.seq (AW.region (Qp At (AOL.nil (Ae (Dr ?_)))))
        refine Qr (Iq _) ?_
        rw [←H5]
        try simp only [Cx,Bool.and_true] at *
        first
          | (simp only [Ad,Cl,Bk];(first | rw [iN hc1] | skip);(first | rw [iN hc2] | skip);(first | rw [if_pos hc3] | skip);first | done | rfl)
          | (try simp only [Bool.not_eq_true',Bool.not_eq_false'] at *
             first
             | (simp only [Ad,Cl,Bk,isV0, *,Bool.false_eq_true,↓reduceIte,Bool.true_or,Bool.or_true,Bool.false_or,Bool.or_false,Bool.true_and,Bool.and_true,Bool.false_and,Bool.and_false,Bool.not_true,Bool.not_false];done)
             | (simp [Ad,Cl,Bk,isV0, *];done)
             | (simp_all [Ad,Cl,Bk,isV0];done))
          | skip
      · skip
        refine Bx (AW.seq (AW.region (Qp Ks (Qp Bs (Qp A5 (Qp Be (AOL.nil (Ae (AW.seq ?_)))))))))
        refine AW.seq (AW.region (Qp Bp (Qp Bp (Qg [] Qw R1 (Qg [(54,_)] Qw Bs (Qg [(55,_)] Qw Cj (Qg [(56,_)] Qw Bp (Qg [] Qw R1 (Qg [(58,_)] Qw Bs ?_)))))))))
        refine Qg [(59,_)] Qw Hg (Qg [(57,_),(60,_)] Qw E2 (Qp E1 (AOL.nil (Ae (A3 (fun hc4=>?_) fun hc4=>?_)))))
        · skip
          refine AW.seq (AW.region (Qp At (AOL.nil (Ae (Dr ?_)))))
          refine Qr (Iq _) ?_
          rw [←H5]
          try simp only [Cx,Bool.and_true] at *
          first
            | (simp only [Ad,Cl,Bk];(first | rw [iN hc1] | skip);(first | rw [iN hc2] | skip);(first | rw [iN hc3] | skip);(first | rw [if_pos hc4] | skip);first | done | rfl)
            | (try simp only [Bool.not_eq_true',Bool.not_eq_false'] at *
               first
               | (simp only [Ad,Cl,Bk,isV0, *,Bool.false_eq_true,↓reduceIte,Bool.true_or,Bool.or_true,Bool.false_or,Bool.or_false,Bool.true_and,Bool.and_true,Bool.false_and,Bool.and_false,Bool.not_true,Bool.not_false];done)
               | (simp [Ad,Cl,Bk,isV0, *];done)
               | (simp_all [Ad,Cl,Bk,isV0];done))
            | skip
        · skip
          refine Bx (AW.seq (AW.region (Qp Bp (Qp Bp (Qg [] Qw Ks (Qg [(65,_)] Qw Bs (Qg [(66,_)] Qw A5 (Qp E2 (Qp Be ?_)))))))))
          refine AOL.nil (Ae (AW.seq (AW.seq (AW.region (Qp Bp (AOL.nil (Ae (A3 (fun hc5=>?_) fun hc5=>?_))))))))
          · skip
            refine AW.seq (AW.region (Qp Jp (Qp (Ck [Iq _,Iq _,.str _]) ?_)))
            refine Qp (Qc rfl (c79 e.val)) ?_
            refine Qp At (AOL.nil (Ae (AW.seq (AW.region (Qp A0 (Qp Cr (AOL.nil (Ae (A3 (fun hc6=>?_) fun hc6=>?_)))))))))
            · skip
              refine AW.seq (AW.region (Qp A0 (Qp At (AOL.nil (Ae (Dr ?_))))))
              refine Qr (Iq _) ?_
              rw [←H5]
              try simp only [Cx,Bool.and_true] at *
              first
                | (simp only [Ad,Cl,Bk];(first | rw [iN hc1] | skip);(first | rw [iN hc2] | skip);(first | rw [iN hc3] | skip);(first | rw [iN hc4] | skip);(first | rw [if_pos hc5] | skip);(first | rw [if_pos hc6] | skip);first | done | rfl)
                | (try simp only [Bool.not_eq_true',Bool.not_eq_false'] at *
                   first
                   | (simp only [Ad,Cl,Bk,isV0, *,Bool.false_eq_true,↓reduceIte,Bool.true_or,Bool.or_true,Bool.false_or,Bool.or_false,Bool.true_and,Bool.and_true,Bool.false_and,Bool.and_false,Bool.not_true,Bool.not_false];done)
                   | (simp [Ad,Cl,Bk,isV0, *];done)
                   | (simp_all [Ad,Cl,Bk,isV0];done))
                | skip
            · skip
              refine Bx (AW.seq (AW.seq (AW.region (Qp Bp (Qp Bp (Qg [] Qw R1 (Qg [(78,_)] Qw Bs (Qg [] Qw Jp (Qg [(80,_)] Qw (Ck [Iq _,Iq _,.str _]) ?_)))))))))
              refine AOL.Aaf (y:=.bool _) _ [(79,_),(81,_)] rfl (rX.all ⟨Ent.Aac _ _,Ent.Aac _ _,trivial⟩) (fun hG=>C7 (by kernel_rfl) rfl rfl (c101 e.kind e.val)) rfl ?_
              refine Qg [(82,_)] Qw Ge (Qg [(83,_)] Qw Bp (Qg [] Qw R1 (Qg [(85,_)] Qw Bs (Qg [(86,_)] Qw A5 (Qg [(87,_)] Qw Bp (Qg [] Qw Jp (Qg [(89,_)] Qw (Ck [Iq _,Iq _,.str _]) (Qg [] Qw (Ep [Iq _,Iq _,.str _]) ?_))))))))
              refine AOL.Aaf (y:=.bool _) _ [(90,_),(91,_)] rfl (rX.all ⟨Ent.Aac _ _,Ent.Aac _ _,trivial⟩) (fun hG=>Hm Ai rfl rfl rfl rfl rfl) rfl ?_
              refine Qg [(88,_),(92,_)] Qw E1 (Qg [(84,_),(93,_)] Qw E2 (Qp E1 (AOL.nil (Ae (A3 (fun hc7=>?_) fun hc7=>?_)))))
              · skip
                refine AW.seq (AW.region (Qp At (AOL.nil (Ae (Dr ?_)))))
                refine Qr (Iq _) ?_
                rw [←H5]
                try simp only [Cx,Bool.and_true] at *
                first
                  | (simp only [Ad,Cl,Bk];(first | rw [iN hc1] | skip);(first | rw [iN hc2] | skip);(first | rw [iN hc3] | skip);(first | rw [iN hc4] | skip);(first | rw [if_pos hc5] | skip);(first | rw [iN hc6] | skip);(first | rw [if_pos hc7] | skip);first | done | rfl)
                  | (try simp only [Bool.not_eq_true',Bool.not_eq_false'] at *
                     first
                     | (simp only [Ad,Cl,Bk,isV0, *,Bool.false_eq_true,↓reduceIte,Bool.true_or,Bool.or_true,Bool.false_or,Bool.or_false,Bool.true_and,Bool.and_true,Bool.false_and,Bool.and_false,Bool.not_true,Bool.not_false];done)
                     | (simp [Ad,Cl,Bk,isV0, *];done)
                     | (simp_all [Ad,Cl,Bk,isV0];done))
                  | skip
              · skip
                refine Bx (AW.seq (AW.seq (AW.region (Qp Bp (Qp Ge (Qp Bp (Qg [] Qw Xo (Qg [(99,_)] Qw Bs (Qg [(100,_)] Qw Cr ?_)))))))))
                refine Qp E1 (Qp Bp (Qg [] Qw Bp (Qg [(104,_)] Qw Ge (Qg [(105,_)] Qw Bp (Qg [] Qw Q2 (Qg [(107,_)] Qw Bs (Qg [(108,_)] Qw Cr (Qg [(106,_),(109,_)] Qw E1 (Qp E2 ?_)))))))))
                refine Qp Bp (Qg [] Qw Bp (Qg [(113,_)] Qw Ge (Qg [(114,_)] Qw Bp (Qg [] Qw R1 (Qg [(116,_)] Qw Bs (Qg [(117,_)] Qw Cr (Qg [(115,_),(118,_)] Qw E1 (Qp E2 (Qp Bp ?_)))))))))
                refine Qg [] Qw Bp (Qg [(122,_)] Qw Ge (Qg [(123,_)] Qw Bp (Qg [] Qw Jp (Qg [(125,_)] Qw (Ck [Iq _,Iq _,.str _]) (Qg [] Qw (Ep [Iq _,Iq _,.str _]) ?_)))))
                refine AOL.Aaf (y:=.bool _) _ [(126,_),(127,_)] rfl (rX.all ⟨Ent.Aac _ _,Ent.Aac _ _,trivial⟩) (fun hG=>Hm Ai rfl rfl rfl rfl rfl) rfl ?_
                refine Qg [(124,_),(128,_)] Qw E1 (Qp E2 (AOL.nil (Ae (A3 (fun hc8=>?_) fun hc8=>?_))))
                · skip
                  refine AW.seq (AW.region (Qp At (AOL.nil (Ae (Dr ?_)))))
                  refine Qr (Iq _) ?_
                  rw [←H5]
                  try simp only [Cx,Bool.and_true] at *
                  first
                    | (simp only [Ad,Cl,Bk];(first | rw [iN hc1] | skip);(first | rw [iN hc2] | skip);(first | rw [iN hc3] | skip);(first | rw [iN hc4] | skip);(first | rw [if_pos hc5] | skip);(first | rw [iN hc6] | skip);(first | rw [iN hc7] | skip);(first | rw [if_pos hc8] | skip);first | done | rfl)
                    | (try simp only [Bool.not_eq_true',Bool.not_eq_false'] at *
                       first
                       | (simp only [Ad,Cl,Bk,isV0, *,Bool.false_eq_true,↓reduceIte,Bool.true_or,Bool.or_true,Bool.false_or,Bool.or_false,Bool.true_and,Bool.and_true,Bool.false_and,Bool.and_false,Bool.not_true,Bool.not_false];done)
                       | (simp [Ad,Cl,Bk,isV0, *];done)
                       | (simp_all [Ad,Cl,Bk,isV0];done))
                    | skip
                · skip
                  refine Bx (AW.seq (AW.region (Qp At (AOL.nil (Ae (AW.ret ?_))))))
                  refine Qr (Iq _) ?_
                  rw [←H5]
                  try simp only [Cx,Bool.and_true] at *
                  first
                    | (simp only [Ad,Cl,Bk];(first | rw [iN hc1] | skip);(first | rw [iN hc2] | skip);(first | rw [iN hc3] | skip);(first | rw [iN hc4] | skip);(first | rw [if_pos hc5] | skip);(first | rw [iN hc6] | skip);(first | rw [iN hc7] | skip);(first | rw [iN hc8] | skip);first | done | rfl)
                    | (try simp only [Bool.not_eq_true',Bool.not_eq_false'] at *
                       first
                       | (simp only [Ad,Cl,Bk,isV0, *,Bool.false_eq_true,↓reduceIte,Bool.true_or,Bool.or_true,Bool.false_or,Bool.or_false,Bool.true_and,Bool.and_true,Bool.false_and,Bool.and_false,Bool.not_true,Bool.not_false];done)
                       | (simp [Ad,Cl,Bk,isV0, *];done)
                       | (simp_all [Ad,Cl,Bk,isV0];done))
                    | skip
          · skip
            refine Bx (AW.seq (AW.seq (AW.region (Qp Bp (Qp Bp (Qg [] Qw R1 (Qg [(78,_)] Qw Bs (Qg [] Qw Jp (Qg [(80,_)] Qw (Ck [Iq _,Iq _,.str _]) ?_)))))))))
            refine AOL.Aaf (y:=.bool _) _ [(79,_),(81,_)] rfl (rX.all ⟨Ent.Aac _ _,Ent.Aac _ _,trivial⟩) (fun hG=>C7 (by kernel_rfl) rfl rfl (c101 e.kind e.val)) rfl ?_
            refine Qg [(82,_)] Qw Ge (Qg [(83,_)] Qw Bp (Qg [] Qw R1 (Qg [(85,_)] Qw Bs (Qg [(86,_)] Qw A5 (Qg [(87,_)] Qw Bp (Qg [] Qw Jp (Qg [(89,_)] Qw (Ck [Iq _,Iq _,.str _]) (Qg [] Qw (Ep [Iq _,Iq _,.str _]) ?_))))))))
            refine AOL.Aaf (y:=.bool _) _ [(90,_),(91,_)] rfl (rX.all ⟨Ent.Aac _ _,Ent.Aac _ _,trivial⟩) (fun hG=>Hm Ai rfl rfl rfl rfl rfl) rfl ?_
            refine Qg [(88,_),(92,_)] Qw E1 (Qg [(84,_),(93,_)] Qw E2 (Qp E1 (AOL.nil (Ae (A3 (fun hc9=>?_) fun hc9=>?_)))))
            · skip
              refine AW.seq (AW.region (Qp At (AOL.nil (Ae (Dr ?_)))))
              refine Qr (Iq _) ?_
              rw [←H5]
              try simp only [Cx,Bool.and_true] at *
              first
                | (simp only [Ad,Cl,Bk];(first | rw [iN hc1] | skip);(first | rw [iN hc2] | skip);(first | rw [iN hc3] | skip);(first | rw [iN hc4] | skip);(first | rw [iN hc5] | skip);(first | rw [if_pos hc9] | skip);first | done | rfl)
                | (try simp only [Bool.not_eq_true',Bool.not_eq_false'] at *
                   first
                   | (simp only [Ad,Cl,Bk,isV0, *,Bool.false_eq_true,↓reduceIte,Bool.true_or,Bool.or_true,Bool.false_or,Bool.or_false,Bool.true_and,Bool.and_true,Bool.false_and,Bool.and_false,Bool.not_true,Bool.not_false];done)
                   | (simp [Ad,Cl,Bk,isV0, *];done)
                   | (simp_all [Ad,Cl,Bk,isV0];done))
                | skip
            · skip
              refine Bx (AW.seq (AW.seq (AW.region (Qp Bp (Qp Ge (Qp Bp (Qg [] Qw Xo (Qg [(99,_)] Qw Bs (Qg [(100,_)] Qw Cr ?_)))))))))
              refine Qp E1 (Qp Bp (Qg [] Qw Bp (Qg [(104,_)] Qw Ge (Qg [(105,_)] Qw Bp (Qg [] Qw Q2 (Qg [(107,_)] Qw Bs (Qg [(108,_)] Qw Cr (Qg [(106,_),(109,_)] Qw E1 (Qp E2 ?_)))))))))
              refine Qp Bp (Qg [] Qw Bp (Qg [(113,_)] Qw Ge (Qg [(114,_)] Qw Bp (Qg [] Qw R1 (Qg [(116,_)] Qw Bs (Qg [(117,_)] Qw Cr (Qg [(115,_),(118,_)] Qw E1 (Qp E2 (Qp Bp ?_)))))))))
              refine Qg [] Qw Bp (Qg [(122,_)] Qw Ge (Qg [(123,_)] Qw Bp (Qg [] Qw Jp (Qg [(125,_)] Qw (Ck [Iq _,Iq _,.str _]) (Qg [] Qw (Ep [Iq _,Iq _,.str _]) ?_)))))
              refine AOL.Aaf (y:=.bool _) _ [(126,_),(127,_)] rfl (rX.all ⟨Ent.Aac _ _,Ent.Aac _ _,trivial⟩) (fun hG=>Hm Ai rfl rfl rfl rfl rfl) rfl ?_
              refine Qg [(124,_),(128,_)] Qw E1 (Qp E2 (AOL.nil (Ae (A3 (fun hc10=>?_) fun hc10=>?_))))
              · skip
                refine AW.seq (AW.region (Qp At (AOL.nil (Ae (Dr ?_)))))
                refine Qr (Iq _) ?_
                rw [←H5]
                try simp only [Cx,Bool.and_true] at *
                first
                  | (simp only [Ad,Cl,Bk];(first | rw [iN hc1] | skip);(first | rw [iN hc2] | skip);(first | rw [iN hc3] | skip);(first | rw [iN hc4] | skip);(first | rw [iN hc5] | skip);(first | rw [iN hc9] | skip);(first | rw [if_pos hc10] | skip);first | done | rfl)
                  | (try simp only [Bool.not_eq_true',Bool.not_eq_false'] at *
                     first
                     | (simp only [Ad,Cl,Bk,isV0, *,Bool.false_eq_true,↓reduceIte,Bool.true_or,Bool.or_true,Bool.false_or,Bool.or_false,Bool.true_and,Bool.and_true,Bool.false_and,Bool.and_false,Bool.not_true,Bool.not_false];done)
                     | (simp [Ad,Cl,Bk,isV0, *];done)
                     | (simp_all [Ad,Cl,Bk,isV0];done))
                  | skip
              · skip
                refine Bx (AW.seq (AW.region (Qp At (AOL.nil (Ae (AW.ret ?_))))))
                refine Qr (Iq _) ?_
                rw [←H5]
                try simp only [Cx,Bool.and_true] at *
                first
                  | (simp only [Ad,Cl,Bk];(first | rw [iN hc1] | skip);(first | rw [iN hc2] | skip);(first | rw [iN hc3] | skip);(first | rw [iN hc4] | skip);(first | rw [iN hc5] | skip);(first | rw [iN hc9] | skip);(first | rw [iN hc10] | skip);first | done | rfl)
                  | (try simp only [Bool.not_eq_true',Bool.not_eq_false'] at *
                     first
                     | (simp only [Ad,Cl,Bk,isV0, *,Bool.false_eq_true,↓reduceIte,Bool.true_or,Bool.or_true,Bool.false_or,Bool.or_false,Bool.true_and,Bool.and_true,Bool.false_and,Bool.and_false,Bool.not_true,Bool.not_false];done)
                     | (simp [Ad,Cl,Bk,isV0, *];done)
                     | (simp_all [Ad,Cl,Bk,isV0];done))
                  | skip
theorem c23 (e:Ex)(hs:Ar e≤1048576):Av Tryz.prog 67 [.agg (cE e)] (.tuple [.int .i64 (Ar e),.int .i64 (Ez e)]):=by
 revert hs
 induction e using Ex.Aak
 rename_i e ih
 intro hs
 refine Av.body (n:=32) Ai Tryz.func67 rfl rfl rfl fun H=>?_
 refine Ah (Qp K8 (Qp At (Qp At (Df (Qp At (Qp At (Ag (AW.seq (Ah ?_)))))))))
 refine Qp K5 (Qp Dk ?_)
 refine Qp (Ak (n:=e.args.length) Ai rfl rfl rfl (by simp)) ?_
 refine Qp A0 (Ag (AW.block ?_))
 refine AW.sllen 11 rfl fun hlen=>?_
 simp only [List.length_map,maxLen] at hlen
 refine AW.Aae (fun (p:Nat×Nat×Nat)=>(⟨[(4,.int .i64 (p.2.1:Int)),(5,.int .i64 (p.2.2:Int)),(11,.sl 8 (e.args.map Fu)),(12,.int .i64 e.args.length),(13,.int .i64 (p.1:Int))],H,32⟩:St)) (fun (p:Nat×Nat×Nat)=>p.1≤e.args.length∧Ar e=p.2.1+((e.args.drop p.1).map Ar).sum∧Ez e=max p.2.2 (((e.args.drop p.1).map Ez).foldr max 0)+1∧p.2.2≤1048576) (fun (p:Nat×Nat×Nat)=>e.args.length-p.1) ((0,1,0)) ?_ (GS.weaken ⟨rfl,rfl,rfl,rfl,rfl,trivial⟩ (.refl _)) ?_
 · exact ⟨Nat.zero_le _,by simpa using D5 e,by simpa using Tz e,Nat.zero_le _⟩
 ·
  rintro p hR
  refine Ah (Qp Cj (Ag (AW.seq (A3 (fun hc1=>?_) fun hc1=>?_))))
  ·
   obtain ⟨a,ha⟩:=B2 hc1
   have hlt:=A9 ha
   have hm:=List.mem_of_getElem? ha
   have hsa:=Gv hm
   have hda:=J9 a
   have h1:=eI p.2.1 ha
   have h2:=O6 p.2.2 ha
   refine Bx (AW.seq (AW.block (Ah ?_)))
   refine Qp (Af (c:=[Iq _,_,Iq _,Iq _,Iq _,Iq _,Iq _,.str _]) Ai rfl rfl rfl rfl rfl rfl (by omega) (E9 ha)) ?_
   refine Qp D0 ?_
   refine Qe (Al (l:=[.int .i64 0,.sl 8 [],.int .i64 0,.int .i64 0,.int .i64 0,.int .i64 0,.int .i64 0,.str []]) (by kernel_rfl)) ?_
   rintro _ _ ⟨b7,rfl,rfl⟩
   refine Cm 0 [Iq _,_,Iq _,Iq _,Iq _,Iq _,Iq _,.str _] (_::_) ?_
   refine AOL.ghost (GS.Aad (t:=7) 0 rfl rfl) ?_
   refine Df (Qp D0 ?_)
   refine Qp (Qc rfl (ih a hm (by have:=Gv hm;omega))) ?_
   refine Qp Mv (Qp Jn (Qp Jn (Qp At (Qp At (Ag (AW.region (Qp A0 (Qp A0 (Qp Fv ?_)))))))))
   refine Qp A0 (Qp A0 ?_)
   refine Qp (uS rfl rfl) ?_
   refine Qp At (Qp At (AOL.nil (Bq (Ae (AW.region (Qp Fv (Qp A0 (Ag ?_))))))))
   refine ⟨(p.1+1,p.2.1+Ar a,max p.2.2 (Ez a)),?_,?_,GS.weaken ⟨rfl,congrArg (AV.int .i64) (by simp only;omega),rfl,rfl,rfl,trivial⟩ (.refl _)⟩
   · simp only;exact ⟨hlt,by omega,by omega,by omega⟩
   · first | omega | (simp only;omega)
  ·
   have hd:=Dh hc1
   refine AW.exit ?_
   refine A6 (A6 (Bv (Ae (Ah (Qp A0 (Qp A0 ?_))))))
   refine Qp (gM rfl rfl rfl (by have:=J9 e;constructor <;> omega)) ?_
   refine Qp At (Qp At (Ag (AW.ret ?_)))
   refine Km (Iq _) (Iq _) ?_
   rw [hd] at hR
   simp only [List.map_nil,List.sum_nil,List.foldr_nil] at hR
   simp only [Ad,AV.tuple.injEq,List.cons.injEq,AV.int.injEq,true_and,and_true]
   omega
theorem c48 (L:Nat)(e:Ex)(hs:Ar e≤1048576):Av Tryz.prog 56 [.agg (cE e),.int .i64 (L:Int)] (.int .i64 (Ha L e)):=by
 revert hs
 induction e using Ex.Aak
 rename_i e ih
 intro hs
 refine Av.body (n:=29) Ai Tryz.func56 rfl rfl rfl fun H=>?_
 refine Ah (Qp K8 (Qp At (Df (Qp At (Ag (AW.seq (Ah (Qp At (Ag ?_)))))))))
 refine AW.block ?_
 refine AW.Aae (fun (p:Nat×Nat)=>(⟨[(1,.int .i64 (L:Int)),(2,.ptr (cE e)),(5,.int .i64 (p.2:Int)),(6,.int .i64 (p.1:Int))],H,29⟩:St)) (fun (p:Nat×Nat)=>p.1≤e.args.length∧Ha L e=F4 L (e.args.drop p.1) p.2∧p.2+((e.args.drop p.1).map Ar).sum≤Ar e∧e.args.length≤1048576) (fun (p:Nat×Nat)=>e.args.length-p.1) ((0,1)) ?_ (GS.weaken ⟨rfl,rfl,rfl,rfl,trivial⟩ (.refl _)) ?_
 · exact ⟨Nat.zero_le _,by simpa using aN L e,by simpa using Nat.le_of_eq (D5 e).symm,Np e hs⟩
 ·
  rintro p hR
  refine AW.seq (Ah (Qp A0 (Qp K5 (Qp Dk ?_))))
  refine Qp (Ak (n:=e.args.length) Ai rfl rfl rfl (by simp)) ?_
  refine Qp Cj (Qp Bp (Qg [] Qw A0 (Qg [] Qw A0 ?_)))
  refine AOL.Aaf (y:=.bool _) _ [(13,_),(14,_)] rfl (rX.all ⟨Ent.Aac _ _,Ent.Aac _ _,trivial⟩) (fun hG=>wG rfl rfl) rfl ?_
  refine Qp E1 (Ag (A3 (fun hc1=>?_) fun hc1=>?_))
  ·
   simp only [Bool.and_eq_true] at hc1
   obtain ⟨a,ha⟩:=B2 hc1.1
   have hlt:=A9 ha
   have hm:=List.mem_of_getElem? ha
   have hsa:=Gv hm
   have hle:p.2≤L:=by simpa using hc1.2
   have h1:=eI p.2 ha
   have h2:=W4 L a
   have h3:=hR.2.1
   rw [A8 ha,F4,if_pos hle] at h3
   refine Bx (AW.seq (AW.block (AW.region (Qp A0 (Qp K5 (Qp Dk (Qp A0 ?_)))))))
   refine Qp (Af (c:=[Iq _,_,Iq _,Iq _,Iq _,Iq _,Iq _,.str _]) Ai rfl rfl rfl rfl rfl rfl (by omega) (E9 ha)) ?_
   refine Qp D0 (Qp A0 ?_)
   refine Qp (Qc rfl (ih a hm (by have:=Gv hm;omega))) ?_
   refine Qp Fv (Qp At (AOL.nil (Bq (Ae (AW.region (Qp A0 (Qp Fv (Qp At (Ag ?_)))))))))
   refine ⟨(p.1+1,p.2+Ha L a),?_,?_,GS.weaken ⟨rfl,rfl,rfl,rfl,trivial⟩ (.refl _)⟩
   · simp only;exact ⟨hlt,h3,by omega,hR.2.2.2⟩
   · first | omega | (simp only;omega)
  ·
   refine AW.exit ?_
   refine A6 (A6 (Bv (Ae (Ah (Qp A0 (Qp At (Ag (AW.ret ?_))))))))
   refine Qr (Iq _) ?_
   simp only [Ad,AV.int.injEq,true_and]
   rw [hR.2.1]
   simp only [Bool.and_eq_false_iff] at hc1
   rcases hc1 with hc1 | hc1
   · rw [Dh hc1,F4]
   · rw [dJ (by simpa using hc1)]
theorem c49 (e:Ex)(hs:Ar e≤1048576):Av Tryz.prog 57 [.agg (cE e)] (.int .i64 (Ez e)):=by
 revert hs
 induction e using Ex.Aak
 rename_i e ih
 intro hs
 refine Av.body (n:=22) Ai Tryz.func57 rfl rfl rfl fun H=>?_
 refine Ah (Qp K8 (Qp At (Df (Qp At (Ag (AW.seq (Ah (Qp At (Ag ?_)))))))))
 refine AW.block ?_
 refine AW.Aae (fun (p:Nat×Nat)=>(⟨[(1,.ptr (cE e)),(3,.int .i64 (p.2:Int)),(4,.int .i64 (p.1:Int))],H,22⟩:St)) (fun (p:Nat×Nat)=>p.1≤e.args.length∧Ez e=max p.2 (((e.args.drop p.1).map Ez).foldr max 0)+1∧p.2≤1048576∧e.args.length≤1048576) (fun (p:Nat×Nat)=>e.args.length-p.1) ((0,0)) ?_ (GS.weaken ⟨rfl,rfl,rfl,trivial⟩ (.refl _)) ?_
 · exact ⟨Nat.zero_le _,by simpa using Tz e,Nat.zero_le _,Np e hs⟩
 ·
  rintro p hR
  refine AW.seq (Ah (Qp A0 (Qp K5 (Qp Dk ?_))))
  refine Qp (Ak (n:=e.args.length) Ai rfl rfl rfl (by simp)) ?_
  refine Qp Cj (Ag (A3 (fun hc1=>?_) fun hc1=>?_))
  ·
   obtain ⟨a,ha⟩:=B2 hc1
   have hlt:=A9 ha
   have hm:=List.mem_of_getElem? ha
   have hsa:=Gv hm
   have hda:=J9 a
   have h2:=O6 p.2 ha
   refine Bx (AW.seq (AW.block (AW.region (Qp A0 (Qp K5 (Qp Dk (Qp A0 ?_)))))))
   refine Qp (Af (c:=[Iq _,_,Iq _,Iq _,Iq _,Iq _,Iq _,.str _]) Ai rfl rfl rfl rfl rfl rfl (by omega) (E9 ha)) ?_
   refine Qp D0 ?_
   refine Qp (Qc rfl (ih a hm (by have:=Gv hm;omega))) ?_
   refine Qp (uS rfl rfl) ?_
   refine Qp At (AOL.nil (Bq (Ae (AW.region (Qp A0 (Qp Fv (Qp At (Ag ?_))))))))
   refine ⟨(p.1+1,max p.2 (Ez a)),?_,?_,GS.weaken ⟨rfl,congrArg (AV.int .i64) (by simp only;omega),rfl,trivial⟩ (.refl _)⟩
   · simp only;exact ⟨hlt,by omega,by omega,hR.2.2.2⟩
   · first | omega | (simp only;omega)
  ·
   have hd:=Dh hc1
   refine AW.exit ?_
   refine A6 (A6 (Bv (Ae (Ah (Qp A0 ?_)))))
   refine Qp (gM rfl rfl rfl (by have:=J9 e;constructor <;> omega)) ?_
   refine Qp At (Ag (AW.ret ?_))
   refine Qr (Iq _) ?_
   rw [hd] at hR
   simp only [List.map_nil,List.foldr_nil] at hR
   simp only [Ad,AV.int.injEq,true_and]
   omega
theorem c50 (e:Ex)(hs:Ar e≤1048576):Av Tryz.prog 97 [.agg (cE e)] (.int .i64 (C1 e)):=by
 revert hs
 induction e using Ex.Aak
 rename_i e ih
 intro hs
 refine Av.body (n:=27) Ai Tryz.func97 rfl rfl rfl fun H=>?_
 refine Ah (Qp K8 (Qp At (Ag (AW.seq (Ah (Qp D0 ?_))))))
 refine Qp (Qc rfl (c83 e)) ?_
 refine Qp At (Df (Qp A0 (Qp Cr (Ag (A3 (fun hc1=>?_) fun hc1=>?_)))))
 ·
  refine Ah (Qp A0 (Qp At (Ag (Dr ?_))))
  refine Qr (Iq _) ?_
  simp only [Ad,AV.int.injEq,true_and]
  rw [K9,if_pos hc1]
 ·
  have hn:C1 e=Aq C1 e.args:=by rw [K9,if_neg (by simpa using hc1)]
  refine Bx (AW.seq (Ah (Qp At (Ag (AW.block ?_)))))
  have hlen:=Np e hs
  refine AW.Aae (fun (p:Nat)=>(⟨[(1,.ptr (cE e)),(4,.int .i64 (p:Int))],H,27⟩:St)) (fun (p:Nat)=>p≤e.args.length∧C1 e=Aq C1 (e.args.drop p)) (fun (p:Nat)=>e.args.length-p) (0) ?_ (GS.weaken ⟨rfl,rfl,trivial⟩ (.refl _)) ?_
  · exact ⟨Nat.zero_le _,by simpa using hn⟩
  ·
   rintro p hR
   refine AW.seq (Ah (Qp A0 (Qp K5 (Qp Dk ?_))))
   refine Qp (Ak (n:=e.args.length) Ai rfl rfl rfl (by simp)) ?_
   refine Qp Cj (Ag (A3 (fun hc2=>?_) fun hc2=>?_))
   ·
    obtain ⟨a,ha⟩:=B2 hc2
    have hlt:=A9 ha
    have hm:=List.mem_of_getElem? ha
    refine Bx (AW.seq (AW.block (Ah (Qp K5 (Qp Dk (Qp A0 ?_))))))
    refine Qp (Af (c:=[Iq _,_,Iq _,Iq _,Iq _,Iq _,Iq _,.str _]) Ai rfl rfl rfl rfl rfl rfl (by omega) (E9 ha)) ?_
    refine Qp D0 ?_
    refine Qp (Qc rfl (ih a hm (by have:=Gv hm;omega))) ?_
    refine Qp At (Df (Qp A0 (Qp Cr (Ag (A3 (fun hc3=>?_) fun hc3=>?_)))))
    ·
     refine Ah (Qp A0 (Qp At (Ag (AW.ret (Ba (Aj (Aj (Ba (Aj ?_)))))))))
     refine Qr (Iq _) ?_
     simp only [Ad,AV.int.injEq,true_and]
     rw [hR.2,A8 ha,Aq,if_pos hc3]
    ·
     refine AW.skip (Bq (Ae (AW.region (Qp A0 (Qp Fv (Qp At (Ag ?_)))))))
     refine ⟨p+1,?_,?_,GS.weaken ⟨rfl,rfl,trivial⟩ (.refl _)⟩
     · exact ⟨hlt,by rw [hR.2,A8 ha,Aq,if_neg (by simpa using hc3)]⟩
     · first | omega | (simp only;omega)
   ·
    have hd:=Dh hc2
    refine AW.exit ?_
    refine A6 (A6 (Bv (Ae (Ah (Qp At (Ag (AW.ret ?_)))))))
    refine Qr (Iq _) ?_
    simp only [Ad,AV.int.injEq,true_and]
    rw [hR.2,hd];rfl
theorem c46 (f:Nat)(hfn:vU Tryz.prog f=true)(cap:List AV)(fs:Ex→Int)(Pr:Ex→Prop)(hp:∀a,Pr a→∀b∈a.args,Pr b)(hf:∀a,Pr a→Av Tryz.prog f (.agg (cE a)::cap) (.int .i64 (fs a)))(e:Ex)(he:Pr e):Av Tryz.prog 68 [.agg (cE e),.fn (.func f) [] cap] (.int .i64 (Jj fs e)):=by
 revert he
 induction e using Ex.Aak
 rename_i e ih
 intro he
 refine Av.body (n:=29) Ai Tryz.func68 rfl rfl rfl fun H=>?_
 refine Ah (Qp K8 (Qp At (Ag (AW.seq (Ah ?_)))))
 refine Qp (Bj (v:=.fn _ _ _) rfl) ?_
 refine Qp D0 ?_
 refine Qp (Dz hfn rfl rfl rfl (hf e he)) ?_
 refine Qp At (Df (Qp A0 (Qp Cr (Ag (A3 (fun hc1=>?_) fun hc1=>?_)))))
 ·
  refine Ah (Qp A0 (Qp At (Ag (Dr ?_))))
  refine Qr (Iq _) ?_
  simp only [Ad,AV.int.injEq,true_and]
  rw [Uf,if_pos hc1]
 ·
  have hn:Jj fs e=Aq (Jj fs) e.args:=by rw [Uf,if_neg (by simpa using hc1)]
  refine Bx (AW.seq (Ah (Qp K5 (Qp Dk ?_))))
  refine Qp (Ak (n:=e.args.length) Ai rfl rfl rfl (by simp)) ?_
  refine Qp A0 (Ag (AW.block ?_))
  refine AW.sllen 16 rfl fun hlen=>?_
  simp only [List.length_map,maxLen] at hlen
  refine AW.Aae (fun (p:Nat)=>(⟨[(1,.fn (.func f) [] cap),(16,.sl 8 (e.args.map Fu)),(17,.int .i64 e.args.length),(18,.int .i64 (p:Int))],H,29⟩:St)) (fun (p:Nat)=>p≤e.args.length∧Jj fs e=Aq (Jj fs) (e.args.drop p)) (fun (p:Nat)=>e.args.length-p) (0) ?_ (GS.weaken ⟨rfl,rfl,rfl,rfl,trivial⟩ (.refl _)) ?_
  · exact ⟨Nat.zero_le _,by simpa using hn⟩
  ·
   rintro p hR
   refine Ah (Qp Cj (Ag (AW.seq (A3 (fun hc2=>?_) fun hc2=>?_))))
   ·
    obtain ⟨a,ha⟩:=B2 hc2
    have hlt:=A9 ha
    have hm:=List.mem_of_getElem? ha
    refine Bx (AW.seq (AW.block (Ah ?_)))
    refine Qp (Af (c:=[Iq _,_,Iq _,Iq _,Iq _,Iq _,Iq _,.str _]) Ai rfl rfl rfl rfl rfl rfl (by omega) (E9 ha)) ?_
    refine Qp D0 ?_
    refine Qe (Al (l:=[.int .i64 0,.sl 8 [],.int .i64 0,.int .i64 0,.int .i64 0,.int .i64 0,.int .i64 0,.str []]) (by kernel_rfl)) ?_
    rintro _ _ ⟨b7,rfl,rfl⟩
    refine Cm 0 [Iq _,_,Iq _,Iq _,Iq _,Iq _,Iq _,.str _] (_::_) ?_
    refine AOL.ghost (GS.Aad (t:=7) 0 rfl rfl) ?_
    refine Df (Qp D0 ?_)
    refine Qp (Bj (v:=.fn _ _ _) rfl) ?_
    refine Qp (Qc rfl (ih a hm (hp e he a hm))) ?_
    refine Qp At (Df (Qp A0 (Qp Cr (Ag (A3 (fun hc3=>?_) fun hc3=>?_)))))
    ·
     refine Ah (Qp A0 (Qp At (Ag (AW.ret (Ba (Aj (Aj (Ba (Aj ?_)))))))))
     refine Qr (Iq _) ?_
     simp only [Ad,AV.int.injEq,true_and]
     rw [hR.2,A8 ha,Aq,if_pos hc3]
    ·
     refine AW.skip (Bq (Ae (AW.region (Qp Fv (Qp A0 (Ag ?_))))))
     refine ⟨p+1,?_,?_,GS.weaken ⟨rfl,rfl,rfl,rfl,trivial⟩ (.refl _)⟩
     · exact ⟨hlt,by rw [hR.2,A8 ha,Aq,if_neg (by simpa using hc3)]⟩
     · first | omega | (simp only;omega)
   ·
    have hd:=Dh hc2
    refine AW.exit ?_
    refine A6 (A6 (Bv (Ae (Ah (Qp At (Ag (AW.ret ?_)))))))
    refine Qr (Iq _) ?_
    simp only [Ad,AV.int.injEq,true_and]
    rw [hR.2,hd];rfl
theorem c21 (e:Ex)(hs:Ar e≤1048576):Av Tryz.prog 29 [.agg (cE e)] (.int .i64 (Bu e)):=by
  refine Av.body (n:=18) Ai Tryz.func29 rfl rfl rfl fun H=>?_
  refine AW.seq (AW.region (Qp K8 (Qp At (AOL.nil (Ae (AW.seq (AW.region (Qp D0 ?_))))))))
  refine Qp (Qc rfl (c23 e hs)) ?_
  refine Qp Mv (Qp Jn (Qp Jn (Qp At (Qp At (AOL.nil (Ae (AW.seq (AW.block (AW.seq ?_)))))))))
  refine AW.region (Qp A0 (Qp Hg (Qp Be (AOL.nil (Ae (A3 (fun hc1=>?_) fun hc1=>?_))))))
  · skip
    refine AW.seq (AW.region (Qp At (AOL.nil (Ae (AW.ret (Ba (Aj ?_)))))))
    refine Qr (Iq _) ?_
    try simp only [Cx,Bool.and_true] at *
    first
      | (simp only [Ad,Bu];(first | rw [if_pos hc1] | skip);first | done | rfl)
      | (try simp only [Bool.not_eq_true',Bool.not_eq_false'] at *
         first
         | (simp only [Ad,Bu, *,Bool.false_eq_true,↓reduceIte,Bool.true_or,Bool.or_true,Bool.false_or,Bool.or_false,Bool.true_and,Bool.and_true,Bool.false_and,Bool.and_false,Bool.not_true,Bool.not_false];done)
         | (simp [Ad,Bu, *];done)
         | (simp_all [Ad,Bu];done))
      | skip
  · skip
    refine AW.seq (AW.region (Qp A0 (Qp Hg (Qp Be (AOL.nil (Ae (A3 (fun hc2=>?_) fun hc2=>?_)))))))
    · skip
      refine AW.seq (AW.region (Qp At (AOL.nil (Ae (AW.ret (Ba (Aj ?_)))))))
      refine Qr (Iq _) ?_
      try simp only [Cx,Bool.and_true] at *
      first
        | (simp only [Ad,Bu];(first | rw [iN hc1] | skip);(first | rw [if_pos hc2] | skip);first | done | rfl)
        | (try simp only [Bool.not_eq_true',Bool.not_eq_false'] at *
           first
           | (simp only [Ad,Bu, *,Bool.false_eq_true,↓reduceIte,Bool.true_or,Bool.or_true,Bool.false_or,Bool.or_false,Bool.true_and,Bool.and_true,Bool.false_and,Bool.and_false,Bool.not_true,Bool.not_false];done)
           | (simp [Ad,Bu, *];done)
           | (simp_all [Ad,Bu];done))
        | skip
    · skip
      refine AW.skip (Bq (Ae (AW.seq (AW.region (Qp D0 ?_)))))
      refine Qp (Qc rfl (c46 69 (by kernel_rfl) [] Bw (fun _=>True) (fun _ _ _ _=>trivial) (fun a _=>c47 a) e trivial)) ?_
      refine Qp At (AOL.nil (Ae (AW.ret ?_)))
      refine Qr (Iq _) ?_
      try simp only [Cx,Bool.and_true] at *
      first
        | (simp only [Ad,Bu];(first | rw [iN hc1] | skip);(first | rw [iN hc2] | skip);first | done | rfl)
        | (try simp only [Bool.not_eq_true',Bool.not_eq_false'] at *
           first
           | (simp only [Ad,Bu, *,Bool.false_eq_true,↓reduceIte,Bool.true_or,Bool.or_true,Bool.false_or,Bool.or_false,Bool.true_and,Bool.and_true,Bool.false_and,Bool.and_false,Bool.not_true,Bool.not_false];done)
           | (simp [Ad,Bu, *];done)
           | (simp_all [Ad,Bu];done))
        | skip
theorem c25 (e:Ex)(hs:Ar e≤1048576):Av Tryz.prog 59 [.agg (cE e)] (.int .i64 (Bu e)):=by
  refine Av.body (n:=11) Ai Tryz.func59 rfl rfl rfl fun H=>?_
  refine AW.seq (AW.region (Qp K8 (Qp At (AOL.nil (Ae (AW.seq (AW.seq (AW.region (Qp D0 ?_)))))))))
  refine Qp (Qc rfl (c48 64 e hs)) ?_
  refine Qp Hg (AOL.nil (Ae (A3 (fun hc1=>?_) fun hc1=>?_)))
  · skip
    have hct:decide (64<(Ar e:Int))=true:=by have:=Ww 64 e;simp at hc1 ⊢;omega
    refine AW.seq (AW.region (Qp At (AOL.nil (Ae (Dr ?_)))))
    refine Qr (Iq _) ?_
    try simp only [Cx,Bool.and_true] at *
    first
      | (simp only [Ad,Bu];(first | rw [if_pos hc1] | skip);first | done | rfl)
      | (try simp only [Bool.not_eq_true',Bool.not_eq_false'] at *
         first
         | (simp only [Ad,Bu, *,Bool.false_eq_true,↓reduceIte,Bool.true_or,Bool.or_true,Bool.false_or,Bool.or_false,Bool.true_and,Bool.and_true,Bool.false_and,Bool.and_false,Bool.not_true,Bool.not_false];done)
         | (simp [Ad,Bu, *];done)
         | (simp_all [Ad,Bu];done))
      | skip
  · skip
    have hct:decide (64<(Ar e:Int))=false:=by have:=Ww 64 e;simp at hc1 ⊢;omega
    refine Bx (AW.seq (AW.seq (AW.region (Qp D0 ?_))))
    refine Qp (Qc rfl (c49 e hs)) ?_
    refine Qp Hg (AOL.nil (Ae (A3 (fun hc2=>?_) fun hc2=>?_)))
    · skip
      refine AW.seq (AW.region (Qp At (AOL.nil (Ae (Dr ?_)))))
      refine Qr (Iq _) ?_
      try simp only [Cx,Bool.and_true] at *
      first
        | (simp only [Ad,Bu];(first | rw [iN hc1] | skip);(first | rw [if_pos hc2] | skip);first | done | rfl)
        | (try simp only [Bool.not_eq_true',Bool.not_eq_false'] at *
           first
           | (simp only [Ad,Bu, *,Bool.false_eq_true,↓reduceIte,Bool.true_or,Bool.or_true,Bool.false_or,Bool.or_false,Bool.true_and,Bool.and_true,Bool.false_and,Bool.and_false,Bool.not_true,Bool.not_false];done)
           | (simp [Ad,Bu, *];done)
           | (simp_all [Ad,Bu];done))
        | skip
    · skip
      refine Bx (AW.seq (AW.region (Qp D0 ?_)))
      refine Qp (Qc rfl (c50 e hs)) ?_
      refine Qp At (AOL.nil (Ae (AW.ret ?_)))
      refine Qr (Iq _) ?_
      try simp only [Cx,Bool.and_true] at *
      first
        | (simp only [Ad,Bu];(first | rw [iN hc1] | skip);(first | rw [iN hc2] | skip);first | done | rfl)
        | (try simp only [Bool.not_eq_true',Bool.not_eq_false'] at *
           first
           | (simp only [Ad,Bu, *,Bool.false_eq_true,↓reduceIte,Bool.true_or,Bool.or_true,Bool.false_or,Bool.or_false,Bool.true_and,Bool.and_true,Bool.false_and,Bool.and_false,Bool.not_true,Bool.not_false];done)
           | (simp [Ad,Bu, *];done)
           | (simp_all [Ad,Bu];done))
        | skip
theorem c34 (e:Ex)(hs:Ar e≤1048576):Av Tryz.prog 16 [.agg (cE e)] (.bool (decide (Ar e≤200∧Ez e≤100))):=by
 refine Av.body (n:=11) Ai Tryz.func16 rfl rfl rfl fun H=>?_
 refine Ah (Qp K8 (Qp Be (Df (Qp D0 ?_))))
 refine Qp (Qc rfl (c48 200 e hs)) ?_
 refine Qp Nx (Qp Bp (Qg [] Qw D0 ?_))
 refine Qg [(7,_)] Qw (Qc rfl (c49 e hs)) ?_
 refine Qg [(8,_)] Qw Nx (Qp E1 (Qp Be (Ag (AW.ret ?_))))
 refine Qr (.bool _) ?_
 have:=Ww 200 e
 show AV.bool _=AV.bool _
 congr 1
 rw [Bool.eq_iff_iff]
 simp
 omega

end Go.Proofs.YtkddpedfbicbeaaGreatDoor
