/-
  Several texts in one: EW4, EW23. No condition.
-/
import Derived.Test.YtckhoadldibflaaGreatDoorK01
import Derived.Test.YtckhoadldibflaaGreatDoorK19
import Derived.Test.YtckhoadldibflaaGreatDoorK03
import Derived.KernelRfl
set_option linter.unusedVariables false
set_option linter.unusedSimpArgs false
namespace Go.Proofs.YtckhoadldibflaaGreatDoor
open Go Go.Aw
set_option maxHeartbeats 400000
set_option maxRecDepth 20000

theorem c82 (e:Ex):Ap Tryz.prog 118 [.agg (cE e)] (.int .i64 (Gq e)):=by
  refine Ap.body (n:=32) tok Tryz.func118 rfl rfl rfl fun H=>?_
  refine AW.seq (AW.region (Qp tR (Qp A0 (AOL.nil (Af (AW.seq (AW.seq (AW.region (Qp gQ ?_)))))))))
  refine Qp (B2 [Iq _,Iq _,.str _]) ?_
  refine Qp (Qc rfl (c94 e.val)) ?_
  refine Qp A0 (AOL.nil (Af (AW.seq (AW.region (Qp A4 (Qp B9 (AOL.nil (Af (Au (fun hc1=>?_) fun hc1=>?_)))))))))
  · skip
    refine AW.seq (AW.region (Qp A4 (Qp A0 (AOL.nil (Af (Cx ?_))))))
    refine Qr (Iq _) ?_
    try simp only [G6,Bool.and_true] at *
    first
      | (simp only [Ae,Gq];(first | rw [if_pos hc1] | skip);first | done | rfl)
      | (try simp only [Bool.not_eq_true',Bool.not_eq_false'] at *
         first
         | (simp only [Ae,Gq,isV0, *,Bool.false_eq_true,↓reduceIte,Bool.true_or,Bool.or_true,Bool.false_or,Bool.or_false,Bool.true_and,Bool.and_true,Bool.false_and,Bool.and_false,Bool.not_true,Bool.not_false];done)
         | (simp [Ae,Gq,isV0, *];done)
         | (simp_all [Ae,Gq,isV0];done))
      | skip
  · skip
    refine Bl (AW.seq (AW.seq (AW.region (Qp gC (Qp Bt (Qp Av (Qp Bq (Qg [] Qw pO (Qg [(14,_)] Qw Bt ?_)))))))))
    refine Qg [] Qw gQ (Qg [(16,_)] Qw (B2 [Iq _,Iq _,.str _]) ?_)
    refine AOL.Aap (y:=.bool _) _ [(15,_),(17,_)] rfl (iB.all ⟨Ent.Aao _ _,Ent.Aao _ _,trivial⟩) (fun hG=>Ed (by kernel_rfl) rfl rfl (c99 e.kind e.val)) rfl ?_
    refine Qg [(18,_)] Qw Fz (Qg [(19,_)] Qw Bq (Qg [] Qw pO (Qg [(21,_)] Qw Bt (Qg [(22,_)] Qw Av (Qg [(23,_)] Qw Bq (Qg [] Qw gQ (Qg [(25,_)] Qw (B2 [Iq _,Iq _,.str _]) (Qg [] Qw (Ea [Iq _,Iq _,.str _]) ?_))))))))
    refine AOL.Aap (y:=.bool _) _ [(26,_),(27,_)] rfl (iB.all ⟨Ent.Aao _ _,Ent.Aao _ _,trivial⟩) (fun hG=>H5 tok rfl rfl rfl rfl rfl) rfl ?_
    refine Qg [(24,_),(28,_)] Qw Et (Qg [(20,_),(29,_)] Qw Cy (Qp Et (AOL.nil (Af (Au (fun hc2=>?_) fun hc2=>?_)))))
    · skip
      refine AW.seq (AW.region (Qp A0 (AOL.nil (Af (Cx ?_)))))
      refine Qr (Iq _) ?_
      try simp only [G6,Bool.and_true] at *
      first
        | (simp only [Ae,Gq];(first | rw [iN hc1] | skip);(first | rw [if_pos hc2] | skip);first | done | rfl)
        | (try simp only [Bool.not_eq_true',Bool.not_eq_false'] at *
           first
           | (simp only [Ae,Gq,isV0, *,Bool.false_eq_true,↓reduceIte,Bool.true_or,Bool.or_true,Bool.false_or,Bool.or_false,Bool.true_and,Bool.and_true,Bool.false_and,Bool.and_false,Bool.not_true,Bool.not_false];done)
           | (simp [Ae,Gq,isV0, *];done)
           | (simp_all [Ae,Gq,isV0];done))
        | skip
    · skip
      refine Bl (AW.seq (AW.region (Qp A0 (AOL.nil (Af (AW.ret ?_))))))
      refine Qr (Iq _) ?_
      try simp only [G6,Bool.and_true] at *
      first
        | (simp only [Ae,Gq];(first | rw [iN hc1] | skip);(first | rw [iN hc2] | skip);first | done | rfl)
        | (try simp only [Bool.not_eq_true',Bool.not_eq_false'] at *
           first
           | (simp only [Ae,Gq,isV0, *,Bool.false_eq_true,↓reduceIte,Bool.true_or,Bool.or_true,Bool.false_or,Bool.or_false,Bool.true_and,Bool.and_true,Bool.false_and,Bool.and_false,Bool.not_true,Bool.not_false];done)
           | (simp [Ae,Gq,isV0, *];done)
           | (simp_all [Ae,Gq,isV0];done))
        | skip
theorem c47 (e:Ex):Ap Tryz.prog 68 [.agg (cE e)] (.int .i64 (C7 e)):=by
  refine Ap.body (n:=114) tok Tryz.func68 rfl rfl rfl fun H=>?_
  refine AW.seq (AW.region (Qp tR (Qp A0 (AOL.nil (Af (AW.seq (AW.region (Qp gC (Qp Bt ?_)))))))))
  refine Qp (Qc rfl (c81 e.op)) ?_
  refine Qp L0 (Qp Jw (Qp cF (Qp A0 (Qp A3 (AOL.nil (Af (AW.seq (AW.seq (AW.region ?_)))))))))
  refine Qp Bq (Qp Fz (AOL.nil (Af (Au (fun hc1=>?_) fun hc1=>?_))))
  · skip
    refine AW.seq (AW.region (Qp A0 (AOL.nil (Af (Cx ?_)))))
    refine Qr (Iq _) ?_
    try simp only [G6,Bool.and_true] at *
    first
      | (simp only [Ae,C7,C2];(first | rw [if_pos hc1] | skip);first | done | rfl)
      | (try simp only [Bool.not_eq_true',Bool.not_eq_false'] at *
         first
         | (simp only [Ae,C7,C2,isV0, *,Bool.false_eq_true,↓reduceIte,Bool.true_or,Bool.or_true,Bool.false_or,Bool.or_false,Bool.true_and,Bool.and_true,Bool.false_and,Bool.and_false,Bool.not_true,Bool.not_false];done)
         | (simp [Ae,C7,C2,isV0, *];done)
         | (simp_all [Ae,C7,C2,isV0];done))
      | skip
  · skip
    refine Bl (AW.seq (AW.seq (AW.region (Qp iE (Qp Dg ?_)))))
    refine Qp (Ax (n:=e.args.length) tok rfl rfl rfl (by simp)) ?_
    refine Qp A4 (Qp B9 (AOL.nil (Af (Au (fun hc2=>?_) fun hc2=>?_))))
    · skip
      refine AW.seq (AW.region (Qp A0 (AOL.nil (Af (Cx ?_)))))
      refine Qr (Iq _) ?_
      try simp only [G6,Bool.and_true] at *
      first
        | (simp only [Ae,C7,C2];(first | rw [iN hc1] | skip);(first | rw [if_pos hc2] | skip);first | done | rfl)
        | (try simp only [Bool.not_eq_true',Bool.not_eq_false'] at *
           first
           | (simp only [Ae,C7,C2,isV0, *,Bool.false_eq_true,↓reduceIte,Bool.true_or,Bool.or_true,Bool.false_or,Bool.or_false,Bool.true_and,Bool.and_true,Bool.false_and,Bool.and_false,Bool.not_true,Bool.not_false];done)
           | (simp [Ae,C7,C2,isV0, *];done)
           | (simp_all [Ae,C7,C2,isV0];done))
        | skip
    · skip
      refine Bl (AW.seq (AW.region (Qp gC (Qp Bt ?_))))
      refine Qp (Qc rfl (e8c52 e.op)) ?_
      refine Qp L0 (Qp cF (Qp cF (Qp A3 (Qp A3 (AOL.nil (Af (AW.seq (AW.seq (AW.region ?_)))))))))
      refine Qp Bq (Qp Bq (Qg [] Qw wH (Qg [(31,_)] Qw Bt (Qg [(32,_)] Qw B7 (Qg [(33,_)] Qw Bq (Qg [] Qw wH (Qg [(35,_)] Qw Bt (Qg [(36,_)] Qw F6 (Qg [(34,_),(37,_)] Qw Cy ?_)))))))))
      refine Qp Et (Qp Bq (Qg [] Qw Bq (Qg [(41,_)] Qw Bq (Qg [] Qw wB (Qg [(43,_)] Qw Bt (Qg [(44,_)] Qw B7 (Qg [(45,_)] Qw Bq (Qg [] Qw wB (Qg [(47,_)] Qw Bt ?_)))))))))
      refine Qg [(48,_)] Qw F6 (Qg [(46,_),(49,_)] Qw Cy (Qg [(42,_),(50,_)] Qw Et (Qp Cy (AOL.nil (Af (Au (fun hc3=>?_) fun hc3=>?_))))))
      · skip
        refine AW.seq (AW.region (Qp A0 (AOL.nil (Af (Cx ?_)))))
        refine Qr (Iq _) ?_
        try simp only [G6,Bool.and_true] at *
        first
          | (simp only [Ae,C7,C2];(first | rw [iN hc1] | skip);(first | rw [iN hc2] | skip);(first | rw [if_pos hc3] | skip);first | done | rfl)
          | (try simp only [Bool.not_eq_true',Bool.not_eq_false'] at *
             first
             | (simp only [Ae,C7,C2,isV0, *,Bool.false_eq_true,↓reduceIte,Bool.true_or,Bool.or_true,Bool.false_or,Bool.or_false,Bool.true_and,Bool.and_true,Bool.false_and,Bool.and_false,Bool.not_true,Bool.not_false];done)
             | (simp [Ae,C7,C2,isV0, *];done)
             | (simp_all [Ae,C7,C2,isV0];done))
          | skip
      · skip
        refine Bl (AW.seq (AW.region (Qp gC (Qp Bt (Qp Av (Qp A3 (AOL.nil (Af (AW.seq ?_)))))))))
        refine AW.seq (AW.region (Qp Bq (Qp Bq (Qg [] Qw pO (Qg [(58,_)] Qw Bt (Qg [(59,_)] Qw B7 (Qg [(60,_)] Qw Bq (Qg [] Qw pO (Qg [(62,_)] Qw Bt ?_)))))))))
        refine Qg [(63,_)] Qw D2 (Qg [(61,_),(64,_)] Qw Cy (Qp Et (AOL.nil (Af (Au (fun hc4=>?_) fun hc4=>?_)))))
        · skip
          refine AW.seq (AW.region (Qp A0 (AOL.nil (Af (Cx ?_)))))
          refine Qr (Iq _) ?_
          try simp only [G6,Bool.and_true] at *
          first
            | (simp only [Ae,C7,C2];(first | rw [iN hc1] | skip);(first | rw [iN hc2] | skip);(first | rw [iN hc3] | skip);(first | rw [if_pos hc4] | skip);first | done | rfl)
            | (try simp only [Bool.not_eq_true',Bool.not_eq_false'] at *
               first
               | (simp only [Ae,C7,C2,isV0, *,Bool.false_eq_true,↓reduceIte,Bool.true_or,Bool.or_true,Bool.false_or,Bool.or_false,Bool.true_and,Bool.and_true,Bool.false_and,Bool.and_false,Bool.not_true,Bool.not_false];done)
               | (simp [Ae,C7,C2,isV0, *];done)
               | (simp_all [Ae,C7,C2,isV0];done))
            | skip
        · skip
          refine Bl (AW.seq (AW.region (Qp Bq (Qp Bq (Qg [] Qw gC (Qg [(69,_)] Qw Bt (Qg [(70,_)] Qw Av (Qp Cy (Qp A3 ?_)))))))))
          refine AOL.nil (Af (AW.seq (AW.seq (AW.region (Qp Bq (AOL.nil (Af (Au (fun hc5=>?_) fun hc5=>?_))))))))
          · skip
            refine AW.seq (AW.region (Qp Wf ?_))
            refine Qp (Qc rfl (c82 e)) ?_
            refine Qp A0 (AOL.nil (Af (AW.seq (AW.region (Qp A4 (Qp B9 (AOL.nil (Af (Au (fun hc6=>?_) fun hc6=>?_)))))))))
            · skip
              refine AW.seq (AW.region (Qp A4 (Qp A0 (AOL.nil (Af (Cx ?_))))))
              refine Qr (Iq _) ?_
              try simp only [G6,Bool.and_true] at *
              first
                | (simp only [Ae,C7,C2];(first | rw [iN hc1] | skip);(first | rw [iN hc2] | skip);(first | rw [iN hc3] | skip);(first | rw [iN hc4] | skip);(first | rw [if_pos hc5] | skip);(first | rw [if_pos hc6] | skip);first | done | rfl)
                | (try simp only [Bool.not_eq_true',Bool.not_eq_false'] at *
                   first
                   | (simp only [Ae,C7,C2,isV0, *,Bool.false_eq_true,↓reduceIte,Bool.true_or,Bool.or_true,Bool.false_or,Bool.or_false,Bool.true_and,Bool.and_true,Bool.false_and,Bool.and_false,Bool.not_true,Bool.not_false];done)
                   | (simp [Ae,C7,C2,isV0, *];done)
                   | (simp_all [Ae,C7,C2,isV0];done))
                | skip
            · skip
              refine Bl (AW.seq (AW.seq (AW.region (Qp Bq (Qp Fz (Qp Bq (Qg [] Qw wH (Qg [(82,_)] Qw Bt (Qg [(83,_)] Qw B9 ?_)))))))))
              refine Qp Et (Qp Bq (Qg [] Qw Bq (Qg [(87,_)] Qw Fz (Qg [(88,_)] Qw Bq (Qg [] Qw wB (Qg [(90,_)] Qw Bt (Qg [(91,_)] Qw B9 (Qg [(89,_),(92,_)] Qw Et (Qp Cy ?_)))))))))
              refine Qp Bq (Qg [] Qw Bq (Qg [(96,_)] Qw Fz (Qg [(97,_)] Qw Bq (Qg [] Qw pO (Qg [(99,_)] Qw Bt (Qg [(100,_)] Qw B9 (Qg [(98,_),(101,_)] Qw Et (Qp Cy (Qp Bq ?_)))))))))
              refine Qg [] Qw Bq (Qg [(105,_)] Qw Fz (Qg [(106,_)] Qw Bq (Qg [] Qw gQ (Qg [(108,_)] Qw (B2 [Iq _,Iq _,.str _]) (Qg [] Qw (Ea [Iq _,Iq _,.str _]) ?_)))))
              refine AOL.Aap (y:=.bool _) _ [(109,_),(110,_)] rfl (iB.all ⟨Ent.Aao _ _,Ent.Aao _ _,trivial⟩) (fun hG=>H5 tok rfl rfl rfl rfl rfl) rfl ?_
              refine Qg [(107,_),(111,_)] Qw Et (Qp Cy (AOL.nil (Af (Au (fun hc7=>?_) fun hc7=>?_))))
              · skip
                refine AW.seq (AW.region (Qp A0 (AOL.nil (Af (Cx ?_)))))
                refine Qr (Iq _) ?_
                try simp only [G6,Bool.and_true] at *
                first
                  | (simp only [Ae,C7,C2];(first | rw [iN hc1] | skip);(first | rw [iN hc2] | skip);(first | rw [iN hc3] | skip);(first | rw [iN hc4] | skip);(first | rw [if_pos hc5] | skip);(first | rw [iN hc6] | skip);(first | rw [if_pos hc7] | skip);first | done | rfl)
                  | (try simp only [Bool.not_eq_true',Bool.not_eq_false'] at *
                     first
                     | (simp only [Ae,C7,C2,isV0, *,Bool.false_eq_true,↓reduceIte,Bool.true_or,Bool.or_true,Bool.false_or,Bool.or_false,Bool.true_and,Bool.and_true,Bool.false_and,Bool.and_false,Bool.not_true,Bool.not_false];done)
                     | (simp [Ae,C7,C2,isV0, *];done)
                     | (simp_all [Ae,C7,C2,isV0];done))
                  | skip
              · skip
                refine Bl (AW.seq (AW.region (Qp A0 (AOL.nil (Af (AW.ret ?_))))))
                refine Qr (Iq _) ?_
                try simp only [G6,Bool.and_true] at *
                first
                  | (simp only [Ae,C7,C2];(first | rw [iN hc1] | skip);(first | rw [iN hc2] | skip);(first | rw [iN hc3] | skip);(first | rw [iN hc4] | skip);(first | rw [if_pos hc5] | skip);(first | rw [iN hc6] | skip);(first | rw [iN hc7] | skip);first | done | rfl)
                  | (try simp only [Bool.not_eq_true',Bool.not_eq_false'] at *
                     first
                     | (simp only [Ae,C7,C2,isV0, *,Bool.false_eq_true,↓reduceIte,Bool.true_or,Bool.or_true,Bool.false_or,Bool.or_false,Bool.true_and,Bool.and_true,Bool.false_and,Bool.and_false,Bool.not_true,Bool.not_false];done)
                     | (simp [Ae,C7,C2,isV0, *];done)
                     | (simp_all [Ae,C7,C2,isV0];done))
                  | skip
          · skip
            refine Bl (AW.seq (AW.seq (AW.region (Qp Bq (Qp Fz (Qp Bq (Qg [] Qw wH (Qg [(82,_)] Qw Bt (Qg [(83,_)] Qw B9 ?_)))))))))
            refine Qp Et (Qp Bq (Qg [] Qw Bq (Qg [(87,_)] Qw Fz (Qg [(88,_)] Qw Bq (Qg [] Qw wB (Qg [(90,_)] Qw Bt (Qg [(91,_)] Qw B9 (Qg [(89,_),(92,_)] Qw Et (Qp Cy ?_)))))))))
            refine Qp Bq (Qg [] Qw Bq (Qg [(96,_)] Qw Fz (Qg [(97,_)] Qw Bq (Qg [] Qw pO (Qg [(99,_)] Qw Bt (Qg [(100,_)] Qw B9 (Qg [(98,_),(101,_)] Qw Et (Qp Cy (Qp Bq ?_)))))))))
            refine Qg [] Qw Bq (Qg [(105,_)] Qw Fz (Qg [(106,_)] Qw Bq (Qg [] Qw gQ (Qg [(108,_)] Qw (B2 [Iq _,Iq _,.str _]) (Qg [] Qw (Ea [Iq _,Iq _,.str _]) ?_)))))
            refine AOL.Aap (y:=.bool _) _ [(109,_),(110,_)] rfl (iB.all ⟨Ent.Aao _ _,Ent.Aao _ _,trivial⟩) (fun hG=>H5 tok rfl rfl rfl rfl rfl) rfl ?_
            refine Qg [(107,_),(111,_)] Qw Et (Qp Cy (AOL.nil (Af (Au (fun hc8=>?_) fun hc8=>?_))))
            · skip
              refine AW.seq (AW.region (Qp A0 (AOL.nil (Af (Cx ?_)))))
              refine Qr (Iq _) ?_
              try simp only [G6,Bool.and_true] at *
              first
                | (simp only [Ae,C7,C2];(first | rw [iN hc1] | skip);(first | rw [iN hc2] | skip);(first | rw [iN hc3] | skip);(first | rw [iN hc4] | skip);(first | rw [iN hc5] | skip);(first | rw [if_pos hc8] | skip);first | done | rfl)
                | (try simp only [Bool.not_eq_true',Bool.not_eq_false'] at *
                   first
                   | (simp only [Ae,C7,C2,isV0, *,Bool.false_eq_true,↓reduceIte,Bool.true_or,Bool.or_true,Bool.false_or,Bool.or_false,Bool.true_and,Bool.and_true,Bool.false_and,Bool.and_false,Bool.not_true,Bool.not_false];done)
                   | (simp [Ae,C7,C2,isV0, *];done)
                   | (simp_all [Ae,C7,C2,isV0];done))
                | skip
            · skip
              refine Bl (AW.seq (AW.region (Qp A0 (AOL.nil (Af (AW.ret ?_))))))
              refine Qr (Iq _) ?_
              try simp only [G6,Bool.and_true] at *
              first
                | (simp only [Ae,C7,C2];(first | rw [iN hc1] | skip);(first | rw [iN hc2] | skip);(first | rw [iN hc3] | skip);(first | rw [iN hc4] | skip);(first | rw [iN hc5] | skip);(first | rw [iN hc8] | skip);first | done | rfl)
                | (try simp only [Bool.not_eq_true',Bool.not_eq_false'] at *
                   first
                   | (simp only [Ae,C7,C2,isV0, *,Bool.false_eq_true,↓reduceIte,Bool.true_or,Bool.or_true,Bool.false_or,Bool.or_false,Bool.true_and,Bool.and_true,Bool.false_and,Bool.and_false,Bool.not_true,Bool.not_false];done)
                   | (simp [Ae,C7,C2,isV0, *];done)
                   | (simp_all [Ae,C7,C2,isV0];done))
                | skip
theorem e8c23 (e:Ex)(hs:Cq e≤1048576):Ap Tryz.prog 66 [.agg (cE e)] (.tuple [.int .i64 (Cq e),.int .i64 (E1 e)]):=by
 revert hs
 induction e using Ex.ind
 rename_i e ih
 intro hs
 refine Ap.body (n:=32) tok Tryz.func66 rfl rfl rfl fun H=>?_
 refine Ad (Qp tR (Qp A0 (Qp A0 (By (Qp A0 (Qp A0 (Aa (AW.seq (Ad ?_)))))))))
 refine Qp iE (Qp Dg ?_)
 refine Qp (Ax (n:=e.args.length) tok rfl rfl rfl (by simp)) ?_
 refine Qp A4 (Aa (AW.block ?_))
 refine AW.sllen 11 rfl fun hlen=>?_
 simp only [List.length_map,maxLen] at hlen
 refine AW.Aat (fun (p:Nat×Nat×Nat)=>(⟨[(4,.int .i64 (p.2.1:Int)),(5,.int .i64 (p.2.2:Int)),(11,.sl 8 (e.args.map L2)),(12,.int .i64 e.args.length),(13,.int .i64 (p.1:Int))],H,32⟩:St)) (fun (p:Nat×Nat×Nat)=>p.1≤e.args.length∧Cq e=p.2.1+((e.args.drop p.1).map Cq).sum∧E1 e=max p.2.2 (((e.args.drop p.1).map E1).foldr max 0)+1∧p.2.2≤1048576) (fun (p:Nat×Nat×Nat)=>e.args.length-p.1) ((0,1,0)) ?_ (GS.weaken ⟨rfl,rfl,rfl,rfl,rfl,trivial⟩ (.refl _)) ?_
 · exact ⟨Nat.zero_le _,by simpa using Gc e,by simpa using Vt e,Nat.zero_le _⟩
 ·
  rintro p hR
  refine Ad (Qp B7 (Aa (AW.seq (Au (fun hc1=>?_) fun hc1=>?_))))
  ·
   obtain ⟨a,ha⟩:=Dl hc1
   have hlt:=Cm ha
   have hm:=List.mem_of_getElem? ha
   have hsa:=Oy hm
   have hda:=Nl a
   have h1:=pD p.2.1 ha
   have h2:=Tj p.2.2 ha
   refine Bl (AW.seq (AW.block (Ad ?_)))
   refine Qp (Ag (c:=[Iq _,_,Iq _,Iq _,Iq _,Iq _,Iq _,.str _]) tok rfl rfl rfl rfl rfl rfl (by omega) (Nh ha)) ?_
   refine Qp Wf ?_
   refine Qe (An (l:=[.int .i64 0,.sl 8 [],.int .i64 0,.int .i64 0,.int .i64 0,.int .i64 0,.int .i64 0,.str []]) (by kernel_rfl)) ?_
   rintro _ _ ⟨b7,rfl,rfl⟩
   refine B0 0 [Iq _,_,Iq _,Iq _,Iq _,Iq _,Iq _,.str _] (_::_) ?_
   refine AOL.ghost (GS.freeze (t:=7) 0 rfl rfl) ?_
   refine By (Qp Wf ?_)
   refine Qp (Qc rfl (ih a hm (by have:=Oy hm;omega))) ?_
   refine Qp L0 (Qp Jw (Qp Jw (Qp A0 (Qp A0 (Aa (AW.region (Qp A4 (Qp A4 (Qp Ei ?_)))))))))
   refine Qp A4 (Qp A4 ?_)
   refine Qp (Tk rfl rfl) ?_
   refine Qp A0 (Qp A0 (AOL.nil (Bc (Af (AW.region (Qp Ei (Qp A4 (Aa ?_))))))))
   refine ⟨(p.1+1,p.2.1+Cq a,max p.2.2 (E1 a)),?_,?_,GS.weaken ⟨rfl,congrArg (AV.int .i64) (by simp only;omega),rfl,rfl,rfl,trivial⟩ (.refl _)⟩
   · simp only;exact ⟨hlt,by omega,by omega,by omega⟩
   · first | omega | (simp only;omega)
  ·
   have hd:=Hd hc1
   refine AW.exit ?_
   refine A7 (A7 (Bp (Af (Ad (Qp A4 (Qp A4 ?_))))))
   refine Qp (vX rfl rfl rfl (by have:=Nl e;constructor <;> omega)) ?_
   refine Qp A0 (Qp A0 (Aa (AW.ret ?_)))
   refine L1 (Iq _) (Iq _) ?_
   rw [hd] at hR
   simp only [List.map_nil,List.sum_nil,List.foldr_nil] at hR
   simp only [Ae,AV.tuple.injEq,List.cons.injEq,AV.int.injEq,true_and,and_true]
   omega
theorem e8c46 (f:Nat)(hfn:Oo Tryz.prog f=true)(cap:List AV)(fs:Ex→Int)(Pr:Ex→Prop)(hp:∀a,Pr a→∀b∈a.args,Pr b)(hf:∀a,Pr a→Ap Tryz.prog f (.agg (cE a)::cap) (.int .i64 (fs a)))(e:Ex)(he:Pr e):Ap Tryz.prog 67 [.agg (cE e),.fn (.func f) [] cap] (.int .i64 (Gp fs e)):=by
 revert he
 induction e using Ex.ind
 rename_i e ih
 intro he
 refine Ap.body (n:=29) tok Tryz.func67 rfl rfl rfl fun H=>?_
 refine Ad (Qp tR (Qp A0 (Aa (AW.seq (Ad ?_)))))
 refine Qp (A1 (v:=.fn _ _ _) rfl) ?_
 refine Qp Wf ?_
 refine Qp (Lj hfn rfl rfl rfl (hf e he)) ?_
 refine Qp A0 (By (Qp A4 (Qp B9 (Aa (Au (fun hc1=>?_) fun hc1=>?_)))))
 ·
  refine Ad (Qp A4 (Qp A0 (Aa (Cx ?_))))
  refine Qr (Iq _) ?_
  simp only [Ae,AV.int.injEq,true_and]
  rw [Ws,if_pos hc1]
 ·
  have hn:Gp fs e=Ca (Gp fs) e.args:=by rw [Ws,if_neg (by simpa using hc1)]
  refine Bl (AW.seq (Ad (Qp iE (Qp Dg ?_))))
  refine Qp (Ax (n:=e.args.length) tok rfl rfl rfl (by simp)) ?_
  refine Qp A4 (Aa (AW.block ?_))
  refine AW.sllen 16 rfl fun hlen=>?_
  simp only [List.length_map,maxLen] at hlen
  refine AW.Aat (fun (p:Nat)=>(⟨[(1,.fn (.func f) [] cap),(16,.sl 8 (e.args.map L2)),(17,.int .i64 e.args.length),(18,.int .i64 (p:Int))],H,29⟩:St)) (fun (p:Nat)=>p≤e.args.length∧Gp fs e=Ca (Gp fs) (e.args.drop p)) (fun (p:Nat)=>e.args.length-p) (0) ?_ (GS.weaken ⟨rfl,rfl,rfl,rfl,trivial⟩ (.refl _)) ?_
  · exact ⟨Nat.zero_le _,by simpa using hn⟩
  ·
   rintro p hR
   refine Ad (Qp B7 (Aa (AW.seq (Au (fun hc2=>?_) fun hc2=>?_))))
   ·
    obtain ⟨a,ha⟩:=Dl hc2
    have hlt:=Cm ha
    have hm:=List.mem_of_getElem? ha
    refine Bl (AW.seq (AW.block (Ad ?_)))
    refine Qp (Ag (c:=[Iq _,_,Iq _,Iq _,Iq _,Iq _,Iq _,.str _]) tok rfl rfl rfl rfl rfl rfl (by omega) (Nh ha)) ?_
    refine Qp Wf ?_
    refine Qe (An (l:=[.int .i64 0,.sl 8 [],.int .i64 0,.int .i64 0,.int .i64 0,.int .i64 0,.int .i64 0,.str []]) (by kernel_rfl)) ?_
    rintro _ _ ⟨b7,rfl,rfl⟩
    refine B0 0 [Iq _,_,Iq _,Iq _,Iq _,Iq _,Iq _,.str _] (_::_) ?_
    refine AOL.ghost (GS.freeze (t:=7) 0 rfl rfl) ?_
    refine By (Qp Wf ?_)
    refine Qp (A1 (v:=.fn _ _ _) rfl) ?_
    refine Qp (Qc rfl (ih a hm (hp e he a hm))) ?_
    refine Qp A0 (By (Qp A4 (Qp B9 (Aa (Au (fun hc3=>?_) fun hc3=>?_)))))
    ·
     refine Ad (Qp A4 (Qp A0 (Aa (AW.ret (Ao (Ai (Ai (Ao (Ai ?_)))))))))
     refine Qr (Iq _) ?_
     simp only [Ae,AV.int.injEq,true_and]
     rw [hR.2,Bj ha,Ca,if_pos hc3]
    ·
     refine AW.skip (Bc (Af (AW.region (Qp Ei (Qp A4 (Aa ?_))))))
     refine ⟨p+1,?_,?_,GS.weaken ⟨rfl,rfl,rfl,rfl,trivial⟩ (.refl _)⟩
     · exact ⟨hlt,by rw [hR.2,Bj ha,Ca,if_neg (by simpa using hc3)]⟩
     · first | omega | (simp only;omega)
   ·
    have hd:=Hd hc2
    refine AW.exit ?_
    refine A7 (A7 (Bp (Af (Ad (Qp A0 (Aa (AW.ret ?_)))))))
    refine Qr (Iq _) ?_
    simp only [Ae,AV.int.injEq,true_and]
    rw [hR.2,hd];rfl
theorem vW (e:Ex)(hs:Cq e≤1048576):Ap Tryz.prog 26 [.agg (cE e)] (.int .i64 (Cj e)):=by
  refine Ap.body (n:=18) tok Tryz.func26 rfl rfl rfl fun H=>?_
  refine AW.seq (AW.region (Qp tR (Qp A0 (AOL.nil (Af (AW.seq (AW.region (Qp Wf ?_))))))))
  refine Qp (Qc rfl (e8c23 e hs)) ?_
  refine Qp L0 (Qp Jw (Qp Jw (Qp A0 (Qp A0 (AOL.nil (Af (AW.seq (AW.block (AW.seq ?_)))))))))
  refine AW.region (Qp A4 (Qp D2 (Qp A3 (AOL.nil (Af (Au (fun hc1=>?_) fun hc1=>?_))))))
  · skip
    refine AW.seq (AW.region (Qp A0 (AOL.nil (Af (AW.ret (Ao (Ai ?_)))))))
    refine Qr (Iq _) ?_
    try simp only [G6,Bool.and_true] at *
    first
      | (simp only [Ae,Cj];(first | rw [if_pos hc1] | skip);first | done | rfl)
      | (try simp only [Bool.not_eq_true',Bool.not_eq_false'] at *
         first
         | (simp only [Ae,Cj, *,Bool.false_eq_true,↓reduceIte,Bool.true_or,Bool.or_true,Bool.false_or,Bool.or_false,Bool.true_and,Bool.and_true,Bool.false_and,Bool.and_false,Bool.not_true,Bool.not_false];done)
         | (simp [Ae,Cj, *];done)
         | (simp_all [Ae,Cj];done))
      | skip
  · skip
    refine AW.seq (AW.region (Qp A4 (Qp D2 (Qp A3 (AOL.nil (Af (Au (fun hc2=>?_) fun hc2=>?_)))))))
    · skip
      refine AW.seq (AW.region (Qp A0 (AOL.nil (Af (AW.ret (Ao (Ai ?_)))))))
      refine Qr (Iq _) ?_
      try simp only [G6,Bool.and_true] at *
      first
        | (simp only [Ae,Cj];(first | rw [iN hc1] | skip);(first | rw [if_pos hc2] | skip);first | done | rfl)
        | (try simp only [Bool.not_eq_true',Bool.not_eq_false'] at *
           first
           | (simp only [Ae,Cj, *,Bool.false_eq_true,↓reduceIte,Bool.true_or,Bool.or_true,Bool.false_or,Bool.or_false,Bool.true_and,Bool.and_true,Bool.false_and,Bool.and_false,Bool.not_true,Bool.not_false];done)
           | (simp [Ae,Cj, *];done)
           | (simp_all [Ae,Cj];done))
        | skip
    · skip
      refine AW.skip (Bc (Af (AW.seq (AW.region (Qp Wf ?_)))))
      refine Qp (Qc rfl (e8c46 68 (by kernel_rfl) [] C7 (fun _=>True) (fun _ _ _ _=>trivial) (fun a _=>c47 a) e trivial)) ?_
      refine Qp A0 (AOL.nil (Af (AW.ret ?_)))
      refine Qr (Iq _) ?_
      try simp only [G6,Bool.and_true] at *
      first
        | (simp only [Ae,Cj];(first | rw [iN hc1] | skip);(first | rw [iN hc2] | skip);first | done | rfl)
        | (try simp only [Bool.not_eq_true',Bool.not_eq_false'] at *
           first
           | (simp only [Ae,Cj, *,Bool.false_eq_true,↓reduceIte,Bool.true_or,Bool.or_true,Bool.false_or,Bool.or_false,Bool.true_and,Bool.and_true,Bool.false_and,Bool.and_false,Bool.not_true,Bool.not_false];done)
           | (simp [Ae,Cj, *];done)
           | (simp_all [Ae,Cj];done))
        | skip
set_option maxHeartbeats 400000
set_option maxRecDepth 20000

theorem rB {s:List UInt8}(h:s.length≠0):s[(0:Int).toNat]? = some (s.headD 0):=by
 cases s with
 | nil=>exact absurd rfl h
 | cons a r=>rfl
theorem iO {s:List UInt8}{x:Bool}(h:Jo [((((s.length:Nat):Int)==0||x),false)]):s.length≠0:=by
 have h1:=h _ (List.mem_singleton.2 rfl)
 intro h0
 simp [h0] at h1
theorem fF {s:List UInt8}{k:Nat}{c:UInt8}(h:s[k]? = some c):s[((k:Nat):Int).toNat]? = some c:=h
theorem Xj {s:List UInt8}(h:s.length=0∨24<s.length∨aQ ((s.headD 0).toNat)=true):J3 s=false:=by
 unfold J3
 rcases h with h | h | h
 ·
  have e:(s.length==0)=true:=by simp [h]
  rw [e];rfl
 ·
  have e:decide (s.length≤24)=false:=by simp;omega
  rw [e,Bool.and_false,Bool.false_and,Bool.false_and]
 · rw [h,Bool.not_true,Bool.and_false,Bool.false_and]
theorem kK {s:List UInt8}(h:s.length≠0∧s.length≤24∧aQ ((s.headD 0).toNat)=false)(ha:s.all jC=true):J3 s=true:=by
 unfold J3
 have e1:(s.length==0)=false:=by rw [beq_eq_false_iff_ne];exact h.1
 have e2:decide (s.length≤24)=true:=by simp;exact h.2.1
 rw [e1,e2,h.2.2,ha];rfl
theorem nV {s:List UInt8}{c:UInt8}(hm:c∈s)(h:jC c=false):s.all jC=false:=by
 rw [Bool.eq_false_iff];intro ha;rw [List.all_eq_true.1 ha c hm] at h;cases h
theorem Xf {s:List UInt8}{k:Nat}{c:UInt8}(hc:s[k]? = some c)(h:(s.take k).all jC=true)(hx:jC c=true):(s.take (k+1)).all jC=true:=by
 rw [Fs hc,List.all_append,h];simp [hx]
theorem c111 (n:Int):Ap Tryz.prog 231 [.int .u8 n] (.bool (aQ n)):=by
 refine Ap.body (n:=9) tok Tryz.func231 rfl rfl rfl fun H=>?_
 refine Ad (Qp A3 (By ?_))
 refine Qp (A1 (v:=.int .u8 _) rfl) ?_
 refine Qp F6 (Qp Bq ?_)
 refine AOL.Aap (y:=.int .u8 _) _ [] rfl (iB.all trivial) (fun hG=>A1 (v:=.int .u8 _) rfl) rfl ?_
 refine Qg [(6,_)] Qw Nj (Qp Et (Qp A3 (Aa (AW.ret ?_))))
 refine Qr (.bool _) ?_
 rfl
theorem c112 (n:Int):Ap Tryz.prog 232 [.int .u8 n] (.bool (uS n)):=by
 refine Ap.body (n:=21) tok Tryz.func232 rfl rfl rfl fun H=>?_
 refine Ad (Qp A3 (By ?_))
 refine Qp (A1 (v:=.int .u8 _) rfl) ?_
 refine Qp Av (Qp Bq ?_)
 refine AOL.Aap (y:=.int .u8 _) _ [] rfl (iB.all trivial) (fun hG=>A1 (v:=.int .u8 _) rfl) rfl ?_
 refine Qg [(6,_)] Qw F6 (Qg [(7,_)] Qw Bq ?_)
 refine AOL.Aap (y:=.int .u8 _) _ [] rfl (iB.all trivial) (fun hG=>A1 (v:=.int .u8 _) rfl) rfl ?_
 refine Qg [(9,_)] Qw Nj (Qg [(8,_),(10,_)] Qw Et (Qp Cy (Qp Bq ?_)))
 refine AOL.Aap (y:=.int .u8 _) _ [] rfl (iB.all trivial) (fun hG=>A1 (v:=.int .u8 _) rfl) rfl ?_
 refine Qg [(14,_)] Qw F6 (Qg [(15,_)] Qw Bq ?_)
 refine AOL.Aap (y:=.int .u8 _) _ [] rfl (iB.all trivial) (fun hG=>A1 (v:=.int .u8 _) rfl) rfl ?_
 refine Qg [(17,_)] Qw Nj (Qg [(16,_),(18,_)] Qw Et (Qp Cy (Qp A3 (Aa (AW.ret ?_)))))
 refine Qr (.bool _) ?_
 rfl
theorem c102 (s:List UInt8)(hs:s.length≤1048576):Ap Tryz.prog 165 [.str s] (.bool (J3 s)):=by
 refine Ap.body (n:=35) tok Tryz.func165 rfl rfl rfl fun H=>?_
 refine Ad (Qp A3 (Aa (AW.seq (Ad (Qp Dh ?_)))))
 refine Qp (Bx (n:=s.length) tok rfl rfl rfl (rfl)) ?_
 refine Qp Av (Qp Bq (Qg [] Qw Dh ?_))
 refine AOL.Aap (y:=Iq _) _ [(8,_)] rfl (iB.all ⟨Ent.Aao _ _,trivial⟩) (fun hG=>Bx (n:=s.length) tok rfl rfl rfl (rfl)) rfl ?_
 refine Qg [(9,_)] Qw D2 (Qp Cy (Qp Bq (Qg [] Qw Dh ?_)))
 refine AOL.Aap (y:=.int .u8 _) _ [(13,_)] rfl (iB.all ⟨Ent.Aao _ _,trivial⟩) (fun hG=>Bs tok rfl rfl rfl rfl (by decide) (rB (iO hG))) rfl ?_
 refine Qg [(14,_)] Qw (Qc rfl (c111 _)) ?_
 refine Qp Cy (Aa (Au (fun hc1=>?_) fun hc1=>?_))
 ·
  refine Ad (Qp A3 (Aa (Cx ?_)))
  refine Qr (.bool _) ?_
  simp only [Ae,AV.bool.injEq]
  simp only [Bool.or_eq_true,decide_eq_true_eq,beq_iff_eq] at hc1
  rcases hc1 with (h1 | h1) | h1
  · exact (Xj (.inl (by omega))).symm
  · exact (Xj (.inr (.inl (by omega)))).symm
  · exact (Xj (.inr (.inr h1))).symm
 ·
  have hn1:s.length≠0∧s.length≤24∧aQ ((s.headD 0).toNat)=false:=by
     simp only [Bool.or_eq_false_iff,decide_eq_false_iff_not,beq_eq_false_iff_ne] at hc1
     exact ⟨by omega,by omega,hc1.2⟩
  refine Bl (AW.seq (Ad (Qp Dh ?_)))
  refine Qp (Bx (n:=s.length) tok rfl rfl rfl (rfl)) ?_
  refine Qp A4 (Aa (AW.block ?_))
  refine AW.Aat (fun (p:Nat)=>(⟨[(0,.str s),(18,.int .i64 s.length),(19,.int .i64 (p:Int))],H,35⟩:St)) (fun (p:Nat)=>p≤s.length∧(s.take p).all jC=true) (fun (p:Nat)=>s.length-p) (0) ?_ (GS.weaken ⟨rfl,rfl,rfl,trivial⟩ (.refl _)) ?_
  · exact ⟨Nat.zero_le _,by simp⟩
  ·
   rintro p hR
   refine Ad (Qp B7 (Aa (AW.seq (Au (fun hc2=>?_) fun hc2=>?_))))
   ·
    obtain ⟨c,hc⟩:=Dl hc2
    have hlt:=Cm hc
    have hm:=List.mem_of_getElem? hc
    refine Bl (AW.seq (AW.block (Ad (Qp A4 (Qp A0 (By (Qp Dh (Qp A4 ?_))))))))
    refine Qp (Bs tok rfl rfl rfl rfl (by omega) (fF hc)) ?_
    refine Qp (Qc rfl (c112 _)) ?_
    refine Qp Fz (Qp Bq (Qg [] Qw Dh (Qg [] Qw A4 ?_)))
    refine AOL.Aap (y:=.int .u8 _) _ [(28,_),(29,_)] rfl (iB.all ⟨Ent.Aao _ _,Ent.Aao _ _,trivial⟩) (fun hG=>Bs tok rfl rfl rfl rfl (by omega) (fF hc)) rfl ?_
    refine Qg [(30,_)] Qw (Qc rfl (c111 _)) ?_
    refine Qg [(31,_)] Qw Fz (Qp Et (Aa (Au (fun hc3=>?_) fun hc3=>?_)))
    ·
     have hch:jC c=false:=by
      unfold jC;cases hl:uS c.toNat <;> cases hd:aQ c.toNat <;> simp_all
     refine Ad (Qp A3 (Aa (AW.ret (Ao (Ai (Ai (Ao (Ai ?_))))))))
     refine Qr (.bool _) ?_
     simp only [Ae,AV.bool.injEq]
     symm
     unfold J3
     rw [nV hm hch,Bool.and_false]
    ·
     have hch:jC c=true:=by
      unfold jC;cases hl:uS c.toNat <;> cases hd:aQ c.toNat <;> simp_all
     refine AW.skip (Bc (Af (AW.region (Qp Ei (Qp A4 (Aa ?_))))))
     refine ⟨p+1,?_,?_,GS.weaken ⟨rfl,rfl,rfl,trivial⟩ (.refl _)⟩
     · exact ⟨hlt,Xf hc hR.2 hch⟩
     · omega
   ·
    have hte:=E8 hc2
    refine AW.exit ?_
    refine A7 (A7 (Bp (Af (Ad (Qp A3 (Aa (AW.ret ?_)))))))
    refine Qr (.bool _) ?_
    simp only [Ae,AV.bool.injEq]
    exact (kK hn1 (by rw [←hte];exact hR.2)).symm
theorem c103 (s:List UInt8)(hs:s.length≤1048576):Ap Tryz.prog 166 [.str s] (.bool (Yf s)):=by
 refine Ap.body (n:=9) tok Tryz.func166 rfl rfl rfl fun H=>?_
 refine Ad (Qp A3 (By (Qp Dh ?_)))
 refine Qp (Qc rfl (c102 s hs)) ?_
 refine Qp Bq (Qg [] Qw Dh ?_)
 refine AOL.Aap (y:=.bool _) _ [(6,_)] rfl (iB.all ⟨Ent.Aao _ _,trivial⟩) (fun hG=>Cr rfl rfl) rfl ?_
 refine Qp Et (Qp A3 (Aa (AW.ret ?_)))
 refine Qr (.bool _) ?_
 rfl

end Go.Proofs.YtckhoadldibflaaGreatDoor
