/-
  Walks of the reference: fields, constants, aggregates. No condition.
-/
import Derived.Test.YtpgmglacdcfnaaaGreatDoorQG12
import Derived.KernelRfl
namespace Go.Proofs.YtpgmglacdcfnaaaGreatDoor
open Go Go.Aw
set_option linter.unusedVariables false
set_option linter.unusedSimpArgs false

theorem numR_le (s : Str) : 0 ≤ (numR s).1 ∧ (numR s).1 ≤ 1099511627776 := by
  unfold numR
  split
  · decide
  · split
    · exact numGo_le _ _ (by decide) (by decide)
    · decide
theorem numRR_le (st : PS) : 0 ≤ numRR st ∧ numRR st ≤ 1099511627776 := numR_le _

set_option maxRecDepth 20000 in
set_option maxHeartbeats 400000 in
theorem r_field (st : PS) (bp : Nat)  (hS : okS st) : PCallS Tryz.prog 82 bp 60 (cP st) (cP ((fieldR st).2)) [.val (.pointer (some ⟨bp, 0, none⟩))] (.agg (cSyn (fieldR st).1)) := by
  intro H
  refine ACall.body (n := 21) tok Tryz.func82 rfl rfl rfl ?_
  refine AW.seq ?_
  refine AW.region ?_
  refine AOL.e (E_alloc (l := [.int .i64 0, .str [], .str [], .int .i64 0, .sl 6 [], .int .i64 0]) (by kernel_rfl)) rfl ?_
  rintro _ _ ⟨b2, rfl, rfl⟩
  refine AOL.nil ?_
  refine thenN ?_
  refine AW.seq ?_
  refine AW.region ?_
  refine AOL.p (P_move (v := .val _) rfl) rfl ?_
  refine AOL.pk (P_callf_k (k := 1) (by kernel_rfl) rfl rfl (r_offset _ _)) rfl rfl ?_
  refine AOL.p (P_build (l := [.int .i64 _, .str _, .str _, .int .i64 _, _, .int .i64 _]) tok rfl rfl rfl) rfl ?_
  refine AOL.e (E_alloc (l := [.int .i64 0, .str [], .str [], .int .i64 0, .sl 6 [], .int .i64 0]) (by kernel_rfl)) rfl ?_
  rintro _ _ ⟨b3, rfl, rfl⟩
  refine AOL.e (E_store (k := 0) (v := .agg _) (cs' := [.int .i64 _, .str _, .str _, .int .i64 _, _, .int .i64 _]) (H2 := _ :: _ :: _ :: _) tok rfl rfl rfl rfl rfl rfl rfl rfl rfl) rfl ?_
  rintro _ _ ⟨rfl, rfl⟩
  refine AOL.nil ?_
  refine thenN ?_
  refine AW.seq ?_
  refine AW.region ?_
  refine AOL.p (P_move (v := .val _) rfl) rfl ?_
  refine AOL.e (E_callf (by kernel_rfl) rfl rfl ((r_take _ _ _ (by simpa using hS)).at (k := 2) (H2 := _ :: _ :: _ :: _) rfl rfl)) rfl ?_
  rintro _ _ ⟨rfl, rfl⟩
  refine AOL.p (P_fieldAddr_val tok rfl rfl rfl rfl rfl rfl) rfl ?_
  refine AOL.e (E_store (k := 0) (v := .str _) (cs' := [.int .i64 _, .str _, .str _, .int .i64 _, _, .int .i64 _]) (H2 := _ :: _ :: _ :: _) tok rfl rfl rfl rfl rfl rfl rfl rfl rfl) rfl ?_
  rintro _ _ ⟨rfl, rfl⟩
  refine AOL.nil ?_
  refine thenN ?_
  refine AW.seq ?_
  refine AW.region ?_
  refine AOL.p (P_move (v := .val _) rfl) rfl ?_
  refine AOL.e (E_callf (by kernel_rfl) rfl rfl ((r_expect _ _ _ (by simpa using hS)).at (k := 2) (H2 := _ :: _ :: _ :: _) rfl rfl)) rfl ?_
  rintro _ _ ⟨rfl, rfl⟩
  refine AOL.nil ?_
  refine thenN ?_
  refine AW.seq ?_
  refine AW.seq ?_
  refine AW.region ?_
  refine AOL.p (P_move (v := .val _) rfl) rfl ?_
  refine AOL.e (E_callf (by kernel_rfl) rfl rfl ((r_accept _ _ _ (by simpa using hS)).at (k := 2) (H2 := _ :: _ :: _ :: _) rfl rfl)) rfl ?_
  rintro _ _ ⟨rfl, rfl⟩
  refine AOL.nil ?_
  refine thenN ?_
  refine AW.cond (b := _) rfl (fun hc1 => ?_) (fun hc1 => ?_)
  · skip
    try simp only [Bool.not_eq_true', Bool.not_eq_false'] at hc1
    refine AW.ghost (GS.cellsTo (H2 := _ :: _ :: _ :: _) 2 rfl (congrArg cP (accR_yes hc1)) rfl) ?_
    refine AW.region ?_
    refine AOL.p (P_fieldAddr_val tok rfl rfl rfl rfl rfl rfl) rfl ?_
    refine AOL.e (E_store (k := 0) (v := .int .i64 _) (cs' := [.int .i64 _, .str _, .str _, .int .i64 _, _, .int .i64 _]) (H2 := _ :: _ :: _ :: _) tok rfl rfl rfl rfl rfl rfl rfl rfl rfl) rfl ?_
    rintro _ _ ⟨rfl, rfl⟩
    refine AOL.nil ?_
    refine thenN ?_
    refine AW.seq ?_
    refine AW.region ?_
    refine AOL.pk (P_load_box_agg (k := 0) (l := [.int .i64 _, .str _, .str _, .int .i64 _, _, .int .i64 _]) tok rfl rfl rfl rfl rfl) rfl rfl ?_
    refine AOL.e (E_store (k := 1) (v := .agg _) (cs' := [.int .i64 _, .str _, .str _, .int .i64 _, _, .int .i64 _]) (H2 := _ :: _ :: _ :: _) tok rfl rfl rfl rfl rfl rfl rfl rfl rfl) rfl ?_
    rintro _ _ ⟨rfl, rfl⟩
    refine AOL.nil ?_
    refine thenN ?_
    refine AW.ret ?_
    refine ⟨.inr rfl, [.agg [.int .i64 _, .str _, .str _, .int .i64 _, _, .int .i64 _]], .cons (.box _ _ _ 1 _ _ _ _ rfl rfl rfl rfl rfl rfl) <| .nil, _, .cons _ (.cons _ (.refl _)), ?_⟩
    refine ⟨?_, congrArg (fun c => HO.box bp 60 c :: H) ?_⟩
    · try simp only [resOf, fieldR, cSyn, List.map_cons, List.map_nil, encS_eq, hc1, ↓reduceIte, Bool.false_eq_true, Bool.not_true, Bool.not_false]
      try rfl
    · try simp only [cP, fieldR, hc1, ↓reduceIte, Bool.false_eq_true, Bool.not_true, Bool.not_false]
      try rfl
  · skip
    try simp only [Bool.not_eq_true', Bool.not_eq_false'] at hc1
    refine AW.ghost (GS.cellsTo (H2 := _ :: _ :: _ :: _) 2 rfl (congrArg cP (accR_no hc1)) rfl) ?_
    refine AW.seq ?_
    refine AW.region ?_
    refine AOL.p (P_move (v := .val _) rfl) rfl ?_
    refine AOL.e (E_callf (by kernel_rfl) rfl rfl ((r_accept _ _ _ (by simpa using hS)).at (k := 2) (H2 := _ :: _ :: _ :: _) rfl rfl)) rfl ?_
    rintro _ _ ⟨rfl, rfl⟩
    refine AOL.nil ?_
    refine thenN ?_
    refine AW.cond (b := _) rfl (fun hc2 => ?_) (fun hc2 => ?_)
    · skip
      try simp only [Bool.not_eq_true', Bool.not_eq_false'] at hc2
      refine AW.ghost (GS.cellsTo (H2 := _ :: _ :: _ :: _) 2 rfl (congrArg cP (accR_yes hc2)) rfl) ?_
      refine AW.region ?_
      refine AOL.p (P_fieldAddr_val tok rfl rfl rfl rfl rfl rfl) rfl ?_
      refine AOL.e (E_store (k := 0) (v := .int .i64 _) (cs' := [.int .i64 _, .str _, .str _, .int .i64 _, _, .int .i64 _]) (H2 := _ :: _ :: _ :: _) tok rfl rfl rfl rfl rfl rfl rfl rfl rfl) rfl ?_
      rintro _ _ ⟨rfl, rfl⟩
      refine AOL.nil ?_
      refine thenN ?_
      refine AW.seq ?_
      refine AW.region ?_
      refine AOL.pk (P_load_box_agg (k := 0) (l := [.int .i64 _, .str _, .str _, .int .i64 _, _, .int .i64 _]) tok rfl rfl rfl rfl rfl) rfl rfl ?_
      refine AOL.e (E_store (k := 1) (v := .agg _) (cs' := [.int .i64 _, .str _, .str _, .int .i64 _, _, .int .i64 _]) (H2 := _ :: _ :: _ :: _) tok rfl rfl rfl rfl rfl rfl rfl rfl rfl) rfl ?_
      rintro _ _ ⟨rfl, rfl⟩
      refine AOL.nil ?_
      refine thenN ?_
      refine AW.ret ?_
      refine ⟨.inr rfl, [.agg [.int .i64 _, .str _, .str _, .int .i64 _, _, .int .i64 _]], .cons (.box _ _ _ 1 _ _ _ _ rfl rfl rfl rfl rfl rfl) <| .nil, _, .cons _ (.cons _ (.refl _)), ?_⟩
      refine ⟨?_, congrArg (fun c => HO.box bp 60 c :: H) ?_⟩
      · try simp only [resOf, fieldR, cSyn, List.map_cons, List.map_nil, encS_eq, hc1, hc2, ↓reduceIte, Bool.false_eq_true, Bool.not_true, Bool.not_false]
        try rfl
      · try simp only [cP, fieldR, hc1, hc2, ↓reduceIte, Bool.false_eq_true, Bool.not_true, Bool.not_false]
        try rfl
    · skip
      try simp only [Bool.not_eq_true', Bool.not_eq_false'] at hc2
      refine AW.ghost (GS.cellsTo (H2 := _ :: _ :: _ :: _) 2 rfl (congrArg cP (accR_no hc2)) rfl) ?_
      refine AW.region ?_
      refine AOL.p (P_move (v := .val _) rfl) rfl ?_
      refine AOL.e (E_callf (by kernel_rfl) rfl rfl ((r_expect _ _ _ (by simpa using hS)).at (k := 2) (H2 := _ :: _ :: _ :: _) rfl rfl)) rfl ?_
      rintro _ _ ⟨rfl, rfl⟩
      refine AOL.nil ?_
      refine thenN ?_
      refine AW.seq ?_
      refine AW.region ?_
      refine AOL.pk (P_load_box_agg (k := 0) (l := [.int .i64 _, .str _, .str _, .int .i64 _, _, .int .i64 _]) tok rfl rfl rfl rfl rfl) rfl rfl ?_
      refine AOL.e (E_store (k := 1) (v := .agg _) (cs' := [.int .i64 _, .str _, .str _, .int .i64 _, _, .int .i64 _]) (H2 := _ :: _ :: _ :: _) tok rfl rfl rfl rfl rfl rfl rfl rfl rfl) rfl ?_
      rintro _ _ ⟨rfl, rfl⟩
      refine AOL.nil ?_
      refine thenN ?_
      refine AW.ret ?_
      refine ⟨.inr rfl, [.agg [.int .i64 _, .str _, .str _, .int .i64 _, _, .int .i64 _]], .cons (.box _ _ _ 1 _ _ _ _ rfl rfl rfl rfl rfl rfl) <| .nil, _, .cons _ (.cons _ (.refl _)), ?_⟩
      refine ⟨?_, congrArg (fun c => HO.box bp 60 c :: H) ?_⟩
      · try simp only [resOf, fieldR, cSyn, List.map_cons, List.map_nil, encS_eq, hc1, hc2, ↓reduceIte, Bool.false_eq_true, Bool.not_true, Bool.not_false]
        try rfl
      · try simp only [cP, fieldR, hc1, hc2, ↓reduceIte, Bool.false_eq_true, Bool.not_true, Bool.not_false]
        try rfl
set_option maxRecDepth 20000 in
set_option maxHeartbeats 400000 in
theorem r_constant (st : PS) (bp : Nat)  (hS : okS st) : PCallS Tryz.prog 127 bp 60 (cP st) (cP ((constR st).2)) [.val (.pointer (some ⟨bp, 0, none⟩))] (.agg (cSyn (constR st).1)) := by
  intro H
  refine ACall.body (n := 30) tok Tryz.func127 rfl rfl rfl ?_
  refine AW.seq ?_
  refine AW.region ?_
  refine AOL.e (E_alloc (l := [.int .i64 0, .str [], .str [], .int .i64 0, .sl 6 [], .int .i64 0]) (by kernel_rfl)) rfl ?_
  rintro _ _ ⟨b2, rfl, rfl⟩
  refine AOL.nil ?_
  refine thenN ?_
  refine AW.seq ?_
  refine AW.region ?_
  refine AOL.p (P_move (v := .val _) rfl) rfl ?_
  refine AOL.pk (P_callf_k (k := 1) (by kernel_rfl) rfl rfl (r_offset _ _)) rfl rfl ?_
  refine AOL.p (P_build (l := [.int .i64 _, .str _, .str _, .int .i64 _, _, .int .i64 _]) tok rfl rfl rfl) rfl ?_
  refine AOL.e (E_alloc (l := [.int .i64 0, .str [], .str [], .int .i64 0, .sl 6 [], .int .i64 0]) (by kernel_rfl)) rfl ?_
  rintro _ _ ⟨b3, rfl, rfl⟩
  refine AOL.e (E_store (k := 0) (v := .agg _) (cs' := [.int .i64 _, .str _, .str _, .int .i64 _, _, .int .i64 _]) (H2 := _ :: _ :: _ :: _) tok rfl rfl rfl rfl rfl rfl rfl rfl rfl) rfl ?_
  rintro _ _ ⟨rfl, rfl⟩
  refine AOL.nil ?_
  refine thenN ?_
  refine AW.seq ?_
  refine AW.seq ?_
  refine AW.region ?_
  refine AOL.p (P_move (v := .val _) rfl) rfl ?_
  refine AOL.e (E_callf (by kernel_rfl) rfl rfl ((r_accept _ _ _ (by simpa using hS)).at (k := 2) (H2 := _ :: _ :: _ :: _) rfl rfl)) rfl ?_
  rintro _ _ ⟨rfl, rfl⟩
  refine AOL.nil ?_
  refine thenN ?_
  refine AW.cond (b := _) rfl (fun hc1 => ?_) (fun hc1 => ?_)
  · skip
    try simp only [Bool.not_eq_true', Bool.not_eq_false'] at hc1
    refine AW.ghost (GS.cellsTo (H2 := _ :: _ :: _ :: _) 2 rfl (congrArg cP (accR_yes hc1)) rfl) ?_
    refine AW.region ?_
    refine AOL.p (P_move (v := .val _) rfl) rfl ?_
    refine AOL.e (E_callf (by kernel_rfl) rfl rfl ((r_number _ _ (by simpa using hS)).at (k := 2) (H2 := _ :: _ :: _ :: _) rfl rfl)) rfl ?_
    rintro _ _ ⟨rfl, rfl⟩
    refine AOL.p (P_neg rfl rfl (by have := numRR_le (adv st); constructor <;> omega)) rfl ?_
    refine AOL.p (P_fieldAddr_val tok rfl rfl rfl rfl rfl rfl) rfl ?_
    refine AOL.e (E_store (k := 0) (v := .int .i64 _) (cs' := [.int .i64 _, .str _, .str _, .int .i64 _, _, .int .i64 _]) (H2 := _ :: _ :: _ :: _) tok rfl rfl rfl rfl rfl rfl rfl rfl rfl) rfl ?_
    rintro _ _ ⟨rfl, rfl⟩
    refine AOL.nil ?_
    refine thenN ?_
    refine AW.seq ?_
    refine AW.region ?_
    refine AOL.pk (P_load_box_agg (k := 0) (l := [.int .i64 _, .str _, .str _, .int .i64 _, _, .int .i64 _]) tok rfl rfl rfl rfl rfl) rfl rfl ?_
    refine AOL.e (E_store (k := 1) (v := .agg _) (cs' := [.int .i64 _, .str _, .str _, .int .i64 _, _, .int .i64 _]) (H2 := _ :: _ :: _ :: _) tok rfl rfl rfl rfl rfl rfl rfl rfl rfl) rfl ?_
    rintro _ _ ⟨rfl, rfl⟩
    refine AOL.nil ?_
    refine thenN ?_
    refine AW.ret ?_
    refine ⟨.inr rfl, [.agg [.int .i64 _, .str _, .str _, .int .i64 _, _, .int .i64 _]], .cons (.box _ _ _ 1 _ _ _ _ rfl rfl rfl rfl rfl rfl) <| .nil, _, .cons _ (.cons _ (.refl _)), ?_⟩
    refine ⟨?_, congrArg (fun c => HO.box bp 60 c :: H) ?_⟩
    · try simp only [resOf, constR, cSyn, List.map_cons, List.map_nil, encS_eq, hc1, ↓reduceIte, Bool.false_eq_true, Bool.not_true, Bool.not_false]
      try rfl
    · try simp only [cP, constR, hc1, ↓reduceIte, Bool.false_eq_true, Bool.not_true, Bool.not_false]
      try rfl
  · skip
    try simp only [Bool.not_eq_true', Bool.not_eq_false'] at hc1
    refine AW.ghost (GS.cellsTo (H2 := _ :: _ :: _ :: _) 2 rfl (congrArg cP (accR_no hc1)) rfl) ?_
    refine AW.seq ?_
    refine AW.region ?_
    refine AOL.p (P_move (v := .val _) rfl) rfl ?_
    refine AOL.e (E_callf (by kernel_rfl) rfl rfl ((r_accept _ _ _ (by simpa using hS)).at (k := 2) (H2 := _ :: _ :: _ :: _) rfl rfl)) rfl ?_
    rintro _ _ ⟨rfl, rfl⟩
    refine AOL.nil ?_
    refine thenN ?_
    refine AW.cond (b := _) rfl (fun hc2 => ?_) (fun hc2 => ?_)
    · skip
      try simp only [Bool.not_eq_true', Bool.not_eq_false'] at hc2
      refine AW.ghost (GS.cellsTo (H2 := _ :: _ :: _ :: _) 2 rfl (congrArg cP (accR_yes hc2)) rfl) ?_
      refine AW.region ?_
      refine AOL.p (P_fieldAddr_val tok rfl rfl rfl rfl rfl rfl) rfl ?_
      refine AOL.e (E_store (k := 0) (v := .str _) (cs' := [.int .i64 _, .str _, .str _, .int .i64 _, _, .int .i64 _]) (H2 := _ :: _ :: _ :: _) tok rfl rfl rfl rfl rfl rfl rfl rfl rfl) rfl ?_
      rintro _ _ ⟨rfl, rfl⟩
      refine AOL.p (P_fieldAddr_val tok rfl rfl rfl rfl rfl rfl) rfl ?_
      refine AOL.e (E_store (k := 0) (v := .int .i64 _) (cs' := [.int .i64 _, .str _, .str _, .int .i64 _, _, .int .i64 _]) (H2 := _ :: _ :: _ :: _) tok rfl rfl rfl rfl rfl rfl rfl rfl rfl) rfl ?_
      rintro _ _ ⟨rfl, rfl⟩
      refine AOL.nil ?_
      refine thenN ?_
      refine AW.seq ?_
      refine AW.region ?_
      refine AOL.pk (P_load_box_agg (k := 0) (l := [.int .i64 _, .str _, .str _, .int .i64 _, _, .int .i64 _]) tok rfl rfl rfl rfl rfl) rfl rfl ?_
      refine AOL.e (E_store (k := 1) (v := .agg _) (cs' := [.int .i64 _, .str _, .str _, .int .i64 _, _, .int .i64 _]) (H2 := _ :: _ :: _ :: _) tok rfl rfl rfl rfl rfl rfl rfl rfl rfl) rfl ?_
      rintro _ _ ⟨rfl, rfl⟩
      refine AOL.nil ?_
      refine thenN ?_
      refine AW.ret ?_
      refine ⟨.inr rfl, [.agg [.int .i64 _, .str _, .str _, .int .i64 _, _, .int .i64 _]], .cons (.box _ _ _ 1 _ _ _ _ rfl rfl rfl rfl rfl rfl) <| .nil, _, .cons _ (.cons _ (.refl _)), ?_⟩
      refine ⟨?_, congrArg (fun c => HO.box bp 60 c :: H) ?_⟩
      · try simp only [resOf, constR, cSyn, List.map_cons, List.map_nil, encS_eq, hc1, hc2, ↓reduceIte, Bool.false_eq_true, Bool.not_true, Bool.not_false]
        try rfl
      · try simp only [cP, constR, hc1, hc2, ↓reduceIte, Bool.false_eq_true, Bool.not_true, Bool.not_false]
        try rfl
    · skip
      try simp only [Bool.not_eq_true', Bool.not_eq_false'] at hc2
      refine AW.ghost (GS.cellsTo (H2 := _ :: _ :: _ :: _) 2 rfl (congrArg cP (accR_no hc2)) rfl) ?_
      refine AW.seq ?_
      refine AW.region ?_
      refine AOL.p (P_move (v := .val _) rfl) rfl ?_
      refine AOL.e (E_callf (by kernel_rfl) rfl rfl ((r_accept _ _ _ (by simpa using hS)).at (k := 2) (H2 := _ :: _ :: _ :: _) rfl rfl)) rfl ?_
      rintro _ _ ⟨rfl, rfl⟩
      refine AOL.nil ?_
      refine thenN ?_
      refine AW.cond (b := _) rfl (fun hc3 => ?_) (fun hc3 => ?_)
      · skip
        try simp only [Bool.not_eq_true', Bool.not_eq_false'] at hc3
        refine AW.ghost (GS.cellsTo (H2 := _ :: _ :: _ :: _) 2 rfl (congrArg cP (accR_yes hc3)) rfl) ?_
        refine AW.region ?_
        refine AOL.p (P_fieldAddr_val tok rfl rfl rfl rfl rfl rfl) rfl ?_
        refine AOL.e (E_store (k := 0) (v := .str _) (cs' := [.int .i64 _, .str _, .str _, .int .i64 _, _, .int .i64 _]) (H2 := _ :: _ :: _ :: _) tok rfl rfl rfl rfl rfl rfl rfl rfl rfl) rfl ?_
        rintro _ _ ⟨rfl, rfl⟩
        refine AOL.nil ?_
        refine thenN ?_
        refine AW.seq ?_
        refine AW.region ?_
        refine AOL.pk (P_load_box_agg (k := 0) (l := [.int .i64 _, .str _, .str _, .int .i64 _, _, .int .i64 _]) tok rfl rfl rfl rfl rfl) rfl rfl ?_
        refine AOL.e (E_store (k := 1) (v := .agg _) (cs' := [.int .i64 _, .str _, .str _, .int .i64 _, _, .int .i64 _]) (H2 := _ :: _ :: _ :: _) tok rfl rfl rfl rfl rfl rfl rfl rfl rfl) rfl ?_
        rintro _ _ ⟨rfl, rfl⟩
        refine AOL.nil ?_
        refine thenN ?_
        refine AW.ret ?_
        refine ⟨.inr rfl, [.agg [.int .i64 _, .str _, .str _, .int .i64 _, _, .int .i64 _]], .cons (.box _ _ _ 1 _ _ _ _ rfl rfl rfl rfl rfl rfl) <| .nil, _, .cons _ (.cons _ (.refl _)), ?_⟩
        refine ⟨?_, congrArg (fun c => HO.box bp 60 c :: H) ?_⟩
        · try simp only [resOf, constR, cSyn, List.map_cons, List.map_nil, encS_eq, hc1, hc2, hc3, ↓reduceIte, Bool.false_eq_true, Bool.not_true, Bool.not_false]
          try rfl
        · try simp only [cP, constR, hc1, hc2, hc3, ↓reduceIte, Bool.false_eq_true, Bool.not_true, Bool.not_false]
          try rfl
      · skip
        try simp only [Bool.not_eq_true', Bool.not_eq_false'] at hc3
        refine AW.ghost (GS.cellsTo (H2 := _ :: _ :: _ :: _) 2 rfl (congrArg cP (accR_no hc3)) rfl) ?_
        refine AW.seq ?_
        refine AW.region ?_
        refine AOL.p (P_move (v := .val _) rfl) rfl ?_
        refine AOL.pk (P_callf_k (k := 2) (by kernel_rfl) rfl rfl (r_kind _ _ _ (by simpa using hS))) rfl rfl ?_
        refine AOL.nil ?_
        refine thenN ?_
        refine AW.cond (b := _) rfl (fun hc4 => ?_) (fun hc4 => ?_)
        · skip
          try simp only [Bool.not_eq_true', Bool.not_eq_false'] at hc4
          refine AW.region ?_
          refine AOL.p (P_move (v := .val _) rfl) rfl ?_
          refine AOL.e (E_callf (by kernel_rfl) rfl rfl ((r_take _ _ _ (by simpa using hS)).at (k := 2) (H2 := _ :: _ :: _ :: _) rfl rfl)) rfl ?_
          rintro _ _ ⟨rfl, rfl⟩
          refine AOL.p (P_fieldAddr_val tok rfl rfl rfl rfl rfl rfl) rfl ?_
          refine AOL.e (E_store (k := 0) (v := .str _) (cs' := [.int .i64 _, .str _, .str _, .int .i64 _, _, .int .i64 _]) (H2 := _ :: _ :: _ :: _) tok rfl rfl rfl rfl rfl rfl rfl rfl rfl) rfl ?_
          rintro _ _ ⟨rfl, rfl⟩
          refine AOL.p (P_fieldAddr_val tok rfl rfl rfl rfl rfl rfl) rfl ?_
          refine AOL.e (E_store (k := 0) (v := .str _) (cs' := [.int .i64 _, .str _, .str _, .int .i64 _, _, .int .i64 _]) (H2 := _ :: _ :: _ :: _) tok rfl rfl rfl rfl rfl rfl rfl rfl rfl) rfl ?_
          rintro _ _ ⟨rfl, rfl⟩
          refine AOL.nil ?_
          refine thenN ?_
          refine AW.seq ?_
          refine AW.region ?_
          refine AOL.pk (P_load_box_agg (k := 0) (l := [.int .i64 _, .str _, .str _, .int .i64 _, _, .int .i64 _]) tok rfl rfl rfl rfl rfl) rfl rfl ?_
          refine AOL.e (E_store (k := 1) (v := .agg _) (cs' := [.int .i64 _, .str _, .str _, .int .i64 _, _, .int .i64 _]) (H2 := _ :: _ :: _ :: _) tok rfl rfl rfl rfl rfl rfl rfl rfl rfl) rfl ?_
          rintro _ _ ⟨rfl, rfl⟩
          refine AOL.nil ?_
          refine thenN ?_
          refine AW.ret ?_
          refine ⟨.inr rfl, [.agg [.int .i64 _, .str _, .str _, .int .i64 _, _, .int .i64 _]], .cons (.box _ _ _ 1 _ _ _ _ rfl rfl rfl rfl rfl rfl) <| .nil, _, .cons _ (.cons _ (.refl _)), ?_⟩
          refine ⟨?_, congrArg (fun c => HO.box bp 60 c :: H) ?_⟩
          · try simp only [resOf, constR, cSyn, List.map_cons, List.map_nil, encS_eq, hc1, hc2, hc3, hc4, ↓reduceIte, Bool.false_eq_true, Bool.not_true, Bool.not_false]
            try rfl
          · try simp only [cP, constR, hc1, hc2, hc3, hc4, ↓reduceIte, Bool.false_eq_true, Bool.not_true, Bool.not_false]
            try rfl
        · skip
          try simp only [Bool.not_eq_true', Bool.not_eq_false'] at hc4
          refine AW.region ?_
          refine AOL.p (P_move (v := .val _) rfl) rfl ?_
          refine AOL.e (E_callf (by kernel_rfl) rfl rfl ((r_number _ _ (by simpa using hS)).at (k := 2) (H2 := _ :: _ :: _ :: _) rfl rfl)) rfl ?_
          rintro _ _ ⟨rfl, rfl⟩
          refine AOL.p (P_fieldAddr_val tok rfl rfl rfl rfl rfl rfl) rfl ?_
          refine AOL.e (E_store (k := 0) (v := .int .i64 _) (cs' := [.int .i64 _, .str _, .str _, .int .i64 _, _, .int .i64 _]) (H2 := _ :: _ :: _ :: _) tok rfl rfl rfl rfl rfl rfl rfl rfl rfl) rfl ?_
          rintro _ _ ⟨rfl, rfl⟩
          refine AOL.nil ?_
          refine thenN ?_
          refine AW.seq ?_
          refine AW.region ?_
          refine AOL.pk (P_load_box_agg (k := 0) (l := [.int .i64 _, .str _, .str _, .int .i64 _, _, .int .i64 _]) tok rfl rfl rfl rfl rfl) rfl rfl ?_
          refine AOL.e (E_store (k := 1) (v := .agg _) (cs' := [.int .i64 _, .str _, .str _, .int .i64 _, _, .int .i64 _]) (H2 := _ :: _ :: _ :: _) tok rfl rfl rfl rfl rfl rfl rfl rfl rfl) rfl ?_
          rintro _ _ ⟨rfl, rfl⟩
          refine AOL.nil ?_
          refine thenN ?_
          refine AW.ret ?_
          refine ⟨.inr rfl, [.agg [.int .i64 _, .str _, .str _, .int .i64 _, _, .int .i64 _]], .cons (.box _ _ _ 1 _ _ _ _ rfl rfl rfl rfl rfl rfl) <| .nil, _, .cons _ (.cons _ (.refl _)), ?_⟩
          refine ⟨?_, congrArg (fun c => HO.box bp 60 c :: H) ?_⟩
          · try simp only [resOf, constR, cSyn, List.map_cons, List.map_nil, encS_eq, hc1, hc2, hc3, hc4, ↓reduceIte, Bool.false_eq_true, Bool.not_true, Bool.not_false]
            try rfl
          · try simp only [cP, constR, hc1, hc2, hc3, hc4, ↓reduceIte, Bool.false_eq_true, Bool.not_true, Bool.not_false]
            try rfl
set_option maxRecDepth 20000 in
set_option maxHeartbeats 400000 in
theorem r_aggregate (st : PS) (bp : Nat) : PCallS Tryz.prog 125 bp 60 (cP st) (cP (st)) [.val (.pointer (some ⟨bp, 0, none⟩))] (.int .i64 (aggR st)) := by
  intro H
  refine ACall.body (n := 13) tok Tryz.func125 rfl rfl rfl ?_
  refine AW.seq ?_
  refine AW.region ?_
  refine AOL.p (P_assign (v := .int .i64 _) rfl) rfl ?_
  refine AOL.nil ?_
  refine thenN ?_
  refine AW.seq ?_
  refine AW.seq ?_
  refine AW.region ?_
  refine AOL.p (P_move (v := .val _) rfl) rfl ?_
  refine AOL.pk (P_callf_k (k := 0) (by kernel_rfl) rfl rfl (r_is _ _ _)) rfl rfl ?_
  refine AOL.nil ?_
  refine thenN ?_
  refine AW.cond (b := _) rfl (fun hc1 => ?_) (fun hc1 => ?_)
  · skip
    try simp only [Bool.not_eq_true', Bool.not_eq_false'] at hc1
    refine AW.seq ?_
    refine AW.region ?_
    refine AOL.p (P_assign (v := .int .i64 _) rfl) rfl ?_
    refine AOL.nil ?_
    refine thenN ?_
    refine AW.ret ?_
    refine thenR ?_
    refine ⟨.inr rfl, [.int .i64 _], .cons (.tmp _ _ rfl) <| .nil, _, .refl _, ?_⟩
    refine ⟨?_, congrArg (fun c => HO.box bp 60 c :: H) ?_⟩
    · try simp only [resOf, aggR, cSyn, List.map_cons, List.map_nil, encS_eq, hc1, ↓reduceIte, Bool.false_eq_true, Bool.not_true, Bool.not_false]
      try rfl
    · try simp only [cP, aggR, hc1, ↓reduceIte, Bool.false_eq_true, Bool.not_true, Bool.not_false]
      try rfl
  · skip
    try simp only [Bool.not_eq_true', Bool.not_eq_false'] at hc1
    refine AW.skip ?_
    refine thenN ?_
    refine AW.seq ?_
    refine AW.seq ?_
    refine AW.region ?_
    refine AOL.p (P_move (v := .val _) rfl) rfl ?_
    refine AOL.pk (P_callf_k (k := 0) (by kernel_rfl) rfl rfl (r_is _ _ _)) rfl rfl ?_
    refine AOL.nil ?_
    refine thenN ?_
    refine AW.cond (b := _) rfl (fun hc2 => ?_) (fun hc2 => ?_)
    · skip
      try simp only [Bool.not_eq_true', Bool.not_eq_false'] at hc2
      refine AW.seq ?_
      refine AW.region ?_
      refine AOL.p (P_assign (v := .int .i64 _) rfl) rfl ?_
      refine AOL.nil ?_
      refine thenN ?_
      refine AW.ret ?_
      refine thenR ?_
      refine ⟨.inr rfl, [.int .i64 _], .cons (.tmp _ _ rfl) <| .nil, _, .refl _, ?_⟩
      refine ⟨?_, congrArg (fun c => HO.box bp 60 c :: H) ?_⟩
      · try simp only [resOf, aggR, cSyn, List.map_cons, List.map_nil, encS_eq, hc1, hc2, ↓reduceIte, Bool.false_eq_true, Bool.not_true, Bool.not_false]
        try rfl
      · try simp only [cP, aggR, hc1, hc2, ↓reduceIte, Bool.false_eq_true, Bool.not_true, Bool.not_false]
        try rfl
    · skip
      try simp only [Bool.not_eq_true', Bool.not_eq_false'] at hc2
      refine AW.skip ?_
      refine thenN ?_
      refine AW.seq ?_
      refine AW.seq ?_
      refine AW.region ?_
      refine AOL.p (P_move (v := .val _) rfl) rfl ?_
      refine AOL.pk (P_callf_k (k := 0) (by kernel_rfl) rfl rfl (r_is _ _ _)) rfl rfl ?_
      refine AOL.nil ?_
      refine thenN ?_
      refine AW.cond (b := _) rfl (fun hc3 => ?_) (fun hc3 => ?_)
      · skip
        try simp only [Bool.not_eq_true', Bool.not_eq_false'] at hc3
        refine AW.seq ?_
        refine AW.region ?_
        refine AOL.p (P_assign (v := .int .i64 _) rfl) rfl ?_
        refine AOL.nil ?_
        refine thenN ?_
        refine AW.ret ?_
        refine thenR ?_
        refine ⟨.inr rfl, [.int .i64 _], .cons (.tmp _ _ rfl) <| .nil, _, .refl _, ?_⟩
        refine ⟨?_, congrArg (fun c => HO.box bp 60 c :: H) ?_⟩
        · try simp only [resOf, aggR, cSyn, List.map_cons, List.map_nil, encS_eq, hc1, hc2, hc3, ↓reduceIte, Bool.false_eq_true, Bool.not_true, Bool.not_false]
          try rfl
        · try simp only [cP, aggR, hc1, hc2, hc3, ↓reduceIte, Bool.false_eq_true, Bool.not_true, Bool.not_false]
          try rfl
      · skip
        try simp only [Bool.not_eq_true', Bool.not_eq_false'] at hc3
        refine AW.skip ?_
        refine thenN ?_
        refine AW.seq ?_
        refine AW.seq ?_
        refine AW.region ?_
        refine AOL.p (P_move (v := .val _) rfl) rfl ?_
        refine AOL.pk (P_callf_k (k := 0) (by kernel_rfl) rfl rfl (r_is _ _ _)) rfl rfl ?_
        refine AOL.nil ?_
        refine thenN ?_
        refine AW.cond (b := _) rfl (fun hc4 => ?_) (fun hc4 => ?_)
        · skip
          try simp only [Bool.not_eq_true', Bool.not_eq_false'] at hc4
          refine AW.seq ?_
          refine AW.region ?_
          refine AOL.p (P_assign (v := .int .i64 _) rfl) rfl ?_
          refine AOL.nil ?_
          refine thenN ?_
          refine AW.ret ?_
          refine thenR ?_
          refine ⟨.inr rfl, [.int .i64 _], .cons (.tmp _ _ rfl) <| .nil, _, .refl _, ?_⟩
          refine ⟨?_, congrArg (fun c => HO.box bp 60 c :: H) ?_⟩
          · try simp only [resOf, aggR, cSyn, List.map_cons, List.map_nil, encS_eq, hc1, hc2, hc3, hc4, ↓reduceIte, Bool.false_eq_true, Bool.not_true, Bool.not_false]
            try rfl
          · try simp only [cP, aggR, hc1, hc2, hc3, hc4, ↓reduceIte, Bool.false_eq_true, Bool.not_true, Bool.not_false]
            try rfl
        · skip
          try simp only [Bool.not_eq_true', Bool.not_eq_false'] at hc4
          refine AW.skip ?_
          refine thenN ?_
          refine AW.seq ?_
          refine AW.seq ?_
          refine AW.region ?_
          refine AOL.p (P_move (v := .val _) rfl) rfl ?_
          refine AOL.pk (P_callf_k (k := 0) (by kernel_rfl) rfl rfl (r_is _ _ _)) rfl rfl ?_
          refine AOL.nil ?_
          refine thenN ?_
          refine AW.cond (b := _) rfl (fun hc5 => ?_) (fun hc5 => ?_)
          · skip
            try simp only [Bool.not_eq_true', Bool.not_eq_false'] at hc5
            refine AW.seq ?_
            refine AW.region ?_
            refine AOL.p (P_assign (v := .int .i64 _) rfl) rfl ?_
            refine AOL.nil ?_
            refine thenN ?_
            refine AW.ret ?_
            refine thenR ?_
            refine ⟨.inr rfl, [.int .i64 _], .cons (.tmp _ _ rfl) <| .nil, _, .refl _, ?_⟩
            refine ⟨?_, congrArg (fun c => HO.box bp 60 c :: H) ?_⟩
            · try simp only [resOf, aggR, cSyn, List.map_cons, List.map_nil, encS_eq, hc1, hc2, hc3, hc4, hc5, ↓reduceIte, Bool.false_eq_true, Bool.not_true, Bool.not_false]
              try rfl
            · try simp only [cP, aggR, hc1, hc2, hc3, hc4, hc5, ↓reduceIte, Bool.false_eq_true, Bool.not_true, Bool.not_false]
              try rfl
          · skip
            try simp only [Bool.not_eq_true', Bool.not_eq_false'] at hc5
            refine AW.skip ?_
            refine thenN ?_
            refine AW.seq ?_
            refine AW.region ?_
            refine AOL.p (P_assign (v := .int .i64 _) rfl) rfl ?_
            refine AOL.nil ?_
            refine thenN ?_
            refine AW.ret ?_
            refine ⟨.inr rfl, [.int .i64 _], .cons (.tmp _ _ rfl) <| .nil, _, .refl _, ?_⟩
            refine ⟨?_, congrArg (fun c => HO.box bp 60 c :: H) ?_⟩
            · try simp only [resOf, aggR, cSyn, List.map_cons, List.map_nil, encS_eq, hc1, hc2, hc3, hc4, hc5, ↓reduceIte, Bool.false_eq_true, Bool.not_true, Bool.not_false]
              try rfl
            · try simp only [cP, aggR, hc1, hc2, hc3, hc4, hc5, ↓reduceIte, Bool.false_eq_true, Bool.not_true, Bool.not_false]
              try rfl
set_option maxRecDepth 20000 in
set_option maxHeartbeats 400000 in
theorem r_operation (st : PS) (bp : Nat) : PCallS Tryz.prog 53 bp 60 (cP st) (cP (st)) [.val (.pointer (some ⟨bp, 0, none⟩))] (.int .i64 (operR st)) := by
  intro H
  refine ACall.body (n := 17) tok Tryz.func53 rfl rfl rfl ?_
  refine AW.seq ?_
  refine AW.region ?_
  refine AOL.p (P_assign (v := .int .i64 _) rfl) rfl ?_
  refine AOL.nil ?_
  refine thenN ?_
  refine AW.seq ?_
  refine AW.seq ?_
  refine AW.region ?_
  refine AOL.p (P_move (v := .val _) rfl) rfl ?_
  refine AOL.pk (P_callf_k (k := 0) (by kernel_rfl) rfl rfl (r_is _ _ _)) rfl rfl ?_
  refine AOL.nil ?_
  refine thenN ?_
  refine AW.cond (b := _) rfl (fun hc1 => ?_) (fun hc1 => ?_)
  · skip
    try simp only [Bool.not_eq_true', Bool.not_eq_false'] at hc1
    refine AW.seq ?_
    refine AW.region ?_
    refine AOL.p (P_assign (v := .int .i64 _) rfl) rfl ?_
    refine AOL.nil ?_
    refine thenN ?_
    refine AW.ret ?_
    refine thenR ?_
    refine ⟨.inr rfl, [.int .i64 _], .cons (.tmp _ _ rfl) <| .nil, _, .refl _, ?_⟩
    refine ⟨?_, congrArg (fun c => HO.box bp 60 c :: H) ?_⟩
    · try simp only [resOf, operR, cSyn, List.map_cons, List.map_nil, encS_eq, hc1, ↓reduceIte, Bool.false_eq_true, Bool.not_true, Bool.not_false]
      try rfl
    · try simp only [cP, operR, hc1, ↓reduceIte, Bool.false_eq_true, Bool.not_true, Bool.not_false]
      try rfl
  · skip
    try simp only [Bool.not_eq_true', Bool.not_eq_false'] at hc1
    refine AW.skip ?_
    refine thenN ?_
    refine AW.seq ?_
    refine AW.seq ?_
    refine AW.region ?_
    refine AOL.p (P_move (v := .val _) rfl) rfl ?_
    refine AOL.pk (P_callf_k (k := 0) (by kernel_rfl) rfl rfl (r_is _ _ _)) rfl rfl ?_
    refine AOL.nil ?_
    refine thenN ?_
    refine AW.cond (b := _) rfl (fun hc2 => ?_) (fun hc2 => ?_)
    · skip
      try simp only [Bool.not_eq_true', Bool.not_eq_false'] at hc2
      refine AW.seq ?_
      refine AW.region ?_
      refine AOL.p (P_assign (v := .int .i64 _) rfl) rfl ?_
      refine AOL.nil ?_
      refine thenN ?_
      refine AW.ret ?_
      refine thenR ?_
      refine ⟨.inr rfl, [.int .i64 _], .cons (.tmp _ _ rfl) <| .nil, _, .refl _, ?_⟩
      refine ⟨?_, congrArg (fun c => HO.box bp 60 c :: H) ?_⟩
      · try simp only [resOf, operR, cSyn, List.map_cons, List.map_nil, encS_eq, hc1, hc2, ↓reduceIte, Bool.false_eq_true, Bool.not_true, Bool.not_false]
        try rfl
      · try simp only [cP, operR, hc1, hc2, ↓reduceIte, Bool.false_eq_true, Bool.not_true, Bool.not_false]
        try rfl
    · skip
      try simp only [Bool.not_eq_true', Bool.not_eq_false'] at hc2
      refine AW.skip ?_
      refine thenN ?_
      refine AW.seq ?_
      refine AW.seq ?_
      refine AW.region ?_
      refine AOL.p (P_move (v := .val _) rfl) rfl ?_
      refine AOL.pk (P_callf_k (k := 0) (by kernel_rfl) rfl rfl (r_is _ _ _)) rfl rfl ?_
      refine AOL.nil ?_
      refine thenN ?_
      refine AW.cond (b := _) rfl (fun hc3 => ?_) (fun hc3 => ?_)
      · skip
        try simp only [Bool.not_eq_true', Bool.not_eq_false'] at hc3
        refine AW.seq ?_
        refine AW.region ?_
        refine AOL.p (P_assign (v := .int .i64 _) rfl) rfl ?_
        refine AOL.nil ?_
        refine thenN ?_
        refine AW.ret ?_
        refine thenR ?_
        refine ⟨.inr rfl, [.int .i64 _], .cons (.tmp _ _ rfl) <| .nil, _, .refl _, ?_⟩
        refine ⟨?_, congrArg (fun c => HO.box bp 60 c :: H) ?_⟩
        · try simp only [resOf, operR, cSyn, List.map_cons, List.map_nil, encS_eq, hc1, hc2, hc3, ↓reduceIte, Bool.false_eq_true, Bool.not_true, Bool.not_false]
          try rfl
        · try simp only [cP, operR, hc1, hc2, hc3, ↓reduceIte, Bool.false_eq_true, Bool.not_true, Bool.not_false]
          try rfl
      · skip
        try simp only [Bool.not_eq_true', Bool.not_eq_false'] at hc3
        refine AW.skip ?_
        refine thenN ?_
        refine AW.seq ?_
        refine AW.seq ?_
        refine AW.region ?_
        refine AOL.p (P_move (v := .val _) rfl) rfl ?_
        refine AOL.pk (P_callf_k (k := 0) (by kernel_rfl) rfl rfl (r_is _ _ _)) rfl rfl ?_
        refine AOL.nil ?_
        refine thenN ?_
        refine AW.cond (b := _) rfl (fun hc4 => ?_) (fun hc4 => ?_)
        · skip
          try simp only [Bool.not_eq_true', Bool.not_eq_false'] at hc4
          refine AW.seq ?_
          refine AW.region ?_
          refine AOL.p (P_assign (v := .int .i64 _) rfl) rfl ?_
          refine AOL.nil ?_
          refine thenN ?_
          refine AW.ret ?_
          refine thenR ?_
          refine ⟨.inr rfl, [.int .i64 _], .cons (.tmp _ _ rfl) <| .nil, _, .refl _, ?_⟩
          refine ⟨?_, congrArg (fun c => HO.box bp 60 c :: H) ?_⟩
          · try simp only [resOf, operR, cSyn, List.map_cons, List.map_nil, encS_eq, hc1, hc2, hc3, hc4, ↓reduceIte, Bool.false_eq_true, Bool.not_true, Bool.not_false]
            try rfl
          · try simp only [cP, operR, hc1, hc2, hc3, hc4, ↓reduceIte, Bool.false_eq_true, Bool.not_true, Bool.not_false]
            try rfl
        · skip
          try simp only [Bool.not_eq_true', Bool.not_eq_false'] at hc4
          refine AW.skip ?_
          refine thenN ?_
          refine AW.seq ?_
          refine AW.seq ?_
          refine AW.region ?_
          refine AOL.p (P_move (v := .val _) rfl) rfl ?_
          refine AOL.pk (P_callf_k (k := 0) (by kernel_rfl) rfl rfl (r_is _ _ _)) rfl rfl ?_
          refine AOL.nil ?_
          refine thenN ?_
          refine AW.cond (b := _) rfl (fun hc5 => ?_) (fun hc5 => ?_)
          · skip
            try simp only [Bool.not_eq_true', Bool.not_eq_false'] at hc5
            refine AW.seq ?_
            refine AW.region ?_
            refine AOL.p (P_assign (v := .int .i64 _) rfl) rfl ?_
            refine AOL.nil ?_
            refine thenN ?_
            refine AW.ret ?_
            refine thenR ?_
            refine ⟨.inr rfl, [.int .i64 _], .cons (.tmp _ _ rfl) <| .nil, _, .refl _, ?_⟩
            refine ⟨?_, congrArg (fun c => HO.box bp 60 c :: H) ?_⟩
            · try simp only [resOf, operR, cSyn, List.map_cons, List.map_nil, encS_eq, hc1, hc2, hc3, hc4, hc5, ↓reduceIte, Bool.false_eq_true, Bool.not_true, Bool.not_false]
              try rfl
            · try simp only [cP, operR, hc1, hc2, hc3, hc4, hc5, ↓reduceIte, Bool.false_eq_true, Bool.not_true, Bool.not_false]
              try rfl
          · skip
            try simp only [Bool.not_eq_true', Bool.not_eq_false'] at hc5
            refine AW.skip ?_
            refine thenN ?_
            refine AW.seq ?_
            refine AW.seq ?_
            refine AW.region ?_
            refine AOL.p (P_move (v := .val _) rfl) rfl ?_
            refine AOL.pk (P_callf_k (k := 0) (by kernel_rfl) rfl rfl (r_is _ _ _)) rfl rfl ?_
            refine AOL.nil ?_
            refine thenN ?_
            refine AW.cond (b := _) rfl (fun hc6 => ?_) (fun hc6 => ?_)
            · skip
              try simp only [Bool.not_eq_true', Bool.not_eq_false'] at hc6
              refine AW.seq ?_
              refine AW.region ?_
              refine AOL.p (P_assign (v := .int .i64 _) rfl) rfl ?_
              refine AOL.nil ?_
              refine thenN ?_
              refine AW.ret ?_
              refine thenR ?_
              refine ⟨.inr rfl, [.int .i64 _], .cons (.tmp _ _ rfl) <| .nil, _, .refl _, ?_⟩
              refine ⟨?_, congrArg (fun c => HO.box bp 60 c :: H) ?_⟩
              · try simp only [resOf, operR, cSyn, List.map_cons, List.map_nil, encS_eq, hc1, hc2, hc3, hc4, hc5, hc6, ↓reduceIte, Bool.false_eq_true, Bool.not_true, Bool.not_false]
                try rfl
              · try simp only [cP, operR, hc1, hc2, hc3, hc4, hc5, hc6, ↓reduceIte, Bool.false_eq_true, Bool.not_true, Bool.not_false]
                try rfl
            · skip
              try simp only [Bool.not_eq_true', Bool.not_eq_false'] at hc6
              refine AW.skip ?_
              refine thenN ?_
              refine AW.seq ?_
              refine AW.seq ?_
              refine AW.region ?_
              refine AOL.p (P_move (v := .val _) rfl) rfl ?_
              refine AOL.pk (P_callf_k (k := 0) (by kernel_rfl) rfl rfl (r_is _ _ _)) rfl rfl ?_
              refine AOL.nil ?_
              refine thenN ?_
              refine AW.cond (b := _) rfl (fun hc7 => ?_) (fun hc7 => ?_)
              · skip
                try simp only [Bool.not_eq_true', Bool.not_eq_false'] at hc7
                refine AW.seq ?_
                refine AW.region ?_
                refine AOL.p (P_assign (v := .int .i64 _) rfl) rfl ?_
                refine AOL.nil ?_
                refine thenN ?_
                refine AW.ret ?_
                refine thenR ?_
                refine ⟨.inr rfl, [.int .i64 _], .cons (.tmp _ _ rfl) <| .nil, _, .refl _, ?_⟩
                refine ⟨?_, congrArg (fun c => HO.box bp 60 c :: H) ?_⟩
                · try simp only [resOf, operR, cSyn, List.map_cons, List.map_nil, encS_eq, hc1, hc2, hc3, hc4, hc5, hc6, hc7, ↓reduceIte, Bool.false_eq_true, Bool.not_true, Bool.not_false]
                  try rfl
                · try simp only [cP, operR, hc1, hc2, hc3, hc4, hc5, hc6, hc7, ↓reduceIte, Bool.false_eq_true, Bool.not_true, Bool.not_false]
                  try rfl
              · skip
                try simp only [Bool.not_eq_true', Bool.not_eq_false'] at hc7
                refine AW.skip ?_
                refine thenN ?_
                refine AW.seq ?_
                refine AW.region ?_
                refine AOL.p (P_assign (v := .int .i64 _) rfl) rfl ?_
                refine AOL.nil ?_
                refine thenN ?_
                refine AW.ret ?_
                refine ⟨.inr rfl, [.int .i64 _], .cons (.tmp _ _ rfl) <| .nil, _, .refl _, ?_⟩
                refine ⟨?_, congrArg (fun c => HO.box bp 60 c :: H) ?_⟩
                · try simp only [resOf, operR, cSyn, List.map_cons, List.map_nil, encS_eq, hc1, hc2, hc3, hc4, hc5, hc6, hc7, ↓reduceIte, Bool.false_eq_true, Bool.not_true, Bool.not_false]
                  try rfl
                · try simp only [cP, operR, hc1, hc2, hc3, hc4, hc5, hc6, hc7, ↓reduceIte, Bool.false_eq_true, Bool.not_true, Bool.not_false]
                  try rfl
set_option maxRecDepth 20000 in
set_option maxHeartbeats 400000 in
theorem r_joined (op : Int) (x y : Syn) (k : Int) : APure Tryz.prog 60 [.int .i64 op, .agg (cSyn x), .agg (cSyn y), .int .i64 k] (.agg (cSyn (binS op x y k))) := by
  refine APure.body (n := 15) tok Tryz.func60 rfl rfl rfl fun H => ?_
  refine AW.seq ?_
  refine AW.region ?_
  refine AOL.p (P_box (v := .agg _) (cs := [.int .i64 _, .str _, .str _, .int .i64 _, _, .int .i64 _]) rfl rfl rfl) rfl ?_
  refine AOL.p (P_box (v := .agg _) (cs := [.int .i64 _, .str _, .str _, .int .i64 _, _, .int .i64 _]) rfl rfl rfl) rfl ?_
  refine AOL.e (E_alloc (l := [.int .i64 0, .str [], .str [], .int .i64 0, .sl 6 [], .int .i64 0]) (by kernel_rfl)) rfl ?_
  rintro _ _ ⟨b8, rfl, rfl⟩
  refine AOL.nil ?_
  refine thenN ?_
  refine AW.seq ?_
  refine AW.region ?_
  refine AOL.p (P_move (v := .int .i64 _) rfl) rfl ?_
  refine AOL.p (P_load_ptr_agg (l := [.int .i64 _, .str _, .str _, .int .i64 _, _, .int .i64 _]) tok rfl rfl rfl rfl rfl) rfl ?_
  refine AOL.p (P_load_ptr_agg (l := [.int .i64 _, .str _, .str _, .int .i64 _, _, .int .i64 _]) tok rfl rfl rfl rfl rfl) rfl ?_
  refine AOL.p (P_buildSlice (es := [[.int .i64 _, .str _, .str _, .int .i64 _, _, .int .i64 _], [.int .i64 _, .str _, .str _, .int .i64 _, _, .int .i64 _]]) tok rfl rfl rfl rfl rfl rfl rfl rfl rfl) rfl ?_
  refine AOL.p (P_move (v := .int .i64 _) rfl) rfl ?_
  refine AOL.p (P_build (l := [.int .i64 _, .str _, .str _, .int .i64 _, _, .int .i64 _]) tok rfl rfl rfl) rfl ?_
  refine AOL.e (E_store (k := 0) (v := .agg _) (cs' := [.int .i64 _, .str _, .str _, .int .i64 _, _, .int .i64 _]) (H2 := _ :: _) tok rfl rfl rfl rfl rfl rfl rfl rfl rfl) rfl ?_
  rintro _ _ ⟨rfl, rfl⟩
  refine AOL.nil ?_
  refine thenN ?_
  refine AW.ret ?_
  refine ⟨.inr rfl, [.agg [.int .i64 _, .str _, .str _, .int .i64 _, _, .int .i64 _]], .cons (.box _ _ _ 0 _ _ _ _ rfl rfl rfl rfl rfl rfl) <| .nil, .cons _ (.refl _), ?_⟩
  exact congrArg (fun l => AV.agg [.int .i64 17, .str [], .str [], .int .i64 op, .sl 6 l, .int .i64 k]) (by rw [List.map_cons, List.map_cons, List.map_nil, encS_eq, encS_eq] : [cSyn x, cSyn y] = [x, y].map encS)
set_option maxRecDepth 20000 in
set_option maxHeartbeats 800000 in
theorem r_total (st : PS) (bp : Nat) (k : Int) (hS : okS st) (hlt : st.pos < st.toks.length) : PCallS Tryz.prog 126 bp 60 (cP st) (cP ((totR k st).2)) [.val (.pointer (some ⟨bp, 0, none⟩)), .int .i64 k] (.agg (cSyn (totR k st).1)) := by
  intro H
  have hml := hS.1
  refine ACall.body (n := 41) tok Tryz.func126 rfl rfl rfl ?_
  refine AW.seq ?_
  refine AW.region ?_
  refine AOL.e (E_alloc (l := [.int .i64 0, .str [], .str [], .int .i64 0, .sl 6 [], .int .i64 0]) (by kernel_rfl)) rfl ?_
  rintro _ _ ⟨b4, rfl, rfl⟩
  refine AOL.nil ?_
  refine thenN ?_
  refine AW.seq ?_
  refine AW.region ?_
  refine AOL.p (P_move (v := .int .i64 _) rfl) rfl ?_
  refine AOL.p (P_move (v := .val _) rfl) rfl ?_
  refine AOL.pk (P_callf_k (k := 1) (by kernel_rfl) rfl rfl (r_offset _ _)) rfl rfl ?_
  refine AOL.p (P_buildZ (l0 := [.int .i64 0, .str [], .str [], .int .i64 0, .val (.slice none 0 0), .int .i64 0]) (l := [.int .i64 _, .str _, .str _, .int .i64 _, _, .int .i64 _]) tok rfl rfl (by kernel_rfl) rfl) rfl ?_
  refine AOL.e (E_alloc (l := [.int .i64 0, .str [], .str [], .int .i64 0, .sl 6 [], .int .i64 0]) (by kernel_rfl)) rfl ?_
  rintro _ _ ⟨b5, rfl, rfl⟩
  refine AOL.e (E_store (k := 0) (v := .agg _) (cs' := [.int .i64 _, .str _, .str _, .int .i64 _, _, .int .i64 _]) (H2 := _ :: _ :: _ :: _) tok rfl rfl rfl rfl rfl rfl rfl rfl rfl) rfl ?_
  rintro _ _ ⟨rfl, rfl⟩
  refine AOL.ghost (GS.cellRow 0 4 26 6 rfl rfl rfl rfl) ?_
  refine AOL.nil ?_
  refine thenN ?_
  refine AW.seq ?_
  refine AW.region ?_
  refine AOL.p (P_move (v := .val _) rfl) rfl ?_
  refine AOL.p (P_nilCheck rfl) rfl ?_
  refine AOL.p (P_fieldAddr_val tok rfl rfl rfl rfl rfl rfl) rfl ?_
  refine AOL.pk (P_load_box (k := 3) (c := .int .i64 _) tok rfl rfl rfl rfl) rfl rfl ?_
  refine AOL.p (P_add rfl rfl rfl (by constructor <;> omega)) rfl ?_
  refine AOL.p (P_nilCheck rfl) rfl ?_
  refine AOL.p (P_fieldAddr_val tok rfl rfl rfl rfl rfl rfl) rfl ?_
  refine AOL.e (E_store (k := 3) (v := .int .i64 _) (cs' := [_, .int .i64 _, .int .i64 _, .int .i64 _, .int .i64 _, .int .i64 _]) (H2 := _ :: _ :: _ :: _ :: _) tok rfl rfl rfl rfl rfl rfl rfl rfl rfl) rfl ?_
  rintro _ _ ⟨rfl, rfl⟩
  refine AOL.ghost (GS.cellsTo (H2 := _ :: _ :: _ :: _ :: _) 3 rfl ((rfl : _ = cP (adv st))) rfl) ?_
  refine AOL.nil ?_
  refine thenN ?_
  refine AW.seq ?_
  refine AW.region ?_
  refine AOL.p (P_move (v := .val _) rfl) rfl ?_
  refine AOL.e (E_callf (by kernel_rfl) rfl rfl ((r_expect _ _ _ (by simpa using hS)).at (k := 3) (H2 := _ :: _ :: _ :: _ :: _) rfl rfl)) rfl ?_
  rintro _ _ ⟨rfl, rfl⟩
  refine AOL.nil ?_
  refine thenN ?_
  refine AW.seq ?_
  refine AW.region ?_
  refine AOL.p (P_move (v := .val _) rfl) rfl ?_
  refine AOL.e (E_callf (by kernel_rfl) rfl rfl ((r_take _ _ _ (by simpa using hS)).at (k := 3) (H2 := _ :: _ :: _ :: _ :: _) rfl rfl)) rfl ?_
  rintro _ _ ⟨rfl, rfl⟩
  refine AOL.p (P_fieldAddr_val tok rfl rfl rfl rfl rfl rfl) rfl ?_
  refine AOL.e (E_store (k := 1) (v := .str _) (cs' := [.int .i64 _, .str _, .str _, .int .i64 _, _, .int .i64 _]) (H2 := _ :: _ :: _ :: _ :: _) tok rfl rfl rfl rfl rfl rfl rfl rfl rfl) rfl ?_
  rintro _ _ ⟨rfl, rfl⟩
  refine AOL.nil ?_
  refine thenN ?_
  refine AW.seq ?_
  refine AW.region ?_
  refine AOL.p (P_move (v := .val _) rfl) rfl ?_
  refine AOL.e (E_callf (by kernel_rfl) rfl rfl ((r_expect _ _ _ (by simpa using hS)).at (k := 3) (H2 := _ :: _ :: _ :: _ :: _) rfl rfl)) rfl ?_
  rintro _ _ ⟨rfl, rfl⟩
  refine AOL.nil ?_
  refine thenN ?_
  refine AW.seq ?_
  refine AW.region ?_
  refine AOL.p (P_move (v := .val _) rfl) rfl ?_
  refine AOL.e (E_callf (by kernel_rfl) rfl rfl ((r_take _ _ _ (by simpa using hS)).at (k := 3) (H2 := _ :: _ :: _ :: _ :: _) rfl rfl)) rfl ?_
  rintro _ _ ⟨rfl, rfl⟩
  refine AOL.p (P_fieldAddr_val tok rfl rfl rfl rfl rfl rfl) rfl ?_
  refine AOL.e (E_store (k := 1) (v := .str _) (cs' := [.int .i64 _, .str _, .str _, .int .i64 _, _, .int .i64 _]) (H2 := _ :: _ :: _ :: _ :: _) tok rfl rfl rfl rfl rfl rfl rfl rfl rfl) rfl ?_
  rintro _ _ ⟨rfl, rfl⟩
  refine AOL.nil ?_
  refine thenN ?_
  refine AW.seq ?_
  refine AW.seq ?_
  refine AW.region ?_
  refine AOL.p (P_move (v := .int .i64 _) rfl) rfl ?_
  refine AOL.p (P_neq rfl rfl) rfl ?_
  refine AOL.nil ?_
  refine thenN ?_
  refine AW.cond (b := _) rfl (fun hc1 => ?_) (fun hc1 => ?_)
  · skip
    try simp only [Bool.not_eq_true', Bool.not_eq_false'] at hc1
    refine AW.seq ?_
    refine AW.region ?_
    refine AOL.p (P_move (v := .val _) rfl) rfl ?_
    refine AOL.e (E_callf (by kernel_rfl) rfl rfl ((r_expect _ _ _ (by simpa using hS)).at (k := 3) (H2 := _ :: _ :: _ :: _ :: _) rfl rfl)) rfl ?_
    rintro _ _ ⟨rfl, rfl⟩
    refine AOL.nil ?_
    refine thenN ?_
    refine AW.draw mixed (fun H' => _ ∈ H') (List.mem_of_getElem? (i := 1) rfl) (by kernel_rfl) ?_
    refine Canon.pure _ _ 0 _ _ rfl (by kernel_rfl) (by kernel_rfl) rfl (.run rfl (P_fieldAddr_val tok rfl rfl rfl rfl rfl rfl)) ?_
    refine Canon.pure _ _ 1 _ _ rfl (by kernel_rfl) (by kernel_rfl) rfl (.run rfl (OpP.mem (fun k => P_load_box (k := k) (c := .row _ _ _) tok rfl rfl rfl rfl) (fun _ h => h))) ?_
    refine Canon.pure _ _ 2 _ _ rfl (by kernel_rfl) (by kernel_rfl) rfl (.run rfl (P_move (v := .val _) rfl)) ?_
    refine Canon.eff _ _ 3 _ _ rfl (by kernel_rfl) rfl rfl (E_callf (by kernel_rfl) rfl rfl ((r_constant _ _ (by simpa using hS)).at (k := 3) (H2 := _ :: _ :: _ :: _ :: _) rfl rfl)) (by rintro _ _ ⟨rfl, rfl⟩; simp) ?_
    rintro _ _ ⟨rfl, rfl⟩
    refine Canon.pure _ _ 4 _ _ rfl (by kernel_rfl) (by kernel_rfl) rfl (.run rfl (P_buildSlice (es := [[.int .i64 _, .str _, .str _, .int .i64 _, _, .int .i64 _]]) tok rfl rfl rfl rfl rfl rfl rfl rfl rfl)) ?_
    refine Canon.eff _ _ 5 _ _ rfl (by kernel_rfl) rfl rfl (E_append (k := 0) tok rfl rfl rfl rfl rfl rfl rfl rfl (sc_one rfl) (sc_nil) (by simp) (by simp [maxLen])) (by rintro _ _ ⟨v36, rfl, rfl⟩; simp) ?_
    rintro _ _ ⟨v36, rfl, rfl⟩
    refine Canon.pure _ _ 6 _ _ rfl (by kernel_rfl) (by kernel_rfl) rfl (.run rfl (P_fieldAddr_val tok rfl rfl rfl rfl rfl rfl)) ?_
    refine Canon.last _ _ 7 _ _ rfl (by kernel_rfl) rfl rfl (E_store (k := 1) (v := .row _ _ _) (cs' := [.int .i64 _, .str _, .str _, .int .i64 _, _, .int .i64 _]) (H2 := _ :: _ :: _ :: _ :: _) tok rfl rfl rfl rfl rfl rfl rfl rfl rfl) (by kernel_rfl) ?_
    rintro _ _ ⟨rfl, rfl⟩
    refine thenN ?_
    refine AW.seq ?_
    refine AW.region ?_
    refine AOL.p (P_move (v := .val _) rfl) rfl ?_
    refine AOL.e (E_callf (by kernel_rfl) rfl rfl ((r_expect _ _ _ (by simpa using hS)).at (k := 3) (H2 := _ :: _ :: _ :: _ :: _) rfl rfl)) rfl ?_
    rintro _ _ ⟨rfl, rfl⟩
    refine AOL.nil ?_
    refine thenN ?_
    refine AW.seq ?_
    refine AW.region ?_
    refine AOL.ghost (GS.cell (H2 := _ :: _ :: _ :: _ :: _) 1 4 rfl rfl rfl rfl unrow_cell) ?_
    refine AOL.pk (P_load_box_agg (k := 1) (l := [.int .i64 _, .str _, .str _, .int .i64 _, _, .int .i64 _]) tok rfl rfl rfl rfl rfl) rfl rfl ?_
    refine AOL.e (E_store (k := 2) (v := .agg _) (cs' := [.int .i64 _, .str _, .str _, .int .i64 _, _, .int .i64 _]) (H2 := _ :: _ :: _ :: _ :: _) tok rfl rfl rfl rfl rfl rfl rfl rfl rfl) rfl ?_
    rintro _ _ ⟨rfl, rfl⟩
    refine AOL.nil ?_
    refine thenN ?_
    refine AW.ret ?_
    refine ⟨.inr rfl, [.agg [.int .i64 _, .str _, .str _, .int .i64 _, _, .int .i64 _]], .cons (.box _ _ _ 2 _ _ _ _ rfl rfl rfl rfl rfl rfl) <| .nil, _, .cons _ (.cons _ (.cons _ (.refl _))), ?_⟩
    refine ⟨?_, congrArg (fun c => HO.box bp 60 c :: H) ?_⟩
    · try simp only [resOf, totR, cSyn, List.map_cons, List.map_nil, encS_eq, hc1, ↓reduceIte, Bool.false_eq_true, Bool.not_true, Bool.not_false]
      try rfl
    · try simp only [cP, totR, hc1, ↓reduceIte, Bool.false_eq_true, Bool.not_true, Bool.not_false]
      try rfl
  · skip
    try simp only [Bool.not_eq_true', Bool.not_eq_false'] at hc1
    refine AW.skip ?_
    refine thenN ?_
    refine AW.seq ?_
    refine AW.region ?_
    refine AOL.p (P_move (v := .val _) rfl) rfl ?_
    refine AOL.e (E_callf (by kernel_rfl) rfl rfl ((r_expect _ _ _ (by simpa using hS)).at (k := 3) (H2 := _ :: _ :: _ :: _ :: _) rfl rfl)) rfl ?_
    rintro _ _ ⟨rfl, rfl⟩
    refine AOL.nil ?_
    refine thenN ?_
    refine AW.seq ?_
    refine AW.region ?_
    refine AOL.ghost (GS.cell (H2 := _ :: _ :: _ :: _ :: _) 1 4 rfl rfl rfl rfl unrow_cell) ?_
    refine AOL.pk (P_load_box_agg (k := 1) (l := [.int .i64 _, .str _, .str _, .int .i64 _, _, .int .i64 _]) tok rfl rfl rfl rfl rfl) rfl rfl ?_
    refine AOL.e (E_store (k := 2) (v := .agg _) (cs' := [.int .i64 _, .str _, .str _, .int .i64 _, _, .int .i64 _]) (H2 := _ :: _ :: _ :: _ :: _) tok rfl rfl rfl rfl rfl rfl rfl rfl rfl) rfl ?_
    rintro _ _ ⟨rfl, rfl⟩
    refine AOL.nil ?_
    refine thenN ?_
    refine AW.ret ?_
    refine ⟨.inr rfl, [.agg [.int .i64 _, .str _, .str _, .int .i64 _, _, .int .i64 _]], .cons (.box _ _ _ 2 _ _ _ _ rfl rfl rfl rfl rfl rfl) <| .nil, _, .cons _ (.cons _ (.cons _ (.refl _))), ?_⟩
    refine ⟨?_, congrArg (fun c => HO.box bp 60 c :: H) ?_⟩
    · try simp only [resOf, totR, cSyn, List.map_cons, List.map_nil, encS_eq, hc1, ↓reduceIte, Bool.false_eq_true, Bool.not_true, Bool.not_false]
      try rfl
    · try simp only [cP, totR, hc1, ↓reduceIte, Bool.false_eq_true, Bool.not_true, Bool.not_false]
      try rfl

end Go.Proofs.YtpgmglacdcfnaaaGreatDoor
