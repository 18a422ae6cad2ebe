/-
  Walks of the reference: expressions. No condition.
-/
import Derived.Test.YtpgmglacdcfnaaaGreatDoorU2
import Derived.KernelRfl
namespace Go.Proofs.YtpgmglacdcfnaaaGreatDoor
open Go Go.Aw
set_option linter.unusedVariables false
set_option linter.unusedSimpArgs false

theorem agg_lt {st : PS} (h : (aggR st != 0) = true) : st.pos < st.toks.length := by
  unfold aggR at h
  repeat' split at h
  all_goals first | (rename_i hi; exact isR_lt hi) | exact absurd h (by decide)
theorem or_lt {w v : Str} {st : PS} (h : (isR w st || isR v st) = true) : st.pos < st.toks.length := by
  rw [Bool.or_eq_true] at h
  exact h.elim isR_lt isR_lt
theorem sumGoR_pos {F : PS → Syn × PS} {n : Nat} {st : PS} {out : Syn} (h : 0 < n) : sumGoR F n st out = if isR w_add st || isR w_sub st then sumGoR F (n - 1) (F (adv st)).2 (binS (if isR w_sub st then 6 else 5) out (F (adv st)).1 out.pos) else (out, st) := by
  obtain ⟨m, rfl⟩ : ∃ m, n = m + 1 := ⟨n - 1, by omega⟩
  rfl
theorem chainGoR_pos {w : Str} {op : Int} {F : PS → Syn × PS} {n : Nat} {st : PS} {out : Syn} (h : 0 < n) : chainGoR w op F n st out = if isR w st then chainGoR w op F (n - 1) (F (adv st)).2 (binS op out (F (adv st)).1 out.pos) else (out, st) := by
  obtain ⟨m, rfl⟩ : ∃ m, n = m + 1 := ⟨n - 1, by omega⟩
  rfl

set_option maxRecDepth 20000 in
set_option maxHeartbeats 1600000 in
theorem r_unit (st : PS) (bp : Nat) (D : Int) (hD : 0 ≤ D) (E : PS → Syn × PS) (hFE : FineR E) (hE : D ≤ 64 → ∀ (st : PS) (bp : Nat), okR (D + 1) st → PCallS Tryz.prog 31 bp 60 (cP st) (cP (E st).2) [.val (.pointer (some ⟨bp, 0, none⟩))] (.agg (cSyn (E st).1))) (hO : okR D st) : PCallS Tryz.prog 118 bp 60 (cP st) (cP ((unitR E st).2)) [.val (.pointer (some ⟨bp, 0, none⟩))] (.agg (cSyn (unitR E st).1)) := by
  intro H
  have hS := hO.1
  refine ACall.body (n := 64) tok Tryz.func118 rfl rfl rfl ?_
  refine AW.seq ?_
  refine AW.region ?_
  refine AOL.e (E_alloc (l := [.int .i64 0, .str [], .str [], .int .i64 0, .sl 6 [], .int .i64 0]) (by kernel_rfl)) rfl ?_
  rintro _ _ ⟨b2, rfl, rfl⟩
  refine AOL.nil ?_
  refine thenN ?_
  refine AW.seq ?_
  refine AW.region ?_
  refine AOL.p (P_move (v := .val _) rfl) rfl ?_
  refine AOL.pk (P_callf_k (k := 1) (by kernel_rfl) rfl rfl (r_offset _ _)) rfl rfl ?_
  refine AOL.p (P_assign (v := .int .i64 _) rfl) rfl ?_
  refine AOL.nil ?_
  refine thenN ?_
  refine AW.seq ?_
  refine AW.seq ?_
  refine AW.region ?_
  refine AOL.p (P_move (v := .val _) rfl) rfl ?_
  refine AOL.pk (P_callf_k (k := 1) (by kernel_rfl) rfl rfl (r_is _ _ _)) rfl rfl ?_
  refine AOL.nil ?_
  refine thenN ?_
  refine AW.cond (b := _) rfl (fun hc1 => ?_) (fun hc1 => ?_)
  · skip
    try simp only [Bool.not_eq_true', Bool.not_eq_false'] at hc1
    have hb := isR_good hc1
    have hd64 : D ≤ 64 := by have := hO.2.2 hb; have := hO.2.1.2.2 hb; omega
    have hex : okR (D + 1) (expR w_lpar (openR st)) := (GoR.exp _ _).ok (open_ok hD hO hb).1
    have hS5 := ((hFE _ hex.2.1).ok hex).1
    refine AW.seq ?_
    refine AW.region ?_
    refine AOL.p (P_move (v := .val _) rfl) rfl ?_
    refine AOL.e (E_callf (by kernel_rfl) rfl rfl ((r_open _ _).at (k := 1) (H2 := _ :: _ :: _) rfl rfl)) rfl ?_
    rintro _ _ ⟨rfl, rfl⟩
    refine AOL.nil ?_
    refine thenN ?_
    refine AW.seq ?_
    refine AW.region ?_
    refine AOL.p (P_move (v := .val _) rfl) rfl ?_
    refine AOL.e (E_callf (by kernel_rfl) rfl rfl ((r_expect _ _ _ (by simpa using hS)).at (k := 1) (H2 := _ :: _ :: _) rfl rfl)) rfl ?_
    rintro _ _ ⟨rfl, rfl⟩
    refine AOL.nil ?_
    refine thenN ?_
    refine AW.seq ?_
    refine AW.region ?_
    refine AOL.p (P_move (v := .val _) rfl) rfl ?_
    refine AOL.e (E_callf (by kernel_rfl) rfl rfl ((hE hd64 _ bp hex).at (k := 1) (H2 := _ :: _ :: _) rfl rfl)) rfl ?_
    rintro _ _ ⟨rfl, rfl⟩
    have hS := hS5
    refine AOL.e (E_alloc (l := [.int .i64 0, .str [], .str [], .int .i64 0, .sl 6 [], .int .i64 0]) (by kernel_rfl)) rfl ?_
    rintro _ _ ⟨b4, rfl, rfl⟩
    refine AOL.e (E_store (k := 0) (v := .agg _) (cs' := [.int .i64 _, .str _, .str _, .int .i64 _, _, .int .i64 _]) (H2 := _ :: _ :: _ :: _) tok rfl rfl rfl rfl rfl rfl rfl rfl rfl) rfl ?_
    rintro _ _ ⟨rfl, rfl⟩
    refine AOL.ghost (GS.freeze (t := 4) 0 rfl rfl) ?_
    refine AOL.nil ?_
    refine thenN ?_
    refine AW.seq ?_
    refine AW.region ?_
    refine AOL.p (P_move (v := .val _) rfl) rfl ?_
    refine AOL.e (E_callf (by kernel_rfl) rfl rfl ((r_expect _ _ _ (by simpa using hS)).at (k := 1) (H2 := _ :: _ :: _) rfl rfl)) rfl ?_
    rintro _ _ ⟨rfl, rfl⟩
    refine AOL.nil ?_
    refine thenN ?_
    refine AW.seq ?_
    refine AW.region ?_
    refine AOL.p (P_move (v := .val _) rfl) rfl ?_
    refine AOL.p (P_nilCheck rfl) rfl ?_
    refine AOL.p (P_fieldAddr_val tok rfl rfl rfl rfl rfl rfl) rfl ?_
    refine AOL.pk (P_load_box (k := 1) (c := .int .i64 _) tok rfl rfl rfl rfl) rfl rfl ?_
    refine AOL.p (P_subw rfl rfl) rfl ?_
    refine AOL.p (P_nilCheck rfl) rfl ?_
    refine AOL.p (P_fieldAddr_val tok rfl rfl rfl rfl rfl rfl) rfl ?_
    refine AOL.e (E_store (k := 1) (v := .int .i64 _) (cs' := [_, .int .i64 _, .int .i64 _, .int .i64 _, .int .i64 _, .int .i64 _]) (H2 := _ :: _ :: _) tok rfl rfl rfl rfl rfl rfl rfl rfl rfl) rfl ?_
    rintro _ _ ⟨rfl, rfl⟩
    refine AOL.nil ?_
    refine thenN ?_
    refine AW.seq ?_
    refine AW.region ?_
    refine AOL.p (P_load_ptr_agg (l := [.int .i64 _, .str _, .str _, .int .i64 _, _, .int .i64 _]) tok rfl rfl rfl rfl rfl) rfl ?_
    refine AOL.e (E_store (k := 0) (v := .agg _) (cs' := [.int .i64 _, .str _, .str _, .int .i64 _, _, .int .i64 _]) (H2 := _ :: _ :: _) tok rfl rfl rfl rfl rfl rfl rfl rfl rfl) rfl ?_
    rintro _ _ ⟨rfl, rfl⟩
    refine AOL.nil ?_
    refine thenN ?_
    refine AW.ret ?_
    refine thenR ?_
    refine ⟨.inr rfl, [.agg [.int .i64 _, .str _, .str _, .int .i64 _, _, .int .i64 _]], .cons (.box _ _ _ 0 _ _ _ _ rfl rfl rfl rfl rfl rfl) <| .nil, _, .cons _ (.refl _), ?_⟩
    refine ⟨?_, congrArg (fun c => HO.box bp 60 c :: H) ?_⟩
    · try simp only [resOf, unitR, cSyn, List.map_cons, List.map_nil, encS_eq, hc1, ↓reduceIte, Bool.false_eq_true, Bool.not_true, Bool.not_false]
      try rfl
    · try simp only [cP, unitR, hc1, ↓reduceIte, Bool.false_eq_true, Bool.not_true, Bool.not_false]
      try rfl
  · skip
    try simp only [Bool.not_eq_true', Bool.not_eq_false'] at hc1
    refine AW.skip ?_
    refine thenN ?_
    refine AW.seq ?_
    refine AW.seq ?_
    refine AW.region ?_
    refine AOL.p (P_move (v := .val _) rfl) rfl ?_
    refine AOL.e (E_callf (by kernel_rfl) rfl rfl ((r_accept _ _ _ (by simpa using hS)).at (k := 1) (H2 := _ :: _ :: _) rfl rfl)) rfl ?_
    rintro _ _ ⟨rfl, rfl⟩
    refine AOL.nil ?_
    refine thenN ?_
    refine AW.cond (b := _) rfl (fun hc2 => ?_) (fun hc2 => ?_)
    · skip
      try simp only [Bool.not_eq_true', Bool.not_eq_false'] at hc2
      refine AW.ghost (GS.cellsTo (H2 := _ :: _ :: _) 1 rfl (congrArg cP (accR_yes hc2)) rfl) ?_
      refine AW.seq ?_
      refine AW.region ?_
      refine AOL.p (P_move (v := .val _) rfl) rfl ?_
      refine AOL.e (E_callf (by kernel_rfl) rfl rfl ((r_expect _ _ _ (by simpa using hS)).at (k := 1) (H2 := _ :: _ :: _) rfl rfl)) rfl ?_
      rintro _ _ ⟨rfl, rfl⟩
      refine AOL.nil ?_
      refine thenN ?_
      refine AW.seq ?_
      refine AW.region ?_
      refine AOL.p (P_move (v := .val _) rfl) rfl ?_
      refine AOL.e (E_callf (by kernel_rfl) rfl rfl ((r_take _ _ _ (by simpa using hS)).at (k := 1) (H2 := _ :: _ :: _) rfl rfl)) rfl ?_
      rintro _ _ ⟨rfl, rfl⟩
      refine AOL.p (P_move (v := .int .i64 _) rfl) rfl ?_
      refine AOL.p (P_build (l := [.int .i64 _, .str _, .str _, .int .i64 _, _, .int .i64 _]) tok rfl rfl rfl) rfl ?_
      refine AOL.e (E_alloc (l := [.int .i64 0, .str [], .str [], .int .i64 0, .sl 6 [], .int .i64 0]) (by kernel_rfl)) rfl ?_
      rintro _ _ ⟨b5, rfl, rfl⟩
      refine AOL.e (E_store (k := 0) (v := .agg _) (cs' := [.int .i64 _, .str _, .str _, .int .i64 _, _, .int .i64 _]) (H2 := _ :: _ :: _ :: _) tok rfl rfl rfl rfl rfl rfl rfl rfl rfl) rfl ?_
      rintro _ _ ⟨rfl, rfl⟩
      refine AOL.ghost (GS.freeze (t := 5) 0 rfl rfl) ?_
      refine AOL.nil ?_
      refine thenN ?_
      refine AW.seq ?_
      refine AW.region ?_
      refine AOL.p (P_move (v := .val _) rfl) rfl ?_
      refine AOL.e (E_callf (by kernel_rfl) rfl rfl ((r_expect _ _ _ (by simpa using hS)).at (k := 1) (H2 := _ :: _ :: _) rfl rfl)) rfl ?_
      rintro _ _ ⟨rfl, rfl⟩
      refine AOL.nil ?_
      refine thenN ?_
      refine AW.seq ?_
      refine AW.region ?_
      refine AOL.p (P_load_ptr_agg (l := [.int .i64 _, .str _, .str _, .int .i64 _, _, .int .i64 _]) tok rfl rfl rfl rfl rfl) rfl ?_
      refine AOL.e (E_store (k := 0) (v := .agg _) (cs' := [.int .i64 _, .str _, .str _, .int .i64 _, _, .int .i64 _]) (H2 := _ :: _ :: _) tok rfl rfl rfl rfl rfl rfl rfl rfl rfl) rfl ?_
      rintro _ _ ⟨rfl, rfl⟩
      refine AOL.nil ?_
      refine thenN ?_
      refine AW.ret ?_
      refine thenR ?_
      refine ⟨.inr rfl, [.agg [.int .i64 _, .str _, .str _, .int .i64 _, _, .int .i64 _]], .cons (.box _ _ _ 0 _ _ _ _ rfl rfl rfl rfl rfl rfl) <| .nil, _, .cons _ (.refl _), ?_⟩
      refine ⟨?_, congrArg (fun c => HO.box bp 60 c :: H) ?_⟩
      · try simp only [resOf, unitR, cSyn, List.map_cons, List.map_nil, encS_eq, hc1, hc2, ↓reduceIte, Bool.false_eq_true, Bool.not_true, Bool.not_false]
        try rfl
      · try simp only [cP, unitR, hc1, hc2, ↓reduceIte, Bool.false_eq_true, Bool.not_true, Bool.not_false]
        try rfl
    · skip
      try simp only [Bool.not_eq_true', Bool.not_eq_false'] at hc2
      refine AW.ghost (GS.cellsTo (H2 := _ :: _ :: _) 1 rfl (congrArg cP (accR_no hc2)) rfl) ?_
      refine AW.skip ?_
      refine thenN ?_
      refine AW.seq ?_
      refine AW.seq ?_
      refine AW.region ?_
      refine AOL.p (P_move (v := .val _) rfl) rfl ?_
      refine AOL.pk (P_callf_k (k := 1) (by kernel_rfl) rfl rfl (r_aggregate _ _)) rfl rfl ?_
      refine AOL.p (P_assign (v := .int .i64 _) rfl) rfl ?_
      refine AOL.nil ?_
      refine thenN ?_
      refine AW.seq ?_
      refine AW.region ?_
      refine AOL.p (P_move (v := .int .i64 _) rfl) rfl ?_
      refine AOL.p (P_neq rfl rfl) rfl ?_
      refine AOL.nil ?_
      refine thenN ?_
      refine AW.cond (b := _) rfl (fun hc3 => ?_) (fun hc3 => ?_)
      · skip
        try simp only [Bool.not_eq_true', Bool.not_eq_false'] at hc3
        have hlt := agg_lt hc3
        refine AW.seq ?_
        refine AW.region ?_
        refine AOL.p (P_move (v := .val _) rfl) rfl ?_
        refine AOL.p (P_move (v := .int .i64 _) rfl) rfl ?_
        refine AOL.e (E_callf (by kernel_rfl) rfl rfl ((r_total _ _ _ (by simpa using hS) (by assumption)).at (k := 1) (H2 := _ :: _ :: _) rfl rfl)) rfl ?_
        rintro _ _ ⟨rfl, rfl⟩
        refine AOL.e (E_store (k := 0) (v := .agg _) (cs' := [.int .i64 _, .str _, .str _, .int .i64 _, _, .int .i64 _]) (H2 := _ :: _ :: _) tok rfl rfl rfl rfl rfl rfl rfl rfl rfl) rfl ?_
        rintro _ _ ⟨rfl, rfl⟩
        refine AOL.nil ?_
        refine thenN ?_
        refine AW.ret ?_
        refine thenR ?_
        refine ⟨.inr rfl, [.agg [.int .i64 _, .str _, .str _, .int .i64 _, _, .int .i64 _]], .cons (.box _ _ _ 0 _ _ _ _ rfl rfl rfl rfl rfl rfl) <| .nil, _, .cons _ (.refl _), ?_⟩
        refine ⟨?_, congrArg (fun c => HO.box bp 60 c :: H) ?_⟩
        · try simp only [resOf, unitR, cSyn, List.map_cons, List.map_nil, encS_eq, hc1, hc2, hc3, ↓reduceIte, Bool.false_eq_true, Bool.not_true, Bool.not_false]
          try rfl
        · try simp only [cP, unitR, hc1, hc2, hc3, ↓reduceIte, Bool.false_eq_true, Bool.not_true, Bool.not_false]
          try rfl
      · skip
        try simp only [Bool.not_eq_true', Bool.not_eq_false'] at hc3
        refine AW.skip ?_
        refine thenN ?_
        refine AW.seq ?_
        refine AW.seq ?_
        refine AW.region ?_
        refine AOL.p (P_move (v := .val _) rfl) rfl ?_
        refine AOL.pk (P_callf_k (k := 1) (by kernel_rfl) rfl rfl (r_kind _ _ _ (by simpa using hS))) rfl rfl ?_
        refine AOL.p (P_not rfl) rfl ?_
        refine AOL.nil ?_
        refine thenN ?_
        refine AW.cond (b := _) rfl (fun hc4 => ?_) (fun hc4 => ?_)
        · skip
          try simp only [Bool.not_eq_true', Bool.not_eq_false'] at hc4
          refine AW.seq ?_
          refine AW.region ?_
          refine AOL.p (P_move (v := .val _) rfl) rfl ?_
          refine AOL.e (E_callf (by kernel_rfl) rfl rfl ((r_constant _ _ (by simpa using hS)).at (k := 1) (H2 := _ :: _ :: _) rfl rfl)) rfl ?_
          rintro _ _ ⟨rfl, rfl⟩
          refine AOL.e (E_store (k := 0) (v := .agg _) (cs' := [.int .i64 _, .str _, .str _, .int .i64 _, _, .int .i64 _]) (H2 := _ :: _ :: _) tok rfl rfl rfl rfl rfl rfl rfl rfl rfl) rfl ?_
          rintro _ _ ⟨rfl, rfl⟩
          refine AOL.nil ?_
          refine thenN ?_
          refine AW.ret ?_
          refine thenR ?_
          refine ⟨.inr rfl, [.agg [.int .i64 _, .str _, .str _, .int .i64 _, _, .int .i64 _]], .cons (.box _ _ _ 0 _ _ _ _ rfl rfl rfl rfl rfl rfl) <| .nil, _, .cons _ (.refl _), ?_⟩
          refine ⟨?_, congrArg (fun c => HO.box bp 60 c :: H) ?_⟩
          · try simp only [resOf, unitR, cSyn, List.map_cons, List.map_nil, encS_eq, hc1, hc2, hc3, hc4, ↓reduceIte, Bool.false_eq_true, Bool.not_true, Bool.not_false]
            try rfl
          · try simp only [cP, unitR, hc1, hc2, hc3, hc4, ↓reduceIte, Bool.false_eq_true, Bool.not_true, Bool.not_false]
            try rfl
        · skip
          try simp only [Bool.not_eq_true', Bool.not_eq_false'] at hc4
          refine AW.skip ?_
          refine thenN ?_
          refine AW.seq ?_
          refine AW.region ?_
          refine AOL.p (P_move (v := .val _) rfl) rfl ?_
          refine AOL.e (E_callf (by kernel_rfl) rfl rfl ((r_take _ _ _ (by simpa using hS)).at (k := 1) (H2 := _ :: _ :: _) rfl rfl)) rfl ?_
          rintro _ _ ⟨rfl, rfl⟩
          refine AOL.p (P_move (v := .int .i64 _) rfl) rfl ?_
          refine AOL.p (P_build (l := [.int .i64 _, .str _, .str _, .int .i64 _, _, .int .i64 _]) tok rfl rfl rfl) rfl ?_
          refine AOL.e (E_alloc (l := [.int .i64 0, .str [], .str [], .int .i64 0, .sl 6 [], .int .i64 0]) (by kernel_rfl)) rfl ?_
          rintro _ _ ⟨b7, rfl, rfl⟩
          refine AOL.e (E_store (k := 0) (v := .agg _) (cs' := [.int .i64 _, .str _, .str _, .int .i64 _, _, .int .i64 _]) (H2 := _ :: _ :: _ :: _) tok rfl rfl rfl rfl rfl rfl rfl rfl rfl) rfl ?_
          rintro _ _ ⟨rfl, rfl⟩
          refine AOL.nil ?_
          refine thenN ?_
          refine AW.seq ?_
          refine AW.region ?_
          refine AOL.p (P_move (v := .val _) rfl) rfl ?_
          refine AOL.e (E_callf (by kernel_rfl) rfl rfl ((r_expect _ _ _ (by simpa using hS)).at (k := 2) (H2 := _ :: _ :: _ :: _) rfl rfl)) rfl ?_
          rintro _ _ ⟨rfl, rfl⟩
          refine AOL.nil ?_
          refine thenN ?_
          refine AW.seq ?_
          refine AW.seq ?_
          refine AW.region ?_
          refine AOL.p (P_move (v := .val _) rfl) rfl ?_
          refine AOL.e (E_callf (by kernel_rfl) rfl rfl ((r_accept _ _ _ (by simpa using hS)).at (k := 2) (H2 := _ :: _ :: _ :: _) rfl rfl)) rfl ?_
          rintro _ _ ⟨rfl, rfl⟩
          refine AOL.nil ?_
          refine thenN ?_
          refine AW.cond (b := _) rfl (fun hc5 => ?_) (fun hc5 => ?_)
          · skip
            try simp only [Bool.not_eq_true', Bool.not_eq_false'] at hc5
            refine AW.ghost (GS.cellsTo (H2 := _ :: _ :: _ :: _) 2 rfl (congrArg cP (accR_yes hc5)) rfl) ?_
            refine AW.region ?_
            refine AOL.p (P_fieldAddr_val tok rfl rfl rfl rfl rfl rfl) rfl ?_
            refine AOL.e (E_store (k := 0) (v := .str _) (cs' := [.int .i64 _, .str _, .str _, .int .i64 _, _, .int .i64 _]) (H2 := _ :: _ :: _ :: _) tok rfl rfl rfl rfl rfl rfl rfl rfl rfl) rfl ?_
            rintro _ _ ⟨rfl, rfl⟩
            refine AOL.nil ?_
            refine thenN ?_
            refine AW.seq ?_
            refine AW.region ?_
            refine AOL.pk (P_load_box_agg (k := 0) (l := [.int .i64 _, .str _, .str _, .int .i64 _, _, .int .i64 _]) tok rfl rfl rfl rfl rfl) rfl rfl ?_
            refine AOL.e (E_store (k := 1) (v := .agg _) (cs' := [.int .i64 _, .str _, .str _, .int .i64 _, _, .int .i64 _]) (H2 := _ :: _ :: _ :: _) tok rfl rfl rfl rfl rfl rfl rfl rfl rfl) rfl ?_
            rintro _ _ ⟨rfl, rfl⟩
            refine AOL.nil ?_
            refine thenN ?_
            refine AW.ret ?_
            refine ⟨.inr rfl, [.agg [.int .i64 _, .str _, .str _, .int .i64 _, _, .int .i64 _]], .cons (.box _ _ _ 1 _ _ _ _ rfl rfl rfl rfl rfl rfl) <| .nil, _, .cons _ (.cons _ (.refl _)), ?_⟩
            refine ⟨?_, congrArg (fun c => HO.box bp 60 c :: H) ?_⟩
            · try simp only [resOf, unitR, cSyn, List.map_cons, List.map_nil, encS_eq, hc1, hc2, hc3, hc4, hc5, ↓reduceIte, Bool.false_eq_true, Bool.not_true, Bool.not_false]
              try rfl
            · try simp only [cP, unitR, hc1, hc2, hc3, hc4, hc5, ↓reduceIte, Bool.false_eq_true, Bool.not_true, Bool.not_false]
              try rfl
          · skip
            try simp only [Bool.not_eq_true', Bool.not_eq_false'] at hc5
            refine AW.ghost (GS.cellsTo (H2 := _ :: _ :: _ :: _) 2 rfl (congrArg cP (accR_no hc5)) rfl) ?_
            refine AW.region ?_
            refine AOL.p (P_move (v := .val _) rfl) rfl ?_
            refine AOL.e (E_callf (by kernel_rfl) rfl rfl ((r_take _ _ _ (by simpa using hS)).at (k := 2) (H2 := _ :: _ :: _ :: _) rfl rfl)) rfl ?_
            rintro _ _ ⟨rfl, rfl⟩
            refine AOL.p (P_fieldAddr_val tok rfl rfl rfl rfl rfl rfl) rfl ?_
            refine AOL.e (E_store (k := 0) (v := .str _) (cs' := [.int .i64 _, .str _, .str _, .int .i64 _, _, .int .i64 _]) (H2 := _ :: _ :: _ :: _) tok rfl rfl rfl rfl rfl rfl rfl rfl rfl) rfl ?_
            rintro _ _ ⟨rfl, rfl⟩
            refine AOL.nil ?_
            refine thenN ?_
            refine AW.seq ?_
            refine AW.region ?_
            refine AOL.pk (P_load_box_agg (k := 0) (l := [.int .i64 _, .str _, .str _, .int .i64 _, _, .int .i64 _]) tok rfl rfl rfl rfl rfl) rfl rfl ?_
            refine AOL.e (E_store (k := 1) (v := .agg _) (cs' := [.int .i64 _, .str _, .str _, .int .i64 _, _, .int .i64 _]) (H2 := _ :: _ :: _ :: _) tok rfl rfl rfl rfl rfl rfl rfl rfl rfl) rfl ?_
            rintro _ _ ⟨rfl, rfl⟩
            refine AOL.nil ?_
            refine thenN ?_
            refine AW.ret ?_
            refine ⟨.inr rfl, [.agg [.int .i64 _, .str _, .str _, .int .i64 _, _, .int .i64 _]], .cons (.box _ _ _ 1 _ _ _ _ rfl rfl rfl rfl rfl rfl) <| .nil, _, .cons _ (.cons _ (.refl _)), ?_⟩
            refine ⟨?_, congrArg (fun c => HO.box bp 60 c :: H) ?_⟩
            · try simp only [resOf, unitR, cSyn, List.map_cons, List.map_nil, encS_eq, hc1, hc2, hc3, hc4, hc5, ↓reduceIte, Bool.false_eq_true, Bool.not_true, Bool.not_false]
              try rfl
            · try simp only [cP, unitR, hc1, hc2, hc3, hc4, hc5, ↓reduceIte, Bool.false_eq_true, Bool.not_true, Bool.not_false]
              try rfl
set_option maxRecDepth 20000 in
set_option maxHeartbeats 800000 in
theorem r_sum (st : PS) (bp : Nat) (D : Int) (hD : 0 ≤ D) (E : PS → Syn × PS) (hFE : FineR E) (hE : D ≤ 64 → ∀ (st : PS) (bp : Nat), okR (D + 1) st → PCallS Tryz.prog 31 bp 60 (cP st) (cP (E st).2) [.val (.pointer (some ⟨bp, 0, none⟩))] (.agg (cSyn (E st).1))) (hO : okR D st) : PCallS Tryz.prog 112 bp 60 (cP st) (cP ((sumR E st).2)) [.val (.pointer (some ⟨bp, 0, none⟩))] (.agg (cSyn (sumR E st).1)) := by
  intro H
  have hS := hO.1
  refine ACall.body (n := 30) tok Tryz.func112 rfl rfl rfl ?_
  refine AW.seq ?_
  refine AW.region ?_
  refine AOL.e (E_alloc (l := [.int .i64 0, .str [], .str [], .int .i64 0, .sl 6 [], .int .i64 0]) (by kernel_rfl)) rfl ?_
  rintro _ _ ⟨b2, rfl, rfl⟩
  refine AOL.nil ?_
  refine thenN ?_
  refine AW.seq ?_
  refine AW.region ?_
  refine AOL.p (P_move (v := .val _) rfl) rfl ?_
  refine AOL.e (E_callf (by kernel_rfl) rfl rfl ((r_unit st bp D hD E hFE hE hO).at (k := 1) (H2 := _ :: _ :: _) rfl rfl)) rfl ?_
  rintro _ _ ⟨rfl, rfl⟩
  refine AOL.e (E_alloc (l := [.int .i64 0, .str [], .str [], .int .i64 0, .sl 6 [], .int .i64 0]) (by kernel_rfl)) rfl ?_
  rintro _ _ ⟨b3, rfl, rfl⟩
  refine AOL.e (E_store (k := 0) (v := .agg _) (cs' := [.int .i64 _, .str _, .str _, .int .i64 _, _, .int .i64 _]) (H2 := _ :: _ :: _ :: _) tok rfl rfl rfl rfl rfl rfl rfl rfl rfl) rfl ?_
  rintro _ _ ⟨rfl, rfl⟩
  refine AOL.nil ?_
  refine thenN ?_
  refine AW.seq ?_
  refine AW.block ?_
  refine AW.loopS (fun (p : Nat × PS × Syn) => (⟨[(0, .val (.pointer (some ⟨bp, 0, none⟩))), (2, .val (.pointer (some ⟨b2, 0, none⟩))), (3, .val (.pointer (some ⟨b3, 0, none⟩)))], .box b3 26 (cSyn p.2.2) :: .box b2 26 (cSyn synZ) :: .box bp 60 (cP p.2.1) :: H, 30⟩ : St)) (fun (p : Nat × PS × Syn) => okR D p.2.1 ∧ fuel p.2.1 ≤ p.1 ∧ sumR E st = sumGoR (unitR E) p.1 p.2.1 p.2.2) (fun (p : Nat × PS × Syn) => p.1) ((fuel ((unitR E) st).2, ((unitR E) st).2, ((unitR E) st).1)) ?_ (GS.weaken ⟨rfl, rfl, rfl, trivial⟩ (.refl _)) ?_
  · exact ⟨((fineR_unit hFE) st hO.2.1).ok hO, Nat.le_refl _, rfl⟩
  · rintro p hR
    have hO2 : okR D p.2.1 := hR.1
    have hS := hO2.1
    have hfu : fuel p.2.1 ≤ p.1 := hR.2.1
    have hn : 0 < p.1 := by unfold fuel at hfu; omega
    refine AW.seq ?_
    refine AW.seq ?_
    refine AW.region ?_
    refine AOL.p (P_move (v := .val _) rfl) rfl ?_
    refine AOL.pk (P_callf_k (k := 2) (by kernel_rfl) rfl rfl (r_is _ _ _)) rfl rfl ?_
    refine AOL.p (P_move (v := .bool _) rfl) rfl ?_
    refine AOL.g (y := .val _) _ [] rfl (EntL.all trivial) (fun hG => P_move (v := .val _) rfl) rfl ?_
    refine AOL.gk (y := .bool _) _ [(10, _)] rfl (EntL.all ⟨Ent.self _ _, trivial⟩) (fun hG => P_callf_k (k := 2) (by kernel_rfl) rfl rfl (r_is _ _ _)) rfl rfl ?_
    refine AOL.p (P_pick_or rfl rfl rfl) rfl ?_
    refine AOL.nil ?_
    refine thenN ?_
    refine AW.cond (b := _) rfl (fun hc1 => ?_) (fun hc1 => ?_)
    · skip
      try simp only [Bool.not_eq_true', Bool.not_eq_false'] at hc1
      have hlt := or_lt hc1
      have hml := hS.1
      have hex : okR D (adv p.2.1) := (GoR.adv _).ok hO2
      have hFa := (fineR_unit hFE) (adv p.2.1) hex.2.1
      have hps : p.2.1.pos + 1 ≤ ((unitR E) (adv p.2.1)).2.pos := hFa.1.2.1
      have hts : ((unitR E) (adv p.2.1)).2.toks = p.2.1.toks := hFa.1.1
      refine AW.skip ?_
      refine thenN ?_
      refine AW.block ?_
      refine AW.seq ?_
      refine AW.region ?_
      refine AOL.p (P_assign (v := .int .i64 _) rfl) rfl ?_
      refine AOL.nil ?_
      refine thenN ?_
      refine AW.seq ?_
      refine AW.seq ?_
      refine AW.region ?_
      refine AOL.p (P_move (v := .val _) rfl) rfl ?_
      refine AOL.pk (P_callf_k (k := 2) (by kernel_rfl) rfl rfl (r_is _ _ _)) rfl rfl ?_
      refine AOL.nil ?_
      refine thenN ?_
      refine AW.cond (b := _) rfl (fun hc2 => ?_) (fun hc2 => ?_)
      · skip
        try simp only [Bool.not_eq_true', Bool.not_eq_false'] at hc2
        refine AW.region ?_
        refine AOL.p (P_assign (v := .int .i64 _) rfl) rfl ?_
        refine AOL.nil ?_
        refine thenN ?_
        refine AW.seq ?_
        refine AW.region ?_
        refine AOL.p (P_move (v := .val _) rfl) rfl ?_
        refine AOL.p (P_nilCheck rfl) rfl ?_
        refine AOL.p (P_fieldAddr_val tok rfl rfl rfl rfl rfl rfl) rfl ?_
        refine AOL.pk (P_load_box (k := 2) (c := .int .i64 _) tok rfl rfl rfl rfl) rfl rfl ?_
        refine AOL.p (P_add rfl rfl rfl (by constructor <;> omega)) rfl ?_
        refine AOL.p (P_nilCheck rfl) rfl ?_
        refine AOL.p (P_fieldAddr_val tok rfl rfl rfl rfl rfl rfl) rfl ?_
        refine AOL.e (E_store (k := 2) (v := .int .i64 _) (cs' := [_, .int .i64 _, .int .i64 _, .int .i64 _, .int .i64 _, .int .i64 _]) (H2 := _ :: _ :: _ :: _) tok rfl rfl rfl rfl rfl rfl rfl rfl rfl) rfl ?_
        rintro _ _ ⟨rfl, rfl⟩
        refine AOL.ghost (GS.cellsTo (H2 := _ :: _ :: _ :: _) 2 rfl ((rfl : _ = cP (adv p.2.1))) rfl) ?_
        refine AOL.nil ?_
        refine thenN ?_
        refine AW.draw mixed (fun H' => _ ∈ H') (List.mem_of_getElem? (i := 0) rfl) (by kernel_rfl) ?_
        refine Canon.pure _ _ 0 _ _ rfl (by kernel_rfl) (by kernel_rfl) rfl (.run rfl (P_move (v := .int .i64 _) rfl)) ?_
        refine Canon.pure _ _ 1 _ _ rfl (by kernel_rfl) (by kernel_rfl) rfl (.run rfl (OpP.mem (fun k => P_load_box_agg (k := k) (l := [.int .i64 _, .str _, .str _, .int .i64 _, _, .int .i64 _]) tok rfl rfl rfl rfl rfl) (fun _ h => h))) ?_
        refine Canon.pure _ _ 2 _ _ rfl (by kernel_rfl) (by kernel_rfl) rfl (.run rfl (P_move (v := .val _) rfl)) ?_
        refine Canon.pure _ _ 4 _ _ rfl (by kernel_rfl) (by kernel_rfl) rfl (.run rfl (P_fieldAddr_val tok rfl rfl rfl rfl rfl rfl)) ?_
        refine Canon.pure _ _ 5 _ _ rfl (by kernel_rfl) (by kernel_rfl) rfl (.run rfl (OpP.mem (fun k => P_load_box (k := k) (c := .int .i64 _) tok rfl rfl rfl rfl) (fun _ h => h))) ?_
        refine Canon.eff _ _ 3 _ _ rfl (by kernel_rfl) rfl rfl (E_callf (by kernel_rfl) rfl rfl ((r_unit _ bp D hD E hFE hE hex).at (k := 2) (H2 := _ :: _ :: _ :: _) rfl rfl)) (by rintro _ _ ⟨rfl, rfl⟩; simp) ?_
        rintro _ _ ⟨rfl, rfl⟩
        refine Canon.pure _ _ 6 _ _ rfl (by kernel_rfl) (by kernel_rfl) rfl (.run rfl (P_callf (by kernel_rfl) rfl rfl (r_joined _ _ _ _))) ?_
        refine Canon.last _ _ 7 _ _ rfl (by kernel_rfl) rfl rfl (E_store (k := 0) (v := .agg _) (cs' := [.int .i64 _, .str _, .str _, .int .i64 _, _, .int .i64 _]) (H2 := _ :: _ :: _ :: _) tok rfl rfl rfl rfl rfl rfl rfl rfl rfl) (by kernel_rfl) ?_
        rintro _ _ ⟨rfl, rfl⟩
        refine blkN ?_
        refine thenN ?_
        refine ⟨(p.1 - 1, ((unitR E) (adv p.2.1)).2, binS 6 p.2.2 ((unitR E) (adv p.2.1)).1 p.2.2.pos), ?_, ?_, GS.weaken ⟨rfl, rfl, rfl, trivial⟩ (.refl _)⟩
        · exact ⟨hFa.ok hex, by unfold fuel at hfu ⊢; rw [hts]; simp only; omega, hR.2.2.trans (by rw [sumGoR_pos hn, if_pos hc1, hc2]; rfl)⟩
        · simp only; omega
      · skip
        try simp only [Bool.not_eq_true', Bool.not_eq_false'] at hc2
        refine AW.skip ?_
        refine thenN ?_
        refine AW.seq ?_
        refine AW.region ?_
        refine AOL.p (P_move (v := .val _) rfl) rfl ?_
        refine AOL.p (P_nilCheck rfl) rfl ?_
        refine AOL.p (P_fieldAddr_val tok rfl rfl rfl rfl rfl rfl) rfl ?_
        refine AOL.pk (P_load_box (k := 2) (c := .int .i64 _) tok rfl rfl rfl rfl) rfl rfl ?_
        refine AOL.p (P_add rfl rfl rfl (by constructor <;> omega)) rfl ?_
        refine AOL.p (P_nilCheck rfl) rfl ?_
        refine AOL.p (P_fieldAddr_val tok rfl rfl rfl rfl rfl rfl) rfl ?_
        refine AOL.e (E_store (k := 2) (v := .int .i64 _) (cs' := [_, .int .i64 _, .int .i64 _, .int .i64 _, .int .i64 _, .int .i64 _]) (H2 := _ :: _ :: _ :: _) tok rfl rfl rfl rfl rfl rfl rfl rfl rfl) rfl ?_
        rintro _ _ ⟨rfl, rfl⟩
        refine AOL.ghost (GS.cellsTo (H2 := _ :: _ :: _ :: _) 2 rfl ((rfl : _ = cP (adv p.2.1))) rfl) ?_
        refine AOL.nil ?_
        refine thenN ?_
        refine AW.draw mixed (fun H' => _ ∈ H') (List.mem_of_getElem? (i := 0) rfl) (by kernel_rfl) ?_
        refine Canon.pure _ _ 0 _ _ rfl (by kernel_rfl) (by kernel_rfl) rfl (.run rfl (P_move (v := .int .i64 _) rfl)) ?_
        refine Canon.pure _ _ 1 _ _ rfl (by kernel_rfl) (by kernel_rfl) rfl (.run rfl (OpP.mem (fun k => P_load_box_agg (k := k) (l := [.int .i64 _, .str _, .str _, .int .i64 _, _, .int .i64 _]) tok rfl rfl rfl rfl rfl) (fun _ h => h))) ?_
        refine Canon.pure _ _ 2 _ _ rfl (by kernel_rfl) (by kernel_rfl) rfl (.run rfl (P_move (v := .val _) rfl)) ?_
        refine Canon.pure _ _ 4 _ _ rfl (by kernel_rfl) (by kernel_rfl) rfl (.run rfl (P_fieldAddr_val tok rfl rfl rfl rfl rfl rfl)) ?_
        refine Canon.pure _ _ 5 _ _ rfl (by kernel_rfl) (by kernel_rfl) rfl (.run rfl (OpP.mem (fun k => P_load_box (k := k) (c := .int .i64 _) tok rfl rfl rfl rfl) (fun _ h => h))) ?_
        refine Canon.eff _ _ 3 _ _ rfl (by kernel_rfl) rfl rfl (E_callf (by kernel_rfl) rfl rfl ((r_unit _ bp D hD E hFE hE hex).at (k := 2) (H2 := _ :: _ :: _ :: _) rfl rfl)) (by rintro _ _ ⟨rfl, rfl⟩; simp) ?_
        rintro _ _ ⟨rfl, rfl⟩
        refine Canon.pure _ _ 6 _ _ rfl (by kernel_rfl) (by kernel_rfl) rfl (.run rfl (P_callf (by kernel_rfl) rfl rfl (r_joined _ _ _ _))) ?_
        refine Canon.last _ _ 7 _ _ rfl (by kernel_rfl) rfl rfl (E_store (k := 0) (v := .agg _) (cs' := [.int .i64 _, .str _, .str _, .int .i64 _, _, .int .i64 _]) (H2 := _ :: _ :: _ :: _) tok rfl rfl rfl rfl rfl rfl rfl rfl rfl) (by kernel_rfl) ?_
        rintro _ _ ⟨rfl, rfl⟩
        refine blkN ?_
        refine thenN ?_
        refine ⟨(p.1 - 1, ((unitR E) (adv p.2.1)).2, binS 5 p.2.2 ((unitR E) (adv p.2.1)).1 p.2.2.pos), ?_, ?_, GS.weaken ⟨rfl, rfl, rfl, trivial⟩ (.refl _)⟩
        · exact ⟨hFa.ok hex, by unfold fuel at hfu ⊢; rw [hts]; simp only; omega, hR.2.2.trans (by rw [sumGoR_pos hn, if_pos hc1, hc2]; rfl)⟩
        · simp only; omega
    · skip
      try simp only [Bool.not_eq_true', Bool.not_eq_false'] at hc1
      refine AW.exit ?_
      refine thenE ?_
      refine thenE ?_
      refine blkHit ?_
      refine thenN ?_
      refine AW.seq ?_
      refine AW.region ?_
      refine AOL.pk (P_load_box_agg (k := 0) (l := [.int .i64 _, .str _, .str _, .int .i64 _, _, .int .i64 _]) tok rfl rfl rfl rfl rfl) rfl rfl ?_
      refine AOL.e (E_store (k := 1) (v := .agg _) (cs' := [.int .i64 _, .str _, .str _, .int .i64 _, _, .int .i64 _]) (H2 := _ :: _ :: _ :: _) tok rfl rfl rfl rfl rfl rfl rfl rfl rfl) rfl ?_
      rintro _ _ ⟨rfl, rfl⟩
      refine AOL.nil ?_
      refine thenN ?_
      refine AW.ret ?_
      refine ⟨.inr rfl, [.agg [.int .i64 _, .str _, .str _, .int .i64 _, _, .int .i64 _]], .cons (.box _ _ _ 1 _ _ _ _ rfl rfl rfl rfl rfl rfl) <| .nil, _, .cons _ (.cons _ (.refl _)), ?_⟩
      have h9 : sumR E st = (p.2.2, p.2.1) := hR.2.2.trans (by rw [sumGoR_pos hn, if_neg (Bool.eq_false_iff.mp hc1)])
      exact ⟨by rw [h9]; rfl, congrArg (fun s => HO.box bp 60 (cP s) :: H) (by rw [h9])⟩
set_option maxRecDepth 20000 in
set_option maxHeartbeats 1600000 in
theorem r_compare (st : PS) (bp : Nat) (D : Int) (hD : 0 ≤ D) (E : PS → Syn × PS) (hFE : FineR E) (hE : D ≤ 64 → ∀ (st : PS) (bp : Nat), okR (D + 1) st → PCallS Tryz.prog 31 bp 60 (cP st) (cP (E st).2) [.val (.pointer (some ⟨bp, 0, none⟩))] (.agg (cSyn (E st).1))) (hO : okR D st) : PCallS Tryz.prog 101 bp 60 (cP st) (cP ((cmpR E st).2)) [.val (.pointer (some ⟨bp, 0, none⟩))] (.agg (cSyn (cmpR E st).1)) := by
  intro H
  have hO2 : okR D (sumR E st).2 := (fineR_sum hFE st hO.2.1).ok hO
  have hS := hO2.1
  have hex : okR D (adv (sumR E st).2) := (GoR.adv _).ok hO2
  refine ACall.body (n := 59) tok Tryz.func101 rfl rfl rfl ?_
  refine AW.seq ?_
  refine AW.region ?_
  refine AOL.e (E_alloc (l := [.int .i64 0, .str [], .str [], .int .i64 0, .sl 6 [], .int .i64 0]) (by kernel_rfl)) rfl ?_
  rintro _ _ ⟨b2, rfl, rfl⟩
  refine AOL.nil ?_
  refine thenN ?_
  refine AW.seq ?_
  refine AW.region ?_
  refine AOL.p (P_move (v := .val _) rfl) rfl ?_
  refine AOL.e (E_callf (by kernel_rfl) rfl rfl ((r_sum st bp D hD E hFE hE hO).at (k := 1) (H2 := _ :: _ :: _) rfl rfl)) rfl ?_
  rintro _ _ ⟨rfl, rfl⟩
  refine AOL.e (E_alloc (l := [.int .i64 0, .str [], .str [], .int .i64 0, .sl 6 [], .int .i64 0]) (by kernel_rfl)) rfl ?_
  rintro _ _ ⟨b3, rfl, rfl⟩
  refine AOL.e (E_store (k := 0) (v := .agg _) (cs' := [.int .i64 _, .str _, .str _, .int .i64 _, _, .int .i64 _]) (H2 := _ :: _ :: _ :: _) tok rfl rfl rfl rfl rfl rfl rfl rfl rfl) rfl ?_
  rintro _ _ ⟨rfl, rfl⟩
  refine AOL.ghost (GS.freeze (t := 3) 0 rfl rfl) ?_
  refine AOL.nil ?_
  refine thenN ?_
  refine AW.seq ?_
  refine AW.seq ?_
  refine AW.region ?_
  refine AOL.p (P_move (v := .val _) rfl) rfl ?_
  refine AOL.e (E_callf (by kernel_rfl) rfl rfl ((r_accept _ _ _ (by simpa using hS)).at (k := 1) (H2 := _ :: _ :: _) rfl rfl)) rfl ?_
  rintro _ _ ⟨rfl, rfl⟩
  refine AOL.nil ?_
  refine thenN ?_
  refine AW.cond (b := _) rfl (fun hc1 => ?_) (fun hc1 => ?_)
  · skip
    try simp only [Bool.not_eq_true', Bool.not_eq_false'] at hc1
    refine AW.ghost (GS.cellsTo (H2 := _ :: _ :: _) 1 rfl (congrArg cP (accR_yes hc1)) rfl) ?_
    refine AW.seq ?_
    refine AW.draw mixed (fun _ => True) trivial (by kernel_rfl) ?_
    refine Canon.pure _ _ 0 _ _ rfl (by kernel_rfl) (by kernel_rfl) rfl (.run rfl (P_load_ptr_agg (l := [.int .i64 _, .str _, .str _, .int .i64 _, _, .int .i64 _]) tok rfl rfl rfl rfl rfl)) ?_
    refine Canon.pure _ _ 1 _ _ rfl (by kernel_rfl) (by kernel_rfl) rfl (.run rfl (P_move (v := .val _) rfl)) ?_
    refine Canon.pure _ _ 3 _ _ rfl (by kernel_rfl) (by kernel_rfl) rfl (.run rfl (P_fieldAddr_ptr (cs' := [.int .i64 _]) tok rfl rfl rfl rfl rfl rfl)) ?_
    refine Canon.pure _ _ 4 _ _ rfl (by kernel_rfl) (by kernel_rfl) rfl (.run rfl (P_load_ptr (c := .int .i64 _) tok rfl rfl rfl)) ?_
    refine Canon.eff _ _ 2 _ _ rfl (by kernel_rfl) rfl rfl (E_callf (by kernel_rfl) rfl rfl ((r_sum _ bp D hD E hFE hE hex).at (k := 1) (H2 := _ :: _ :: _) rfl rfl)) (fun _ _ _ => trivial) ?_
    rintro _ _ ⟨rfl, rfl⟩
    refine Canon.pure _ _ 5 _ _ rfl (by kernel_rfl) (by kernel_rfl) rfl (.run rfl (P_callf (by kernel_rfl) rfl rfl (r_joined _ _ _ _))) ?_
    refine Canon.eff _ _ 6 _ _ rfl (by kernel_rfl) rfl rfl (E_store (k := 0) (v := .agg _) (cs' := [.int .i64 _, .str _, .str _, .int .i64 _, _, .int .i64 _]) (H2 := _ :: _ :: _) tok rfl rfl rfl rfl rfl rfl rfl rfl rfl) (fun _ _ _ => trivial) ?_
    rintro _ _ ⟨rfl, rfl⟩
    refine Canon.done _ _ (by kernel_rfl) ?_
    refine thenN ?_
    refine AW.ret ?_
    refine thenR ?_
    refine ⟨.inr rfl, [.agg [.int .i64 _, .str _, .str _, .int .i64 _, _, .int .i64 _]], .cons (.box _ _ _ 0 _ _ _ _ rfl rfl rfl rfl rfl rfl) <| .nil, _, .cons _ (.refl _), ?_⟩
    refine ⟨?_, congrArg (fun c => HO.box bp 60 c :: H) ?_⟩
    · try simp only [resOf, cmpR, cSyn, List.map_cons, List.map_nil, encS_eq, hc1, ↓reduceIte, Bool.false_eq_true, Bool.not_true, Bool.not_false]
      try rfl
    · try simp only [cP, cmpR, hc1, ↓reduceIte, Bool.false_eq_true, Bool.not_true, Bool.not_false]
      try rfl
  · skip
    try simp only [Bool.not_eq_true', Bool.not_eq_false'] at hc1
    refine AW.ghost (GS.cellsTo (H2 := _ :: _ :: _) 1 rfl (congrArg cP (accR_no hc1)) rfl) ?_
    refine AW.skip ?_
    refine thenN ?_
    refine AW.seq ?_
    refine AW.seq ?_
    refine AW.region ?_
    refine AOL.p (P_move (v := .val _) rfl) rfl ?_
    refine AOL.e (E_callf (by kernel_rfl) rfl rfl ((r_accept _ _ _ (by simpa using hS)).at (k := 1) (H2 := _ :: _ :: _) rfl rfl)) rfl ?_
    rintro _ _ ⟨rfl, rfl⟩
    refine AOL.nil ?_
    refine thenN ?_
    refine AW.cond (b := _) rfl (fun hc2 => ?_) (fun hc2 => ?_)
    · skip
      try simp only [Bool.not_eq_true', Bool.not_eq_false'] at hc2
      refine AW.ghost (GS.cellsTo (H2 := _ :: _ :: _) 1 rfl (congrArg cP (accR_yes hc2)) rfl) ?_
      refine AW.seq ?_
      refine AW.draw mixed (fun _ => True) trivial (by kernel_rfl) ?_
      refine Canon.pure _ _ 0 _ _ rfl (by kernel_rfl) (by kernel_rfl) rfl (.run rfl (P_load_ptr_agg (l := [.int .i64 _, .str _, .str _, .int .i64 _, _, .int .i64 _]) tok rfl rfl rfl rfl rfl)) ?_
      refine Canon.pure _ _ 1 _ _ rfl (by kernel_rfl) (by kernel_rfl) rfl (.run rfl (P_move (v := .val _) rfl)) ?_
      refine Canon.pure _ _ 3 _ _ rfl (by kernel_rfl) (by kernel_rfl) rfl (.run rfl (P_fieldAddr_ptr (cs' := [.int .i64 _]) tok rfl rfl rfl rfl rfl rfl)) ?_
      refine Canon.pure _ _ 4 _ _ rfl (by kernel_rfl) (by kernel_rfl) rfl (.run rfl (P_load_ptr (c := .int .i64 _) tok rfl rfl rfl)) ?_
      refine Canon.eff _ _ 2 _ _ rfl (by kernel_rfl) rfl rfl (E_callf (by kernel_rfl) rfl rfl ((r_sum _ bp D hD E hFE hE hex).at (k := 1) (H2 := _ :: _ :: _) rfl rfl)) (fun _ _ _ => trivial) ?_
      rintro _ _ ⟨rfl, rfl⟩
      refine Canon.pure _ _ 5 _ _ rfl (by kernel_rfl) (by kernel_rfl) rfl (.run rfl (P_callf (by kernel_rfl) rfl rfl (r_joined _ _ _ _))) ?_
      refine Canon.eff _ _ 6 _ _ rfl (by kernel_rfl) rfl rfl (E_store (k := 0) (v := .agg _) (cs' := [.int .i64 _, .str _, .str _, .int .i64 _, _, .int .i64 _]) (H2 := _ :: _ :: _) tok rfl rfl rfl rfl rfl rfl rfl rfl rfl) (fun _ _ _ => trivial) ?_
      rintro _ _ ⟨rfl, rfl⟩
      refine Canon.done _ _ (by kernel_rfl) ?_
      refine thenN ?_
      refine AW.ret ?_
      refine thenR ?_
      refine ⟨.inr rfl, [.agg [.int .i64 _, .str _, .str _, .int .i64 _, _, .int .i64 _]], .cons (.box _ _ _ 0 _ _ _ _ rfl rfl rfl rfl rfl rfl) <| .nil, _, .cons _ (.refl _), ?_⟩
      refine ⟨?_, congrArg (fun c => HO.box bp 60 c :: H) ?_⟩
      · try simp only [resOf, cmpR, cSyn, List.map_cons, List.map_nil, encS_eq, hc1, hc2, ↓reduceIte, Bool.false_eq_true, Bool.not_true, Bool.not_false]
        try rfl
      · try simp only [cP, cmpR, hc1, hc2, ↓reduceIte, Bool.false_eq_true, Bool.not_true, Bool.not_false]
        try rfl
    · skip
      try simp only [Bool.not_eq_true', Bool.not_eq_false'] at hc2
      refine AW.ghost (GS.cellsTo (H2 := _ :: _ :: _) 1 rfl (congrArg cP (accR_no hc2)) rfl) ?_
      refine AW.skip ?_
      refine thenN ?_
      refine AW.seq ?_
      refine AW.seq ?_
      refine AW.region ?_
      refine AOL.p (P_move (v := .val _) rfl) rfl ?_
      refine AOL.e (E_callf (by kernel_rfl) rfl rfl ((r_accept _ _ _ (by simpa using hS)).at (k := 1) (H2 := _ :: _ :: _) rfl rfl)) rfl ?_
      rintro _ _ ⟨rfl, rfl⟩
      refine AOL.nil ?_
      refine thenN ?_
      refine AW.cond (b := _) rfl (fun hc3 => ?_) (fun hc3 => ?_)
      · skip
        try simp only [Bool.not_eq_true', Bool.not_eq_false'] at hc3
        refine AW.ghost (GS.cellsTo (H2 := _ :: _ :: _) 1 rfl (congrArg cP (accR_yes hc3)) rfl) ?_
        refine AW.seq ?_
        refine AW.draw mixed (fun _ => True) trivial (by kernel_rfl) ?_
        refine Canon.pure _ _ 0 _ _ rfl (by kernel_rfl) (by kernel_rfl) rfl (.run rfl (P_move (v := .val _) rfl)) ?_
        refine Canon.pure _ _ 2 _ _ rfl (by kernel_rfl) (by kernel_rfl) rfl (.run rfl (P_load_ptr_agg (l := [.int .i64 _, .str _, .str _, .int .i64 _, _, .int .i64 _]) tok rfl rfl rfl rfl rfl)) ?_
        refine Canon.pure _ _ 3 _ _ rfl (by kernel_rfl) (by kernel_rfl) rfl (.run rfl (P_fieldAddr_ptr (cs' := [.int .i64 _]) tok rfl rfl rfl rfl rfl rfl)) ?_
        refine Canon.pure _ _ 4 _ _ rfl (by kernel_rfl) (by kernel_rfl) rfl (.run rfl (P_load_ptr (c := .int .i64 _) tok rfl rfl rfl)) ?_
        refine Canon.eff _ _ 1 _ _ rfl (by kernel_rfl) rfl rfl (E_callf (by kernel_rfl) rfl rfl ((r_sum _ bp D hD E hFE hE hex).at (k := 1) (H2 := _ :: _ :: _) rfl rfl)) (fun _ _ _ => trivial) ?_
        rintro _ _ ⟨rfl, rfl⟩
        refine Canon.pure _ _ 5 _ _ rfl (by kernel_rfl) (by kernel_rfl) rfl (.run rfl (P_callf (by kernel_rfl) rfl rfl (r_joined _ _ _ _))) ?_
        refine Canon.eff _ _ 6 _ _ rfl (by kernel_rfl) rfl rfl (E_store (k := 0) (v := .agg _) (cs' := [.int .i64 _, .str _, .str _, .int .i64 _, _, .int .i64 _]) (H2 := _ :: _ :: _) tok rfl rfl rfl rfl rfl rfl rfl rfl rfl) (fun _ _ _ => trivial) ?_
        rintro _ _ ⟨rfl, rfl⟩
        refine Canon.done _ _ (by kernel_rfl) ?_
        refine thenN ?_
        refine AW.ret ?_
        refine thenR ?_
        refine ⟨.inr rfl, [.agg [.int .i64 _, .str _, .str _, .int .i64 _, _, .int .i64 _]], .cons (.box _ _ _ 0 _ _ _ _ rfl rfl rfl rfl rfl rfl) <| .nil, _, .cons _ (.refl _), ?_⟩
        refine ⟨?_, congrArg (fun c => HO.box bp 60 c :: H) ?_⟩
        · try simp only [resOf, cmpR, cSyn, List.map_cons, List.map_nil, encS_eq, hc1, hc2, hc3, ↓reduceIte, Bool.false_eq_true, Bool.not_true, Bool.not_false]
          try rfl
        · try simp only [cP, cmpR, hc1, hc2, hc3, ↓reduceIte, Bool.false_eq_true, Bool.not_true, Bool.not_false]
          try rfl
      · skip
        try simp only [Bool.not_eq_true', Bool.not_eq_false'] at hc3
        refine AW.ghost (GS.cellsTo (H2 := _ :: _ :: _) 1 rfl (congrArg cP (accR_no hc3)) rfl) ?_
        refine AW.skip ?_
        refine thenN ?_
        refine AW.seq ?_
        refine AW.seq ?_
        refine AW.region ?_
        refine AOL.p (P_move (v := .val _) rfl) rfl ?_
        refine AOL.e (E_callf (by kernel_rfl) rfl rfl ((r_accept _ _ _ (by simpa using hS)).at (k := 1) (H2 := _ :: _ :: _) rfl rfl)) rfl ?_
        rintro _ _ ⟨rfl, rfl⟩
        refine AOL.nil ?_
        refine thenN ?_
        refine AW.cond (b := _) rfl (fun hc4 => ?_) (fun hc4 => ?_)
        · skip
          try simp only [Bool.not_eq_true', Bool.not_eq_false'] at hc4
          refine AW.ghost (GS.cellsTo (H2 := _ :: _ :: _) 1 rfl (congrArg cP (accR_yes hc4)) rfl) ?_
          refine AW.seq ?_
          refine AW.draw mixed (fun _ => True) trivial (by kernel_rfl) ?_
          refine Canon.pure _ _ 0 _ _ rfl (by kernel_rfl) (by kernel_rfl) rfl (.run rfl (P_move (v := .val _) rfl)) ?_
          refine Canon.pure _ _ 2 _ _ rfl (by kernel_rfl) (by kernel_rfl) rfl (.run rfl (P_load_ptr_agg (l := [.int .i64 _, .str _, .str _, .int .i64 _, _, .int .i64 _]) tok rfl rfl rfl rfl rfl)) ?_
          refine Canon.pure _ _ 3 _ _ rfl (by kernel_rfl) (by kernel_rfl) rfl (.run rfl (P_fieldAddr_ptr (cs' := [.int .i64 _]) tok rfl rfl rfl rfl rfl rfl)) ?_
          refine Canon.pure _ _ 4 _ _ rfl (by kernel_rfl) (by kernel_rfl) rfl (.run rfl (P_load_ptr (c := .int .i64 _) tok rfl rfl rfl)) ?_
          refine Canon.eff _ _ 1 _ _ rfl (by kernel_rfl) rfl rfl (E_callf (by kernel_rfl) rfl rfl ((r_sum _ bp D hD E hFE hE hex).at (k := 1) (H2 := _ :: _ :: _) rfl rfl)) (fun _ _ _ => trivial) ?_
          rintro _ _ ⟨rfl, rfl⟩
          refine Canon.pure _ _ 5 _ _ rfl (by kernel_rfl) (by kernel_rfl) rfl (.run rfl (P_callf (by kernel_rfl) rfl rfl (r_joined _ _ _ _))) ?_
          refine Canon.eff _ _ 6 _ _ rfl (by kernel_rfl) rfl rfl (E_store (k := 0) (v := .agg _) (cs' := [.int .i64 _, .str _, .str _, .int .i64 _, _, .int .i64 _]) (H2 := _ :: _ :: _) tok rfl rfl rfl rfl rfl rfl rfl rfl rfl) (fun _ _ _ => trivial) ?_
          rintro _ _ ⟨rfl, rfl⟩
          refine Canon.done _ _ (by kernel_rfl) ?_
          refine thenN ?_
          refine AW.ret ?_
          refine thenR ?_
          refine ⟨.inr rfl, [.agg [.int .i64 _, .str _, .str _, .int .i64 _, _, .int .i64 _]], .cons (.box _ _ _ 0 _ _ _ _ rfl rfl rfl rfl rfl rfl) <| .nil, _, .cons _ (.refl _), ?_⟩
          refine ⟨?_, congrArg (fun c => HO.box bp 60 c :: H) ?_⟩
          · try simp only [resOf, cmpR, cSyn, List.map_cons, List.map_nil, encS_eq, hc1, hc2, hc3, hc4, ↓reduceIte, Bool.false_eq_true, Bool.not_true, Bool.not_false]
            try rfl
          · try simp only [cP, cmpR, hc1, hc2, hc3, hc4, ↓reduceIte, Bool.false_eq_true, Bool.not_true, Bool.not_false]
            try rfl
        · skip
          try simp only [Bool.not_eq_true', Bool.not_eq_false'] at hc4
          refine AW.ghost (GS.cellsTo (H2 := _ :: _ :: _) 1 rfl (congrArg cP (accR_no hc4)) rfl) ?_
          refine AW.skip ?_
          refine thenN ?_
          refine AW.seq ?_
          refine AW.seq ?_
          refine AW.region ?_
          refine AOL.p (P_move (v := .val _) rfl) rfl ?_
          refine AOL.e (E_callf (by kernel_rfl) rfl rfl ((r_accept _ _ _ (by simpa using hS)).at (k := 1) (H2 := _ :: _ :: _) rfl rfl)) rfl ?_
          rintro _ _ ⟨rfl, rfl⟩
          refine AOL.nil ?_
          refine thenN ?_
          refine AW.cond (b := _) rfl (fun hc5 => ?_) (fun hc5 => ?_)
          · skip
            try simp only [Bool.not_eq_true', Bool.not_eq_false'] at hc5
            refine AW.ghost (GS.cellsTo (H2 := _ :: _ :: _) 1 rfl (congrArg cP (accR_yes hc5)) rfl) ?_
            refine AW.seq ?_
            refine AW.draw mixed (fun _ => True) trivial (by kernel_rfl) ?_
            refine Canon.pure _ _ 0 _ _ rfl (by kernel_rfl) (by kernel_rfl) rfl (.run rfl (P_load_ptr_agg (l := [.int .i64 _, .str _, .str _, .int .i64 _, _, .int .i64 _]) tok rfl rfl rfl rfl rfl)) ?_
            refine Canon.pure _ _ 1 _ _ rfl (by kernel_rfl) (by kernel_rfl) rfl (.run rfl (P_move (v := .val _) rfl)) ?_
            refine Canon.pure _ _ 3 _ _ rfl (by kernel_rfl) (by kernel_rfl) rfl (.run rfl (P_fieldAddr_ptr (cs' := [.int .i64 _]) tok rfl rfl rfl rfl rfl rfl)) ?_
            refine Canon.pure _ _ 4 _ _ rfl (by kernel_rfl) (by kernel_rfl) rfl (.run rfl (P_load_ptr (c := .int .i64 _) tok rfl rfl rfl)) ?_
            refine Canon.eff _ _ 2 _ _ rfl (by kernel_rfl) rfl rfl (E_callf (by kernel_rfl) rfl rfl ((r_sum _ bp D hD E hFE hE hex).at (k := 1) (H2 := _ :: _ :: _) rfl rfl)) (fun _ _ _ => trivial) ?_
            rintro _ _ ⟨rfl, rfl⟩
            refine Canon.pure _ _ 5 _ _ rfl (by kernel_rfl) (by kernel_rfl) rfl (.run rfl (P_callf (by kernel_rfl) rfl rfl (r_joined _ _ _ _))) ?_
            refine Canon.eff _ _ 6 _ _ rfl (by kernel_rfl) rfl rfl (E_store (k := 0) (v := .agg _) (cs' := [.int .i64 _, .str _, .str _, .int .i64 _, _, .int .i64 _]) (H2 := _ :: _ :: _) tok rfl rfl rfl rfl rfl rfl rfl rfl rfl) (fun _ _ _ => trivial) ?_
            rintro _ _ ⟨rfl, rfl⟩
            refine Canon.done _ _ (by kernel_rfl) ?_
            refine thenN ?_
            refine AW.ret ?_
            refine thenR ?_
            refine ⟨.inr rfl, [.agg [.int .i64 _, .str _, .str _, .int .i64 _, _, .int .i64 _]], .cons (.box _ _ _ 0 _ _ _ _ rfl rfl rfl rfl rfl rfl) <| .nil, _, .cons _ (.refl _), ?_⟩
            refine ⟨?_, congrArg (fun c => HO.box bp 60 c :: H) ?_⟩
            · try simp only [resOf, cmpR, cSyn, List.map_cons, List.map_nil, encS_eq, hc1, hc2, hc3, hc4, hc5, ↓reduceIte, Bool.false_eq_true, Bool.not_true, Bool.not_false]
              try rfl
            · try simp only [cP, cmpR, hc1, hc2, hc3, hc4, hc5, ↓reduceIte, Bool.false_eq_true, Bool.not_true, Bool.not_false]
              try rfl
          · skip
            try simp only [Bool.not_eq_true', Bool.not_eq_false'] at hc5
            refine AW.ghost (GS.cellsTo (H2 := _ :: _ :: _) 1 rfl (congrArg cP (accR_no hc5)) rfl) ?_
            refine AW.skip ?_
            refine thenN ?_
            refine AW.seq ?_
            refine AW.seq ?_
            refine AW.region ?_
            refine AOL.p (P_move (v := .val _) rfl) rfl ?_
            refine AOL.e (E_callf (by kernel_rfl) rfl rfl ((r_accept _ _ _ (by simpa using hS)).at (k := 1) (H2 := _ :: _ :: _) rfl rfl)) rfl ?_
            rintro _ _ ⟨rfl, rfl⟩
            refine AOL.nil ?_
            refine thenN ?_
            refine AW.cond (b := _) rfl (fun hc6 => ?_) (fun hc6 => ?_)
            · skip
              try simp only [Bool.not_eq_true', Bool.not_eq_false'] at hc6
              refine AW.ghost (GS.cellsTo (H2 := _ :: _ :: _) 1 rfl (congrArg cP (accR_yes hc6)) rfl) ?_
              refine AW.seq ?_
              refine AW.draw mixed (fun _ => True) trivial (by kernel_rfl) ?_
              refine Canon.pure _ _ 0 _ _ rfl (by kernel_rfl) (by kernel_rfl) rfl (.run rfl (P_load_ptr_agg (l := [.int .i64 _, .str _, .str _, .int .i64 _, _, .int .i64 _]) tok rfl rfl rfl rfl rfl)) ?_
              refine Canon.pure _ _ 1 _ _ rfl (by kernel_rfl) (by kernel_rfl) rfl (.run rfl (P_move (v := .val _) rfl)) ?_
              refine Canon.pure _ _ 3 _ _ rfl (by kernel_rfl) (by kernel_rfl) rfl (.run rfl (P_fieldAddr_ptr (cs' := [.int .i64 _]) tok rfl rfl rfl rfl rfl rfl)) ?_
              refine Canon.pure _ _ 4 _ _ rfl (by kernel_rfl) (by kernel_rfl) rfl (.run rfl (P_load_ptr (c := .int .i64 _) tok rfl rfl rfl)) ?_
              refine Canon.pure _ _ 7 _ _ rfl (by kernel_rfl) (by kernel_rfl) rfl (.run rfl (P_fieldAddr_ptr (cs' := [.int .i64 _]) tok rfl rfl rfl rfl rfl rfl)) ?_
              refine Canon.pure _ _ 8 _ _ rfl (by kernel_rfl) (by kernel_rfl) rfl (.run rfl (P_load_ptr (c := .int .i64 _) tok rfl rfl rfl)) ?_
              refine Canon.eff _ _ 2 _ _ rfl (by kernel_rfl) rfl rfl (E_callf (by kernel_rfl) rfl rfl ((r_sum _ bp D hD E hFE hE hex).at (k := 1) (H2 := _ :: _ :: _) rfl rfl)) (fun _ _ _ => trivial) ?_
              rintro _ _ ⟨rfl, rfl⟩
              refine Canon.pure _ _ 5 _ _ rfl (by kernel_rfl) (by kernel_rfl) rfl (.run rfl (P_callf (by kernel_rfl) rfl rfl (r_joined _ _ _ _))) ?_
              refine Canon.pure _ _ 6 _ _ rfl (by kernel_rfl) (by kernel_rfl) rfl (.run rfl (P_buildSlice (es := [[.int .i64 _, .str _, .str _, .int .i64 _, _, .int .i64 _]]) tok rfl rfl rfl rfl rfl rfl rfl rfl rfl)) ?_
              refine Canon.pure _ _ 9 _ _ rfl (by kernel_rfl) (by kernel_rfl) rfl (.run rfl (P_build (l := [.int .i64 _, .str _, .str _, .int .i64 _, _, .int .i64 _]) tok rfl rfl rfl)) ?_
              refine Canon.eff _ _ 10 _ _ rfl (by kernel_rfl) rfl rfl (E_store (k := 0) (v := .agg _) (cs' := [.int .i64 _, .str _, .str _, .int .i64 _, _, .int .i64 _]) (H2 := _ :: _ :: _) tok rfl rfl rfl rfl rfl rfl rfl rfl rfl) (fun _ _ _ => trivial) ?_
              rintro _ _ ⟨rfl, rfl⟩
              refine Canon.done _ _ (by kernel_rfl) ?_
              refine thenN ?_
              refine AW.ret ?_
              refine thenR ?_
              refine ⟨.inr rfl, [.agg [.int .i64 _, .str _, .str _, .int .i64 _, _, .int .i64 _]], .cons (.box _ _ _ 0 _ _ _ _ rfl rfl rfl rfl rfl rfl) <| .nil, _, .cons _ (.refl _), ?_⟩
              refine ⟨?_, congrArg (fun c => HO.box bp 60 c :: H) ?_⟩
              · try simp only [resOf, cmpR, cSyn, List.map_cons, List.map_nil, encS_eq, hc1, hc2, hc3, hc4, hc5, hc6, ↓reduceIte, Bool.false_eq_true, Bool.not_true, Bool.not_false]
                try rfl
              · try simp only [cP, cmpR, hc1, hc2, hc3, hc4, hc5, hc6, ↓reduceIte, Bool.false_eq_true, Bool.not_true, Bool.not_false]
                try rfl
            · skip
              try simp only [Bool.not_eq_true', Bool.not_eq_false'] at hc6
              refine AW.ghost (GS.cellsTo (H2 := _ :: _ :: _) 1 rfl (congrArg cP (accR_no hc6)) rfl) ?_
              refine AW.skip ?_
              refine thenN ?_
              refine AW.seq ?_
              refine AW.region ?_
              refine AOL.p (P_load_ptr_agg (l := [.int .i64 _, .str _, .str _, .int .i64 _, _, .int .i64 _]) tok rfl rfl rfl rfl rfl) rfl ?_
              refine AOL.e (E_store (k := 0) (v := .agg _) (cs' := [.int .i64 _, .str _, .str _, .int .i64 _, _, .int .i64 _]) (H2 := _ :: _ :: _) tok rfl rfl rfl rfl rfl rfl rfl rfl rfl) rfl ?_
              rintro _ _ ⟨rfl, rfl⟩
              refine AOL.nil ?_
              refine thenN ?_
              refine AW.ret ?_
              refine ⟨.inr rfl, [.agg [.int .i64 _, .str _, .str _, .int .i64 _, _, .int .i64 _]], .cons (.box _ _ _ 0 _ _ _ _ rfl rfl rfl rfl rfl rfl) <| .nil, _, .cons _ (.refl _), ?_⟩
              refine ⟨?_, congrArg (fun c => HO.box bp 60 c :: H) ?_⟩
              · try simp only [resOf, cmpR, cSyn, List.map_cons, List.map_nil, encS_eq, hc1, hc2, hc3, hc4, hc5, hc6, ↓reduceIte, Bool.false_eq_true, Bool.not_true, Bool.not_false]
                try rfl
              · try simp only [cP, cmpR, hc1, hc2, hc3, hc4, hc5, hc6, ↓reduceIte, Bool.false_eq_true, Bool.not_true, Bool.not_false]
                try rfl
set_option maxRecDepth 20000 in
set_option maxHeartbeats 800000 in
theorem r_negation (st : PS) (bp : Nat) (D : Int) (hD : 0 ≤ D) (E : PS → Syn × PS) (hFE : FineR E) (hE : D ≤ 64 → ∀ (st : PS) (bp : Nat), okR (D + 1) st → PCallS Tryz.prog 31 bp 60 (cP st) (cP (E st).2) [.val (.pointer (some ⟨bp, 0, none⟩))] (.agg (cSyn (E st).1))) (N : PS → Syn × PS) (hFN : FineR N) (hN : D ≤ 64 → ∀ (st : PS) (bp : Nat), okR (D + 1) st → PCallS Tryz.prog 80 bp 60 (cP st) (cP (N st).2) [.val (.pointer (some ⟨bp, 0, none⟩))] (.agg (cSyn (N st).1))) (hO : okR D st) : PCallS Tryz.prog 80 bp 60 (cP st) (cP ((notR E N st).2)) [.val (.pointer (some ⟨bp, 0, none⟩))] (.agg (cSyn (notR E N st).1)) := by
  intro H
  have hS := hO.1
  refine ACall.body (n := 28) tok Tryz.func80 rfl rfl rfl ?_
  refine AW.seq ?_
  refine AW.region ?_
  refine AOL.e (E_alloc (l := [.int .i64 0, .str [], .str [], .int .i64 0, .sl 6 [], .int .i64 0]) (by kernel_rfl)) rfl ?_
  rintro _ _ ⟨b2, rfl, rfl⟩
  refine AOL.nil ?_
  refine thenN ?_
  refine AW.seq ?_
  refine AW.seq ?_
  refine AW.region ?_
  refine AOL.p (P_move (v := .val _) rfl) rfl ?_
  refine AOL.pk (P_callf_k (k := 1) (by kernel_rfl) rfl rfl (r_is _ _ _)) rfl rfl ?_
  refine AOL.p (P_not rfl) rfl ?_
  refine AOL.nil ?_
  refine thenN ?_
  refine AW.cond (b := _) rfl (fun hc1 => ?_) (fun hc1 => ?_)
  · skip
    try simp only [Bool.not_eq_true', Bool.not_eq_false'] at hc1
    refine AW.seq ?_
    refine AW.region ?_
    refine AOL.p (P_move (v := .val _) rfl) rfl ?_
    refine AOL.e (E_callf (by kernel_rfl) rfl rfl ((r_compare st bp D hD E hFE hE hO).at (k := 1) (H2 := _ :: _ :: _) rfl rfl)) rfl ?_
    rintro _ _ ⟨rfl, rfl⟩
    refine AOL.e (E_store (k := 0) (v := .agg _) (cs' := [.int .i64 _, .str _, .str _, .int .i64 _, _, .int .i64 _]) (H2 := _ :: _ :: _) tok rfl rfl rfl rfl rfl rfl rfl rfl rfl) rfl ?_
    rintro _ _ ⟨rfl, rfl⟩
    refine AOL.nil ?_
    refine thenN ?_
    refine AW.ret ?_
    refine thenR ?_
    refine ⟨.inr rfl, [.agg [.int .i64 _, .str _, .str _, .int .i64 _, _, .int .i64 _]], .cons (.box _ _ _ 0 _ _ _ _ rfl rfl rfl rfl rfl rfl) <| .nil, _, .cons _ (.refl _), ?_⟩
    refine ⟨?_, congrArg (fun c => HO.box bp 60 c :: H) ?_⟩
    · try simp only [resOf, notR, cSyn, List.map_cons, List.map_nil, encS_eq, hc1, ↓reduceIte, Bool.false_eq_true, Bool.not_true, Bool.not_false]
      try rfl
    · try simp only [cP, notR, hc1, ↓reduceIte, Bool.false_eq_true, Bool.not_true, Bool.not_false]
      try rfl
  · skip
    try simp only [Bool.not_eq_true', Bool.not_eq_false'] at hc1
    have hb := isR_good hc1
    have hd64 : D ≤ 64 := by have := hO.2.2 hb; have := hO.2.1.2.2 hb; omega
    have hex : okR (D + 1) (expR w_tnot (openR st)) := (GoR.exp _ _).ok (open_ok hD hO hb).1
    refine AW.skip ?_
    refine thenN ?_
    refine AW.seq ?_
    refine AW.region ?_
    refine AOL.p (P_move (v := .val _) rfl) rfl ?_
    refine AOL.pk (P_callf_k (k := 1) (by kernel_rfl) rfl rfl (r_offset _ _)) rfl rfl ?_
    refine AOL.p (P_build (l := [.int .i64 _, .str _, .str _, .int .i64 _, _, .int .i64 _]) tok rfl rfl rfl) rfl ?_
    refine AOL.e (E_alloc (l := [.int .i64 0, .str [], .str [], .int .i64 0, .sl 6 [], .int .i64 0]) (by kernel_rfl)) rfl ?_
    rintro _ _ ⟨b3, rfl, rfl⟩
    refine AOL.e (E_store (k := 0) (v := .agg _) (cs' := [.int .i64 _, .str _, .str _, .int .i64 _, _, .int .i64 _]) (H2 := _ :: _ :: _ :: _) tok rfl rfl rfl rfl rfl rfl rfl rfl rfl) rfl ?_
    rintro _ _ ⟨rfl, rfl⟩
    refine AOL.nil ?_
    refine thenN ?_
    refine AW.seq ?_
    refine AW.region ?_
    refine AOL.p (P_move (v := .val _) rfl) rfl ?_
    refine AOL.e (E_callf (by kernel_rfl) rfl rfl ((r_open _ _).at (k := 2) (H2 := _ :: _ :: _ :: _) rfl rfl)) rfl ?_
    rintro _ _ ⟨rfl, rfl⟩
    refine AOL.nil ?_
    refine thenN ?_
    refine AW.seq ?_
    refine AW.region ?_
    refine AOL.p (P_move (v := .val _) rfl) rfl ?_
    refine AOL.e (E_callf (by kernel_rfl) rfl rfl ((r_expect _ _ _ (by simpa using hS)).at (k := 2) (H2 := _ :: _ :: _ :: _) rfl rfl)) rfl ?_
    rintro _ _ ⟨rfl, rfl⟩
    refine AOL.nil ?_
    refine thenN ?_
    refine AW.seq ?_
    refine AW.region ?_
    refine AOL.p (P_move (v := .val _) rfl) rfl ?_
    refine AOL.e (E_callf (by kernel_rfl) rfl rfl ((hN hd64 _ bp hex).at (k := 2) (H2 := _ :: _ :: _ :: _) rfl rfl)) rfl ?_
    rintro _ _ ⟨rfl, rfl⟩
    refine AOL.p (P_buildSlice (es := [[.int .i64 _, .str _, .str _, .int .i64 _, _, .int .i64 _]]) tok rfl rfl rfl rfl rfl rfl rfl rfl rfl) rfl ?_
    refine AOL.p (P_fieldAddr_val tok rfl rfl rfl rfl rfl rfl) rfl ?_
    refine AOL.e (E_store (k := 0) (v := .sl _ _) (cs' := [.int .i64 _, .str _, .str _, .int .i64 _, _, .int .i64 _]) (H2 := _ :: _ :: _ :: _) tok rfl rfl rfl rfl rfl rfl rfl rfl rfl) rfl ?_
    rintro _ _ ⟨rfl, rfl⟩
    refine AOL.nil ?_
    refine thenN ?_
    refine AW.seq ?_
    refine AW.region ?_
    refine AOL.p (P_move (v := .val _) rfl) rfl ?_
    refine AOL.p (P_nilCheck rfl) rfl ?_
    refine AOL.p (P_fieldAddr_val tok rfl rfl rfl rfl rfl rfl) rfl ?_
    refine AOL.pk (P_load_box (k := 2) (c := .int .i64 _) tok rfl rfl rfl rfl) rfl rfl ?_
    refine AOL.p (P_subw rfl rfl) rfl ?_
    refine AOL.p (P_nilCheck rfl) rfl ?_
    refine AOL.p (P_fieldAddr_val tok rfl rfl rfl rfl rfl rfl) rfl ?_
    refine AOL.e (E_store (k := 2) (v := .int .i64 _) (cs' := [_, .int .i64 _, .int .i64 _, .int .i64 _, .int .i64 _, .int .i64 _]) (H2 := _ :: _ :: _ :: _) tok rfl rfl rfl rfl rfl rfl rfl rfl rfl) rfl ?_
    rintro _ _ ⟨rfl, rfl⟩
    refine AOL.nil ?_
    refine thenN ?_
    refine AW.seq ?_
    refine AW.region ?_
    refine AOL.pk (P_load_box_agg (k := 0) (l := [.int .i64 _, .str _, .str _, .int .i64 _, _, .int .i64 _]) tok rfl rfl rfl rfl rfl) rfl rfl ?_
    refine AOL.e (E_store (k := 1) (v := .agg _) (cs' := [.int .i64 _, .str _, .str _, .int .i64 _, _, .int .i64 _]) (H2 := _ :: _ :: _ :: _) tok rfl rfl rfl rfl rfl rfl rfl rfl rfl) rfl ?_
    rintro _ _ ⟨rfl, rfl⟩
    refine AOL.nil ?_
    refine thenN ?_
    refine AW.ret ?_
    refine ⟨.inr rfl, [.agg [.int .i64 _, .str _, .str _, .int .i64 _, _, .int .i64 _]], .cons (.box _ _ _ 1 _ _ _ _ rfl rfl rfl rfl rfl rfl) <| .nil, _, .cons _ (.cons _ (.refl _)), ?_⟩
    refine ⟨?_, congrArg (fun c => HO.box bp 60 c :: H) ?_⟩
    · try simp only [resOf, notR, cSyn, List.map_cons, List.map_nil, encS_eq, hc1, ↓reduceIte, Bool.false_eq_true, Bool.not_true, Bool.not_false]
      try rfl
    · try simp only [cP, notR, hc1, ↓reduceIte, Bool.false_eq_true, Bool.not_true, Bool.not_false]
      try rfl
set_option maxRecDepth 20000 in
set_option maxHeartbeats 800000 in
theorem r_conjunction (st : PS) (bp : Nat) (D : Int) (hD : 0 ≤ D) (E : PS → Syn × PS) (hFE : FineR E) (hE : D ≤ 64 → ∀ (st : PS) (bp : Nat), okR (D + 1) st → PCallS Tryz.prog 31 bp 60 (cP st) (cP (E st).2) [.val (.pointer (some ⟨bp, 0, none⟩))] (.agg (cSyn (E st).1))) (N : PS → Syn × PS) (hFN : FineR N) (hN : D ≤ 64 → ∀ (st : PS) (bp : Nat), okR (D + 1) st → PCallS Tryz.prog 80 bp 60 (cP st) (cP (N st).2) [.val (.pointer (some ⟨bp, 0, none⟩))] (.agg (cSyn (N st).1))) (hO : okR D st) : PCallS Tryz.prog 59 bp 60 (cP st) (cP ((andR E N st).2)) [.val (.pointer (some ⟨bp, 0, none⟩))] (.agg (cSyn (andR E N st).1)) := by
  intro H
  have hS := hO.1
  refine ACall.body (n := 15) tok Tryz.func59 rfl rfl rfl ?_
  refine AW.seq ?_
  refine AW.region ?_
  refine AOL.e (E_alloc (l := [.int .i64 0, .str [], .str [], .int .i64 0, .sl 6 [], .int .i64 0]) (by kernel_rfl)) rfl ?_
  rintro _ _ ⟨b2, rfl, rfl⟩
  refine AOL.nil ?_
  refine thenN ?_
  refine AW.seq ?_
  refine AW.region ?_
  refine AOL.p (P_move (v := .val _) rfl) rfl ?_
  refine AOL.e (E_callf (by kernel_rfl) rfl rfl ((r_negation st bp D hD E hFE hE N hFN hN hO).at (k := 1) (H2 := _ :: _ :: _) rfl rfl)) rfl ?_
  rintro _ _ ⟨rfl, rfl⟩
  refine AOL.e (E_alloc (l := [.int .i64 0, .str [], .str [], .int .i64 0, .sl 6 [], .int .i64 0]) (by kernel_rfl)) rfl ?_
  rintro _ _ ⟨b3, rfl, rfl⟩
  refine AOL.e (E_store (k := 0) (v := .agg _) (cs' := [.int .i64 _, .str _, .str _, .int .i64 _, _, .int .i64 _]) (H2 := _ :: _ :: _ :: _) tok rfl rfl rfl rfl rfl rfl rfl rfl rfl) rfl ?_
  rintro _ _ ⟨rfl, rfl⟩
  refine AOL.nil ?_
  refine thenN ?_
  refine AW.seq ?_
  refine AW.block ?_
  refine AW.loopS (fun (p : Nat × PS × Syn) => (⟨[(0, .val (.pointer (some ⟨bp, 0, none⟩))), (2, .val (.pointer (some ⟨b2, 0, none⟩))), (3, .val (.pointer (some ⟨b3, 0, none⟩)))], .box b3 26 (cSyn p.2.2) :: .box b2 26 (cSyn synZ) :: .box bp 60 (cP p.2.1) :: H, 15⟩ : St)) (fun (p : Nat × PS × Syn) => okR D p.2.1 ∧ fuel p.2.1 ≤ p.1 ∧ andR E N st = chainGoR w_tand 10 (notR E N) p.1 p.2.1 p.2.2) (fun (p : Nat × PS × Syn) => p.1) ((fuel ((notR E N) st).2, ((notR E N) st).2, ((notR E N) st).1)) ?_ (GS.weaken ⟨rfl, rfl, rfl, trivial⟩ (.refl _)) ?_
  · exact ⟨((fineR_not hFE hFN) st hO.2.1).ok hO, Nat.le_refl _, rfl⟩
  · rintro p hR
    have hO2 : okR D p.2.1 := hR.1
    have hS := hO2.1
    have hfu : fuel p.2.1 ≤ p.1 := hR.2.1
    have hn : 0 < p.1 := by unfold fuel at hfu; omega
    refine AW.seq ?_
    refine AW.seq ?_
    refine AW.region ?_
    refine AOL.p (P_move (v := .val _) rfl) rfl ?_
    refine AOL.e (E_callf (by kernel_rfl) rfl rfl ((r_accept _ _ _ (by simpa using hS)).at (k := 2) (H2 := _ :: _ :: _ :: _) rfl rfl)) rfl ?_
    rintro _ _ ⟨rfl, rfl⟩
    refine AOL.nil ?_
    refine thenN ?_
    refine AW.cond (b := _) rfl (fun hc1 => ?_) (fun hc1 => ?_)
    · skip
      try simp only [Bool.not_eq_true', Bool.not_eq_false'] at hc1
      have hlt := isR_lt hc1
      have hml := hS.1
      have hex : okR D (adv p.2.1) := (GoR.adv _).ok hO2
      have hFa := (fineR_not hFE hFN) (adv p.2.1) hex.2.1
      have hps : p.2.1.pos + 1 ≤ ((notR E N) (adv p.2.1)).2.pos := hFa.1.2.1
      have hts : ((notR E N) (adv p.2.1)).2.toks = p.2.1.toks := hFa.1.1
      refine AW.ghost (GS.cellsTo (H2 := _ :: _ :: _ :: _) 2 rfl (congrArg cP (accR_yes hc1)) rfl) ?_
      refine AW.skip ?_
      refine thenN ?_
      refine AW.block ?_
      refine AW.draw mixed (fun H' => _ ∈ H') (List.mem_of_getElem? (i := 0) rfl) (by kernel_rfl) ?_
      refine Canon.pure _ _ 0 _ _ rfl (by kernel_rfl) (by kernel_rfl) rfl (.run rfl (OpP.mem (fun k => P_load_box_agg (k := k) (l := [.int .i64 _, .str _, .str _, .int .i64 _, _, .int .i64 _]) tok rfl rfl rfl rfl rfl) (fun _ h => h))) ?_
      refine Canon.pure _ _ 1 _ _ rfl (by kernel_rfl) (by kernel_rfl) rfl (.run rfl (P_move (v := .val _) rfl)) ?_
      refine Canon.pure _ _ 3 _ _ rfl (by kernel_rfl) (by kernel_rfl) rfl (.run rfl (P_fieldAddr_val tok rfl rfl rfl rfl rfl rfl)) ?_
      refine Canon.pure _ _ 4 _ _ rfl (by kernel_rfl) (by kernel_rfl) rfl (.run rfl (OpP.mem (fun k => P_load_box (k := k) (c := .int .i64 _) tok rfl rfl rfl rfl) (fun _ h => h))) ?_
      refine Canon.eff _ _ 2 _ _ rfl (by kernel_rfl) rfl rfl (E_callf (by kernel_rfl) rfl rfl ((r_negation _ bp D hD E hFE hE N hFN hN hex).at (k := 2) (H2 := _ :: _ :: _ :: _) rfl rfl)) (by rintro _ _ ⟨rfl, rfl⟩; simp) ?_
      rintro _ _ ⟨rfl, rfl⟩
      refine Canon.pure _ _ 5 _ _ rfl (by kernel_rfl) (by kernel_rfl) rfl (.run rfl (P_callf (by kernel_rfl) rfl rfl (r_joined _ _ _ _))) ?_
      refine Canon.last _ _ 6 _ _ rfl (by kernel_rfl) rfl rfl (E_store (k := 0) (v := .agg _) (cs' := [.int .i64 _, .str _, .str _, .int .i64 _, _, .int .i64 _]) (H2 := _ :: _ :: _ :: _) tok rfl rfl rfl rfl rfl rfl rfl rfl rfl) (by kernel_rfl) ?_
      rintro _ _ ⟨rfl, rfl⟩
      refine blkN ?_
      refine thenN ?_
      refine ⟨(p.1 - 1, ((notR E N) (adv p.2.1)).2, binS 10 p.2.2 ((notR E N) (adv p.2.1)).1 p.2.2.pos), ?_, ?_, GS.weaken ⟨rfl, rfl, rfl, trivial⟩ (.refl _)⟩
      · exact ⟨hFa.ok hex, by unfold fuel at hfu ⊢; rw [hts]; simp only; omega, hR.2.2.trans (by rw [chainGoR_pos hn, if_pos hc1])⟩
      · simp only; omega
    · skip
      try simp only [Bool.not_eq_true', Bool.not_eq_false'] at hc1
      refine AW.ghost (GS.cellsTo (H2 := _ :: _ :: _ :: _) 2 rfl (congrArg cP (accR_no hc1)) rfl) ?_
      refine AW.exit ?_
      refine thenE ?_
      refine thenE ?_
      refine blkHit ?_
      refine thenN ?_
      refine AW.seq ?_
      refine AW.region ?_
      refine AOL.pk (P_load_box_agg (k := 0) (l := [.int .i64 _, .str _, .str _, .int .i64 _, _, .int .i64 _]) tok rfl rfl rfl rfl rfl) rfl rfl ?_
      refine AOL.e (E_store (k := 1) (v := .agg _) (cs' := [.int .i64 _, .str _, .str _, .int .i64 _, _, .int .i64 _]) (H2 := _ :: _ :: _ :: _) tok rfl rfl rfl rfl rfl rfl rfl rfl rfl) rfl ?_
      rintro _ _ ⟨rfl, rfl⟩
      refine AOL.nil ?_
      refine thenN ?_
      refine AW.ret ?_
      refine ⟨.inr rfl, [.agg [.int .i64 _, .str _, .str _, .int .i64 _, _, .int .i64 _]], .cons (.box _ _ _ 1 _ _ _ _ rfl rfl rfl rfl rfl rfl) <| .nil, _, .cons _ (.cons _ (.refl _)), ?_⟩
      have h9 : andR E N st = (p.2.2, p.2.1) := hR.2.2.trans (by rw [chainGoR_pos hn, if_neg (Bool.eq_false_iff.mp hc1)])
      exact ⟨by rw [h9]; rfl, congrArg (fun s => HO.box bp 60 (cP s) :: H) (by rw [h9])⟩
set_option maxRecDepth 20000 in
set_option maxHeartbeats 800000 in
theorem r_expr (st : PS) (bp : Nat) (D : Int) (hD : 0 ≤ D) (E : PS → Syn × PS) (hFE : FineR E) (hE : D ≤ 64 → ∀ (st : PS) (bp : Nat), okR (D + 1) st → PCallS Tryz.prog 31 bp 60 (cP st) (cP (E st).2) [.val (.pointer (some ⟨bp, 0, none⟩))] (.agg (cSyn (E st).1))) (N : PS → Syn × PS) (hFN : FineR N) (hN : D ≤ 64 → ∀ (st : PS) (bp : Nat), okR (D + 1) st → PCallS Tryz.prog 80 bp 60 (cP st) (cP (N st).2) [.val (.pointer (some ⟨bp, 0, none⟩))] (.agg (cSyn (N st).1))) (hO : okR D st) : PCallS Tryz.prog 31 bp 60 (cP st) (cP ((orR E N st).2)) [.val (.pointer (some ⟨bp, 0, none⟩))] (.agg (cSyn (orR E N st).1)) := by
  intro H
  have hS := hO.1
  refine ACall.body (n := 15) tok Tryz.func31 rfl rfl rfl ?_
  refine AW.seq ?_
  refine AW.region ?_
  refine AOL.e (E_alloc (l := [.int .i64 0, .str [], .str [], .int .i64 0, .sl 6 [], .int .i64 0]) (by kernel_rfl)) rfl ?_
  rintro _ _ ⟨b2, rfl, rfl⟩
  refine AOL.nil ?_
  refine thenN ?_
  refine AW.seq ?_
  refine AW.region ?_
  refine AOL.p (P_move (v := .val _) rfl) rfl ?_
  refine AOL.e (E_callf (by kernel_rfl) rfl rfl ((r_conjunction st bp D hD E hFE hE N hFN hN hO).at (k := 1) (H2 := _ :: _ :: _) rfl rfl)) rfl ?_
  rintro _ _ ⟨rfl, rfl⟩
  refine AOL.e (E_alloc (l := [.int .i64 0, .str [], .str [], .int .i64 0, .sl 6 [], .int .i64 0]) (by kernel_rfl)) rfl ?_
  rintro _ _ ⟨b3, rfl, rfl⟩
  refine AOL.e (E_store (k := 0) (v := .agg _) (cs' := [.int .i64 _, .str _, .str _, .int .i64 _, _, .int .i64 _]) (H2 := _ :: _ :: _ :: _) tok rfl rfl rfl rfl rfl rfl rfl rfl rfl) rfl ?_
  rintro _ _ ⟨rfl, rfl⟩
  refine AOL.nil ?_
  refine thenN ?_
  refine AW.seq ?_
  refine AW.block ?_
  refine AW.loopS (fun (p : Nat × PS × Syn) => (⟨[(0, .val (.pointer (some ⟨bp, 0, none⟩))), (2, .val (.pointer (some ⟨b2, 0, none⟩))), (3, .val (.pointer (some ⟨b3, 0, none⟩)))], .box b3 26 (cSyn p.2.2) :: .box b2 26 (cSyn synZ) :: .box bp 60 (cP p.2.1) :: H, 15⟩ : St)) (fun (p : Nat × PS × Syn) => okR D p.2.1 ∧ fuel p.2.1 ≤ p.1 ∧ orR E N st = chainGoR w_tor 11 (andR E N) p.1 p.2.1 p.2.2) (fun (p : Nat × PS × Syn) => p.1) ((fuel ((andR E N) st).2, ((andR E N) st).2, ((andR E N) st).1)) ?_ (GS.weaken ⟨rfl, rfl, rfl, trivial⟩ (.refl _)) ?_
  · exact ⟨((fineR_and hFE hFN) st hO.2.1).ok hO, Nat.le_refl _, rfl⟩
  · rintro p hR
    have hO2 : okR D p.2.1 := hR.1
    have hS := hO2.1
    have hfu : fuel p.2.1 ≤ p.1 := hR.2.1
    have hn : 0 < p.1 := by unfold fuel at hfu; omega
    refine AW.seq ?_
    refine AW.seq ?_
    refine AW.region ?_
    refine AOL.p (P_move (v := .val _) rfl) rfl ?_
    refine AOL.e (E_callf (by kernel_rfl) rfl rfl ((r_accept _ _ _ (by simpa using hS)).at (k := 2) (H2 := _ :: _ :: _ :: _) rfl rfl)) rfl ?_
    rintro _ _ ⟨rfl, rfl⟩
    refine AOL.nil ?_
    refine thenN ?_
    refine AW.cond (b := _) rfl (fun hc1 => ?_) (fun hc1 => ?_)
    · skip
      try simp only [Bool.not_eq_true', Bool.not_eq_false'] at hc1
      have hlt := isR_lt hc1
      have hml := hS.1
      have hex : okR D (adv p.2.1) := (GoR.adv _).ok hO2
      have hFa := (fineR_and hFE hFN) (adv p.2.1) hex.2.1
      have hps : p.2.1.pos + 1 ≤ ((andR E N) (adv p.2.1)).2.pos := hFa.1.2.1
      have hts : ((andR E N) (adv p.2.1)).2.toks = p.2.1.toks := hFa.1.1
      refine AW.ghost (GS.cellsTo (H2 := _ :: _ :: _ :: _) 2 rfl (congrArg cP (accR_yes hc1)) rfl) ?_
      refine AW.skip ?_
      refine thenN ?_
      refine AW.block ?_
      refine AW.draw mixed (fun H' => _ ∈ H') (List.mem_of_getElem? (i := 0) rfl) (by kernel_rfl) ?_
      refine Canon.pure _ _ 0 _ _ rfl (by kernel_rfl) (by kernel_rfl) rfl (.run rfl (OpP.mem (fun k => P_load_box_agg (k := k) (l := [.int .i64 _, .str _, .str _, .int .i64 _, _, .int .i64 _]) tok rfl rfl rfl rfl rfl) (fun _ h => h))) ?_
      refine Canon.pure _ _ 1 _ _ rfl (by kernel_rfl) (by kernel_rfl) rfl (.run rfl (P_move (v := .val _) rfl)) ?_
      refine Canon.pure _ _ 3 _ _ rfl (by kernel_rfl) (by kernel_rfl) rfl (.run rfl (P_fieldAddr_val tok rfl rfl rfl rfl rfl rfl)) ?_
      refine Canon.pure _ _ 4 _ _ rfl (by kernel_rfl) (by kernel_rfl) rfl (.run rfl (OpP.mem (fun k => P_load_box (k := k) (c := .int .i64 _) tok rfl rfl rfl rfl) (fun _ h => h))) ?_
      refine Canon.eff _ _ 2 _ _ rfl (by kernel_rfl) rfl rfl (E_callf (by kernel_rfl) rfl rfl ((r_conjunction _ bp D hD E hFE hE N hFN hN hex).at (k := 2) (H2 := _ :: _ :: _ :: _) rfl rfl)) (by rintro _ _ ⟨rfl, rfl⟩; simp) ?_
      rintro _ _ ⟨rfl, rfl⟩
      refine Canon.pure _ _ 5 _ _ rfl (by kernel_rfl) (by kernel_rfl) rfl (.run rfl (P_callf (by kernel_rfl) rfl rfl (r_joined _ _ _ _))) ?_
      refine Canon.last _ _ 6 _ _ rfl (by kernel_rfl) rfl rfl (E_store (k := 0) (v := .agg _) (cs' := [.int .i64 _, .str _, .str _, .int .i64 _, _, .int .i64 _]) (H2 := _ :: _ :: _ :: _) tok rfl rfl rfl rfl rfl rfl rfl rfl rfl) (by kernel_rfl) ?_
      rintro _ _ ⟨rfl, rfl⟩
      refine blkN ?_
      refine thenN ?_
      refine ⟨(p.1 - 1, ((andR E N) (adv p.2.1)).2, binS 11 p.2.2 ((andR E N) (adv p.2.1)).1 p.2.2.pos), ?_, ?_, GS.weaken ⟨rfl, rfl, rfl, trivial⟩ (.refl _)⟩
      · exact ⟨hFa.ok hex, by unfold fuel at hfu ⊢; rw [hts]; simp only; omega, hR.2.2.trans (by rw [chainGoR_pos hn, if_pos hc1])⟩
      · simp only; omega
    · skip
      try simp only [Bool.not_eq_true', Bool.not_eq_false'] at hc1
      refine AW.ghost (GS.cellsTo (H2 := _ :: _ :: _ :: _) 2 rfl (congrArg cP (accR_no hc1)) rfl) ?_
      refine AW.exit ?_
      refine thenE ?_
      refine thenE ?_
      refine blkHit ?_
      refine thenN ?_
      refine AW.seq ?_
      refine AW.region ?_
      refine AOL.pk (P_load_box_agg (k := 0) (l := [.int .i64 _, .str _, .str _, .int .i64 _, _, .int .i64 _]) tok rfl rfl rfl rfl rfl) rfl rfl ?_
      refine AOL.e (E_store (k := 1) (v := .agg _) (cs' := [.int .i64 _, .str _, .str _, .int .i64 _, _, .int .i64 _]) (H2 := _ :: _ :: _ :: _) tok rfl rfl rfl rfl rfl rfl rfl rfl rfl) rfl ?_
      rintro _ _ ⟨rfl, rfl⟩
      refine AOL.nil ?_
      refine thenN ?_
      refine AW.ret ?_
      refine ⟨.inr rfl, [.agg [.int .i64 _, .str _, .str _, .int .i64 _, _, .int .i64 _]], .cons (.box _ _ _ 1 _ _ _ _ rfl rfl rfl rfl rfl rfl) <| .nil, _, .cons _ (.cons _ (.refl _)), ?_⟩
      have h9 : orR E N st = (p.2.2, p.2.1) := hR.2.2.trans (by rw [chainGoR_pos hn, if_neg (Bool.eq_false_iff.mp hc1)])
      exact ⟨by rw [h9]; rfl, congrArg (fun s => HO.box bp 60 (cP s) :: H) (by rw [h9])⟩
theorem okR_le {D E : Int} {st : PS} (h : okR D st) (he : E ≤ D) : okR E st := ⟨h.1, h.2.1, fun e => Int.le_trans he (h.2.2 e)⟩
theorem neg_allR : ∀ (n : Nat), n ≤ 65 → (∀ (st : PS) (bp : Nat), okR (65 - (n : Int)) st → PCallS Tryz.prog 80 bp 60 (cP st) (cP ((negNR n).1 st).2) [.val (.pointer (some ⟨bp, 0, none⟩))] (.agg (cSyn ((negNR n).1 st).1))) ∧ (∀ (st : PS) (bp : Nat), okR (65 - (n : Int)) st → PCallS Tryz.prog 31 bp 60 (cP st) (cP ((negNR n).2 st).2) [.val (.pointer (some ⟨bp, 0, none⟩))] (.agg (cSyn ((negNR n).2 st).1)))
  | 0, _ => ⟨fun st bp hO => r_negation st bp 65 (by decide) dullP fineR_dull (fun h => absurd h (by decide)) dullP fineR_dull (fun h => absurd h (by decide)) hO, fun st bp hO => r_expr st bp 65 (by decide) dullP fineR_dull (fun h => absurd h (by decide)) dullP fineR_dull (fun h => absurd h (by decide)) hO⟩
  | n + 1, hn => by
    have ih := neg_allR n (by omega)
    have e : ∀ st, okR (65 - ((n + 1 : Nat) : Int) + 1) st → okR (65 - (n : Int)) st := fun st h => okR_le h (by omega)
    have hD : 0 ≤ 65 - ((n + 1 : Nat) : Int) := by omega
    exact ⟨fun st bp hO => r_negation st bp _ hD (negNR n).2 (fineR_neg n).2 (fun _ s b h => ih.2 s b (e s h)) (negNR n).1 (fineR_neg n).1 (fun _ s b h => ih.1 s b (e s h)) hO, fun st bp hO => r_expr st bp _ hD (negNR n).2 (fineR_neg n).2 (fun _ s b h => ih.2 s b (e s h)) (negNR n).1 (fineR_neg n).1 (fun _ s b h => ih.1 s b (e s h)) hO⟩
theorem fine_EER : FineR EER := (fineR_neg 65).2
theorem r_EER (st : PS) (bp : Nat) (h : okR 0 st) : PCallS Tryz.prog 31 bp 60 (cP st) (cP (EER st).2) [.val (.pointer (some ⟨bp, 0, none⟩))] (.agg (cSyn (EER st).1)) := (neg_allR 65 (Nat.le_refl _)).2 st bp h

end Go.Proofs.YtpgmglacdcfnaaaGreatDoor
