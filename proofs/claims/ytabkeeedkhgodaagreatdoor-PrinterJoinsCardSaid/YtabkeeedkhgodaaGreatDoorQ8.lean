/-
  The text of a program: what stands in it, and what does not. No program in sight. No condition.
-/
import Derived.Test.YtabkeeedkhgodaaGreatDoorQ7
namespace Go.Proofs.YtabkeeedkhgodaaGreatDoor
open Go Go.Aw
set_option linter.unusedVariables false
set_option linter.unusedSimpArgs false
set_option maxRecDepth 100000

/-- The text of the first kids. -/
def firstT (t : Syn) (j : Nat) : Str := ((t.kids.take j).map writeC).flatten
theorem firstT_succ {t x : Syn} {j : Nat} (h : t.kids[j]? = some x) : firstT t (j + 1) = firstT t j ++ writeC x := by
  obtain ⟨h1, rfl⟩ := List.getElem?_eq_some_iff.1 h
  unfold firstT
  rw [List.take_succ_eq_append_getElem h1, List.map_append, List.flatten_append]
  simp
theorem firstT_all {t : Syn} (h : t.kind = 0) : firstT t t.kids.length = writeC t := by
  unfold firstT
  rw [List.take_length, writeC_eq]
  unfold nodeT
  rw [h]
  rfl
theorem suf_app (a b : Str) : Lib.hasSuffix (a ++ b) b = true := by
  unfold Lib.hasSuffix
  rw [List.isSuffixOf_iff_suffix]
  exact List.suffix_append a b
theorem trim_app (a b : Str) : Lib.trimSuffix (a ++ b) b = a := by
  unfold Lib.trimSuffix
  rw [suf_app]
  simp
theorem con_app (a b c : Str) : Lib.contains (a ++ b ++ c) b = true := by
  unfold Lib.contains
  rcases Lib.index_spec (a ++ b ++ c) b with ⟨h1, h2⟩ | ⟨i, h1, _⟩
  · have h3 := h2 a.length (by simp only [List.length_append]; omega)
    unfold Lib.occAt at h3
    rw [List.append_assoc, List.drop_left] at h3
    have : b.isPrefixOf (b ++ c) = true := by rw [List.isPrefixOf_iff_prefix]; exact List.prefix_append b c
    rw [this] at h3; cases h3
  · rw [h1]; exact decide_eq_true (by omega)
/-- No line begins with m. -/
def calm : Str → Prop
  | [] => True
  | c :: r => (c = 10 → r.head? ≠ some 109) ∧ calm r
theorem calm_drop : ∀ {s : Str} (j : Nat), calm s → calm (s.drop j)
  | s, 0, h => h
  | [], j + 1, _ => by simp [calm]
  | c :: r, j + 1, h => by rw [List.drop_succ_cons]; exact calm_drop j h.2
theorem calm_no {s w : Str} (h : calm s) : Lib.contains s (10 :: 109 :: w) = false := by
  unfold Lib.contains
  rw [Lib.index_none fun j hj => ?_]
  · decide
  unfold Lib.occAt
  have h1 := calm_drop j h
  cases hq : s.drop j with
  | nil => rfl
  | cons c r =>
    rw [hq] at h1
    cases r with
    | nil => simp [List.isPrefixOf]
    | cons d q =>
      by_cases hc : c = 10
      · have := h1.1 hc
        have hd : d ≠ 109 := fun e => this (by rw [e]; rfl)
        have : ((109 : UInt8) == d) = false := by rw [beq_eq_false_iff_ne]; exact fun e => hd e.symm
        simp [List.isPrefixOf, this]
      · have : ((10 : UInt8) == c) = false := by rw [beq_eq_false_iff_ne]; exact fun e => hc e.symm
        simp [List.isPrefixOf, this]
theorem calm_app : ∀ {a b : Str}, 10 ∉ a → calm b → calm (a ++ b)
  | [], b, _, h => h
  | c :: r, b, ha, h => ⟨fun e => absurd (by rw [e]; exact List.mem_cons_self ..) ha, calm_app (fun e => ha (List.mem_cons_of_mem _ e)) h⟩
/-! What a name holds. -/
theorem span_mem {p : UInt8 → Bool} : ∀ {s : Str}, spanS p s = s.length → ∀ c ∈ s, p c = true
  | [], _, c, h => by cases h
  | x :: r, h, c, hc => by
    unfold spanS at h
    split at h
    · rename_i h1
      rw [List.length_cons] at h
      rcases List.mem_cons.1 hc with rfl | hc
      · exact h1
      · exact span_mem (s := r) (by omega) c hc
    · rw [List.length_cons] at h; omega
theorem name_calm {s : Str} (h : nmS s = true) : 10 ∉ s := fun hc => by
  have := span_mem (name_is h).2.2.2.1 10 hc
  exact absurd this (by decide)
theorem join_mem : ∀ {ws : List Str} {c : UInt8}, c ∈ joinC ws → c = 44 ∨ c = 32 ∨ ∃ w ∈ ws, c ∈ w
  | [], c, h => by simp [joinC] at h
  | [x], c, h => .inr (.inr ⟨x, by simp, h⟩)
  | x :: y :: r, c, h => by
    rw [joinC] at h
    rcases List.mem_append.1 h with h | h
    · rcases List.mem_append.1 h with h | h
      · exact .inr (.inr ⟨x, by simp, h⟩)
      · simp only [List.mem_cons, List.not_mem_nil, or_false] at h
        rcases h with h | h
        · exact .inl h
        · exact .inr (.inl h)
    · rcases join_mem h with h | h | ⟨w, h1, h2⟩
      · exact .inl h
      · exact .inr (.inl h)
      · exact .inr (.inr ⟨w, List.mem_cons_of_mem _ h1, h2⟩)
theorem kind_calm (n : Int) : 10 ∉ kindT n := by
  unfold kindT
  repeat' split
  all_goals decide
theorem field_calm {a : Syn} (h : checkC a (.only 2) = 0) : 10 ∉ writeC a := by
  obtain ⟨hk, hs, hn, hf⟩ := own_at (ok_own h).1
  replace hk := only_at hk
  rw [writeC_eq]
  have e1 : ∀ ws, nodeT a ws = a.text ++ [58, 32] ++ kindT a.num := fun ws => by unfold nodeT; rw [hk]; rfl
  rw [e1]
  have h1 := name_calm (name_of hn (by rw [hk]; rfl) (by omega))
  have h2 := kind_calm a.num
  simp only [List.mem_append, List.mem_cons, List.not_mem_nil, or_false, not_or]
  exact ⟨⟨h1, by decide, by decide⟩, h2⟩
theorem type_calm {a : Syn} (h : checkC a (.only 1) = 0) : ∃ w, writeC a = w_ttype ++ [32] ++ w ++ [10] ∧ 10 ∉ w := by
  obtain ⟨hk, hs, hn, hf⟩ := own_at (ok_own h).1
  replace hk := only_at hk
  rw [writeC_eq]
  have e1 : ∀ ws, nodeT a ws = w_ttype ++ [32] ++ a.text ++ [32, 123] ++ (if ws == [] then [] else [32] ++ joinC ws ++ [32]) ++ [125, 10] := fun ws => by unfold nodeT; rw [hk]; rfl
  rw [e1]
  refine ⟨a.text ++ [32, 123] ++ (if (a.kids.map writeC) == [] then [] else [32] ++ joinC (a.kids.map writeC) ++ [32]) ++ [125], by simp [List.append_assoc], ?_⟩
  have h1 := name_calm (name_of hn (by rw [hk]; rfl) (by omega))
  have h2 : 10 ∉ joinC (a.kids.map writeC) := fun hc => by
    rcases join_mem hc with h | h | ⟨w, h3, h4⟩
    · exact absurd h (by decide)
    · exact absurd h (by decide)
    · obtain ⟨b, hb, rfl⟩ := List.mem_map.1 h3
      obtain ⟨j, hj⟩ := List.mem_iff_getElem?.1 hb
      have h5 := (kid_ok h hj).1
      have : kidC a j = .only 2 := by unfold kidC; rw [hk]; rfl
      rw [this] at h5
      exact field_calm h5 h4
  have h3 : 10 ∉ (if ((a.kids.map writeC) == []) = true then [] else [32] ++ joinC (a.kids.map writeC) ++ [32] : Str) := by
    split
    · simp
    · simp only [List.mem_append, List.mem_cons, List.not_mem_nil, or_false, not_or]
      exact ⟨⟨by decide, h2⟩, by decide⟩
  simp only [List.mem_append, List.mem_cons, List.not_mem_nil, or_false, not_or] at h3 ⊢
  exact ⟨⟨⟨h1, by decide, by decide⟩, h3⟩, by decide⟩
/-! The kids of a program. -/
section
variable {t : Syn} (h : checkC t (.only 0) = 0)
include h
theorem prog_kind : t.kind = 0 := only_at (own_at (ok_own h).1).1
theorem prog_kid {j : Nat} {x : Syn} (hx : t.kids[j]? = some x) : (x.kind = 3 → checkC x (.only 3) = 0) ∧ (x.kind ≠ 3 → checkC x (.only 1) = 0 ∧ (j = 0 ∨ (kidN t (j - 1)).kind = 1)) := by
  obtain ⟨h1, h2⟩ := kid_ok h hx
  have e : kidC t j = if ((kidN t j).kind == 1) && (((j : Int) == 0) || ((kidN t (j - 1)).kind == 1)) then .only 1 else .only 3 := by
    unfold kidC; rw [prog_kind h]; rfl
  rw [e] at h1 h2
  split at h1
  · rename_i h3
    rw [if_pos h3] at h2
    have hk := only_at h2
    refine ⟨fun h4 => by omega, fun _ => ⟨h1, ?_⟩⟩
    simp only [Bool.and_eq_true, Bool.or_eq_true, beq_iff_eq] at h3
    rcases h3.2 with h5 | h5
    · exact .inl (by omega)
    · exact .inr h5
  · rename_i h3
    rw [if_neg h3] at h2
    have hk := only_at h2
    exact ⟨fun _ => h1, fun h4 => absurd hk h4⟩
theorem prog_types : ∀ (j : Nat) (x : Syn), t.kids[j]? = some x → x.kind ≠ 3 → calm (firstT t (j + 1)) ∧ (firstT t (j + 1)).head? = some 116 ∧ Lib.hasPrefix (firstT t (j + 1)) (w_ttype ++ [32]) = true ∧ ∃ r, firstT t (j + 1) = r ++ [10]
  | j, x, hx, h3 => by
    obtain ⟨h1, h2⟩ := (prog_kid h hx).2 h3
    obtain ⟨w, e, hw⟩ := type_calm h1
    have c1 : calm (writeC x) := by
      rw [e]
      exact calm_app (by
        simp only [List.mem_append, not_or]
        exact ⟨⟨by decide, by decide⟩, hw⟩) ⟨fun _ => by simp, trivial⟩
    have c2 : Lib.hasPrefix (writeC x) (w_ttype ++ [32]) = true := by
      unfold Lib.hasPrefix
      rw [List.isPrefixOf_iff_prefix, e, List.append_assoc]
      exact List.prefix_append _ _
    have c3 : (writeC x).head? = some 116 := by rw [e]; rfl
    rw [firstT_succ hx]
    match j, hx, h2 with
    | 0, hx, h2 =>
      have : firstT t 0 = [] := rfl
      rw [this, List.nil_append]
      exact ⟨c1, c3, c2, _, e⟩
    | j + 1, hx, h2 =>
      have hlt := (List.getElem?_eq_some_iff.1 hx).1
      have hy : t.kids[j]? = some (kidN t j) := by
        unfold kidN
        rw [List.getD_eq_getElem?_getD, List.getElem?_eq_getElem (by omega)]
        rfl
      have hk : (kidN t j).kind = 1 := by
        rcases h2 with h2 | h2
        · omega
        · exact h2
      obtain ⟨d1, d2, d3, r, d4⟩ := prog_types j _ hy (by omega)
      refine ⟨?_, ?_, ?_, firstT t (j + 1) ++ (w_ttype ++ [32] ++ w), by rw [e]; simp [List.append_assoc]⟩
      · have key : ∀ (a b : Str), calm a → calm b → b.head? = some 116 → calm (a ++ b) := by
          intro a
          induction a with
          | nil => intro b _ hb _; exact hb
          | cons c r ih =>
            intro b ha hb hh
            refine ⟨fun e1 => ?_, ih b ha.2 hb hh⟩
            cases r with
            | nil => rw [show ([].append b : Str) = b from rfl, hh]; decide
            | cons d q => exact ha.1 e1
        exact key _ _ d1 c1 c3
      · rw [List.head?_append, d2]; rfl
      · unfold Lib.hasPrefix at d3 ⊢
        rw [List.isPrefixOf_iff_prefix] at d3 ⊢
        exact d3.trans (List.prefix_append _ _)
/-- At the end of the loop. -/
theorem prog_end {j : Nat} (hj : j = 0 ∨ ∃ x, t.kids[j - 1]? = some x ∧ x.kind ≠ 3) : ((firstT t j == []) || Lib.hasPrefix (firstT t j) (w_ttype ++ [32])) = true ∧ Lib.contains (firstT t j) [10, 109, 97, 116, 99, 104, 32] = false := by
  by_cases h0 : j = 0
  · subst h0
    exact ⟨rfl, calm_no (show calm [] from trivial)⟩
  · rcases hj with hj | ⟨x, hx, h3⟩
    · exact absurd hj h0
    · obtain ⟨d1, d2, d3, _⟩ := prog_types h (j - 1) x hx h3
      rw [show j - 1 + 1 = j by omega] at d1 d2 d3
      rw [d3]
      exact ⟨by simp, calm_no d1⟩
end
theorem depthL_mem (k : Int) : ∀ {l : List Syn} {a : Syn}, a ∈ l → depthC a ≤ depthL k l
  | x :: r, a, h => by
    rw [depthL]
    rcases List.mem_cons.1 h with rfl | h
    · omega
    · have := depthL_mem k h; omega
theorem depth_mem {t a : Syn} (h : a ∈ t.kids) : depthC a ≤ depthC t := by
  have := depthL_mem t.kind h
  rw [depthC_eq t]; omega
theorem flat_mem : ∀ {ws : List Str} {w : Str}, w ∈ ws → w.length ≤ ws.flatten.length
  | x :: r, w, h => by
    rw [List.flatten_cons, List.length_append]
    rcases List.mem_cons.1 h with rfl | h
    · omega
    · have := flat_mem h; omega
theorem written_fit {t : Syn} {p : Pl} (h1 : checkC t p = 0) (h2 : depthC t ≤ 64) (h3 : (writeC t).length ≤ 65536) : writtenC t p = (writeC t, 0) := by
  unfold writtenC
  rw [if_neg (by rw [h1]; decide), if_neg (by simp only [decide_eq_true_eq]; omega), if_neg (by simp only [decide_eq_true_eq]; omega)]
theorem first_len (t : Syn) (h : t.kind = 0) (j : Nat) : (firstT t j).length ≤ (writeC t).length := by
  rw [← firstT_all h]
  unfold firstT
  rw [List.take_length]
  conv => rhs; rw [← List.take_append_drop j t.kids, List.map_append, List.flatten_append, List.length_append]
  omega
theorem written_good {t : Syn} {p : Pl} (h : ((writtenC t p).2 != 0) = false) : checkC t p = 0 ∧ depthC t ≤ 64 ∧ (writeC t).length ≤ 65536 ∧ writtenC t p = (writeC t, 0) := by
  have h0 : (writtenC t p).2 = 0 := by simpa using h
  have hw : writtenC t p = if (checkC t p != 0) then ([], checkC t p) else if decide (64 < (depthC t : Int)) then ([], 12) else if decide (65536 < ((writeC t).length : Int)) then ([], 13) else (writeC t, 0) := rfl
  cases h1 : (checkC t p != 0) with
  | true => rw [hw, if_pos h1] at h0; rw [show checkC t p = 0 from h0] at h1; cases h1
  | false =>
    rw [if_neg (Bool.eq_false_iff.mp h1)] at hw
    cases h2 : decide (64 < (depthC t : Int)) with
    | true => rw [hw, if_pos h2] at h0; cases h0
    | false =>
      rw [if_neg (Bool.eq_false_iff.mp h2)] at hw
      cases h3 : decide (65536 < ((writeC t).length : Int)) with
      | true => rw [hw, if_pos h3] at h0; cases h0
      | false =>
        rw [if_neg (Bool.eq_false_iff.mp h3)] at hw
        refine ⟨by simpa using h1, ?_, ?_, hw⟩
        · have := of_decide_eq_false h2; omega
        · have := of_decide_eq_false h3; omega
/-- A query of a program, and its pattern. -/
theorem query_parts {x : Syn} (h : checkC x (.only 3) = 0) : ∃ y, x.kids[1]? = some y ∧ checkC y .pats = 0 ∧ ∃ a b, writeC x = a ++ ([10, 109, 97, 116, 99, 104, 32] ++ writeC y ++ [10, 114, 101, 116, 117, 114, 110, 32]) ++ b := by
  obtain ⟨hk, hs, hn, hf⟩ := own_at (ok_own h).1
  replace hk := only_at hk
  have e1 : ∀ ws, nodeT x ws = w_tquery ++ [32] ++ x.text ++ (if (kidN x 0).text == [] then [] else [32] ++ w_by ++ [32] ++ (kidN x 0).text) ++ [10] ++ w_tmatch ++ [32] ++ ws.getD 1 [] ++ [10] ++ w_treturn ++ [32] ++ joinC (ws.drop 2) ++ [59, 10] := fun ws => by unfold nodeT; rw [hk]; rfl
  unfold shapeC at hs
  rw [hk] at hs
  replace hs : decide (3 ≤ (x.kids.length : Int)) = true := hs
  simp only [decide_eq_true_eq] at hs
  have hy : x.kids[1]? = some (x.kids[1]'(by omega)) := List.getElem?_eq_getElem _
  refine ⟨_, hy, ?_, w_tquery ++ [32] ++ x.text ++ (if (kidN x 0).text == [] then [] else [32] ++ w_by ++ [32] ++ (kidN x 0).text), joinC ((x.kids.map writeC).drop 2) ++ [59, 10], ?_⟩
  · have := (kid_ok h hy).1
    have e : kidC x 1 = .pats := by unfold kidC; rw [hk]; rfl
    rwa [e] at this
  · rw [writeC_eq x, e1]
    have : (x.kids.map writeC).getD 1 [] = writeC (x.kids[1]'(by omega)) := by
      rw [List.getD_eq_getElem?_getD, List.getElem?_map, hy]; rfl
    rw [this]
    have m1 : w_tmatch = [109, 97, 116, 99, 104] := rfl
    have m2 : w_treturn = [114, 101, 116, 117, 114, 110] := rfl
    rw [m1, m2]
    simp [List.append_assoc]
theorem joins_at {t x : Syn} {j : Nat} (h1 : checkC t (.only 0) = 0) (h2 : depthC t ≤ 64) (h3 : (writeC t).length ≤ 65536) (hx : t.kids[j]? = some x) (hk : x.kind = 3) :
    writtenC x (.only 3) = (writeC x, 0) ∧ Lib.hasSuffix (firstT t (j + 1)) (writeC x) = true ∧ Lib.trimSuffix (firstT t (j + 1)) (writeC x) = firstT t j ∧ (writeC x).length ≤ 65536 ∧
    ∃ y, x.kids[1]? = some y ∧ writtenC y .pats = (writeC y, 0) ∧ (writeC y).length ≤ 65536 ∧ Lib.contains (writeC x) ([10, 109, 97, 116, 99, 104, 32] ++ writeC y ++ [10, 114, 101, 116, 117, 114, 110, 32]) = true := by
  have c := (prog_kid h1 hx).1 hk
  have hm := List.mem_of_getElem? hx
  have d := depth_mem hm
  have l : (writeC x).length ≤ 65536 := by
    have h4 := firstT_all (prog_kind h1)
    unfold firstT at h4
    rw [List.take_length] at h4
    have h5 := flat_mem (List.mem_map_of_mem (f := writeC) hm)
    rw [h4] at h5; omega
  obtain ⟨y, hy, cy, a, b, e⟩ := query_parts c
  have dy := depth_mem (List.mem_of_getElem? hy)
  have ly : (writeC y).length ≤ 65536 := by
    have h6 := congrArg List.length e
    simp only [List.length_append] at h6; omega
  rw [firstT_succ hx]
  refine ⟨written_fit c (by omega) l, suf_app _ _, trim_app _ _, l, y, hy, written_fit cy (by omega) ly, ly, ?_⟩
  rw [e]
  exact con_app _ _ _
end Go.Proofs.YtabkeeedkhgodaaGreatDoor
