/-
  What a well-formed tree is; small trees. No program in sight. No condition.
-/
import Derived.Test.YtabkeeedkhgodaaGreatDoorM13
namespace Go.Proofs.YtabkeeedkhgodaaGreatDoor
open Go Go.Aw
set_option linter.unusedVariables false
set_option linter.unusedSimpArgs false
set_option maxRecDepth 100000

/-! What a well-formed tree is. -/
theorem ok_own {t : Syn} {p : Pl} (h : checkC t p = 0) : ownC p t = 0 ∧ kidsE t 0 t.kids = 0 := by
  rw [checkC_eq] at h
  split at h
  · rename_i h1; rw [h] at h1; cases h1
  · rename_i h1
    exact ⟨by simpa using h1, h⟩
theorem kidsE_at {t : Syn} : ∀ (l : List Syn) (i : Nat), kidsE t i l = 0 → ∀ j a, l[j]? = some a → checkC a (kidC t (i + j)) = 0
  | [], i, _, j, a, h => by simp at h
  | x :: r, i, h, j, a, ha => by
    rw [kidsE] at h
    split at h
    · rename_i h1; rw [h] at h1; cases h1
    · rename_i h1
      cases j with
      | zero => rw [List.getElem?_cons_zero] at ha; cases ha; simpa using h1
      | succ j => rw [List.getElem?_cons_succ] at ha; have := kidsE_at r (i + 1) h j a ha; rwa [show i + 1 + j = i + (j + 1) by omega] at this
theorem own_at {p : Pl} {t : Syn} (h : ownC p t = 0) : p.at t.kind = true ∧ shapeC t = true ∧ namedC t = true ∧ fieldsC t = 0 := by
  unfold ownC at h
  split at h
  · cases h
  · split at h
    · cases h
    · split at h
      · cases h
      · rename_i h1 h2 h3
        exact ⟨by simpa using h1, by simpa using h2, by simpa using h3, h⟩
theorem kid_ok {t : Syn} {p : Pl} (h : checkC t p = 0) {j : Nat} {a : Syn} (ha : t.kids[j]? = some a) : checkC a (kidC t j) = 0 ∧ (kidC t j).at a.kind = true := by
  have h1 := kidsE_at t.kids 0 (ok_own h).2 j a ha
  rw [Nat.zero_add] at h1
  exact ⟨h1, (own_at (ok_own h1).1).1⟩
theorem exp_at {k : Int} (h : Pl.at .exps k = true) : 13 ≤ k ∧ k ≤ 18 := by
  simp only [Pl.at, isExp, Bool.and_eq_true, decide_eq_true_eq] at h; exact h
theorem pat_at {k : Int} (h : Pl.at .pats k = true) : 5 ≤ k ∧ k ≤ 12 := by
  simp only [Pl.at, isPat, Bool.and_eq_true, decide_eq_true_eq] at h; exact h
theorem only_at {n k : Int} (h : Pl.at (.only n) k = true) : k = n := by
  simpa [Pl.at] using h
theorem kid_kind {t : Syn} {j : Nat} {k : Int} (h : (kidC t j).at k = true) : 1 ≤ k ∧ k ≤ 18 := by
  unfold kidC at h
  repeat' split at h
  all_goals first | (have := only_at h; omega) | (have := exp_at h; omega) | (have := pat_at h; omega)

section
variable {t : Syn} {p : Pl}
/-- The kids of a node. -/
theorem kids_one (h : (t.kids.length : Int) = 1) : ∃ a, t.kids = [a] := by
  match hk : t.kids with
  | [] => rw [hk] at h; cases h
  | [a] => exact ⟨a, rfl⟩
  | a :: b :: r => rw [hk] at h; simp only [List.length_cons] at h; omega
theorem kids_two (h : (t.kids.length : Int) = 2) : ∃ a b, t.kids = [a, b] := by
  match hk : t.kids with
  | [] => rw [hk] at h; cases h
  | [a] => rw [hk] at h; simp only [List.length_cons, List.length_nil] at h; omega
  | [a, b] => exact ⟨a, b, rfl⟩
  | a :: b :: c :: r => rw [hk] at h; simp only [List.length_cons] at h; omega
theorem bin_num (hf : fieldsC t = 0) (hk : t.kind = 17) : t.num = 5 ∨ t.num = 6 ∨ t.num = 7 ∨ t.num = 8 ∨ t.num = 9 ∨ t.num = 10 ∨ t.num = 11 := by
  unfold fieldsC numC at hf
  rw [hk] at hf
  have hf2 : (decide (t.num < 5) || decide (11 < t.num)) = false := by
    cases hq : (decide (t.num < 5) || decide (11 < t.num)) with
    | false => rfl
    | true => rw [hq] at hf; cases hf
  simp only [Bool.or_eq_false_iff, decide_eq_false_iff_not] at hf2
  omega
theorem field_num (hf : fieldsC t = 0) (hk : t.kind = 2) : 0 ≤ t.num ∧ t.num ≤ 2 := by
  unfold fieldsC numC at hf
  rw [hk] at hf
  have hf2 : (decide (t.num < 0) || decide (2 < t.num)) = false := by
    cases hq : (decide (t.num < 0) || decide (2 < t.num)) with
    | false => rfl
    | true => rw [hq] at hf; cases hf
  simp only [Bool.or_eq_false_iff, decide_eq_false_iff_not] at hf2
  omega
theorem total_num (hf : fieldsC t = 0) (hk : t.kind = 16) : 1 ≤ t.num ∧ t.num ≤ 5 := by
  unfold fieldsC numC at hf
  rw [hk] at hf
  have hf2 : (decide (t.num < 1) || decide (5 < t.num)) = false := by
    cases hq : (decide (t.num < 1) || decide (5 < t.num)) with
    | false => rfl
    | true => rw [hq] at hf; cases hf
  simp only [Bool.or_eq_false_iff, decide_eq_false_iff_not] at hf2
  omega
theorem within_num (hf : fieldsC t = 0) (hk : t.kind = 11) : 0 ≤ t.num ∧ t.num ≤ 1099511627776 := by
  unfold fieldsC numC at hf
  rw [hk] at hf
  have hf2 : (decide (t.num < 0) || decide (1099511627776 < t.num)) = false := by
    cases hq : (decide (t.num < 0) || decide (1099511627776 < t.num)) with
    | false => rfl
    | true => rw [hq] at hf; cases hf
  simp only [Bool.or_eq_false_iff, decide_eq_false_iff_not] at hf2
  omega
/-- A node that has no use for its number. -/
theorem zero_num (hf : fieldsC t = 0) (hk : t.kind ≠ 13 ∧ t.kind ≠ 2 ∧ t.kind ≠ 16 ∧ t.kind ≠ 17 ∧ t.kind ≠ 11) : t.num = 0 := by
  obtain ⟨k1, k2, k3, k4, k5⟩ := hk
  have e : ∀ k : Int, t.kind ≠ k → ¬ (t.kind == k) = true := fun k h => by simpa using h
  unfold fieldsC at hf
  rw [if_neg (e _ k1)] at hf
  split at hf
  · rename_i h1; rw [hf] at h1; cases h1
  · rename_i h1
    have h2 : numC t = 0 := by simpa using h1
    unfold numC at h2
    rw [if_neg (e _ k2), if_neg (e _ k3), if_neg (e _ k4), if_neg (e _ k5)] at h2
    split at h2
    · cases h2
    · rename_i h3
      simp only [Bool.or_eq_true, decide_eq_true_eq, not_or] at h3
      omega
theorem const_num0 (hf : fieldsC t = 0) (hk : t.kind = 13) : -1099511627776 ≤ t.num ∧ t.num ≤ 1099511627776 := by
  unfold fieldsC at hf
  rw [hk] at hf
  replace hf : constC t = 0 := hf
  unfold constC at hf
  repeat' split at hf
  all_goals first
    | exact absurd hf (by decide)
    | (simp only [Bool.or_eq_true, decide_eq_true_eq, not_or, Bool.not_eq_true, bne_eq_false_iff_eq] at *; omega)
end

theorem wrap_sm {n : Int} (h0 : -1000 ≤ n) (h1 : n ≤ 1000) : IntKind.i64.wrap n = n := by
  unfold IntKind.wrap IntKind.signed IntKind.bits
  simp only [↓reduceIte, Bool.true_and, decide_eq_true_eq, ge_iff_le]
  split <;> omega
/-! Small trees. -/
mutual
def cntC : Syn → Nat
  | ⟨_, _, _, _, kids, _⟩ => 1 + cntL kids
def cntL : List Syn → Nat
  | [] => 0
  | x :: r => cntC x + cntL r
end
theorem cntC_eq (t : Syn) : cntC t = 1 + cntL t.kids := by cases t; rw [cntC]
theorem cntL_len : ∀ l : List Syn, l.length ≤ cntL l
  | [] => Nat.zero_le _
  | x :: r => by
    have := cntL_len r
    have h := cntC_eq x
    rw [cntL, List.length_cons]; omega
theorem few_parts {t : Syn} (h : fewC t = true) : t.text.length ≤ 80 ∧ t.name.length ≤ 80 ∧ totalC t ≤ 200 ∧ deepC t ≤ 90 ∧ fewL t.kids = true := by
  rw [fewC_eq] at h
  split at h
  · cases h
  · rename_i h1
    simp only [Bool.or_eq_true, decide_eq_true_eq, not_or] at h1
    exact ⟨by omega, by omega, by omega, by omega, h⟩
theorem fewL_mem : ∀ {l : List Syn}, fewL l = true → ∀ a ∈ l, fewC a = true
  | x :: r, h, a, ha => by
    rw [fewL] at h
    split at h
    · cases h
    · rename_i h1
      rcases List.mem_cons.1 ha with rfl | ha
      · simpa using h1
      · exact fewL_mem h a ha
theorem few_kid {t a : Syn} (h : fewC t = true) (ha : a ∈ t.kids) : fewC a = true := fewL_mem (few_parts h).2.2.2.2 a ha
theorem totalL_cnt : ∀ (l : List Syn) (n : Int), (∀ a ∈ l, totalC a = (cntC a : Int) ∧ cntC a ≤ 200) → 0 ≤ n → totalL l n ≤ 200 → totalL l n = n + (cntL l : Int)
  | [], n, _, _, _ => by rw [totalL, cntL]; simp
  | x :: r, n, h, h0, h2 => by
    rw [totalL] at h2 ⊢
    split at h2
    · rename_i h1
      rw [if_pos h1]
      simp only [decide_eq_true_eq] at h1
      obtain ⟨e, hx⟩ := h x (List.mem_cons_self ..)
      have hw : IntKind.i64.wrap (n + totalC x) = n + (cntC x : Int) := by rw [e]; exact wrap_sm (by omega) (by omega)
      rw [hw] at h2 ⊢
      rw [totalL_cnt r _ (fun a ha => h a (List.mem_cons_of_mem _ ha)) (by omega) h2, cntL]
      omega
    · rename_i h1
      simp only [decide_eq_true_eq] at h1
      omega
theorem few_cnt (t : Syn) : fewC t = true → totalC t = (cntC t : Int) ∧ cntC t ≤ 200 := by
  refine Syn.ind (P := fun t => fewC t = true → totalC t = (cntC t : Int) ∧ cntC t ≤ 200) (fun t ih h => ?_) t
  have hp := few_parts h
  have e := totalC_eq t
  have h3 := hp.2.2.1
  rw [e] at h3
  have h4 := totalL_cnt t.kids 1 (fun a ha => ih a ha (few_kid h ha)) (by omega) h3
  have h5 := cntC_eq t
  rw [e]
  exact ⟨by omega, by omega⟩
mutual
theorem depth_cnt : ∀ t : Syn, depthC t ≤ 2 * cntC t
  | ⟨k, _, _, _, kids, _⟩ => by
    have h := depthL_cnt k kids
    rw [depthC, cntC]
    split <;> omega
theorem depthL_cnt (k : Int) : ∀ l : List Syn, depthL k l ≤ 2 * cntL l + 1
  | [] => by rw [depthL]; omega
  | x :: r => by
    have h1 := depth_cnt x
    have h2 := depthL_cnt k r
    have h3 := cntC_eq x
    rw [depthL, cntL]
    split <;> omega
end
/-! How long the text may be. -/
def lenS (ws : List Str) : Nat := (ws.map List.length).sum
theorem lenS_cons (x : Str) (r : List Str) : lenS (x :: r) = x.length + lenS r := rfl
theorem join_len : ∀ ws : List Str, (joinC ws).length ≤ lenS ws + 2 * ws.length
  | [] => by simp [joinC]
  | [x] => by simp [joinC, lenS]
  | x :: y :: r => by
    have := join_len (y :: r)
    rw [joinC, lenS_cons]
    simp only [List.length_append, List.length_cons, List.length_nil] at this ⊢
    omega
theorem get3_len : ∀ ws : List Str, (ws.getD 0 []).length + (ws.getD 1 []).length + (joinC (ws.drop 2)).length ≤ lenS ws + 2 * ws.length
  | [] => by simp [joinC]
  | [x] => by simp [joinC, lenS]
  | x :: y :: r => by
    have := join_len r
    simp only [List.getD_cons_zero, List.getD_cons_succ, List.drop_succ_cons, List.drop_zero, lenS_cons, List.length_cons]
    omega
theorem flat_len : ∀ ws : List Str, ws.flatten.length = lenS ws
  | [] => rfl
  | x :: r => by rw [List.flatten_cons, List.length_append, flat_len r, lenS_cons]
theorem wrap_len (p k : Syn) (s : Str) : (wrapT p k s).length ≤ s.length + 2 := by
  unfold wrapT
  split
  · simp only [List.length_append, List.length_cons, List.length_nil]; omega
  · omega
theorem quoteB_le (c : UInt8) : (quoteB c).length ≤ 4 := by
  unfold quoteB
  split
  · simp
  · split <;> simp
theorem quoteGo_le : ∀ s : Str, (quoteGo s).length ≤ 4 * s.length
  | [] => by simp [quoteGo]
  | c :: r => by
    have h1 := quoteGo_le r
    have h2 := quoteB_le c
    rw [quoteGo]
    simp only [List.length_append, List.length_cons]
    omega
theorem words_len : (∀ n, (kindT n).length ≤ 8) ∧ (∀ n, (aggT n).length ≤ 8) ∧ (∀ n, (operT n).length ≤ 8) ∧ (∀ n, (callT n).length ≤ 8) := by
  refine ⟨fun n => ?_, fun n => ?_, fun n => ?_, fun n => ?_⟩
  · unfold kindT; repeat' split
    all_goals decide
  · unfold aggT; repeat' split
    all_goals decide
  · unfold operT; repeat' split
    all_goals decide
  · unfold callT; repeat' split
    all_goals decide
theorem if_len {c : Prop} [Decidable c] {a b : Str} {n : Nat} (ha : a.length ≤ n) (hb : b.length ≤ n) : (if c then a else b).length ≤ n := by split <;> assumption
theorem ok_num {t : Syn} {p : Pl} (h : checkC t p = 0) : -1099511627776 ≤ t.num ∧ t.num ≤ 1099511627776 := by
  obtain ⟨_, _, _, hf⟩ := own_at (ok_own h).1
  by_cases k1 : t.kind = 13
  · exact const_num0 hf k1
  by_cases k2 : t.kind = 2
  · have := field_num hf k2; omega
  by_cases k3 : t.kind = 16
  · have := total_num hf k3; omega
  by_cases k4 : t.kind = 17
  · have := bin_num hf k4; omega
  by_cases k5 : t.kind = 11
  · have := within_num hf k5; omega
  have := zero_num hf ⟨k1, k2, k3, k4, k5⟩
  omega
/-! Trees that are not very large. -/
mutual
def wC : Syn → Nat
  | ⟨_, x, n, _, kids, _⟩ => 1 + x.length + n.length + wL kids
def wL : List Syn → Nat
  | [] => 0
  | x :: r => wC x + wL r
end
theorem wC_eq (t : Syn) : wC t = 1 + t.text.length + t.name.length + wL t.kids := by cases t; rw [wC]
theorem w_mem : ∀ {l : List Syn} {a : Syn}, a ∈ l → wC a ≤ wL l
  | x :: r, a, h => by
    rw [wL]
    rcases List.mem_cons.1 h with rfl | h
    · omega
    · have := w_mem h; omega
mutual
theorem cnt_w : ∀ t : Syn, cntC t ≤ wC t
  | ⟨_, x, n, _, kids, _⟩ => by
    have := cntL_w kids
    rw [cntC, wC]; omega
theorem cntL_w : ∀ l : List Syn, cntL l ≤ wL l
  | [] => by rw [cntL, wL]; exact Nat.le_refl _
  | x :: r => by
    have h1 := cnt_w x
    have h2 := cntL_w r
    rw [cntL, wL]; omega
end
/-- Not very large: the nodes and the bytes of their texts. -/
def medC (t : Syn) : Prop := wC t ≤ 1000000
theorem med_kid {t a : Syn} (h : medC t) (ha : a ∈ t.kids) : medC a := by
  have h1 := w_mem ha
  have h2 := wC_eq t
  unfold medC at h ⊢; omega
theorem med_text {t : Syn} (h : medC t) : t.text.length ≤ 1048576 ∧ t.name.length ≤ 1048576 := by
  have h2 := wC_eq t
  unfold medC at h
  exact ⟨by omega, by omega⟩
theorem med_cnt {t : Syn} (h : medC t) : cntC t ≤ 1000000 := Nat.le_trans (cnt_w t) h
theorem med_len {t : Syn} (h : medC t) : t.kids.length ≤ 1000000 := by
  have h1 := med_cnt h
  have h2 := cntL_len t.kids
  rw [cntC_eq] at h1
  omega
theorem few_w (t : Syn) : fewC t = true → wC t ≤ 161 * cntC t := by
  refine Syn.ind (P := fun t => fewC t = true → wC t ≤ 161 * cntC t) (fun t ih h => ?_) t
  have hp := few_parts h
  have key : ∀ l : List Syn, (∀ a ∈ l, wC a ≤ 161 * cntC a) → wL l ≤ 161 * cntL l := by
    intro l
    induction l with
    | nil => intro _; rw [wL]; exact Nat.zero_le _
    | cons x r ihl =>
      intro hl
      have h3 := hl x (List.mem_cons_self ..)
      have h4 := ihl fun a ha => hl a (List.mem_cons_of_mem _ ha)
      rw [wL, cntL]; omega
  have h1 := key t.kids fun a ha => ih a ha (few_kid h ha)
  have h2 := wC_eq t
  have h3 := cntC_eq t
  omega
theorem few_big {t : Syn} (h : fewC t = true) : wC t ≤ 32200 := by
  have h1 := few_w t h
  have h2 := (few_cnt t h).2
  omega
theorem few_med {t : Syn} (h : fewC t = true) : medC t := by
  have := few_big h
  unfold medC; omega
theorem lit_len' {t : Syn} {B : Nat} (hi : -1099511627776 ≤ t.num ∧ t.num ≤ 1099511627776) (hx : t.text.length ≤ B) : (litT t).length ≤ 4 * B + 30 := by
  unfold litT
  split
  · have := Lib.itoa_length_le t.num (by omega) (by omega); omega
  · split
    · split
      · show (4 : Nat) ≤ _; omega
      · show (5 : Nat) ≤ _; omega
    · unfold quoteS
      split
      · simp
      · have := quoteGo_le t.text
        simp only [List.length_append, List.length_cons, List.length_nil]
        omega
theorem node_len' {t : Syn} {ws : List Str} {B : Nat} (hi : -1099511627776 ≤ t.num ∧ t.num ≤ 1099511627776) (hx : t.text.length ≤ B) (hn : t.name.length ≤ B) (h0 : (kidN t 0).text.length ≤ B) : (nodeT t ws).length ≤ lenS ws + 2 * ws.length + (4 * B + 60) := by
  have h1 := join_len ws
  have h2 := get3_len ws
  have h3 := flat_len ws
  have h4 := lit_len' hi hx
  obtain ⟨w1, w2, w3, w4⟩ := words_len
  have k1 := w1 t.num
  have k2 := w2 t.num
  have k3 := w3 t.num
  have k4 := w4 t.kind
  have h5 := Lib.itoa_length_le t.num (by omega) (by omega)
  have r0 := wrap_len t (kidN t 0) (ws.getD 0 [])
  have r1 := wrap_len t (kidN t 1) (ws.getD 1 [])
  have q1 : w_ttype.length = 4 := rfl
  have q2 : w_tquery.length = 5 := rfl
  have q3 : w_by.length = 2 := rfl
  have q4 : w_tmatch.length = 5 := rfl
  have q5 : w_treturn.length = 6 := rfl
  have q6 : w_tif.length = 2 := rfl
  have q7 : w_tcount.length = 5 := rfl
  have q8 : w_tnot.length = 3 := rfl
  unfold nodeT
  refine if_len (by omega) (if_len ?_ (if_len ?_ (if_len ?_ (if_len ?_ (if_len (by omega) (if_len ?_ (if_len ?_ (if_len ?_ (if_len ?_ (if_len ?_ ?_))))))))))
  · have : (if (ws == []) = true then [] else [32] ++ joinC ws ++ [32] : Str).length ≤ (joinC ws).length + 2 := if_len (by simp) (by simp)
    simp only [List.length_append, List.length_cons, List.length_nil] at this ⊢; omega
  · simp only [List.length_append, List.length_cons, List.length_nil]; omega
  · have : (if ((kidN t 0).text == []) = true then [] else [32] ++ w_by ++ [32] ++ (kidN t 0).text : Str).length ≤ B + 4 := if_len (by simp) (by simp only [List.length_append, List.length_cons, List.length_nil]; omega)
    simp only [List.length_append, List.length_cons, List.length_nil] at this ⊢; omega
  · have : (if (ws == []) = true then [] else [32] ++ w_tif ++ [32] ++ ws.getD 0 [] : Str).length ≤ (ws.getD 0 []).length + 6 := if_len (by simp) (by simp only [List.length_append, List.length_cons, List.length_nil]; omega)
    simp only [List.length_append, List.length_cons, List.length_nil] at this ⊢; omega
  · simp only [List.length_append, List.length_cons, List.length_nil]; omega
  · simp only [List.length_append, List.length_cons, List.length_nil]; omega
  · have : (if (ws == []) = true then [] else [44, 32] ++ ws.getD 0 [] : Str).length ≤ (ws.getD 0 []).length + 2 := if_len (by simp) (by simp only [List.length_append, List.length_cons, List.length_nil]; omega)
    simp only [List.length_append, List.length_cons, List.length_nil] at this ⊢; omega
  · simp only [List.length_append, List.length_cons, List.length_nil]; omega
  · simp only [List.length_append, List.length_cons, List.length_nil]; omega
  · have : (if (t.kind == 11) = true then [44, 32] ++ Lib.itoa t.num else [] : Str).length ≤ 30 := if_len (by simp only [List.length_append, List.length_cons, List.length_nil]; omega) (by simp)
    simp only [List.length_append, List.length_cons, List.length_nil] at this ⊢; omega
theorem write_len' {B : Nat} (t : Syn) : ∀ p, checkC t p = 0 → wC t ≤ B → (writeC t).length + 2 ≤ (4 * B + 64) * cntC t := by
  refine Syn.ind (P := fun t => ∀ p, checkC t p = 0 → wC t ≤ B → (writeC t).length + 2 ≤ (4 * B + 64) * cntC t) (fun t ih p h hf => ?_) t
  have hw := wC_eq t
  have hk0 : (kidN t 0).text.length ≤ B := by
    unfold kidN
    rw [List.getD_eq_getElem?_getD]
    cases hq : t.kids[0]? with
    | none => simp [synZ]
    | some a =>
      have h3 := w_mem (List.mem_of_getElem? hq)
      have h4 := wC_eq a
      show a.text.length ≤ B
      omega
  rw [writeC_eq]
  have h1 := node_len' (B := B) (ws := t.kids.map writeC) (ok_num h) (by omega) (by omega) hk0
  have h2 : lenS (t.kids.map writeC) + 2 * t.kids.length ≤ (4 * B + 64) * cntL t.kids := by
    have key : ∀ l : List Syn, (∀ a ∈ l, (writeC a).length + 2 ≤ (4 * B + 64) * cntC a) → lenS (l.map writeC) + 2 * l.length ≤ (4 * B + 64) * cntL l := by
      intro l
      induction l with
      | nil => intro _; simp [lenS]
      | cons x r ihl =>
        intro hl
        have h3 := hl x (List.mem_cons_self ..)
        have h4 := ihl fun a ha => hl a (List.mem_cons_of_mem _ ha)
        have h5 := Nat.mul_add (4 * B + 64) (cntC x) (cntL r)
        rw [List.map_cons, lenS_cons, cntL, List.length_cons]; omega
    refine key _ fun a ha => ?_
    obtain ⟨j, hj⟩ := List.mem_iff_getElem?.1 ha
    exact ih a ha _ (kid_ok h hj).1 (Nat.le_trans (w_mem ha) (by omega))
  have h4 := cntC_eq t
  rw [List.length_map] at h1
  rw [h4, Nat.mul_add]
  omega
theorem med_big {t : Syn} {p : Pl} (h : checkC t p = 0) (hf : medC t) : (writeC t).length ≤ 10000000000000 := by
  have h1 := write_len' (B := 1000000) t p h hf
  have h2 : (4 * 1000000 + 64) * cntC t ≤ (4 * 1000000 + 64) * 1000000 := Nat.mul_le_mul_left _ (med_cnt hf)
  omega
end Go.Proofs.YtabkeeedkhgodaaGreatDoor
