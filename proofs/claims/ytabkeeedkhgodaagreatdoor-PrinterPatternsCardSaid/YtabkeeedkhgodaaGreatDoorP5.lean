/-
  The plain laws of names and literals. No program in sight. No condition.
-/
import Derived.Test.YtabkeeedkhgodaaGreatDoorP3
namespace Go.Proofs.YtabkeeedkhgodaaGreatDoor
open Go Go.Aw
set_option linter.unusedVariables false
set_option linter.unusedSimpArgs false

theorem contains_iff (s sub : Str) : Lib.contains s sub = true ↔ ∃ j, j ≤ s.length ∧ Lib.occAt s sub j = true := by
  unfold Lib.contains
  rw [decide_eq_true_eq]
  rcases Lib.index_spec s sub with ⟨h1, h2⟩ | ⟨i, h1, h2, h3, _⟩
  · rw [h1]
    constructor
    · intro h; omega
    · rintro ⟨j, hj, ho⟩; rw [h2 j hj] at ho; cases ho
  · rw [h1]
    exact ⟨fun _ => ⟨i, h2, h3⟩, fun _ => by omega⟩
theorem contains_one (s : Str) (c : UInt8) : Lib.contains s [c] = true ↔ c ∈ s := by
  rw [contains_iff]
  constructor
  · rintro ⟨j, _, ho⟩
    unfold Lib.occAt at ho
    rw [List.isPrefixOf_iff_prefix] at ho
    obtain ⟨t, ht⟩ := ho
    exact List.mem_of_mem_drop (i := j) (by rw [← ht]; simp)
  · intro h
    obtain ⟨u, v, rfl⟩ := List.append_of_mem h
    refine ⟨u.length, by simp, ?_⟩
    unfold Lib.occAt
    rw [List.drop_left, List.isPrefixOf_iff_prefix]
    exact ⟨v, rfl⟩

def kwL : List Str := [[97, 108, 108], [97, 108, 116], [97, 110, 100], [98, 111, 111, 108], [98, 121], [99, 111, 117, 110, 116], [102, 97, 108, 115, 101], [102, 105, 114, 115, 116], [105, 102], [105, 110, 116], [108, 97, 99, 107, 115], [108, 97, 115, 116], [109, 97, 116, 99, 104], [109, 97, 120], [109, 105, 110], [110, 111, 116], [111, 114], [112, 108, 117, 115], [113, 117, 101, 114, 121], [114, 101, 116, 117, 114, 110], [115, 101, 113], [115, 116, 114, 105, 110, 103], [115, 117, 109], [116, 105, 109, 101], [116, 114, 117, 101], [116, 121, 112, 101], [119, 104, 101, 114, 101], [119, 105, 116, 104, 105, 110]]
theorem keyR_any (s : Str) : keyR s = kwL.any (fun w => s == w) := by
  unfold keyR kwL
  simp only [List.any_cons, List.any_nil, Bool.or_false, Bool.or_assoc]
theorem keyR_mem (s : Str) : keyR s = true ↔ s ∈ kwL := by
  rw [keyR_any, List.any_eq_true]
  constructor
  · rintro ⟨w, hw, he⟩
    rw [beq_iff_eq] at he
    exact he ▸ hw
  · intro h; exact ⟨s, h, beq_self_eq_true _⟩
theorem piece_of : ∀ (s l : Str), 32 ∉ s → (s ++ [32]).isPrefixOf l = true → s = l.takeWhile (fun c => c != 32) ∧ 32 ∈ l
  | [], l, _, h => by
    cases l with
    | nil => cases h
    | cons b t =>
      have : (32 : UInt8) = b := by simpa [List.isPrefixOf] using h
      subst this
      exact ⟨rfl, by simp⟩
  | c :: r, l, hn, h => by
    cases l with
    | nil => cases h
    | cons b t =>
      simp only [List.cons_append, List.isPrefixOf, Bool.and_eq_true, beq_iff_eq] at h
      obtain ⟨rfl, h⟩ := h
      have hc : (32 : UInt8) ≠ c := fun e => hn (by simp [e])
      obtain ⟨i1, i2⟩ := piece_of r t (fun e => hn (List.mem_cons_of_mem _ e)) h
      have e : (c != 32) = true := by simpa [bne] using fun e => hc e.symm
      refine ⟨?_, List.mem_cons_of_mem _ i2⟩
      rw [List.takeWhile_cons_of_pos (p := fun c => c != 32) e, ← i1]
def kwAt (l : Str) : Bool := match l with
  | [] => true
  | c :: r => if c == 32 && r.contains 32 then kwL.contains (r.takeWhile (fun c => c != 32)) || ((r.takeWhile (fun c => c != 32)) == []) else true
theorem kw_all : (List.range 200).all (fun j => kwAt (keywords.drop j)) = true := by kernel_rfl
theorem kw_len : keywords.length ≤ 199 := of_decide_eq_true (by kernel_rfl)
theorem kw_back : kwL.all (fun w => Lib.contains keywords ([32] ++ w ++ [32]) && !(w == []) && !(w.contains 32)) = true := by kernel_rfl
theorem key_eq (s : Str) : keyS s = keyR s := by
  rw [Bool.eq_iff_iff, keyR_mem]
  unfold keyS
  simp only [Bool.and_eq_true, Bool.not_eq_true']
  constructor
  · rintro ⟨⟨h1, h2⟩, h3⟩
    have hn : 32 ∉ s := fun h => by rw [(contains_one s 32).2 h] at h2; cases h2
    obtain ⟨j, hj, ho⟩ := (contains_iff _ _).1 h3
    have hk := List.all_eq_true.1 kw_all j (List.mem_range.2 (by have := kw_len; omega))
    unfold Lib.occAt at ho
    generalize keywords.drop j = l at ho hk
    cases l with
    | nil => cases ho
    | cons b t =>
      simp only [List.cons_append, List.nil_append, List.isPrefixOf, Bool.and_eq_true, beq_iff_eq] at ho
      obtain ⟨rfl, ho⟩ := ho
      obtain ⟨i1, i2⟩ := piece_of s t hn ho
      unfold kwAt at hk
      have e : t.contains 32 = true := by simpa using i2
      simp only [e, ← i1] at hk
      have e0 : ((32 : UInt8) == 32 && true) = true := rfl
      rw [e0, if_pos rfl, h1, Bool.or_false] at hk
      simpa using hk
  · intro h
    have := List.all_eq_true.1 kw_back s h
    simp only [Bool.and_eq_true, Bool.not_eq_true'] at this
    obtain ⟨⟨k1, k2⟩, k3⟩ := this
    refine ⟨⟨k2, ?_⟩, k1⟩
    rw [Bool.eq_false_iff]
    intro h
    rw [contains_one] at h
    have : s.contains 32 = true := by simpa using h
    rw [this] at k3; cases k3

theorem idx_any (p : UInt8 → Bool) : ∀ s : Str, decide (0 ≤ idxS p s) = s.any p
  | [] => rfl
  | c :: r => by
    have ih := idx_any p r
    rw [List.any_cons, ← ih, idxS]
    cases p c with
    | true => rfl
    | false =>
      by_cases h : idxS p r = -1
      · rw [if_neg (by decide), if_pos h, h]; rfl
      · rw [if_neg (by decide), if_neg h, Bool.false_or]
        refine decide_eq_decide.2 ?_
        have : ∀ s : Str, -1 ≤ idxS p s := by
          intro s
          induction s with
          | nil => exact Int.le_refl _
          | cons c r ih =>
            unfold idxS
            split
            · decide
            · split
              · decide
              · omega
        have := this r
        omega
theorem span_all (p : UInt8 → Bool) : ∀ s : Str, decide (spanS p s = s.length) = s.all p
  | [] => rfl
  | c :: r => by
    have ih := span_all p r
    rw [List.all_cons, ← ih, spanS]
    cases p c with
    | true => rw [if_pos rfl, Bool.true_and, List.length_cons]; exact decide_eq_decide.2 (by omega)
    | false => rw [if_neg (by decide), Bool.false_and, List.length_cons]; exact decide_eq_false (by omega)
theorem letter_digit (c : UInt8) : (letterS c && digitS c) = false := by
  have := u8_all (p := fun c => (letterS c && digitS c) == false) (by kernel_rfl) c
  exact eq_of_beq this
theorem name_eq (s : Str) : nameS s = nameR s := by
  unfold nameS nameR
  rw [key_eq, idx_any]
  cases s with
  | nil => rfl
  | cons c r =>
    have hb : bt (c :: r) 0 = c := rfl
    have hs : ((spanS wordS (c :: r) : Int) != ((c :: r).length : Int)) = (c :: r).any oddS := by
      have h := span_all wordS (c :: r)
      have h2 : (c :: r).any oddS = !((c :: r).all wordS) := by
        have : oddS = fun c => !(wordS c) := by funext c; unfold oddS wordS; rw [Bool.not_or]
        rw [this, ← List.not_all_eq_any_not]
      rw [h2, ← h, Bool.eq_iff_iff, bne_iff_ne, Bool.not_eq_true', decide_eq_false_iff_not]
      omega
    rw [hs, hb, List.any_cons]
    have ho : oddS c = (!letterS c && !digitS c) := rfl
    rw [ho]
    have hld := letter_digit c
    generalize keyR (c :: r) = K
    generalize decide (24 < ((c :: r).length : Int)) = A
    have e0 : (c :: r == []) = false := rfl
    rw [e0]
    generalize r.any oddS = O
    generalize letterS c = L at *
    generalize digitS c = D at *
    revert hld
    cases K <;> cases A <;> cases O <;> cases L <;> cases D <;> decide

theorem quoteB_eq (c : UInt8) : quoteB c = quoteBR c := by
  have := u8_all (p := fun c => quoteB c == quoteBR c) (by kernel_rfl) c
  exact eq_of_beq this
theorem quoteGo_eq : ∀ s : Str, quoteGo s = quoteGoR s
  | [] => rfl
  | c :: r => by rw [quoteGo, quoteGoR, quoteB_eq, quoteGo_eq r]
theorem quote_eq (s : Str) : quoteS s = quoteR s := by unfold quoteS quoteR; rw [quoteGo_eq]

/-! A literal is read as its string. -/
/-- One byte is read back. -/
def backB (c : UInt8) (w : Str) : Bool :=
  if ((bt w 0).toNat : Int) == 92 then (escS w).2 == (w.length : Int) && (escS w).1 == c else w == [c] && !(((c.toNat : Int) == 34)) && !(decide ((c.toNat : Int) < 32) || decide (126 < (c.toNat : Int)))
end Go.Proofs.YtabkeeedkhgodaaGreatDoor
