/-
  The plain law of positions. No program in sight. No condition.
-/
import Derived.Test.YtepnadmoflalnaaDoorW10
namespace Go.Proofs.YtepnadmoflalnaaDoor
open Go Go.Aw
set_option linter.unusedVariables false
set_option linter.unusedSimpArgs false

theorem occ_ten (u v : Str) (x : UInt8) : Lib.occAt (u ++ x :: v) [10] u.length = ((10 : UInt8) == x) := by
  unfold Lib.occAt
  rw [List.drop_left]
  simp [List.isPrefixOf]
theorem occ_left (u v : Str) (j : Nat) (h : j < u.length) : Lib.occAt (u ++ v) [10] j = Lib.occAt u [10] j := by
  unfold Lib.occAt
  rw [List.drop_append_of_le_length (Nat.le_of_lt h), List.drop_eq_getElem_cons h]
  simp only [List.cons_append, List.isPrefixOf]
theorem lastOcc_left (u v : Str) : ∀ k, k ≤ u.length → Lib.lastOcc (u ++ v) [10] k = Lib.lastOcc u [10] k
  | 0, _ => rfl
  | k + 1, h => by
    unfold Lib.lastOcc
    rw [occ_left u v k (by omega), lastOcc_left u v k (by omega)]
theorem lastIndex_occ (u : Str) : Lib.lastIndex u [10] = Lib.lastOcc u [10] u.length := by
  unfold Lib.lastIndex
  cases u with
  | nil => rfl
  | cons c r => rw [if_pos (by simp)]; rfl
theorem lastIndex_snoc (u : Str) (x : UInt8) : Lib.lastIndex (u ++ [x]) [10] = if (10 : UInt8) == x then (u.length : Int) else Lib.lastIndex u [10] := by
  rw [lastIndex_occ, lastIndex_occ, List.length_append, List.length_singleton]
  show (if Lib.occAt (u ++ [x]) [10] u.length = true then (u.length : Int) else Lib.lastOcc (u ++ [x]) [10] u.length) = _
  rw [occ_ten u [] x, lastOcc_left u [x] _ (Nat.le_refl _)]
theorem posGoR_app : ∀ (u v : Str) (p : Int × Int), posGoR (u ++ v) p = posGoR v (posGoR u p)
  | [], v, p => rfl
  | c :: r, v, p => posGoR_app r v _
theorem ten_eq (x : UInt8) : ((x.toNat : Int) == 10) = ((10 : UInt8) == x) := by
  have : ∀ x : UInt8, ((x.toNat : Int) == 10) = true ↔ x = 10 := fun x => by
    constructor
    · intro h
      have : (x.toNat : Int) = 10 := by simpa using h
      apply UInt8.toNat_inj.1
      show x.toNat = 10
      omega
    · rintro rfl; rfl
  rw [Bool.eq_iff_iff, this, beq_iff_eq]
  exact ⟨fun h => h.symm, fun h => h.symm⟩
theorem snoc_ind {p : Str → Prop} (h0 : p []) (h1 : ∀ u x, p u → p (u ++ [x])) (u : Str) : p u := by
  have key : ∀ v : Str, p v.reverse := by
    intro v
    induction v with
    | nil => exact h0
    | cons x r ih => rw [List.reverse_cons]; exact h1 _ _ ih
  have := key u.reverse
  rwa [List.reverse_reverse] at this
theorem pos_rel (u : Str) : posGoR u (1, 1) = ((Lib.countByte u 10 : Int) + 1, (u.length : Int) - Lib.lastIndex u [10]) := by
  refine snoc_ind (p := fun u => posGoR u (1, 1) = ((Lib.countByte u 10 : Int) + 1, (u.length : Int) - Lib.lastIndex u [10])) ?_ ?_ u
  · rfl
  · intro u x ih
    rw [posGoR_app, ih, lastIndex_snoc]
    have hc : Lib.countByte (u ++ [x]) 10 = Lib.countByte u 10 + (if ((10 : UInt8) == x) = true then 1 else 0) := by
      unfold Lib.countByte
      rw [List.count_append, List.count_singleton]
      by_cases h : (10 : UInt8) = x
      · subst h; rfl
      · have h1 : ((10 : UInt8) == x) = false := by simpa using h
        have h2 : (x == (10 : UInt8)) = false := by simpa using fun e => h e.symm
        rw [h1, h2]
    show (if ((x.toNat : Int) == 10) then _ else _) = _
    rw [ten_eq, hc]
    cases ((10 : UInt8) == x) with
    | true => simp; omega
    | false => simp; omega
theorem pos_eq (s : Str) (k : Int) : posS s k = posR s k := by
  unfold posS posR
  split
  · rfl
  · split
    · rfl
    · rename_i h
      simp only [Bool.or_eq_true, decide_eq_true_eq, not_or, Int.not_lt] at h
      rw [pos_rel]
      have : ((s.take k.toNat).length : Int) = k := by rw [List.length_take]; omega
      rw [this]
end Go.Proofs.YtepnadmoflalnaaDoor
