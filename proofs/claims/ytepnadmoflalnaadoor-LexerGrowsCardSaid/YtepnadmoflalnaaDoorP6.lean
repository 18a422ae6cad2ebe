/-
  The plain law of growing positions. No program in sight. No condition.
-/
import Derived.Test.YtepnadmoflalnaaDoorP4
namespace Go.Proofs.YtepnadmoflalnaaDoor
open Go Go.Aw
set_option linter.unusedVariables false
set_option linter.unusedSimpArgs false

theorem lastOcc_lt (s sub : Str) : ∀ k : Nat, Lib.lastOcc s sub k < (k : Int)
  | 0 => by unfold Lib.lastOcc; decide
  | k + 1 => by
    have ih := lastOcc_lt s sub k
    unfold Lib.lastOcc
    split <;> omega
theorem lastIndex_lt (u : Str) : Lib.lastIndex u [10] < (u.length : Int) := by rw [lastIndex_occ]; exact lastOcc_lt _ _ _
theorem lastOcc_ge (s sub : Str) : ∀ k : Nat, -1 ≤ Lib.lastOcc s sub k
  | 0 => by unfold Lib.lastOcc; decide
  | k + 1 => by
    have ih := lastOcc_ge s sub k
    unfold Lib.lastOcc
    split <;> omega
theorem lastIndex_ge (u : Str) : -1 ≤ Lib.lastIndex u [10] := by rw [lastIndex_occ]; exact lastOcc_ge _ _ _
theorem pos_grow {s : Str} {k : Int} (hl : s.length ≤ 600) (h0 : 0 ≤ k) (h1 : k < (s.length : Int)) :
    ∃ l c : Int, 1 ≤ l ∧ 1 ≤ c ∧ l ≤ 1000 ∧ c ≤ 1000 ∧ posS s k = (l, c, 0) ∧ posS s (k + 1) = if (((bt s k.toNat).toNat : Int) == 10) then (l + 1, 1, 0) else (l, c + 1, 0) := by
  obtain ⟨j, rfl⟩ : ∃ j : Nat, k = (j : Int) := ⟨k.toNat, by omega⟩
  have hj : j < s.length := by omega
  have hlen : (s.take j).length = j := by rw [List.length_take]; omega
  have hlt := lastIndex_lt (s.take j)
  rw [hlen] at hlt
  have hge := lastIndex_ge (s.take j)
  have hcn : Lib.countByte (s.take j) 10 ≤ (s.take j).length := List.count_le_length
  have e0 : decide (65536 < (s.length : Int)) = false := decide_eq_false (by omega)
  have e1 : (decide ((j : Int) < 0) || decide ((s.length : Int) < (j : Int))) = false := by
    rw [Bool.or_eq_false_iff]; exact ⟨decide_eq_false (by omega), decide_eq_false (by omega)⟩
  have e2 : (decide ((j : Int) + 1 < 0) || decide ((s.length : Int) < (j : Int) + 1)) = false := by
    rw [Bool.or_eq_false_iff]; exact ⟨decide_eq_false (by omega), decide_eq_false (by omega)⟩
  have t1 : ((j : Int)).toNat = j := Int.toNat_natCast _
  have t2 : ((j : Int) + 1).toNat = j + 1 := by omega
  refine ⟨(Lib.countByte (s.take j) 10 : Int) + 1, (j : Int) - Lib.lastIndex (s.take j) [10], by omega, by omega, by omega, by omega, ?_, ?_⟩
  · unfold posS
    rw [e0, e1, t1]; rfl
  · unfold posS
    rw [e0, e2, t1, t2, take_bt hj, lastIndex_snoc]
    have hc : Lib.countByte (s.take j ++ [bt s j]) 10 = Lib.countByte (s.take j) 10 + (if ((10 : UInt8) == bt s j) = true then 1 else 0) := by
      unfold Lib.countByte
      rw [List.count_append, List.count_singleton]
      by_cases h : (10 : UInt8) = bt s j
      · rw [← h, if_pos (beq_self_eq_true _)]
      · have h1 : ((10 : UInt8) == bt s j) = false := by simpa using h
        have h2 : (bt s j == (10 : UInt8)) = false := by simpa using fun e => h e.symm
        rw [h1, h2]
    rw [ten_eq, hlen]
    cases hq : ((10 : UInt8) == bt s j) with
    | true =>
      have hc2 : Lib.countByte (s.take j ++ [bt s j]) 10 = Lib.countByte (s.take j) 10 + 1 := by rw [hc, hq]; rfl
      rw [hc2]
      simp only [Bool.false_eq_true, ↓reduceIte, Prod.mk.injEq]
      refine ⟨?_, ?_, ?_⟩ <;> first | trivial | omega
    | false =>
      have hc2 : Lib.countByte (s.take j ++ [bt s j]) 10 = Lib.countByte (s.take j) 10 := by rw [hc, hq]; rfl
      rw [hc2]
      simp only [Bool.false_eq_true, ↓reduceIte, Prod.mk.injEq]
      refine ⟨?_, ?_, ?_⟩ <;> first | trivial | omega
end Go.Proofs.YtepnadmoflalnaaDoor
