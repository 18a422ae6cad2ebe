/-
  The variables of an expression. No condition.
-/
import Derived.Test.YtkkacfnkjiijkaaM6
namespace Go.Proofs.Ytkkacfnkjiijkaa
open Go Go.Aw
set_option linter.unusedVariables false
set_option linter.unusedSimpArgs false

def ownS (e : Ex) : List Nat := if (usesS e.op).1 && decide (0 ≤ e.var) && decide (e.var < 16) then [e.var.toNat] else []
mutual
def usedS : Ex → List Nat
  | ⟨op, args, var, field, kind, val⟩ => ownS ⟨op, args, var, field, kind, val⟩ ++ usedL args
def usedL : List Ex → List Nat
  | [] => []
  | e :: r => usedS e ++ usedL r
end
theorem usedL_flat : ∀ l, usedL l = l.flatMap usedS
  | [] => by simp [usedL]
  | e :: r => by simp [usedL, usedL_flat r]
theorem usedS_eq (e : Ex) : usedS e = ownS e ++ e.args.flatMap usedS := by cases e; rw [usedS, usedL_flat]

def cSeen (S : List Nat) : List AV := (List.range 16).map fun v => .bool (S.contains v)
theorem seen_len (S : List Nat) : (cSeen S).length = 16 := rfl
theorem seen_get {S : List Nat} {v : Nat} (h : v < 16) : (cSeen S)[v]? = some (.bool (S.contains v)) := by
  unfold cSeen
  rw [List.getElem?_map, List.getElem?_range h]; rfl
theorem seen_set {S : List Nat} {v : Nat} (h : v < 16) : setSeg (cSeen S) v [.bool true] = cSeen (S ++ [v]) := by
  apply List.ext_getElem?
  intro i
  unfold setSeg
  by_cases hi : i < 16
  · rw [seen_get hi]
    by_cases e : i < v
    · rw [List.append_assoc, List.getElem?_append_left (by rw [List.length_take, seen_len]; omega), List.getElem?_take, if_pos e, seen_get hi]
      have h1 : ([v].contains i) = false := by simp; omega
      simp [List.contains_eq_mem] at h1 ⊢
      intro hh; omega
    · by_cases e2 : i = v
      · subst e2
        rw [List.append_assoc, List.getElem?_append_right (by rw [List.length_take, seen_len]; omega)]
        simp [seen_len, Nat.min_eq_left (by omega : i ≤ 16)]
      · rw [List.getElem?_append_right (by simp [seen_len]; omega), List.getElem?_drop]
        have : v + [AV.bool true].length + (i - ((cSeen S).take v ++ [AV.bool true]).length) = i := by simp [seen_len]; omega
        rw [this, seen_get hi]
        have h1 : ([v].contains i) = false := by simp; omega
        simp [List.contains_eq_mem] at h1 ⊢
        intro hh; omega
  · rw [List.getElem?_eq_none (by simp [seen_len]; omega), List.getElem?_eq_none (by rw [seen_len]; omega)]

def uptoS (S : List Nat) (k : Nat) : List Int := ((List.range k).filter fun v => S.contains v).map fun (v : Nat) => (v : Int)
theorem upto_zero (S : List Nat) : uptoS S 0 = [] := rfl
theorem upto_yes {S : List Nat} {k : Nat} (h : S.contains k = true) : uptoS S (k + 1) = uptoS S k ++ [(k : Int)] := by
  unfold uptoS; rw [List.range_succ, List.filter_append, List.filter_cons_of_pos (by simpa using h)]; simp
theorem upto_no {S : List Nat} {k : Nat} (h : S.contains k = false) : uptoS S (k + 1) = uptoS S k := by
  unfold uptoS; rw [List.range_succ, List.filter_append, List.filter_cons_of_neg (by simpa using h)]; simp
theorem upto_len (S : List Nat) (k : Nat) : (uptoS S k).length ≤ k := by
  unfold uptoS; rw [List.length_map]
  exact Nat.le_trans (List.length_filter_le _ _) (by simp)
def varsS (e : Ex) : List Int := uptoS (usedS e) 16

end Go.Proofs.Ytkkacfnkjiijkaa
