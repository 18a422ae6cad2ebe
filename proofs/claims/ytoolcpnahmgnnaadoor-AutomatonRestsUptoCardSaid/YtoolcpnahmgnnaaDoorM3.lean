/-
  Small laws for the walks of layer 8. No condition.
-/
import Derived.Test.YtoolcpnahmgnnaaDoorM2
namespace Go.Proofs.YtoolcpnahmgnnaaDoor
open Go Go.Aw
set_option linter.unusedVariables false
set_option linter.unusedSimpArgs false

theorem foldr_max_drop {l : List Ex} {k : Nat} {a : Ex} (d : Nat) (h : l[k]? = some a) : max d (((l.drop k).map depthN).foldr max 0) = max (max d (depthN a)) (((l.drop (k + 1)).map depthN).foldr max 0) := by
  rw [drop_cons h]; simp only [List.map_cons, List.foldr_cons]; omega
theorem sum_drop {l : List Ex} {k : Nat} {a : Ex} (n : Nat) (h : l[k]? = some a) : n + ((l.drop k).map sizeN).sum = (n + sizeN a) + ((l.drop (k + 1)).map sizeN).sum := by
  rw [drop_cons h]; simp only [List.map_cons, List.sum_cons]; omega

theorem size_pos (e : Ex) : 1 ≤ sizeN e := by rw [sizeN_eq]; omega
theorem args_le (e : Ex) (h : sizeN e ≤ 1048576) : e.args.length ≤ 1048576 := by
  rw [sizeN_eq] at h
  have : ∀ l : List Ex, l.length ≤ (l.map sizeN).sum := by
    intro l
    induction l with
    | nil => exact Nat.le_refl _
    | cons x r ih => simp only [List.length_cons, List.map_cons, List.sum_cons]; have := size_pos x; omega
  have := this e.args
  omega
theorem countNs_stop {L n : Nat} (h : L < n) : ∀ l : List Ex, countNs L l n = n
  | [] => rfl
  | _ :: _ => by rw [countNs, if_neg (by omega)]

/-- What the reference says of a node. -/
def rnodeS (e : Ex) : Int :=
  if decide ((if 0 ≤ e.op ∧ e.op ≤ 12 then arityS e.op else -1) < 0) then 1
  else if (e.args.length : Int) != (if 0 ≤ e.op ∧ e.op ≤ 12 then arityS e.op else -1) then 15
  else if ((usesS e.op).1 && (decide (e.var < 0) || decide (16 ≤ e.var))) || ((usesS e.op).2 && (decide (e.field < 0) || decide (8 ≤ e.field))) then 2
  else if e.op == 4 && (decide (e.kind < 1) || decide (5 < e.kind)) then 1
  else if e.op == 4 || e.op == 0 then (if vcheckS e.val != 0 then vcheckS e.val else if e.op == 4 && (!rsuitsS e.kind e.val || (e.kind == 1 && !isV0 e.val)) then 9 else formS e)
  else if e.op == 4 && (!rsuitsS e.kind e.val || (e.kind == 1 && !isV0 e.val)) then 9
  else formS e

end Go.Proofs.YtoolcpnahmgnnaaDoor
