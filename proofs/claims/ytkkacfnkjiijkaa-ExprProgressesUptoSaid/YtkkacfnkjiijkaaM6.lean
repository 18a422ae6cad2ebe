/-
  Renaming as a plain function, and its laws. No condition.
-/
import Derived.Test.YtkkacfnkjiijkaaM5
namespace Go.Proofs.Ytkkacfnkjiijkaa
open Go Go.Aw
set_option linter.unusedVariables false
set_option linter.unusedSimpArgs false

def atS (to : List Int) (v : Int) : Int := (to[v.toNat]?).getD 0
def renErrS (to : List Int) (e : Ex) : Int :=
  if !(usesS e.op).1 then 0 else if decide ((to.length : Int) ≤ e.var) then 6 else if decide (atS to e.var < 0) || decide (16 ≤ atS to e.var) then 2 else 0
def renNodeS (to : List Int) (e : Ex) : Ex := if (usesS e.op).1 then ⟨e.op, e.args, atS to e.var, e.field, e.kind, e.val⟩ else e
def renS (to : List Int) (e : Ex) : Ex × Int := if visitS (renErrS to) e != 0 then (ex0, visitS (renErrS to) e) else (rebS (renNodeS to) e, 0)
def RenameS (e : Ex) (to : List Int) : Ex × Int := if checkS e != 0 then (ex0, checkS e) else renS to e

theorem node_var {e : Ex} (h : nodeS e = 0) : 0 ≤ e.var ∧ e.var < 16 := by
  have hf : formS e = 0 → (usesS e.op).1 = false → e.var = 0 := by
    intro h1 h2
    unfold formS at h1
    split at h1
    · cases h1
    · rename_i h3
      simp [h2] at h3
      exact h3.1.1.1
  unfold nodeS at h
  split at h
  · cases h
  split at h
  · cases h
  split at h
  · cases h
  rename_i h1 h2 h3
  cases hu : (usesS e.op).1 with
  | true =>
    simp [hu] at h3
    omega
  | false =>
    have : formS e = 0 := by
      split at h
      · cases h
      split at h
      · split at h
        · rename_i h4
          exact absurd h (by simpa using h4)
        · exact h
      · exact h
    rw [hf this hu]; omega

theorem at_get {to : List Int} {v : Int} (h0 : 0 ≤ v) (h : v < (to.length : Int)) : to[v.toNat]? = some (atS to v) := by
  unfold atS
  have : v.toNat < to.length := by omega
  simp [this]

theorem visit_zero {f : Ex → Int} {e : Ex} (h : visitS f e = 0) : f e = 0 ∧ ∀ a ∈ e.args, visitS f a = 0 := by
  rw [visitS_eq] at h
  by_cases hx : f e = 0
  · rw [if_neg (by simp [hx])] at h
    exact ⟨hx, first_zero h⟩
  · rw [if_pos (by simpa using hx)] at h; exact absurd h hx

theorem renErr_var {to : List Int} {e : Ex} (h : renErrS to e = 0) (hu : (usesS e.op).1 = true) : e.var < (to.length : Int) ∧ 0 ≤ atS to e.var ∧ atS to e.var < 16 := by
  unfold renErrS at h
  simp only [hu, Bool.not_true, Bool.false_eq_true, if_false] at h
  split at h
  · cases h
  split at h
  · cases h
  rename_i h1 h2
  simp at h1 h2
  omega

theorem ren_size (to : List Int) (e : Ex) : sizeN (rebS (renNodeS to) e) = sizeN e := by
  induction e using Ex.ind with
  | h e ih =>
    have : ∀ x : Ex, sizeN (renNodeS to x) = sizeN x := by
      intro x
      unfold renNodeS
      split
      · rw [sizeN_eq, sizeN_eq x]
      · rfl
    rw [rebS_eq, this, sizeN_eq, sizeN_eq e]
    have key : ∀ l : List Ex, (∀ a ∈ l, sizeN (rebS (renNodeS to) a) = sizeN a) → ((l.map (rebS (renNodeS to))).map sizeN).sum = (l.map sizeN).sum := by
      intro l
      induction l with
      | nil => intro _; rfl
      | cons x r ihr =>
        intro h
        simp only [List.map_cons, List.sum_cons]
        rw [h x (by simp), ihr fun a ha => h a (by simp [ha])]
    show 1 + ((e.args.map (rebS (renNodeS to))).map sizeN).sum = _
    rw [key e.args ih]

theorem ren_out (to : List Int) (e : Ex) : renNodeS to (outS (renNodeS to) e) = ⟨e.op, e.args.map (rebS (renNodeS to)), if (usesS e.op).1 then atS to e.var else e.var, e.field, e.kind, e.val⟩ := by
  by_cases hu : (usesS e.op).1 = true
  · have h1 : renNodeS to (outS (renNodeS to) e) = ⟨e.op, e.args.map (rebS (renNodeS to)), atS to e.var, e.field, e.kind, e.val⟩ := by unfold renNodeS; exact if_pos hu
    rw [h1, if_pos hu]
  · have h1 : renNodeS to (outS (renNodeS to) e) = outS (renNodeS to) e := by unfold renNodeS; exact if_neg hu
    rw [h1, if_neg hu]; rfl

end Go.Proofs.Ytkkacfnkjiijkaa
