/-
  Small laws for the walk of eval. No condition.
-/
import Derived.Test.YtkkacfnkjiijkaaM3
namespace Go.Proofs.Ytkkacfnkjiijkaa
open Go Go.Aw
set_option linter.unusedVariables false
set_option linter.unusedSimpArgs false

theorem first_zero {α : Type} {f : α → Int} : ∀ {l : List α}, firstS f l = 0 → ∀ a ∈ l, f a = 0
  | [], _, _, h => by cases h
  | x :: r, h, a, ha => by
    simp only [firstS] at h
    by_cases hx : f x = 0
    · rw [if_neg (by simp [hx])] at h
      rcases List.mem_cons.1 ha with rfl | ha
      · exact hx
      · exact first_zero h a ha
    · rw [if_pos (by simpa using hx)] at h; exact absurd h hx

theorem nodes_zero {e : Ex} (h : nodesS e = 0) : nodeS e = 0 ∧ ∀ a ∈ e.args, nodesS a = 0 := by
  rw [nodesS_eq] at h
  by_cases hx : nodeS e = 0
  · rw [if_neg (by simp [hx])] at h
    exact ⟨hx, first_zero h⟩
  · rw [if_pos (by simpa using hx)] at h; exact absurd h hx

theorem node_shape {e : Ex} (h : nodeS e = 0) : 0 ≤ e.op ∧ e.op ≤ 12 ∧ (e.args.length : Int) = arityS e.op := by
  unfold nodeS at h
  split at h
  · cases h
  split at h
  · cases h
  rename_i h1 h2
  simp at h1 h2
  exact ⟨h1.1, h1.2, h2⟩

theorem node_field {e : Ex} (h : nodeS e = 0) : 0 ≤ e.field := by
  have hf : formS e = 0 → (usesS e.op).2 = false → e.field = 0 := by
    intro h1 h2
    unfold formS at h1
    split at h1
    · cases h1
    · rename_i h3
      simp [h2] at h3
      exact h3.1.1.2
  unfold nodeS at h
  split at h
  · cases h
  split at h
  · cases h
  split at h
  · cases h
  rename_i h1 h2 h3
  cases hu : (usesS e.op).2 with
  | true =>
    simp [hu] at h3
    omega
  | false =>
    have : formS e = 0 := by
      split at h
      · cases h
      split at h
      · split at h
        · rename_i h4
          exact absurd h (by simpa using h4)
        · exact h
      · exact h
    rw [hf this hu]; exact Int.le_refl _

theorem node_args {e : Ex} (h : nodeS e = 0) (hne : ((e.args.length : Int) == 0) = false) : (e.args.length = 1 ∧ e.op = 12) ∨ (e.args.length = 2 ∧ 5 ≤ e.op ∧ e.op ≤ 11) := by
  obtain ⟨h1, h2, h3⟩ := node_shape h
  have hne' : e.args.length ≠ 0 := by simpa using hne
  unfold arityS at h3
  split at h3
  · omega
  split at h3
  · omega
  split at h3
  · omega
  · omega

end Go.Proofs.Ytkkacfnkjiijkaa
