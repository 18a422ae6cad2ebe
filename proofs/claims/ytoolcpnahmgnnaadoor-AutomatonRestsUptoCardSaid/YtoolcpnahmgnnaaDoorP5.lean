/-
  The plain laws of automata with other numbers of their states, and of isomorphism both ways. No program in sight. No condition.
-/
import Derived.Test.YtoolcpnahmgnnaaDoorP4
namespace Go.Proofs.YtoolcpnahmgnnaaDoor
open Go Go.Aw
set_option linter.unusedVariables false
set_option linter.unusedSimpArgs false

theorem sameGu_iff (x y : Gu) : sameGu x y = true ↔ x = y := by
  unfold sameGu
  rw [Bool.and_eq_true, Bool.and_eq_true, Bool.and_eq_true, beq_iff_eq, beq_iff_eq, beq_iff_eq, sameS_iff]
  cases x; cases y
  simp only [Gu.mk.injEq]
  constructor
  · rintro ⟨⟨⟨h1, h2⟩, h3⟩, h4⟩; exact ⟨h1, h2, h3, h4⟩
  · rintro ⟨h1, h2, h3, h4⟩; exact ⟨⟨⟨h1, h2⟩, h3⟩, h4⟩
theorem allTwo_iff {α : Type} {f : α → α → Bool} (hf : ∀ x y, f x y = true ↔ x = y) : ∀ l m : List α, allTwo f l m = true ↔ l = m
  | [], [] => by simp [allTwo]
  | [], _ :: _ => by simp [allTwo]
  | _ :: _, [] => by simp [allTwo]
  | x :: r, y :: s => by
    unfold allTwo
    rw [Bool.and_eq_true, hf, allTwo_iff hf r s, List.cons.injEq]
theorem sameGs_iff (l m : List Gu) : sameGs l m = true ↔ l = m := allTwo_iff sameGu_iff l m
theorem sameEd_iff (x y : Ed) : sameEd x y = true ↔ ({ x with src := y.src, dst := y.dst } : Ed) = y := by
  unfold sameEd
  rw [Bool.and_eq_true, Bool.and_eq_true, Bool.and_eq_true, Bool.and_eq_true, Bool.and_eq_true, Bool.and_eq_true, Bool.and_eq_true, beq_iff_eq, beq_iff_eq, beq_iff_eq, beq_iff_eq, beq_iff_eq, beq_iff_eq, sameS_iff, allTwo_iff sameS_iff]
  cases x; cases y
  simp only [Ed.mk.injEq, true_and]
  constructor
  · rintro ⟨⟨⟨⟨⟨⟨⟨h1, h2⟩, h3⟩, h4⟩, h5⟩, h6⟩, h7⟩, h8⟩; exact ⟨h1, h2, h3, h5, h6, h4, h8, h7⟩
  · rintro ⟨h1, h2, h3, h5, h6, h4, h8, h7⟩; exact ⟨⟨⟨⟨⟨⟨⟨h1, h2⟩, h3⟩, h4⟩, h5⟩, h6⟩, h7⟩, h8⟩
theorem sameEdf_iff (x y : Ed) : sameEdf x y = true ↔ x = y := by
  unfold sameEdf
  rw [Bool.and_eq_true, Bool.and_eq_true, beq_iff_eq, beq_iff_eq, sameEd_iff]
  constructor
  · rintro ⟨⟨h1, h2⟩, h3⟩
    rw [← h1, ← h2] at h3
    exact h3
  · rintro rfl; exact ⟨⟨rfl, rfl⟩, rfl⟩
theorem sameAu_refl (a : Au) : sameAu a a = true := by
  unfold sameAu
  rw [(allTwo_iff sameGs_iff _ _).2 rfl, (allTwo_iff sameEdf_iff _ _).2 rfl]
  simp

/-! Both ways. -/
variable {a b : Au} {q : Pg}
/-! Pairings that are given by a renumbering. -/
noncomputable def listI (n : Nat) (P : Int → Prop) (f : Int → Int) : List Int := by classical exact (List.range n).map fun (i : Nat) => if P (i : Int) then f (i : Int) else -1
abbrev mapE (σ : Int → Int) (s : Int) (x : Ed) : Ed := { x with src := s, dst := if decide (0 ≤ x.dst) then σ x.dst else x.dst }
noncomputable abbrev pgOf (n m : Nat) (P : Int → Prop) (σ τ : Int → Int) : Pg := (listI n P σ, listI m (fun t => InR n (τ t) ∧ P (τ t) ∧ σ (τ t) = t) τ)
/-! The states but 0 in the opposite order. -/
def tn (n : Nat) (i : Int) : Int := if decide (i ≤ 0) then i else (n : Int) - i
theorem tn_zero (n : Nat) : tn n 0 = 0 := rfl
def turnE (n : Nat) (x : Ed) : Ed := { x with src := tn n x.src, dst := tn n x.dst }
def chunk (n : Nat) (l : List Ed) (i : Nat) : List Ed := (l.filter fun x => tn n x.src == (i : Int)).map (turnE n)
def turnS (a : Au) : Au := ⟨a.vars, a.scopes, (List.range a.states.length).map fun (j : Nat) => stS a (tn a.states.length (j : Int)), (List.range a.states.length).flatMap (chunk a.states.length a.edges)⟩
/-! What is kept of it. -/
end Go.Proofs.YtoolcpnahmgnnaaDoor
