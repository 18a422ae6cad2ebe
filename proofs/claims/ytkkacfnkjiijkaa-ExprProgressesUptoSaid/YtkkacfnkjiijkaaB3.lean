/-
  How event types and variables of this seat read. No condition.
-/
import Derived.Test.YtkkacfnkjiijkaaB2
import Derived.Test.YtkkacfnkjiijkaaW24
namespace Go.Proofs.Ytkkacfnkjiijkaa
open Go Go.Aw
set_option linter.unusedVariables false
set_option linter.unusedSimpArgs false
set_option maxRecDepth 20000

section
variable {H : Type} {enc : TypeId × Value → H} {w : World} {sp : Nat → Bool} {hd : Bool}
theorem rFi (fuel : Nat) : R enc w sp hd fuel 113 cFi (fun _ => True) (fun f => f.name.length + 1) :=
  (Rd.struct' Try.underlying113 bulk rfl (by kernel_rfl) (by kernel_rfl) fun m _ => Rds.cons bulk z9 (rS m) <| Rds.cons bulk z3 (rI m) Rds.nil).map
    (fun x => (⟨x.1, x.2.1⟩ : Fi)) (fun _ => rfl) (fun _ _ => trivial) (fun _ => by simp only; omega)
theorem z102 : Try.prog.cellsOf 102 = 1 := by kernel_rfl
def scN (s : Sc) : Nat := s.name.length + (s.fields.map fun f => f.name.length + 1).sum + 1
theorem rSc (fuel : Nat) : R enc w sp hd fuel 104 cSc (fun _ => True) scN :=
  (Rd.struct' Try.underlying104 bulk rfl (by kernel_rfl) (by kernel_rfl) fun m _ => Rds.cons bulk z9 (rS m) <| Rds.cons bulk z102 (Rd.slice' (z := 2) Try.underlying102 (by kernel_rfl) (by decide) bulk fun k _ => rFi k) Rds.nil).map
    (fun x => (⟨x.1, x.2.1⟩ : Sc)) (fun _ => rfl) (fun _ _ => trivial) (fun _ => by simp only [scN]; omega)
theorem rTys (fuel : Nat) : R enc w sp hd fuel 62 (fun l : List Sc => [.sl 2 (l.map cSc)]) (fun _ => True) (fun l => (l.map scN).sum + 1) :=
  (Rd.slice' (z := 2) Try.underlying62 (by kernel_rfl) (by decide) bulk fun k _ => rSc k).congr rfl (fun _ _ => trivial) (fun _ => Nat.le_refl _)
theorem rVa (fuel : Nat) : R enc w sp hd fuel 79 cVa (fun _ => True) (fun _ => 1) :=
  (Rd.struct' Try.underlying79 bulk rfl (by kernel_rfl) (by kernel_rfl) fun m _ => Rds.cons bulk z9 (rS m) <| Rds.cons bulk z3 (rI m) Rds.nil).map
    (fun x => (⟨x.1, x.2.1⟩ : Va)) (fun _ => rfl) (fun _ _ => trivial) (fun x => by show 1 ≤ x.1.length + 1 + (1 + 0); omega)
theorem rVas (fuel : Nat) : R enc w sp hd fuel 63 (fun l : List Va => [.sl 2 (l.map cVa)]) (fun _ => True) (fun l => l.length + 1) :=
  (Rd.slice' (z := 2) Try.underlying63 (by kernel_rfl) (by decide) bulk fun k _ => rVa k).congr rfl (fun _ _ => trivial) (fun l => by rw [sum_ones]; exact Nat.le_refl _)
theorem scN_le {l : List Sc} {n : Nat} (h : (l.map scN).sum ≤ n) : l.length ≤ n ∧ ∀ s ∈ l, scN s ≤ n := by
  induction l generalizing n with
  | nil => simp
  | cons a r ih =>
    simp only [List.map_cons, List.sum_cons] at h
    have := ih (n := n - scN a) (by omega)
    have h1 : 1 ≤ scN a := by unfold scN; omega
    simp only [List.length_cons, List.mem_cons, forall_eq_or_imp]
    exact ⟨by omega, by omega, fun e he => by have := this.2 e he; omega⟩
theorem scOK_of {s : Sc} (h : scN s ≤ 1048576) : scOK s := by
  unfold scN at h
  have key : ∀ l : List Fi, l.length ≤ (l.map fun f => f.name.length + 1).sum ∧ ∀ f ∈ l, f.name.length ≤ (l.map fun f => f.name.length + 1).sum := by
    intro l
    induction l with
    | nil => simp
    | cons a r ih =>
      simp only [List.map_cons, List.sum_cons, List.length_cons, List.mem_cons, forall_eq_or_imp]
      exact ⟨by omega, by omega, fun f hf => by have := ih.2 f hf; omega⟩
  have := key s.fields
  exact ⟨by omega, by omega, fun f hf => by have := this.2 f hf; omega⟩
end

end Go.Proofs.Ytkkacfnkjiijkaa
