/-
  How this seat's arguments read: event types, lists of integers, events. No condition.
-/
import Derived.Test.YtfpbgdjloccdbaaRows
import Derived.Test.YtfpbgdjloccdbaaW14
import Derived.JoinedCond
import Derived.ProofKit
namespace Go.Proofs.Ytfpbgdjloccdbaa
open Go Go.Aw
set_option linter.unusedVariables false
set_option linter.unusedSimpArgs false
set_option maxRecDepth 20000

theorem sum_ones {α : Type} (l : List α) : (l.map fun _ => 1).sum = l.length := by
  induction l with
  | nil => rfl
  | cons a r ih => simp only [List.map_cons, List.sum_cons, List.length_cons, ih]; omega

theorem bulk {H : Type} : Bulk (Rows.uptoBulk (H := H)) Rows.uptoBulkAll where
  nil := by simp [Rows.uptoBulkAll]
  cons := by intro x r; simp [Rows.uptoBulkAll]
  agg := by intro ps; simp [Rows.uptoBulk]
  slice := by intro es sp; simp only [Rows.uptoBulk]; omega
  str := by intro s; simp [Rows.uptoBulk]
  one := by
    intro d
    cases d with
    | lit l => cases l <;> simp [Rows.uptoBulk]
    | _ => simp [Rows.uptoBulk]

section
variable {H : Type} {enc : TypeId × Value → H} {w : World} {sp : Nat → Bool} {hd : Bool}

abbrev R (enc : TypeId × Value → H) (w : World) (sp : Nat → Bool) (hd : Bool) {α : Type} (fuel : Nat) (t : TypeId) (f : α → List AV) (ok : α → Prop) (bk : α → Nat) : Prop := Rd enc Try.prog w sp hd Rows.uptoBulk fuel t f ok bk

theorem rI (fuel : Nat) : R enc w sp hd fuel 3 (fun n : Int => [.int .i64 n]) (fun n => (Lit.int .i64 n).wf = true) (fun _ => 1) := Rd.int Try.underlying3 bulk
theorem rS (fuel : Nat) : R enc w sp hd fuel 9 (fun s : List UInt8 => [.str s]) (fun s => s.length ≤ maxLen) (fun s => s.length + 1) := Rd.str Try.underlying9 bulk
theorem z3 : Try.prog.cellsOf 3 = 1 := by kernel_rfl
theorem z9 : Try.prog.cellsOf 9 = 1 := by kernel_rfl

def wfV (v : Vl) : Prop := (Lit.int .i64 v.kind).wf = true ∧ (Lit.int .i64 v.num).wf = true
theorem rV (fuel : Nat) : R enc w sp hd fuel 39 cV wfV (fun v => v.text.length + 1) :=
  (Rd.struct' Try.underlying39 bulk rfl (by kernel_rfl) (by kernel_rfl) fun m _ => Rds.cons bulk z3 (rI m) <| Rds.cons bulk z3 (rI m) <| Rds.cons bulk z9 (rS m) Rds.nil).map
    (fun x => (⟨x.1, x.2.1, x.2.2.1⟩ : Vl)) (fun _ => rfl) (fun _ h => ⟨h.1, h.2.1⟩) (fun _ => by simp only; omega)
theorem z28 : Try.prog.cellsOf 28 = 1 := by kernel_rfl
theorem rEv (fuel : Nat) : R enc w sp hd fuel 30 cEv (fun _ => True) (fun e => e.values.length + 1) :=
  (Rd.struct' Try.underlying30 bulk rfl (by kernel_rfl) (by kernel_rfl) fun m _ => Rds.cons bulk z3 (rI m) <| Rds.cons bulk z3 (rI m) <| Rds.cons bulk z3 (rI m) <| Rds.cons bulk z3 (rI m) <|
    Rds.cons bulk z28 (Rd.slice' (z := 3) Try.underlying28 (by kernel_rfl) (by decide) bulk fun k _ => rV k) Rds.nil).map
    (fun x => (⟨x.1, x.2.1, x.2.2.1, x.2.2.2.1, x.2.2.2.2.1⟩ : Ev)) (fun _ => rfl) (fun _ _ => trivial) (fun x => by
      have : ∀ l : List Vl, l.length ≤ (l.map fun v => v.text.length + 1).sum := by
        intro l
        induction l with
        | nil => exact Nat.le_refl _
        | cons a r ih => simp only [List.length_cons, List.map_cons, List.sum_cons]; omega
      have := this x.2.2.2.2.1
      simp only; omega)

theorem rFi (fuel : Nat) : R enc w sp hd fuel 70 cFi (fun _ => True) (fun f => f.name.length + 1) :=
  (Rd.struct' Try.underlying70 bulk rfl (by kernel_rfl) (by kernel_rfl) fun m _ => Rds.cons bulk z9 (rS m) <| Rds.cons bulk z3 (rI m) Rds.nil).map
    (fun x => (⟨x.1, x.2.1⟩ : Fi)) (fun _ => rfl) (fun _ _ => trivial) (fun _ => by simp only; omega)
theorem z49 : Try.prog.cellsOf 49 = 1 := by kernel_rfl
def scN (s : Sc) : Nat := s.name.length + (s.fields.map fun f => f.name.length + 1).sum + 1
theorem rSc (fuel : Nat) : R enc w sp hd fuel 51 cSc (fun _ => True) scN :=
  (Rd.struct' Try.underlying51 bulk rfl (by kernel_rfl) (by kernel_rfl) fun m _ => Rds.cons bulk z9 (rS m) <| Rds.cons bulk z49 (Rd.slice' (z := 2) Try.underlying49 (by kernel_rfl) (by decide) bulk fun k _ => rFi k) Rds.nil).map
    (fun x => (⟨x.1, x.2.1⟩ : Sc)) (fun _ => rfl) (fun _ _ => trivial) (fun _ => by simp only [scN]; omega)
theorem rTys (fuel : Nat) : R enc w sp hd fuel 22 (fun l : List Sc => [.sl 2 (l.map cSc)]) (fun _ => True) (fun l => (l.map scN).sum + 1) :=
  (Rd.slice' (z := 2) Try.underlying22 (by kernel_rfl) (by decide) bulk fun k _ => rSc k).congr rfl (fun _ _ => trivial) (fun _ => Nat.le_refl _)
theorem rKey (fuel : Nat) : R enc w sp hd fuel 23 (fun l : List Int => [.sl 1 (l.map cI)]) (fun _ => True) (fun l => l.length + 1) :=
  (Rd.slice' (z := 1) Try.underlying23 (by kernel_rfl) (by decide) bulk fun k _ => rI k).congr rfl (fun _ _ => trivial) (fun l => by rw [sum_ones]; exact Nat.le_refl _)
theorem rEvL (fuel : Nat) : R enc w sp hd fuel 24 (fun l : List Ev => [.sl 5 (l.map cEv)]) (fun _ => True) (fun l => (l.map fun e => e.values.length + 1).sum + 1) :=
  (Rd.slice' (z := 5) Try.underlying24 (by kernel_rfl) (by decide) bulk fun k _ => rEv k).congr rfl (fun _ _ => trivial) (fun _ => Nat.le_refl _)
theorem scN_le {l : List Sc} {n : Nat} (h : (l.map scN).sum ≤ n) : l.length ≤ n ∧ ∀ s ∈ l, scN s ≤ n := by
  induction l generalizing n with
  | nil => simp
  | cons a r ih =>
    simp only [List.map_cons, List.sum_cons] at h
    have := ih (n := n - scN a) (by omega)
    have h1 : 1 ≤ scN a := by unfold scN; omega
    simp only [List.length_cons, List.mem_cons, forall_eq_or_imp]
    exact ⟨by omega, by omega, fun e he => by have := this.2 e he; omega⟩
theorem scOK_of {s : Sc} (h : scN s ≤ 1048576) : scOK s := by
  unfold scN at h
  have key : ∀ l : List Fi, l.length ≤ (l.map fun f => f.name.length + 1).sum ∧ ∀ f ∈ l, f.name.length ≤ (l.map fun f => f.name.length + 1).sum := by
    intro l
    induction l with
    | nil => simp
    | cons a r ih =>
      simp only [List.map_cons, List.sum_cons, List.length_cons, List.mem_cons, forall_eq_or_imp]
      exact ⟨by omega, by omega, fun f hf => by have := ih.2 f hf; omega⟩
  have := key s.fields
  exact ⟨by omega, by omega, fun f hf => by have := this.2 f hf; omega⟩
end
theorem laid : laidOutB Try.prog = true := by kernel_rfl
theorem own : ownKnob Try.prog.godebug = none := by kernel_rfl

end Go.Proofs.Ytfpbgdjloccdbaa
