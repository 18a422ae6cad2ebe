/-
  How this seat's arguments read: numbers, strings, trees. No condition.
-/
import Derived.Test.YtabkeeedkhgodaaGreatDoorRows
import Derived.Test.YtabkeeedkhgodaaGreatDoorM13
import Derived.Test.YtabkeeedkhgodaaGreatDoorAx
import Derived.Test.YtabkeeedkhgodaaGreatDoorTab
import Derived.JoinedCond
import Derived.ProofKit
namespace Go.Proofs.YtabkeeedkhgodaaGreatDoor
open Go Go.Aw
set_option linter.unusedVariables false
set_option linter.unusedSimpArgs false
set_option maxRecDepth 20000

theorem bulk {H : Type} : Bulk (Rows.uptoBulk (H := H)) Rows.uptoBulkAll where
  nil := by simp [Rows.uptoBulkAll]
  cons := by intro x r; simp [Rows.uptoBulkAll]
  agg := by intro ps; simp [Rows.uptoBulk]
  slice := by intro es sp; simp only [Rows.uptoBulk]; omega
  str := by intro s; simp [Rows.uptoBulk]
  one := by
    intro d
    cases d with
    | lit l => cases l <;> simp [Rows.uptoBulk]
    | _ => simp [Rows.uptoBulk]

theorem u24 : Tryz.prog.underlying 24 = some (.struct #[⟨ "Kind", 3, 0, false, "", "", 0⟩, ⟨ "Text", 9, 1, false, "", "", 8⟩, ⟨ "Name", 9, 2, false, "", "", 24⟩, ⟨ "Num", 3, 3, false, "", "", 40⟩, ⟨ "Kids", 22, 4, false, "", "", 48⟩, ⟨ "At", 3, 5, false, "", "", 72⟩]) := by kernel_rfl
theorem u22 : Tryz.prog.underlying 22 = some (.slice 24) := by kernel_rfl
def I64 (n : Int) : Prop := -9223372036854775808 ≤ n ∧ n ≤ 9223372036854775807
theorem wf_I64 {n : Int} (h : (Lit.int .i64 n).wf = true) : I64 n := by
  have h1 : (decide (-9223372036854775808 ≤ n) && decide (n ≤ 9223372036854775807)) = true := h
  simp only [Bool.and_eq_true, decide_eq_true_eq] at h1
  exact h1
/-- The size of a tree in words. -/
def bkS : Syn → Nat := fun _ => 1
section
variable {H : Type} {enc : TypeId × Value → H} {w : World} {sp : Nat → Bool} {hd : Bool}
abbrev R (enc : TypeId × Value → H) (w : World) (sp : Nat → Bool) (hd : Bool) {α : Type} (fuel : Nat) (t : TypeId) (f : α → List AV) (ok : α → Prop) (bk : α → Nat) : Prop := Rd enc Tryz.prog w sp hd Rows.uptoBulk fuel t f ok bk
theorem rI (fuel : Nat) : R enc w sp hd fuel 3 (fun n : Int => [.int .i64 n]) I64 (fun _ => 1) := (Rd.int (k := .i64) (by kernel_rfl) bulk).congr rfl (fun _ h => wf_I64 h) (fun _ => Nat.le_refl _)
theorem rS (fuel : Nat) : R enc w sp hd fuel 9 (fun s : List UInt8 => [.str s]) (fun s => s.length ≤ maxLen) (fun s => s.length + 1) := Rd.str (by kernel_rfl) bulk
theorem z3 : Tryz.prog.cellsOf 3 = 1 := by kernel_rfl
theorem z9 : Tryz.prog.cellsOf 9 = 1 := by kernel_rfl
theorem z22 : Tryz.prog.cellsOf 22 = 1 := by kernel_rfl
theorem z24 : Tryz.prog.cellsOf 24 = 6 := by kernel_rfl
theorem encS_fun : encS = cSyn := funext encS_eq
theorem rSy (fuel : Nat) : R enc w sp hd fuel 24 cSyn (fun _ => True) (fun _ => 0) := by
  induction fuel using Nat.strongRecOn with
  | _ n ih =>
    exact (Rd.struct' u24 bulk rfl (by kernel_rfl) (by kernel_rfl) fun m hm => Rds.cons bulk z3 (rI m) <| Rds.cons bulk z9 (rS m) <| Rds.cons bulk z9 (rS m) <| Rds.cons bulk z3 (rI m) <|
      Rds.cons bulk z22 (Rd.slice' (z := 6) u22 z24 (by decide) bulk fun k hk => ih k (Nat.lt_trans hk hm)) <| Rds.cons bulk z3 (rI m) Rds.nil).map
      (fun x => (⟨x.1, x.2.1, x.2.2.1, x.2.2.2.1, x.2.2.2.2.1, x.2.2.2.2.2.1⟩ : Syn)) (fun x => by simp [cSyn, encS_fun]) (fun _ _ => trivial) (fun x => Nat.zero_le _)
end
end Go.Proofs.YtabkeeedkhgodaaGreatDoor
