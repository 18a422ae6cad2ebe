/-
  How this seat's arguments read: values, expressions, events, environments. No condition.
-/
import Derived.Test.YtkkacfnkjiijkaaRows
import Derived.Test.YtkkacfnkjiijkaaM3
import Derived.JoinedCond
import Derived.ProofKit
namespace Go.Proofs.Ytkkacfnkjiijkaa
open Go Go.Aw
set_option linter.unusedVariables false
set_option linter.unusedSimpArgs false
set_option maxRecDepth 20000

theorem bulk {H : Type} : Bulk (Rows.uptoBulk (H := H)) Rows.uptoBulkAll where
  nil := by simp [Rows.uptoBulkAll]
  cons := by intro x r; simp [Rows.uptoBulkAll]
  agg := by intro ps; simp [Rows.uptoBulk]
  slice := by intro es sp; simp only [Rows.uptoBulk]; omega
  str := by intro s; simp [Rows.uptoBulk]
  one := by
    intro d
    cases d with
    | lit l => cases l <;> simp [Rows.uptoBulk]
    | _ => simp [Rows.uptoBulk]

section
variable {H : Type} {enc : TypeId × Value → H} {w : World} {sp : Nat → Bool} {hd : Bool}

abbrev R (enc : TypeId × Value → H) (w : World) (sp : Nat → Bool) (hd : Bool) {α : Type} (fuel : Nat) (t : TypeId) (f : α → List AV) (ok : α → Prop) (bk : α → Nat) : Prop := Rd enc Try.prog w sp hd Rows.uptoBulk fuel t f ok bk

theorem rI (fuel : Nat) : R enc w sp hd fuel 3 (fun n : Int => [.int .i64 n]) (fun n => (Lit.int .i64 n).wf = true) (fun _ => 1) := Rd.int Try.underlying3 bulk
theorem rS (fuel : Nat) : R enc w sp hd fuel 9 (fun s : List UInt8 => [.str s]) (fun s => s.length ≤ maxLen) (fun s => s.length + 1) := Rd.str Try.underlying9 bulk
theorem z3 : Try.prog.cellsOf 3 = 1 := by kernel_rfl
theorem z9 : Try.prog.cellsOf 9 = 1 := by kernel_rfl

def wfV (v : Vl) : Prop := (Lit.int .i64 v.kind).wf = true ∧ (Lit.int .i64 v.num).wf = true
theorem rV (fuel : Nat) : R enc w sp hd fuel 24 cV wfV (fun v => v.text.length + 1) :=
  (Rd.struct' Try.underlying24 bulk rfl (by kernel_rfl) (by kernel_rfl) fun m _ => Rds.cons bulk z3 (rI m) <| Rds.cons bulk z3 (rI m) <| Rds.cons bulk z9 (rS m) Rds.nil).map
    (fun x => (⟨x.1, x.2.1, x.2.2.1⟩ : Vl)) (fun _ => rfl) (fun _ h => ⟨h.1, h.2.1⟩) (fun _ => by simp only; omega)
theorem z24 : Try.prog.cellsOf 24 = 3 := by kernel_rfl
theorem z22 : Try.prog.cellsOf 22 = 1 := by kernel_rfl
theorem z30 : Try.prog.cellsOf 30 = 1 := by kernel_rfl

theorem encE_fun : encE = cE := funext encE_eq
theorem rE (fuel : Nat) : R enc w sp hd fuel 26 cE (fun _ => True) sizeN := by
  induction fuel using Nat.strongRecOn with
  | _ n ih =>
    exact (Rd.struct' Try.underlying26 bulk rfl (by kernel_rfl) (by kernel_rfl) fun m hm => Rds.cons bulk z3 (rI m) <| Rds.cons bulk z22 (Rd.slice' (z := 8) Try.underlying22 (by kernel_rfl) (by decide) bulk fun k hk => ih k (Nat.lt_trans hk hm)) <|
      Rds.cons bulk z3 (rI m) <| Rds.cons bulk z3 (rI m) <| Rds.cons bulk z3 (rI m) <| Rds.cons bulk z24 (rV m) Rds.nil).map
      (fun x => (⟨x.1, x.2.1, x.2.2.1, x.2.2.2.1, x.2.2.2.2.1, x.2.2.2.2.2.1⟩ : Ex)) (fun x => by simp [cE, cV, encE_fun]) (fun _ _ => trivial) (fun x => by rw [sizeN_eq]; simp only; omega)

theorem rEv (fuel : Nat) : R enc w sp hd fuel 32 cEv (fun _ => True) (fun e => e.values.length + 1) :=
  (Rd.struct' Try.underlying32 bulk rfl (by kernel_rfl) (by kernel_rfl) fun m _ => Rds.cons bulk z3 (rI m) <| Rds.cons bulk z3 (rI m) <| Rds.cons bulk z3 (rI m) <| Rds.cons bulk z3 (rI m) <|
    Rds.cons bulk z30 (Rd.slice' (z := 3) Try.underlying30 (by kernel_rfl) (by decide) bulk fun k _ => rV k) Rds.nil).map
    (fun x => (⟨x.1, x.2.1, x.2.2.1, x.2.2.2.1, x.2.2.2.2.1⟩ : Ev)) (fun _ => rfl) (fun _ _ => trivial) (fun x => by
      have : ∀ l : List Vl, l.length ≤ (l.map fun v => v.text.length + 1).sum := by
        intro l
        induction l with
        | nil => exact Nat.le_refl _
        | cons a r ih => simp only [List.length_cons, List.map_cons, List.sum_cons]; omega
      have := this x.2.2.2.2.1
      simp only; omega)

theorem rEvs (fuel : Nat) : R enc w sp hd fuel 60 cEvs (fun _ => True) (fun l => l.length + 1) :=
  (Rd.slice' (z := 5) Try.underlying60 (by kernel_rfl) (by decide) bulk fun k _ => rEv k).congr rfl (fun _ _ => trivial) (fun l => by
    have : ∀ l : List Ev, l.length ≤ (l.map fun e => e.values.length + 1).sum := by
      intro l
      induction l with
      | nil => exact Nat.le_refl _
      | cons a r ih => simp only [List.length_cons, List.map_cons, List.sum_cons]; omega
    have := this l
    omega)

/-- an environment's events and variables -/
def envN (l : List (List Ev)) : Nat := (l.map fun e => e.length + 1).sum
theorem rVs (fuel : Nat) : R enc w sp hd fuel 27 (fun l : List (List Ev) => [.sl 1 (l.map cEvs)]) (fun _ => True) (fun l => envN l + 1) :=
  (Rd.slice' (z := 1) Try.underlying27 (by kernel_rfl) (by decide) bulk fun k _ => rEvs k).congr rfl (fun _ _ => trivial) (fun _ => Nat.le_refl _)
theorem z27 : Try.prog.cellsOf 27 = 1 := by kernel_rfl
theorem z29 : Try.prog.cellsOf 29 = 1 := by kernel_rfl
theorem z32 : Try.prog.cellsOf 32 = 5 := by kernel_rfl
theorem rEnv (fuel : Nat) : R enc w sp hd fuel 29 cEnv (fun _ => True) (fun l => envN l + 1) :=
  (Rd.struct' Try.underlying29 bulk rfl (by kernel_rfl) (by kernel_rfl) fun m _ => Rds.cons bulk z27 (rVs m) Rds.nil).map (fun x => x.1) (fun _ => rfl) (fun _ _ => trivial) (fun _ => Nat.le_refl _)

def cP (x : List (List Ev) × Int × Ev) : List AV := [.sl 1 (x.1.map cEvs), .int .i64 x.2.1, .int .i64 x.2.2.source, .int .i64 x.2.2.seq, .int .i64 x.2.2.type, .int .i64 x.2.2.time, .sl 3 (x.2.2.values.map cV)]
theorem rP (fuel : Nat) : R enc w sp hd fuel 34 cP (fun _ => True) (fun x => envN x.1 + 1) :=
  (Rd.struct' Try.underlying34 bulk rfl (by kernel_rfl) (by kernel_rfl) fun m _ => Rds.cons bulk z29 (rEnv m) <| Rds.cons bulk z3 (rI m) <| Rds.cons bulk z32 (rEv m) Rds.nil).map (fun x => (x.1, x.2.1, x.2.2.1)) (fun _ => rfl) (fun _ _ => trivial)
    (fun _ => by simp only; omega)

theorem envN_le {l : List (List Ev)} {n : Nat} (h : envN l ≤ n) : l.length ≤ n ∧ ∀ e ∈ l, e.length ≤ n := by
  unfold envN at h
  induction l generalizing n with
  | nil => simp
  | cons a r ih =>
    simp only [List.map_cons, List.sum_cons] at h
    have := ih (n := n - (a.length + 1)) (by omega)
    simp only [List.length_cons, List.mem_cons, forall_eq_or_imp]
    exact ⟨by omega, by omega, fun e he => by have := this.2 e he; omega⟩

end
theorem laid : laidOutB Try.prog = true := by kernel_rfl
theorem own : ownKnob Try.prog.godebug = none := by kernel_rfl

end Go.Proofs.Ytkkacfnkjiijkaa
