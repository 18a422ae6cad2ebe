/-
  How this seat's arguments read: expressions, guards, states, edges, automata. No condition.
-/
import Derived.Test.YtoolcpnahmgnnaaGreatDoorRows
import Derived.Test.YtoolcpnahmgnnaaGreatDoorW3
import Derived.Test.YtoolcpnahmgnnaaGreatDoorP8
import Derived.JoinedCond
import Derived.ProofKit
namespace Go.Proofs.YtoolcpnahmgnnaaGreatDoor
open Go Go.Aw
set_option linter.unusedVariables false
set_option linter.unusedSimpArgs false
set_option maxRecDepth 20000

theorem bulk {H : Type} : Bulk (Rows.uptoBulk (H := H)) Rows.uptoBulkAll where
  nil := by simp [Rows.uptoBulkAll]
  cons := by intro x r; simp [Rows.uptoBulkAll]
  agg := by intro ps; simp [Rows.uptoBulk]
  slice := by intro es sp; simp only [Rows.uptoBulk]; omega
  str := by intro s; simp [Rows.uptoBulk]
  one := by
    intro d
    cases d with
    | lit l => cases l <;> simp [Rows.uptoBulk]
    | _ => simp [Rows.uptoBulk]

theorem u61 : Tryz.prog.underlying 61 = some (.struct #[⟨ "Kind", 3, 0, false, "", "", 0⟩, ⟨ "Num", 3, 1, false, "", "", 8⟩, ⟨ "Text", 9, 2, false, "", "", 16⟩]) := by kernel_rfl
theorem u63 : Tryz.prog.underlying 63 = some (.struct #[⟨ "Op", 3, 0, false, "", "", 0⟩, ⟨ "Args", 59, 1, false, "", "", 8⟩, ⟨ "Var", 3, 2, false, "", "", 32⟩, ⟨ "Field", 3, 3, false, "", "", 40⟩, ⟨ "Kind", 3, 4, false, "", "", 48⟩, ⟨ "Value", 61, 5, false, "", "", 56⟩]) := by kernel_rfl
theorem u105 : Tryz.prog.underlying 105 = some (.struct #[⟨ "Scope", 3, 0, false, "", "", 0⟩, ⟨ "Span", 3, 1, false, "", "", 8⟩]) := by kernel_rfl
theorem u93 : Tryz.prog.underlying 93 = some (.struct #[⟨ "Scope", 3, 0, false, "", "", 0⟩, ⟨ "Type", 3, 1, false, "", "", 8⟩, ⟨ "Var", 3, 2, false, "", "", 16⟩, ⟨ "Cond", 63, 3, false, "", "", 24⟩]) := by kernel_rfl
theorem u70 : Tryz.prog.underlying 70 = some (.struct #[⟨ "Guards", 68, 0, false, "", "", 0⟩]) := by kernel_rfl
theorem u66 : Tryz.prog.underlying 66 = some (.struct #[⟨ "From", 3, 0, false, "", "", 0⟩, ⟨ "To", 3, 1, false, "", "", 8⟩, ⟨ "Var", 3, 2, false, "", "", 16⟩, ⟨ "Type", 3, 3, false, "", "", 24⟩, ⟨ "Cond", 63, 4, false, "", "", 32⟩, ⟨ "Opens", 40, 12, false, "", "", 120⟩, ⟨ "Closes", 40, 13, false, "", "", 144⟩, ⟨ "Checks", 59, 14, false, "", "", 168⟩, ⟨ "Limits", 64, 15, false, "", "", 192⟩, ⟨ "Inside", 40, 16, false, "", "", 216⟩]) := by kernel_rfl
theorem u25 : Tryz.prog.underlying 25 = some (.struct #[⟨ "Vars", 3, 0, false, "", "", 0⟩, ⟨ "Scopes", 3, 1, false, "", "", 8⟩, ⟨ "States", 22, 2, false, "", "", 16⟩, ⟨ "Edges", 23, 3, false, "", "", 40⟩]) := by kernel_rfl
theorem u59 : Tryz.prog.underlying 59 = some (.slice 63) := by kernel_rfl
theorem u64 : Tryz.prog.underlying 64 = some (.slice 105) := by kernel_rfl
theorem u68 : Tryz.prog.underlying 68 = some (.slice 93) := by kernel_rfl
theorem u22 : Tryz.prog.underlying 22 = some (.slice 70) := by kernel_rfl
theorem u23 : Tryz.prog.underlying 23 = some (.slice 66) := by kernel_rfl
theorem u40 : Tryz.prog.underlying 40 = some (.slice 3) := by kernel_rfl
theorem wf_I64 {n : Int} (h : (Lit.int .i64 n).wf = true) : I64 n := by
  have h1 : (decide (-9223372036854775808 ≤ n) && decide (n ≤ 9223372036854775807)) = true := h
  simp only [Bool.and_eq_true, decide_eq_true_eq] at h1
  exact h1
def gN (g : Gu) : Nat := sizeN g.cond + 1
def gsN (s : List Gu) : Nat := (s.map gN).sum + 1
def edN (x : Ed) : Nat := sizeN x.cond + x.opens.length + x.closes.length + (x.checks.map sizeN).sum + x.limits.length + x.inside.length + 1
def auN (a : Au) : Nat := (a.states.map gsN).sum + (a.edges.map edN).sum
theorem sum_len {α : Type} {f : α → Nat} (h : ∀ x, 1 ≤ f x) : ∀ l : List α, l.length ≤ (l.map f).sum
  | [] => Nat.le_refl _
  | a :: r => by have := sum_len h r; have := h a; simp only [List.length_cons, List.map_cons, List.sum_cons]; omega
theorem sum_mem {α : Type} {f : α → Nat} : ∀ {l : List α} {x : α}, x ∈ l → f x ≤ (l.map f).sum
  | a :: r, x, h => by
    rcases List.mem_cons.1 h with rfl | h
    · simp only [List.map_cons, List.sum_cons]; omega
    · have := sum_mem (f := f) h; simp only [List.map_cons, List.sum_cons]; omega
theorem gs_sm {s : List Gu} (h : gsN s ≤ 1048576) : GsSm s := by
  unfold gsN at h
  have h1 := sum_len (f := gN) (fun x => by unfold gN; omega) s
  refine ⟨by omega, fun g hg => ?_⟩
  have h2 := sum_mem (f := gN) hg
  unfold gN at h2 h
  omega
theorem one_sizeN (e : Ex) : 1 ≤ sizeN e := by rw [sizeN_eq]; omega
theorem ed_sm {x : Ed} (h : edN x ≤ 1048576) : EdSm x := by
  unfold edN at h
  have h1 := sum_len (f := sizeN) one_sizeN x.checks
  exact ⟨by omega, fun c hc => by have := sum_mem (f := sizeN) hc; omega, by omega, by omega, by omega, by omega, by omega⟩
theorem au_sm {a : Au} (h : auN a ≤ 1048576) : Sm a := by
  unfold auN at h
  have h1 := sum_len (f := gsN) (fun x => by unfold gsN; omega) a.states
  have h2 := sum_len (f := edN) (fun x => by unfold edN; omega) a.edges
  exact ⟨by omega, by omega, fun s hs => gs_sm (by have := sum_mem (f := gsN) hs; omega), fun x hx => ed_sm (by have := sum_mem (f := edN) hx; omega)⟩

section
variable {H : Type} {enc : TypeId × Value → H} {w : World} {sp : Nat → Bool} {hd : Bool}

abbrev R (enc : TypeId × Value → H) (w : World) (sp : Nat → Bool) (hd : Bool) {α : Type} (fuel : Nat) (t : TypeId) (f : α → List AV) (ok : α → Prop) (bk : α → Nat) : Prop := Rd enc Tryz.prog w sp hd Rows.uptoBulk fuel t f ok bk

theorem rI (fuel : Nat) : R enc w sp hd fuel 3 (fun n : Int => [.int .i64 n]) I64 (fun _ => 1) := (Rd.int (k := .i64) (by kernel_rfl) bulk).congr rfl (fun _ h => wf_I64 h) (fun _ => Nat.le_refl _)
theorem rS (fuel : Nat) : R enc w sp hd fuel 9 (fun s : List UInt8 => [.str s]) (fun s => s.length ≤ maxLen) (fun s => s.length + 1) := Rd.str (by kernel_rfl) bulk
theorem z3 : Tryz.prog.cellsOf 3 = 1 := by kernel_rfl
theorem z9 : Tryz.prog.cellsOf 9 = 1 := by kernel_rfl
theorem z22 : Tryz.prog.cellsOf 22 = 1 := by kernel_rfl
theorem z23 : Tryz.prog.cellsOf 23 = 1 := by kernel_rfl
theorem z40 : Tryz.prog.cellsOf 40 = 1 := by kernel_rfl
theorem z59 : Tryz.prog.cellsOf 59 = 1 := by kernel_rfl
theorem z61 : Tryz.prog.cellsOf 61 = 3 := by kernel_rfl
theorem z63 : Tryz.prog.cellsOf 63 = 8 := by kernel_rfl
theorem z64 : Tryz.prog.cellsOf 64 = 1 := by kernel_rfl
theorem z68 : Tryz.prog.cellsOf 68 = 1 := by kernel_rfl

theorem rV (fuel : Nat) : R enc w sp hd fuel 61 cV (fun _ => True) (fun v => v.text.length + 1) :=
  (Rd.struct' u61 bulk rfl (by kernel_rfl) (by kernel_rfl) fun m _ => Rds.cons bulk z3 (rI m) <| Rds.cons bulk z3 (rI m) <| Rds.cons bulk z9 (rS m) Rds.nil).map
    (fun x => (⟨x.1, x.2.1, x.2.2.1⟩ : Vl)) (fun _ => rfl) (fun _ h => trivial) (fun _ => by simp only; omega)

theorem encE_fun : encE = cE := funext encE_eq
theorem rE (fuel : Nat) : R enc w sp hd fuel 63 cE (fun _ => True) sizeN := by
  induction fuel using Nat.strongRecOn with
  | _ n ih =>
    exact (Rd.struct' u63 bulk rfl (by kernel_rfl) (by kernel_rfl) fun m hm => Rds.cons bulk z3 (rI m) <| Rds.cons bulk z59 (Rd.slice' (z := 8) u59 z63 (by decide) bulk fun k hk => ih k (Nat.lt_trans hk hm)) <|
      Rds.cons bulk z3 (rI m) <| Rds.cons bulk z3 (rI m) <| Rds.cons bulk z3 (rI m) <| Rds.cons bulk z61 (rV m) Rds.nil).map
      (fun x => (⟨x.1, x.2.1, x.2.2.1, x.2.2.2.1, x.2.2.2.2.1, x.2.2.2.2.2.1⟩ : Ex)) (fun x => by simp [cE, cV, encE_fun]) (fun _ _ => trivial) (fun x => by rw [sizeN_eq]; simp only; omega)
theorem rLi (fuel : Nat) : R enc w sp hd fuel 105 cLi (fun l => I64 l.scope ∧ I64 l.span) (fun _ => 1) :=
  (Rd.struct' u105 bulk rfl (by kernel_rfl) (by kernel_rfl) fun m _ => Rds.cons bulk z3 (rI m) <| Rds.cons bulk z3 (rI m) Rds.nil).map
    (fun x => (⟨x.1, x.2.1⟩ : Li)) (fun _ => rfl) (fun _ h => ⟨h.1, h.2.1⟩) (fun _ => by omega)
theorem rIs (fuel : Nat) : R enc w sp hd fuel 40 (fun l : List Int => [.sl 1 (l.map cI)]) (fun l => ∀ x ∈ l, I64 x) (fun l => l.length + 1) :=
  (Rd.slice' (z := 1) u40 z3 (by decide) bulk fun k _ => rI k).congr rfl (fun _ h => h) (fun l => by have := sum_len (f := fun _ : Int => 1) (fun _ => Nat.le_refl _) l; omega)
theorem rEs (fuel : Nat) : R enc w sp hd fuel 59 (fun l : List Ex => [.sl 8 (l.map encE)]) (fun _ => True) (fun l => (l.map sizeN).sum + 1) :=
  (Rd.slice' (z := 8) u59 z63 (by decide) bulk fun k _ => rE k).congr (by rw [encE_fun]) (fun _ _ => trivial) (fun _ => Nat.le_refl _)
theorem limI_i64 : ∀ {l : List Li}, (∀ x ∈ l, I64 x.scope ∧ I64 x.span) → ∀ v ∈ limI l, I64 v := by
  intro l h v hv
  obtain ⟨x, hx, hv⟩ := List.mem_flatMap.1 hv
  have := h x hx
  simp only [List.mem_cons, List.not_mem_nil, or_false] at hv
  rcases hv with rfl | rfl
  · exact this.1
  · exact this.2
theorem z105 : Tryz.prog.cellsOf 105 = 2 := by kernel_rfl
theorem rLis (fuel : Nat) : R enc w sp hd fuel 64 (fun l : List Li => [.sl 2 (l.map cLi)]) (fun l => ∀ v ∈ limI l, I64 v) (fun l => l.length + 1) :=
  (Rd.slice' (z := 2) u64 z105 (by decide) bulk fun k _ => rLi k).congr rfl (fun _ h => limI_i64 h) (fun l => by have := sum_len (f := fun _ : Li => 1) (fun _ => Nat.le_refl _) l; omega)
theorem rGu (fuel : Nat) : R enc w sp hd fuel 93 cGu GuI gN :=
  (Rd.struct' u93 bulk rfl (by kernel_rfl) (by kernel_rfl) fun m _ => Rds.cons bulk z3 (rI m) <| Rds.cons bulk z3 (rI m) <| Rds.cons bulk z3 (rI m) <| Rds.cons bulk z63 (rE m) Rds.nil).map
    (fun x => (⟨x.1, x.2.1, x.2.2.1, x.2.2.2.1⟩ : Gu)) (fun x => by simp [cGu, cE, cV, encE_fun]) (fun _ h => ⟨h.1, h.2.1, h.2.2.1⟩) (fun x => by unfold gN; simp only; omega)
theorem z93 : Tryz.prog.cellsOf 93 = 11 := by kernel_rfl
theorem rSt (fuel : Nat) : R enc w sp hd fuel 70 cSt (fun s => ∀ g ∈ s, GuI g) gsN :=
  (Rd.struct' u70 bulk rfl (by kernel_rfl) (by kernel_rfl) fun m _ => Rds.cons bulk z68 (Rd.slice' (z := 11) u68 z93 (by decide) bulk fun k _ => rGu k) Rds.nil).map
    (fun x => x.1) (fun x => rfl) (fun _ h => h.1) (fun x => by unfold gsN; omega)
theorem z70 : Tryz.prog.cellsOf 70 = 1 := by kernel_rfl
theorem rEd (fuel : Nat) : R enc w sp hd fuel 66 cEd EdI edN :=
  (Rd.struct' u66 bulk rfl (by kernel_rfl) (by kernel_rfl) fun m _ => Rds.cons bulk z3 (rI m) <| Rds.cons bulk z3 (rI m) <| Rds.cons bulk z3 (rI m) <| Rds.cons bulk z3 (rI m) <| Rds.cons bulk z63 (rE m) <|
    Rds.cons bulk z40 (rIs m) <| Rds.cons bulk z40 (rIs m) <| Rds.cons bulk z59 (rEs m) <| Rds.cons bulk z64 (rLis m) <| Rds.cons bulk z40 (rIs m) Rds.nil).map
    (fun x => (⟨x.1, x.2.1, x.2.2.1, x.2.2.2.1, x.2.2.2.2.1, x.2.2.2.2.2.1, x.2.2.2.2.2.2.1, x.2.2.2.2.2.2.2.1, x.2.2.2.2.2.2.2.2.1, x.2.2.2.2.2.2.2.2.2.1⟩ : Ed)) (fun x => by simp [cEd, cE, cV, encE_fun])
    (fun _ h => ⟨h.2.2.1, h.2.2.2.1, h.2.1, h.2.2.2.2.2.1, h.2.2.2.2.2.2.1, h.2.2.2.2.2.2.2.2.2.1, h.2.2.2.2.2.2.2.2.1⟩) (fun x => by unfold edN; simp only; omega)
theorem z66 : Tryz.prog.cellsOf 66 = 17 := by kernel_rfl
theorem rAu (fuel : Nat) : R enc w sp hd fuel 25 cAu Im auN :=
  (Rd.struct' u25 bulk rfl (by kernel_rfl) (by kernel_rfl) fun m _ => Rds.cons bulk z3 (rI m) <| Rds.cons bulk z3 (rI m) <| Rds.cons bulk z22 (Rd.slice' (z := 1) u22 z70 (by decide) bulk fun k _ => rSt k) <|
    Rds.cons bulk z23 (Rd.slice' (z := 17) u23 z66 (by decide) bulk fun k _ => rEd k) Rds.nil).map
    (fun x => (⟨x.1, x.2.1, x.2.2.1, x.2.2.2.1⟩ : Au)) (fun x => rfl) (fun _ h => ⟨h.2.2.2.1, h.2.2.1⟩) (fun x => by unfold auN; simp only; omega)
end
end Go.Proofs.YtoolcpnahmgnnaaGreatDoor
