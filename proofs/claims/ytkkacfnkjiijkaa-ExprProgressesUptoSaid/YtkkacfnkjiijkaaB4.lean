/-
  How programs of this seat read, as far as the law looks at them. No condition.
-/
import Derived.Test.YtkkacfnkjiijkaaB3
import Derived.Test.YtkkacfnkjiijkaaW27
namespace Go.Aw
section
variable {H : Type} {enc : TypeId × Value → H} {P : Program} {w : World} {sp : Nat → Bool} {hd : Bool} {B : DataW H → Nat} {BA : List (DataW H) → Nat}

theorem repL_junk {g : Gh} {w : World} (cs : List Value) : RepL g w cs.toArray (List.replicate cs.length .junk) := by
  refine ⟨by simp, fun i x hi => ?_⟩
  have hx := List.eq_of_mem_replicate (List.mem_of_getElem? hi)
  subst hx
  exact .junk _

/-- A field that nobody looks at. -/
theorem Rds.skip {β : Type} {fuel off z : Nat} {t : TypeId} {ts : List TypeId} {F : β → List AV} {OK : β → Prop} {BK : β → Nat} (hB : Bulk B BA) (hz : P.cellsOf t = z)
    (hs : Rds enc P w sp hd BA fuel (off + z) ts F OK BK) : Rds enc P w sp hd BA fuel off (t :: ts) (fun x : β => List.replicate z .junk ++ F x) OK BK := by
  intro cs xs hl hx hg
  cases xs with
  | nil => simp at hx
  | cons x xs =>
    obtain ⟨b, k1, k2, k3⟩ := hs cs xs (by simp only [List.map_cons, List.sum_cons, hz] at hl; omega) (by simpa using hx) (fun i t' hi => by
      have := hg (i + 1) t' (by simpa using hi)
      simp only [List.take_succ_cons, List.map_cons, List.sum_cons, hz, List.getElem?_cons_succ] at this
      rw [← this]
      congr 3
      omega)
    refine ⟨b, k1, ?_, ?_⟩
    · simp only [List.map_cons, hB.cons]; omega
    · refine repL_split (k := z) ?_ (by rw [List.drop_drop]; exact k3)
      have hlen : ((cs.drop off).take z).length = z := by
        simp only [List.map_cons, List.sum_cons, hz] at hl
        rw [List.length_take, List.length_drop]; omega
      have := repL_junk (g := g0) (w := w) ((cs.drop off).take z)
      rw [hlen] at this
      exact this
end
end Go.Aw
namespace Go.Proofs.Ytkkacfnkjiijkaa
open Go Go.Aw
set_option linter.unusedVariables false
set_option linter.unusedSimpArgs false
set_option maxRecDepth 20000

section
variable {H : Type} {enc : TypeId × Value → H} {w : World} {sp : Nat → Bool} {hd : Bool}
theorem z63 : Try.prog.cellsOf 63 = 1 := by kernel_rfl
theorem z55 : Try.prog.cellsOf 55 = 1 := by kernel_rfl
theorem z75 : Try.prog.cellsOf 75 = 14 := by kernel_rfl
theorem z62 : Try.prog.cellsOf 62 = 1 := by kernel_rfl
theorem z69 : Try.prog.cellsOf 69 = 1 := by kernel_rfl
theorem rQ (fuel : Nat) : R enc w sp hd fuel 77 cQ (fun _ => True) (fun q => q.vars.length + 1) :=
  (Rd.struct' Try.underlying77 bulk rfl (by kernel_rfl) (by kernel_rfl) fun m _ => Rds.skip bulk z9 <| Rds.cons bulk z63 (rVas m) <| Rds.skip bulk z55 <| Rds.skip bulk z75 <| Rds.skip bulk z22 Rds.nil).map
    (fun x => (⟨x.1⟩ : Qu)) (fun _ => rfl) (fun _ _ => trivial) (fun x => by show x.1.length + 1 ≤ x.1.length + 1 + 0; omega)
theorem rQs (fuel : Nat) : R enc w sp hd fuel 69 (fun l : List Qu => [.sl 18 (l.map cQ)]) (fun _ => True) (fun l => (l.map fun q => q.vars.length + 1).sum + 1) :=
  (Rd.slice' (z := 18) Try.underlying69 (by kernel_rfl) (by decide) bulk fun k _ => rQ k).congr rfl (fun _ _ => trivial) (fun _ => Nat.le_refl _)
def cPr (x : List Sc × List Qu) : List AV := [.sl 2 (x.1.map cSc), .sl 18 (x.2.map cQ)]
def prN (x : List Sc × List Qu) : Nat := (x.1.map scN).sum + (x.2.map fun q => q.vars.length + 1).sum
theorem rPr (fuel : Nat) : R enc w sp hd fuel 71 cPr (fun _ => True) prN :=
  (Rd.struct' Try.underlying71 bulk rfl (by kernel_rfl) (by kernel_rfl) fun m _ => Rds.cons bulk z62 (rTys m) <| Rds.cons bulk z69 (rQs m) Rds.nil).map
    (fun x => (x.1, x.2.1)) (fun _ => rfl) (fun _ _ => trivial) (fun x => by simp only [prN]; omega)
theorem rI8 (fuel : Nat) : R enc w sp hd fuel 111 (fun n : Int => [.int .i8 n]) (fun n => (Lit.int .i8 n).wf = true) (fun _ => 1) := Rd.int Try.underlying111 bulk
theorem rNs (fuel : Nat) : R enc w sp hd fuel 72 (fun l : List Int => [.sl 1 (cNs l)]) (fun l => ∀ x ∈ l, (Lit.int .i8 x).wf = true) (fun l => l.length + 1) :=
  (Rd.slice' (z := 1) Try.underlying72 (by kernel_rfl) (by decide) bulk fun k _ => rI8 k).congr rfl (fun _ h => h) (fun l => by rw [sum_ones]; exact Nat.le_refl _)
theorem head_vars (l : List Qu) : (l.headD qu0).vars.length ≤ (l.map fun q => q.vars.length + 1).sum := by
  cases l with
  | nil => exact Nat.le_refl _
  | cons a r => simp only [List.headD_cons, List.map_cons, List.sum_cons]; omega
end

end Go.Proofs.Ytkkacfnkjiijkaa
