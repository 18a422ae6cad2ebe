/-
  What the rows' lists give: the table of powers lies where the walks look for it. Condition: the row's own.
-/
import Derived.Test.YtoolcpnahmgnnaaDoorAx
import Derived.Test.YtoolcpnahmgnnaaDoorCards
import Derived.Test.YtoolcpnahmgnnaaDoorTie
import Derived.Deep.DeepHandedRow
import Derived.Lib.LaidTab
namespace Go.Proofs.YtoolcpnahmgnnaaDoor
open Go Go.Aw Go.ChangeShapes Go.WideShapes Go.ChangeAt Go.RowKit
set_option linter.unusedVariables false
set_option linter.unusedSimpArgs false
set_option maxRecDepth 100000

theorem laid : laidOutB Tryd.prog = true := by kernel_rfl
theorem own : ownKnob Tryd.prog.godebug = none := by kernel_rfl
def pow10L : List Int := [1, 10, 100, 1000, 10000, 100000, 1000000, 10000000, 100000000, 1000000000, 10000000000, 100000000000, 1000000000000, 10000000000000, 100000000000000, 1000000000000000, 10000000000000000, 100000000000000000, 1000000000000000000, 10000000000000000000]
theorem pow_of {W : World} (h : laidMet Tryd.prog Rows.automatonRestsRow.laid W) : Lib.TabIs Tryd.prog W "internal/strconv.uint64pow10" .u64 pow10L := by
  obtain ⟨ps, ⟨_, _, _, _, _, _, _, _, _, _, ⟨_, _, _, _, _, _, _, _, _, _, ⟨g', t', cs, fuel, p, q, hg', ht', hvar, hd, _, _⟩, _⟩, _⟩, _⟩ := h
  obtain rfl := Option.some.inj ((show Tryd.prog.globalNamed "internal/strconv.uint64pow10" = some 0 by kernel_rfl).symm.trans hg')
  obtain rfl := Option.some.inj ((show (Tryd.prog.globals[0]?).map (·.type) = some 152 by kernel_rfl).symm.trans ht')
  have := Lib.cells_of_tab (k := .u64) (zs := pow10L) (n := 20) (e := 135) (by kernel_rfl) (by kernel_rfl) (by kernel_rfl) (by kernel_rfl) hd
  unfold Lib.TabIs
  rw [hvar, ← this]
theorem pow_heap {W : World} (h : Lib.TabIs Tryd.prog W "internal/strconv.uint64pow10" .u64 pow10L) : ∃ T fr, W.heap[0]? = some (.cells (pow10L.map fun z => Value.int .u64 z).toArray T fr) := by
  have e : Tryd.prog.globalNamed "internal/strconv.uint64pow10" = some 0 := by kernel_rfl
  unfold Lib.TabIs World.var? at h
  rw [e] at h
  have hk : ∀ (X : Array Value) (o : Option Obj), (match o with | some (Obj.cells cs _ _) => some cs | _ => none) = some X → ∃ T fr, o = some (Obj.cells X T fr) := by
    intro X o h
    match o, h with
    | some (Obj.cells cs T fr), h => exact ⟨T, fr, by rw [Option.some.inj h]⟩
  exact hk _ _ h
theorem globOK {W : World} (h : laidMet Tryd.prog Rows.automatonRestsRow.laid W) (hS : W.ShapedOpen Tryd.prog) : GlobOK g0 W := by
  have ht := pow_of h
  refine ⟨fun p hp => ?_, fun p hp => ?_⟩
  · obtain rfl := List.mem_singleton.1 hp
    refine ⟨pow10Cells, rfl, ?_⟩
    have hcell : ∀ j, W.cell? ⟨0, j, none⟩ = (pow10L.map fun z => Value.int .u64 z).toArray[j]? := fun j => World.var?_cell (show Tryd.prog.globalNamed "internal/strconv.uint64pow10" = some 0 by kernel_rfl) ht j
    have hs : pow10Cells = pow10L.map fun z => AV.int .u64 z := rfl
    rw [hs]
    refine .ptr 0 0 _ (fun j => Value.int .u64 (pow10L.getD j 0)) (fun j x hj => ?_) (fun j x hj => ?_)
    · rw [List.getElem?_map] at hj
      cases hq : pow10L[j]? with
      | none => rw [hq] at hj; cases hj
      | some y =>
        refine ⟨trivial, ?_⟩
        rw [Nat.zero_add, hcell j]
        simp [hq, List.getD_eq_getElem?_getD]
    · rw [List.getElem?_map] at hj
      cases hq : pow10L[j]? with
      | none => rw [hq] at hj; cases hj
      | some y =>
        rw [hq] at hj
        simp only [Option.map_some, Option.some.injEq] at hj
        subst hj
        have e : pow10L.getD j 0 = y := by rw [List.getD_eq_getElem?_getD, hq]; rfl
        rw [e]
        exact .int _ _
  · obtain rfl := List.mem_singleton.1 hp
    exact ⟨rfl, pow_heap ht⟩
/-- A world for the witness: the settled one, with the tables as the program's text lays them. -/
def setTab (k : IntKind) (l : List Int) : Obj → Obj
  | .cells _ t frozen => .cells (l.map fun z => Value.int k z).toArray t frozen
  | o => o
def ofTab (d : DataW Unit) : List Int := match d with
  | .agg l => l.map fun | .lit (.int _ n) => n | _ => 0
  | _ => []
noncomputable def laidWorld (os : Os) : World :=
  { World.holding Tryd.prog os ⟨#[], #[], []⟩ with heap := (((World.holding Tryd.prog os ⟨#[], #[], []⟩).heap.modify 0 (setTab .u64 pow10L)).modify 2 (setTab .u8 (ofTab Rows.laid_math_bits_deBruijn32tab))).modify 3 (setTab .u8 (ofTab Rows.laid_math_bits_deBruijn64tab)) }
end Go.Proofs.YtoolcpnahmgnnaaDoor
