/-
  What the rows' lists give: the lexer's signs and the search's length lie where the walks look for them. Condition: the row's own.
-/
import Derived.Test.YtepnadmoflalnaaDoorC
import Derived.Test.YtepnadmoflalnaaDoorCards
import Derived.Test.YtepnadmoflalnaaDoorTie
import Derived.Deep.DeepHandedRow
import Derived.Lib.LaidTab
namespace Go.Proofs.YtepnadmoflalnaaDoor
open Go Go.Aw Go.ChangeShapes Go.WideShapes Go.ChangeAt Go.RowKit

theorem laid : laidOutB Tryd.prog = true := by kernel_rfl
theorem own : ownKnob Tryd.prog.godebug = none := by kernel_rfl
/-- The name of the listed variable, as the rows list it. -/
def signsName : String := (Rows.lexerScansRow.laid[0]?.map (·.1)).getD ""
theorem cells_of_strs {H : Type} {enc : TypeId × Value → H} {P : Program} {w : World} {base : Nat} {sp : Nat → Bool} {held : Bool} {fuel : Nat} {t e : TypeId} {n : Nat} {cs : List Value} {ss : List Str} {p : List MemPlace}
    (ht : P.underlying t = some (.array n e)) (he : P.underlying e = some .string) (hce : P.cellsOf e = 1) (hct : P.cellsOf t = n)
    (h : DataW.trod enc P w base sp held fuel t cs = some (.agg (ss.map fun s => .lit (.string s)), p)) : cs = ss.map fun s => Value.string ⟨s.toArray⟩ := by
  cases fuel with
  | zero => simp [DataW.trod] at h
  | succ fuel =>
    simp only [DataW.trod, ht, hce, hct, Nat.mul_one] at h
    split at h
    · rename_i hl
      obtain ⟨xs, hm, hx⟩ := Option.map_eq_some_iff.1 h
      have hxs : xs.map (·.1) = ss.map fun s => (DataW.lit (.string s) : DataW H) := by
        have := congrArg Prod.fst hx
        simpa using this
      have hxl : xs.length = n := by simpa using Lib.mapM_length hm
      have hzl : ss.length = n := by
        have := congrArg List.length hxs
        simp at this
        omega
      apply List.ext_getElem?
      intro i
      by_cases hi : i < n
      · obtain ⟨b, hb, hf⟩ := Lib.mapM_at hm i i (by simp [hi])
        obtain ⟨z, hc, rfl, _⟩ := DataW.trod_string he hf
        have h1 : cs[i]? = some (.string z) := by
          have := congrArg (·[0]?) hc
          simpa [List.getElem?_take, List.getElem?_drop] using this
        have h2 : (xs.map (·.1))[i]? = some (DataW.lit (.string z.data.toList) : DataW H) := by simp [hb]
        rw [hxs] at h2
        simp only [List.getElem?_map, Option.map_eq_some_iff, DataW.lit.injEq, Lit.string.injEq] at h2
        obtain ⟨z', hz', rfl⟩ := h2
        simp [h1, hz']
      · rw [List.getElem?_eq_none (by omega), List.getElem?_eq_none (by simp; omega)]
    · cases h

theorem signs_of {W : World} (h : laidMet Tryd.prog [(signsName, Rows.laid_tidegate_lexer_signs)] W) : W.var? Tryd.prog signsName = some (signL.map fun s => Value.string ⟨s.toArray⟩).toArray := by
  obtain ⟨ps, ⟨g', t', cs, fuel, p, q, hg', ht', hvar, hd, _, _⟩, _⟩ := h
  obtain rfl := Option.some.inj ((show Tryd.prog.globalNamed signsName = some 0 by kernel_rfl).symm.trans hg')
  obtain rfl := Option.some.inj ((show (Tryd.prog.globals[0]?).map (·.type) = some 83 by kernel_rfl).symm.trans ht')
  have := cells_of_strs (ss := signL) (n := 17) Tryd.underlying83 Tryd.underlying9 (by kernel_rfl) (by kernel_rfl) hd
  rw [hvar, ← this]

theorem globOK {W : World} (h : laidMet Tryd.prog [(signsName, Rows.laid_tidegate_lexer_signs)] W) (hS : W.ShapedOpen Tryd.prog) : GlobOK g0 W := by
  intro p hp
  simp only [globals, List.mem_cons, List.not_mem_nil, or_false] at hp
  rcases hp with rfl | rfl
  · refine ⟨signCells, rfl, ?_⟩
    have hv := signs_of h
    have hc : ∀ j, W.cell? ⟨0, j, none⟩ = (signL.map fun s => Value.string ⟨s.toArray⟩).toArray[j]? := fun j => World.var?_cell (show Tryd.prog.globalNamed signsName = some 0 by kernel_rfl) hv j
    have hs : signCells = signL.map AV.str := rfl
    rw [hs]
    refine .ptr 0 0 _ (fun j => Value.string ⟨(signL.getD j []).toArray⟩) (fun j x hj => ?_) (fun j x hj => ?_)
    · rw [List.getElem?_map] at hj
      cases hq : signL[j]? with
      | none => rw [hq] at hj; cases hj
      | some y =>
        refine ⟨trivial, ?_⟩
        rw [Nat.zero_add, hc j]
        simp [hq, List.getD_eq_getElem?_getD]
    · rw [List.getElem?_map] at hj
      cases hq : signL[j]? with
      | none => rw [hq] at hj; cases hj
      | some y =>
        rw [hq] at hj
        simp only [Option.map_some, Option.some.injEq] at hj
        subst hj
        have e : signL.getD j [] = y := by simp [List.getD_eq_getElem?_getD, hq]
        simp only [e]
        refine rep_string ?_
        have := List.mem_of_getElem? hq
        have hall : ∀ x ∈ signL, x.length ≤ maxLen := by decide
        exact hall y this
  · obtain ⟨m, hm⟩ := Tryd.laysM144.s1_3 W hS
    refine ⟨[.int .i64 m], ⟨m, rfl⟩, .ptr 1 0 _ (fun _ => .int .i64 m) (fun j x hj => ?_) (fun j x hj => ?_)⟩
    · have hj0 : j = 0 := by have := (List.getElem?_eq_some_iff.1 hj).1; simp at this; omega
      subst hj0
      exact ⟨trivial, hm⟩
    · have hj0 : j = 0 := by have := (List.getElem?_eq_some_iff.1 hj).1; simp at this; omega
      subst hj0
      simp only [List.getElem?_cons_zero, Option.some.injEq] at hj
      subst hj
      exact .int _ _

/-- A world for the witness: the settled one, with the signs as the program's text lays them. -/
noncomputable def laidWorld (os : Os) : World :=
  { World.holding Tryd.prog os ⟨#[], #[], []⟩ with heap := (World.holding Tryd.prog os ⟨#[], #[], []⟩).heap.modify 0 fun
      | .cells _ t frozen => .cells (signL.map fun s => Value.string ⟨s.toArray⟩).toArray t frozen
      | o => o }
end Go.Proofs.YtepnadmoflalnaaDoor
