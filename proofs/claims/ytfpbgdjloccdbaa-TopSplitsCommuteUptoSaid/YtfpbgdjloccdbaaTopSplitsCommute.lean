/-
  The law TopSplitsCommute, second form: it returns true for all arguments of bulk at most 1048576. Condition: that bound.
-/
import Derived.Test.YtfpbgdjloccdbaaB03
import Derived.WalkKit
import Derived.ProofKit
import Derived.OpenShut
import Derived.JoinedCond
namespace Go.Proofs.Ytfpbgdjloccdbaa.topSplitsCommute
open Go Go.Aw Go.ChangeShapes Go.WideShapes Go.ChangeAt Go.RowKit
set_option linter.unusedVariables false
set_option linter.unusedSimpArgs false
set_option maxRecDepth 20000

theorem contract (H : Type) (enc : TypeId × Value → H) (W : World) (base : Nat) (args : Array Value) (ds gs : List (DataW H)) (before : List MemPlace)
    (hval : ∀ (j : Nat) t v, Try.f3.params[j]? = some t → args[j]? = some v → Value.okWide Try.prog W .any base t v)
    (hW : DataW.Whole enc Try.prog Try.f3.params.toList Rows.topSplitsCommuteSpec.vars false W args.toList ds gs before) (hk : Rows.uptoSmall H (ds ++ gs) = true) :
    Calls Try.prog 3 args W fun e W' => ∃ v, e = .returned v ∧ Rows.topSplitsCommuteSpec.post enc Try.prog Try.f3 false true false false W args v W' := by
  have hW' := hW
  obtain ⟨p, q, hA, hV, rfl, hfz, hnd⟩ := hW
  rw [Try.params3] at hA hval
  obtain ⟨v0, vs0, d0, ds0, p0, q0, hargs, rfl, rfl, h0, r0⟩ := trodAll_cons hA
  obtain ⟨v1, vs1, d1, ds1, p1, q1, rfl, rfl, rfl, h1, r1⟩ := trodAll_cons r0
  obtain ⟨v2, vs2, d2, ds2, p2, q2, rfl, rfl, rfl, h2, r2⟩ := trodAll_cons r1
  obtain ⟨rfl, rfl, rfl⟩ := trodAll_nil r2
  obtain rfl : args = #[v0, v1, v2] := by cases args; simp_all
  obtain ⟨rfl, rfl⟩ := trodVars_none hV
  have hb : Rows.uptoBulk d0 + Rows.uptoBulk d1 + Rows.uptoBulk d2 ≤ 1048576 := by
    have := of_decide_eq_true hk
    simp only [List.append_nil, Rows.uptoBulkAll] at this; omega
  obtain ⟨x0, o0, b0, k0⟩ := Rd.value (fun n => rTys n) h0
  obtain ⟨x1, o1, b1, k1⟩ := Rd.value (fun n => rKey n) h1
  obtain ⟨x2, o2, b2, k2⟩ := Rd.value (fun n => rEvL n) h2
  have hT := scN_le (l := x0) (n := 1048576) (by omega)
  exact law_of_pure laid (by kernel_rfl) rfl rfl Try.underlying4 (by kernel_rfl) hW' rfl (repL_cons (rep_cell (notAgg_slice Try.underlying22 (hval 0 22 v0 rfl rfl)) k0) (repL_cons (rep_cell (notAgg_slice Try.underlying23 (hval 1 23 v1 rfl rfl)) k1) (repL_cons (rep_cell (notAgg_slice Try.underlying24 (hval 2 24 v2 rfl rfl)) k2) repL_nil)))
    ⟨by simp [globals], by simp [tables]⟩ (t_law x0 hT.1 (fun s hs => scOK_of (hT.2 s hs)) x1 x2)

theorem lifted (os : Os) (started : os.Started) (H : Type) (enc : TypeId × Value → H) (F : Stop.Interp) :
    ReturnsInHanded {} Try.checked os 3 .any ((Rows.OpenSpec.upto Rows.topSplitsCommuteSpec).pre6 enc Try.prog Try.f3 Rows.topSplitsCommuteUptoRow.domain false) (((Rows.OpenSpec.upto Rows.topSplitsCommuteSpec).at F).post enc Try.prog Try.f3 false true false false) := by
  refine returnsInHanded_of_cond (C := Try.checked) (s := Rows.OpenSpec.upto Rows.topSplitsCommuteSpec) (k := Rows.uptoSmall) rfl own started (by kernel_rfl) Try.func3
    (OpenSpec.witness (enc := enc) (C := Try.checked) (s := Rows.OpenSpec.upto Rows.topSplitsCommuteSpec) (k := Rows.uptoSmall) rfl false ⟨#[], #[.slice none 0 0, .slice none 0 0, .slice none 0 0], []⟩ 12 (by kernel_rfl) (by kernel_rfl) (by kernel_rfl)
      (x := ([.nil, .nil, .nil], [], [])) (by kernel_rfl) rfl (by kernel_rfl)) ?_
  intro W base args ds gs before hval hW _ hk _
  exact contract H enc W base args ds gs before hval hW hk

theorem over : Rows.topSplitsCommuteUptoRow.holds Try.pinned (Rows.OpenSpec.upto Rows.topSplitsCommuteSpec) :=
  OpenClaim.holds_of_cond 3 Try.f3 rfl rfl rfl rfl rfl rfl rfl ⟨rfl, rfl, rfl, rfl, rfl⟩ rfl rfl rfl rfl rfl (by kernel_rfl) Try.func3 (by kernel_rfl)
    (of_decide_eq_true (by kernel_rfl)) (by unfold Func.isWrapper; first | (rw [if_pos (by decide +kernel)]; kernel_rfl) | (rw [if_neg (by decide +kernel)]; exact ⟨rfl, rfl⟩))
    (fun os started H enc _ F => lifted os started H enc F)

theorem proved : Rows.TopSplitsCommuteUptoSaid := over
end Go.Proofs.Ytfpbgdjloccdbaa.topSplitsCommute
