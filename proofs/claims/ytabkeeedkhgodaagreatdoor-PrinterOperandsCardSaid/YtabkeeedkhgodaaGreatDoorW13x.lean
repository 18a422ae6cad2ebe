/-
  The law PrinterReturns walked. No condition.
-/
import Derived.Test.YtabkeeedkhgodaaGreatDoorW13v
import Derived.Test.YtabkeeedkhgodaaGreatDoorQ7
import Derived.Test.YtabkeeedkhgodaaGreatDoorL1
import Derived.KernelRfl
namespace Go.Proofs.YtabkeeedkhgodaaGreatDoor
open Go Go.Aw
set_option linter.unusedVariables false
set_option linter.unusedSimpArgs false

theorem written_yes {t : Syn} {p : Pl} (h : ((writtenC t p).2 != 0) = false) : checkC t p = 0 ∧ depthC t ≤ 64 ∧ (writeC t).length ≤ 65536 ∧ writtenC t p = (writeC t, 0) := by
  have h0 : (writtenC t p).2 = 0 := by simpa using h
  have hw : writtenC t p = if (checkC t p != 0) then ([], checkC t p) else if decide (64 < (depthC t : Int)) then ([], 12) else if decide (65536 < ((writeC t).length : Int)) then ([], 13) else (writeC t, 0) := rfl
  cases h1 : (checkC t p != 0) with
  | true => rw [hw, if_pos h1] at h0; rw [show checkC t p = 0 from h0] at h1; cases h1
  | false =>
    rw [ifF h1] at hw
    cases h2 : decide (64 < (depthC t : Int)) with
    | true => rw [hw, if_pos h2] at h0; cases h0
    | false =>
      rw [ifF h2] at hw
      cases h3 : decide (65536 < ((writeC t).length : Int)) with
      | true => rw [hw, if_pos h3] at h0; cases h0
      | false =>
        rw [ifF h3] at hw
        refine ⟨by simpa using h1, ?_, ?_, hw⟩
        · have := of_decide_eq_false h2; omega
        · have := of_decide_eq_false h3; omega
theorem c_expr {t : Syn} (h : ((writtenC t .exps).2 != 0) = false) : APure Tryz.prog 20 [.str (writtenC t .exps).1] (.tuple [.agg (cSyn (parseP EE (writeC t)).1), .int .i64 0, .int .i64 0]) ∧ sameN t (parseP EE (writeC t)).1 = true := by
  obtain ⟨h1, h2, h3, h4⟩ := written_yes h
  have hb := expr_back h1 h2 h3
  have h5 := pp_Expr (writeC t) (by omega)
  rw [h4]
  refine ⟨?_, sameN_er _ _ hb.2.symm⟩
  rw [hb.1] at h5
  exact h5

end Go.Proofs.YtabkeeedkhgodaaGreatDoor
