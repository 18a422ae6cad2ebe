/-
  Walks of layer 23: pairing in the reference. No condition.
-/
import Derived.Test.YtoolcpnahmgnnaaGreatDoorW7
import Derived.KernelRfl
namespace Go.Proofs.YtoolcpnahmgnnaaGreatDoor
open Go Go.Aw
set_option linter.unusedVariables false
set_option linter.unusedSimpArgs false

def pq (p : Pg) (i k : Int) : Pg := if decide (toS p.1 i < 0) && decide (toS p.2 k < 0) then (putS' p.1 i k, putS' p.2 k i) else p
theorem paired_pq (p : Pg) (i k : Int) : pairedR p i k = ((toS (pq p i k).1 i == k) && (toS (pq p i k).2 k == i), pq p i k) := rfl
def pstep (p : Pg) (x y : Ed) : Pg := if decide (0 ≤ x.dst) then (pairedR p x.dst y.dst).2 else p
theorem stS_at {a : Au} {s : Int} (h : InR a.states.length s) : a.states[s.toNat]? = some (stS a s) := by
  unfold stS; rw [List.getD_eq_getElem?_getD, List.getElem?_eq_getElem h.2]; rfl
end Go.Proofs.YtoolcpnahmgnnaaGreatDoor
