/-
  Walks of layer 23: pairing in the reference. No condition.
-/
import Derived.Test.YtoolcpnahmgnnaaDoorW7
import Derived.KernelRfl
namespace Go.Proofs.YtoolcpnahmgnnaaDoor
open Go Go.Aw
set_option linter.unusedVariables false
set_option linter.unusedSimpArgs false

theorem paired_len {p : Pg} {i k : Int} : (pairedR p i k).2.1.length = p.1.length ∧ (pairedR p i k).2.2.length = p.2.length := by
  unfold pairedR
  simp only
  split
  · exact ⟨put_len _ _ _, put_len _ _ _⟩
  · exact ⟨rfl, rfl⟩
def pq (p : Pg) (i k : Int) : Pg := if decide (toS p.1 i < 0) && decide (toS p.2 k < 0) then (putS' p.1 i k, putS' p.2 k i) else p
theorem pq_yes {p : Pg} {i k : Int} (h : (decide (toS p.1 i < 0) && decide (toS p.2 k < 0)) = true) : pq p i k = (putS' p.1 i k, putS' p.2 k i) := by unfold pq; rw [if_pos h]
theorem pq_no {p : Pg} {i k : Int} (h : (decide (toS p.1 i < 0) && decide (toS p.2 k < 0)) = false) : pq p i k = p := by unfold pq; rw [if_neg (by rw [h]; decide)]
theorem paired_pq (p : Pg) (i k : Int) : pairedR p i k = ((toS (pq p i k).1 i == k) && (toS (pq p i k).2 k == i), pq p i k) := rfl
def pstep (p : Pg) (x y : Ed) : Pg := if decide (0 ≤ x.dst) then (pairedR p x.dst y.dst).2 else p
theorem pstep_yes {p : Pg} {x y : Ed} (h : decide (0 ≤ x.dst) = true) : pstep p x y = (pairedR p x.dst y.dst).2 := by unfold pstep; rw [if_pos h]
theorem pstep_no {p : Pg} {x y : Ed} (h : decide (0 ≤ x.dst) = false) : pstep p x y = p := by unfold pstep; rw [if_neg (by rw [h]; decide)]
theorem pstep_len {p : Pg} {x y : Ed} : (pstep p x y).1.length = p.1.length ∧ (pstep p x y).2.length = p.2.length := by
  unfold pstep
  split
  · exact paired_len
  · exact ⟨rfl, rfl⟩
theorem not_g {b : Bool} (h : ¬ allG [(b, true)]) : b = false := by
  cases b with
  | false => rfl
  | true => exact absurd (fun p hp => by rw [List.mem_singleton.1 hp]) h
theorem stS_at {a : Au} {s : Int} (h : InR a.states.length s) : a.states[s.toNat]? = some (stS a s) := by
  unfold stS; rw [List.getD_eq_getElem?_getD, List.getElem?_eq_getElem h.2]; rfl
theorem matchL_step {x y : Ed} {l m : List Ed} {k : Nat} {p : Pg} (hx : l[k]? = some x) (hy : m[k]? = some y) : matchL (l.drop k) (m.drop k) p =
    if !(sameEd x y) || (decide (x.dst < 0) != decide (y.dst < 0)) then (false, p)
    else if decide (0 ≤ x.dst) && !((pairedR p x.dst y.dst).1) then (false, pstep p x y) else matchL (l.drop (k + 1)) (m.drop (k + 1)) (pstep p x y) := by
  rw [drop_cons hx, drop_cons hy, matchL]
  unfold pstep
  cases hd : decide (0 ≤ x.dst) <;> simp
theorem matchL_end {l m : List Ed} {k : Nat} {p : Pg} (h : l.length ≤ k) : matchL (l.drop k) (m.drop k) p = (true, p) := by
  rw [List.drop_eq_nil_of_le h]; rfl

end Go.Proofs.YtoolcpnahmgnnaaDoor
