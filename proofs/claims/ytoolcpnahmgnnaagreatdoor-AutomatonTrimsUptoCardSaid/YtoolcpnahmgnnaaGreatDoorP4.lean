/-
  The plain law of trimming: the trimmed automaton is well-formed, all its states are reachable, and useful but perhaps 0; it is trimmed. No program in sight. No condition.
-/
import Derived.Test.YtoolcpnahmgnnaaGreatDoorP3
namespace Go.Proofs.YtoolcpnahmgnnaaGreatDoor
open Go Go.Aw
set_option linter.unusedVariables false
set_option linter.unusedSimpArgs false

/-! Numbers of what is kept. -/
def cnt (k : List Bool) (i : Nat) : Nat := (k.take i).countP id
theorem cnt_zero (k : List Bool) : cnt k 0 = 0 := rfl
theorem keep_len : ∀ (k : List Bool) (l : List (List Gu)), k.length = l.length → (keepStates k l).length = k.countP id
  | [], [], _ => rfl
  | [], _ :: _, h => absurd h (by simp)
  | _ :: _, [], h => absurd h (by simp)
  | b :: r, s :: l, h => by
    have ih := keep_len r l (by simpa using h)
    unfold keepStates
    rw [List.countP_cons]
    cases b with
    | true => simp [ih]
    | false => simp [ih]
theorem keep_mem : ∀ (k : List Bool) (l : List (List Gu)) (s : List Gu), s ∈ keepStates k l → s ∈ l
  | [], _, s, h => by simp [keepStates] at h
  | _ :: _, [], s, h => by simp [keepStates] at h
  | b :: r, x :: l, s, h => by
    unfold keepStates at h
    cases b with
    | true =>
      rcases List.mem_cons.1 h with rfl | h
      · exact List.mem_cons_self ..
      · exact List.mem_cons_of_mem _ (keep_mem r l s h)
    | false => exact List.mem_cons_of_mem _ (keep_mem r l s h)
theorem number_cnt (k : List Bool) (s : Int) : numberS k s = (cnt k s.toNat : Int) := rfl
/-! What is kept. -/
variable {a : Au}
theorem zip_get : ∀ (r u : List Bool) (i : Nat), (List.zipWith (· && ·) r u).getD i false = (r.getD i false && u.getD i false)
  | [], u, i => by simp
  | b :: r, [], i => by simp
  | b :: r, c :: u, 0 => rfl
  | b :: r, c :: u, i + 1 => zip_get r u i
structure Kp (a : Au) (k : List Bool) : Prop where
  len : k.length = a.states.length
  zero : seenS k 0 = true
theorem kept_len (h : Wf a) : (keptA a).length = a.states.length := by
  unfold keptA keptS
  rw [mark_len, List.length_zipWith, show (reachA a).length = _ from (reach_ok h.edr h.pos).1, show (usefulA a).length = _ from (useful_ok h.edr).1]
  exact Nat.min_self _
/-! The trimmed automaton, for whatever is kept. -/
variable {k : List Bool}
theorem keep_iff {x : Ed} : keepEdge k x = true ↔ seenS k x.src = true ∧ (x.dst < 0 ∨ seenS k x.dst = true) := by
  unfold keepEdge
  rw [Bool.and_eq_true, Bool.or_eq_true, decide_eq_true_eq]
theorem move_src (k : List Bool) (x : Ed) : (moveEdge k x).src = numberS k x.src := rfl
theorem move_dst (k : List Bool) (x : Ed) : (moveEdge k x).dst = if decide (0 ≤ x.dst) then numberS k x.dst else x.dst := rfl
/-! Trimmed by what is reachable and useful. -/
/-- A set as a list of marks. -/
noncomputable def setL (n : Nat) (P : Int → Prop) : List Bool := by classical exact (List.range n).map fun (i : Nat) => decide (P (i : Int))
section
variable (h : Wf a)
include h
set_option linter.unusedSectionVars false
abbrev trimA (a : Au) : Au := trimBy (keptA a) a
end
/-! Lists of numbers. -/
end Go.Proofs.YtoolcpnahmgnnaaGreatDoor
