/-
  Walks of layer 23: the laws that compare with the reference. No condition.
-/
import Derived.Test.YtoolcpnahmgnnaaDoorW20
import Derived.KernelRfl
namespace Go.Proofs.YtoolcpnahmgnnaaDoor
open Go Go.Aw
set_option linter.unusedVariables false
set_option linter.unusedSimpArgs false

theorem move_sm {k : List Bool} {x : Ed} (h : EdSm x) : EdSm (moveEdge k x) := ⟨h.cond, h.checks, h.o, h.c, h.i, h.l, h.k⟩
theorem trim_sm {a : Au} (sa : Sm a) : Sm (trimS a).1 := by
  cases hc : (checkA a != 0)
  · have hw : Wf a := check_wf.1 (by simpa using hc)
    rw [trim_ok hc]
    refine ⟨?_, ?_, fun s hs => sa.g s (keep_mem _ _ s hs), fun x hx => ?_⟩
    · show (keepStates _ _).length ≤ _
      rw [keep_len _ _ (kept_len hw)]
      exact Nat.le_trans List.countP_le_length (by rw [kept_len hw]; exact sa.n)
    · show (List.map _ _).length ≤ _
      rw [List.length_map]
      exact Nat.le_trans (List.length_filter_le ..) sa.m
    · obtain ⟨y, hy, rfl⟩ := List.mem_map.1 hx
      exact move_sm (sa.e y (List.mem_filter.1 hy).1)
  · rw [trim_no hc]
    exact ⟨by simp [au0], by simp [au0], fun s hs => (by cases hs), fun x hx => (by cases hx)⟩
end Go.Proofs.YtoolcpnahmgnnaaDoor
