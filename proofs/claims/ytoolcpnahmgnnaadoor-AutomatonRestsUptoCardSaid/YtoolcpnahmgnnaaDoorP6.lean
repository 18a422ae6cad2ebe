/-
  What the loops of Trim keep: lists that are filled place by place, the states and edges that are kept. No condition.
-/
import Derived.Test.YtoolcpnahmgnnaaDoorP5
namespace Go.Proofs.YtoolcpnahmgnnaaDoor
open Go Go.Aw
set_option linter.unusedVariables false
set_option linter.unusedSimpArgs false

def prg {α : Type} (n : Nat) (f g : Nat → α) (k : Nat) : List α := (List.range n).map fun i => if i < k then f i else g i
theorem prg_len {α : Type} (n : Nat) (f g : Nat → α) (k : Nat) : (prg n f g k).length = n := by unfold prg; simp
theorem prg_at {α : Type} {n : Nat} {f g : Nat → α} {k i : Nat} (h : i < n) : (prg n f g k)[i]? = some (if i < k then f i else g i) := by
  unfold prg; simp [h]
theorem prg_set {α : Type} {n : Nat} {f g : Nat → α} {k : Nat} (h : k < n) : (prg n f g k).set k (f k) = prg n f g (k + 1) := by
  apply List.ext_getElem?
  intro i
  rw [List.getElem?_set]
  by_cases hi : i < n
  · rw [prg_at hi, prg_at hi]
    by_cases e : k = i
    · subst e; rw [if_pos rfl, if_pos (by rw [prg_len]; exact h), if_pos (by omega)]
    · rw [if_neg e]
      by_cases h2 : i < k
      · rw [if_pos h2, if_pos (by omega)]
      · rw [if_neg h2, if_neg (by omega)]
  · have e1 : (prg n f g k)[i]? = none := List.getElem?_eq_none (by rw [prg_len]; omega)
    have e2 : (prg n f g (k + 1))[i]? = none := List.getElem?_eq_none (by rw [prg_len]; omega)
    rw [e1, e2]
    by_cases e : k = i
    · omega
    · rw [if_neg e]
theorem prg_get {α : Type} {n : Nat} {f g : Nat → α} {k : Nat} (d : α) (h : k < n) : (prg n f g k).getD k d = g k := by
  rw [List.getD_eq_getElem?_getD, prg_at h, if_neg (by omega)]; rfl
theorem prg_end {α : Type} (n : Nat) (f g : Nat → α) : prg n f g n = (List.range n).map f := by
  unfold prg
  apply List.map_congr_left
  intro i hi
  rw [if_pos (List.mem_range.1 hi)]
theorem prg_start {α : Type} (n : Nat) (f g : Nat → α) : prg n f g 0 = (List.range n).map g := by
  unfold prg
  apply List.map_congr_left
  intro i hi
  rw [if_neg (by omega)]
theorem range_getD {α : Type} {l : List α} {n : Nat} (d : α) (h : l.length = n) : (List.range n).map (fun i => l.getD i d) = l := by
  subst h
  apply List.ext_getElem?
  intro i
  rw [List.getElem?_map]
  by_cases hi : i < l.length
  · simp [hi]
  · simp [hi]
theorem prg_replicate {α : Type} (n : Nat) (f : Nat → α) (c : α) : prg n f (fun _ => c) 0 = List.replicate n c := by
  rw [prg_start]
  apply List.ext_getElem?
  intro i
  rw [List.getElem?_map, List.getElem?_replicate]
  by_cases hi : i < n
  · simp [hi]
  · simp [hi]
theorem map_getD {α : Type} {n : Nat} {f : Nat → α} {i : Nat} (d : α) (h : i < n) : ((List.range n).map f).getD i d = f i := by
  rw [List.getD_eq_getElem?_getD, List.getElem?_map]
  simp [h]
theorem mrg_end {r u : List Bool} {n : Nat} (hr : r.length = n) (hu : u.length = n) : markS (prg n (fun i => r.getD i false && u.getD i false) (fun i => r.getD i false) n) 0 = keptS r u := by
  unfold keptS
  congr 1
  rw [prg_end]
  subst hr
  apply List.ext_getElem?
  intro i
  rw [List.getElem?_map]
  by_cases hi : i < r.length
  · have hi' : i < u.length := by omega
    simp [hi, hi', List.getElem?_zipWith]
  · have : r.length ≤ i := by omega
    simp [hi, List.getElem?_zipWith, this]

theorem keepStates_take : ∀ (kept : List Bool) (l : List (List Gu)) (k : Nat) (x : List Gu), kept.length = l.length → l[k]? = some x →
    keepStates (kept.take (k + 1)) (l.take (k + 1)) = keepStates (kept.take k) (l.take k) ++ (if kept.getD k false then [x] else [])
  | [], l, k, x, h, hx => by
    have : l = [] := List.eq_nil_of_length_eq_zero h.symm
    subst this; simp at hx
  | b :: r, [], k, x, h, hx => by simp at hx
  | b :: r, y :: s, 0, x, h, hx => by
    rw [List.getElem?_cons_zero, Option.some.injEq] at hx; subst hx
    simp only [List.take_succ_cons, List.take_zero, keepStates, List.getD_cons_zero, List.nil_append]
  | b :: r, y :: s, k + 1, x, h, hx => by
    have ih := keepStates_take r s k x (by simpa using h) (by simpa using hx)
    simp only [List.take_succ_cons, List.getD_cons_succ] at ih ⊢
    rw [keepStates, keepStates, ih]
    cases b <;> rfl
theorem keep_cnt {kept : List Bool} {l : List (List Gu)} (h : kept.length = l.length) (k : Nat) : (keepStates (kept.take k) (l.take k)).length = cnt kept k := by
  rw [keep_len _ _ (by rw [List.length_take, List.length_take, h])]; rfl
theorem keep_whole {kept : List Bool} {l : List (List Gu)} (h : kept.length = l.length) {k : Nat} (hk : l.length ≤ k) : keepStates (kept.take k) (l.take k) = keepStates kept l := by
  rw [List.take_of_length_le (by omega), List.take_of_length_le hk]
def keptEs (kept : List Bool) (l : List Ed) : List Ed := (l.filter (keepEdge kept)).map (moveEdge kept)
theorem keptEs_take {kept : List Bool} {l : List Ed} {k : Nat} {x : Ed} (h : l[k]? = some x) : keptEs kept (l.take (k + 1)) = keptEs kept (l.take k) ++ (if keepEdge kept x then [moveEdge kept x] else []) := by
  have : l.take (k + 1) = l.take k ++ [x] := by
    obtain ⟨hk, rfl⟩ := List.getElem?_eq_some_iff.1 h
    rw [List.take_succ_eq_append_getElem hk]
  unfold keptEs
  rw [this, List.filter_append, List.map_append, List.filter_cons, List.filter_nil]
  split <;> rfl
theorem keptEs_len (kept : List Bool) (l : List Ed) (k : Nat) : (keptEs kept (l.take k)).length ≤ k := by
  unfold keptEs
  rw [List.length_map]
  have := List.length_filter_le (keepEdge kept) (l.take k)
  rw [List.length_take] at this
  omega
/-- The numbers that the code keeps, and those of the reference. -/
def numL (kept : List Bool) (n k : Nat) : List Int := prg n (fun i => (cnt kept i : Int)) (fun _ => 0) k
def toL (kept : List Bool) (n k : Nat) : List Int := prg n (fun i => if kept.getD i false then (cnt kept i : Int) else -1) (fun _ => 0) k
theorem numL_at {kept : List Bool} {n : Nat} {s : Int} (h : InR n s) : toS (numL kept n n) s = numberS kept s := by
  unfold toS numL; rw [prg_end, map_getD _ h.2]; rfl
theorem keep_no {kept : List Bool} {x : Ed} (h : (!(seenS kept x.src) || (decide (0 ≤ x.dst) && !(seenS kept x.dst))) = true) : ¬ keepEdge kept x = true := by
  unfold keepEdge
  intro k
  rw [Bool.and_eq_true] at k
  rw [k.1] at h
  by_cases h0 : 0 ≤ x.dst
  · rw [decide_eq_false (show ¬ x.dst < 0 by omega), Bool.false_or] at k
    rw [k.2, Bool.not_true, Bool.and_false] at h; cases h
  · rw [decide_eq_false h0] at h; cases h
theorem keep_yes {kept : List Bool} {x : Ed} (h : (!(seenS kept x.src) || (decide (0 ≤ x.dst) && !(seenS kept x.dst))) = false) : keepEdge kept x = true := by
  unfold keepEdge
  rw [Bool.or_eq_false_iff, Bool.not_eq_false'] at h
  rw [h.1, Bool.true_and]
  by_cases h0 : 0 ≤ x.dst
  · rw [decide_eq_true h0, Bool.true_and, Bool.not_eq_false'] at h
    rw [h.2, Bool.or_true]
  · rw [decide_eq_true (show x.dst < 0 by omega), Bool.true_or]
theorem move_yes {kept : List Bool} {x : Ed} (h : decide (0 ≤ x.dst) = true) : ({ x with src := numberS kept x.src, dst := numberS kept x.dst } : Ed) = moveEdge kept x := by unfold moveEdge; rw [if_pos h]
theorem move_no {kept : List Bool} {x : Ed} (h : decide (0 ≤ x.dst) = false) : ({ x with src := numberS kept x.src } : Ed) = moveEdge kept x := by unfold moveEdge; rw [if_neg (by rw [h]; decide)]
end Go.Proofs.YtoolcpnahmgnnaaDoor
