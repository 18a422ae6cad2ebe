/-
  Walks of layer 23: searching in the reference. No condition.
-/
import Derived.Test.YtoolcpnahmgnnaaDoorW5
import Derived.Test.YtoolcpnahmgnnaaDoorP3
import Derived.KernelRfl
namespace Go.Proofs.YtoolcpnahmgnnaaDoor
open Go Go.Aw
set_option linter.unusedVariables false
set_option linter.unusedSimpArgs false

def bB (l : List Bool) : List AV := l.map fun x => .bool x
def bI (l : List Int) : List AV := l.map fun x => .int .i64 x
theorem setSeg_map {α : Type} (f : α → AV) {L : List α} {k : Nat} {x : α} (h : k < L.length) : setSeg (L.map f) k [f x] = (L.set k x).map f := by
  apply List.ext_getElem?
  intro i
  unfold setSeg
  simp only [List.length_cons, List.length_nil, List.getElem?_append, List.length_take, List.length_map, List.getElem?_take, List.getElem?_drop, List.getElem?_map, List.getElem?_set, List.length_append]
  by_cases h1 : i < k
  · simp [h1, show min k L.length = k by omega, show k ≠ i by omega, show i < k + 1 by omega]
  · by_cases h2 : i = k
    · subst h2; simp [show min i L.length = i by omega, h]
    · simp [h1, show min k L.length = k by omega, show ¬ i < k + 1 by omega, show k ≠ i by omega, show k + 1 + (i - (k + 1)) = i by omega]
theorem bB_get {l : List Bool} {k : Nat} (h : k < l.length) : (bB l)[k]? = some (.bool (l.getD k false)) := by
  unfold bB
  rw [List.getElem?_map, List.getD_eq_getElem?_getD, List.getElem?_eq_getElem h]; rfl
theorem bI_get {l : List Int} {k : Nat} (h : k < l.length) : (bI l)[k]? = some (.int .i64 (l.getD k 0)) := by
  unfold bI
  rw [List.getElem?_map, List.getD_eq_getElem?_getD, List.getElem?_eq_getElem h]; rfl
theorem bB_len (l : List Bool) : (bB l).length = l.length := List.length_map ..
theorem bI_len (l : List Int) : (bI l).length = l.length := List.length_map ..
theorem bB_zero (n : Nat) : (List.replicate n [AV.bool false]).flatten = bB (List.replicate n false) := by
  induction n with
  | zero => rfl
  | succ n ih => rw [List.replicate_succ, List.replicate_succ, List.flatten_cons, ih]; rfl
theorem bI_zero (n : Nat) : (List.replicate n [AV.int .i64 0]).flatten = bI (List.replicate n 0) := by
  induction n with
  | zero => rfl
  | succ n ih => rw [List.replicate_succ, List.replicate_succ, List.flatten_cons, ih]; rfl
theorem bB_flat (l : List Bool) : (l.map cB).flatten = bB l := by
  induction l with
  | nil => rfl
  | cons a r ih => show [AV.bool a] ++ (r.map cB).flatten = _; rw [ih]; rfl
theorem bI_flat (l : List Int) : (l.map cI).flatten = bI l := by
  induction l with
  | nil => rfl
  | cons a r ih => show [AV.int .i64 a] ++ (r.map cI).flatten = _; rw [ih]; rfl
theorem bB_mark {l : List Bool} {s : Int} (h : s.toNat < l.length) : setSeg (bB l) s.toNat [.bool true] = bB (markS l s) := setSeg_map (fun x : Bool => AV.bool x) h
theorem bI_put {l : List Int} {s v : Int} (h : s.toNat < l.length) : setSeg (bI l) s.toNat [.int .i64 v] = bI (putS' l s v) := setSeg_map (fun x : Int => AV.int .i64 x) h
theorem InR.lt {n : Nat} {s : Int} (h : InR n s) : s < n := by have := h.1; have := h.2; omega
theorem one_each {α : Type} {f : α → List AV} (hf : ∀ x, (f x).length = 1) (l : List α) : ∀ e ∈ l.map f, e.length = 1 := fun e he => by
  obtain ⟨x, _, rfl⟩ := List.mem_map.1 he; exact hf x
theorem rounds_succ (f : List Bool → List Bool) (k : Nat) (s : List Bool) : rounds f (k + 1) s = rounds f k (f s) := rfl
theorem off1 (n : Nat) : 0 + n * 1 = n := by omega


end Go.Proofs.YtoolcpnahmgnnaaDoor
