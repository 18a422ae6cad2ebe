/-
  What the parts of a stream in the making are, beside the heap. No condition.
-/
import Derived.Test.YtfpbgdjloccdbaaW11
import Derived.KernelRfl
namespace Go.Proofs.Ytfpbgdjloccdbaa
open Go Go.Aw
set_option linter.unusedVariables false
set_option linter.unusedSimpArgs false

/-- the parts in the making: key, the slice's value, its events -/
abbrev PR := Vl × Value × List Ev
def plain (ps : List PR) : List (Vl × List Ev) := ps.map fun q => (q.1, q.2.2)
def pRow (q : PR) : AV := .row q.2.1 5 (q.2.2.map cEv)
def pMap (ps : List PR) : List (List AV × AV) := ps.map fun q => (cV q.1, pRow q)
def pRows (ps : List PR) : List HO := ps.map fun q => .row q.2.1 (q.2.2.map cEv).length 30 5
def pKeys (ps : List PR) : List Vl := ps.map fun q => q.1
def eqVl (v : Vl) (k : List AV) : Bool := (aeqs TL [(0, 1, true, 3), (1, 1, true, 3), (2, 1, true, 9)] (cV v) k).getD false
theorem eqVl_is (v w : Vl) : aeqs TL [(0, 1, true, 3), (1, 1, true, 3), (2, 1, true, 9)] (cV v) (cV w) = some (eqV v w) := by
  show some ((v.kind == w.kind) && ((v.num == w.num) && ((v.text == w.text) && true))) = _
  rw [Bool.and_true]
theorem eqVl_cV (v w : Vl) : eqVl v (cV w) = eqV v w := by unfold eqVl; rw [eqVl_is]; rfl
theorem pMap_eq (v : Vl) (ps : List PR) : ∀ p ∈ pMap ps, aeqs TL [(0, 1, true, 3), (1, 1, true, 3), (2, 1, true, 9)] (cV v) p.1 = some (eqVl v p.1) := by
  intro p hp
  obtain ⟨x, _, rfl⟩ := List.mem_map.1 hp
  show aeqs TL [(0, 1, true, 3), (1, 1, true, 3), (2, 1, true, 9)] (cV v) (cV x.1) = some (eqVl v (cV x.1))
  rw [eqVl_is, eqVl_cV]
theorem pMap_len (ps : List PR) : (pMap ps).length = ps.length := List.length_map ..
def pIdx (v : Vl) : List PR → Option Nat
  | [] => none
  | q :: r => if eqV v q.1 then some 0 else (pIdx v r).map (· + 1)
theorem kidx_p (v : Vl) : ∀ ps : List PR, kidx (eqVl v) (pMap ps) = pIdx v ps
  | [] => rfl
  | q :: r => by
    have ih := kidx_p v r
    unfold pMap at ih ⊢
    rw [List.map_cons, kidx, eqVl_cV, ih, pIdx]
theorem kget_p (v : Vl) : ∀ ps : List PR, kget (eqVl v) (pMap ps) = (ps.find? fun q => eqV v q.1).map pRow
  | [] => rfl
  | q :: r => by
    have ih := kget_p v r
    unfold pMap at ih ⊢
    rw [List.map_cons, kget, eqVl_cV, ih, List.find?_cons]
    cases eqV v q.1 <;> rfl
theorem part_p (v : Vl) : ∀ ps : List PR, partOf (plain ps) v = ((ps.find? fun q => eqV v q.1).map fun q => q.2.2).getD []
  | [] => rfl
  | q :: r => by
    have ih := part_p v r
    unfold partOf plain at ih ⊢
    rw [List.map_cons, List.find?_cons, List.find?_cons]
    cases eqV v q.1
    · exact ih
    · rfl
theorem look_def {o : Option AV} (z : AV) : match o with | some y => y = o.getD z | none => [z] = [o.getD z] := by cases o <;> rfl
theorem look_p (v : Vl) (ps : List PR) : ∀ g w u, Rep g w u ((kget (eqVl v) (pMap ps)).getD (.sl 5 [])) → Rep g w u (.sl 5 ((partOf (plain ps) v).map cEv)) := fun g w u h => by
  rw [kget_p] at h
  rw [part_p]
  cases hf : ps.find? fun q => eqV v q.1 with
  | none => rw [hf] at h; exact h
  | some q => rw [hf] at h; exact (h : Rep g w u (.row q.2.1 5 (q.2.2.map cEv))).inv_row.2
theorem find_idx {v : Vl} : ∀ {ps : List PR} {q : PR}, (ps.find? fun q => eqV v q.1) = some q → ∃ j, pIdx v ps = some j ∧ ps[j]? = some q ∧ q.1 = v
  | [], _, h => by cases h
  | c :: r, q, h => by
    rw [List.find?_cons] at h
    cases hc : eqV v c.1 with
    | true =>
      rw [hc] at h
      cases h
      exact ⟨0, by rw [pIdx, if_pos hc], rfl, ((eqV_iff _ _).1 hc).symm⟩
    | false =>
      rw [hc] at h
      obtain ⟨j, h1, h2, h3⟩ := find_idx h
      exact ⟨j + 1, by rw [pIdx, ifF hc, h1]; rfl, h2, h3⟩
theorem put_new {v : Vl} {e : Ev} : ∀ {ps : List PR} (x : Value), (ps.find? fun q => eqV v q.1) = none → putS v e (plain ps) = plain (ps ++ [(v, x, [e])])
  | [], _, _ => rfl
  | c :: r, x, h => by
    rw [List.find?_cons] at h
    cases hc : eqV v c.1 with
    | true => rw [hc] at h; cases h
    | false =>
      rw [hc] at h
      have ih := put_new (e := e) x h
      unfold plain at ih ⊢
      rw [List.map_cons, putS, ifF hc, ih]; rfl
theorem put_old {v : Vl} {e : Ev} : ∀ {ps : List PR} {j : Nat} {q : PR} (x : Value), pIdx v ps = some j → ps[j]? = some q → putS v e (plain ps) = plain (ps.set j (q.1, x, q.2.2 ++ [e]))
  | [], _, _, _, h, _ => by cases h
  | c :: r, j, q, x, h, hq => by
    rw [pIdx] at h
    cases hc : eqV v c.1 with
    | true =>
      rw [if_pos hc] at h
      cases h
      simp only [List.getElem?_cons_zero, Option.some.injEq] at hq; subst hq
      unfold plain
      rw [List.map_cons, putS, if_pos hc]; rfl
    | false =>
      rw [ifF hc] at h
      cases hi : pIdx v r with
      | none => rw [hi] at h; cases h
      | some i =>
        rw [hi] at h
        cases h
        have ih := put_old (e := e) x hi (by simpa using hq)
        unfold plain at ih ⊢
        rw [List.map_cons, putS, ifF hc, ih]; rfl
theorem split_err {key : List Int} {ps : List (Vl × List Ev)} {r : List Ev} {e : Ev} (h : ((keyed e key).2.2 != 0) = true) : splitGo key ps (e :: r) = ([], (keyed e key).2.2) := by rw [splitGo, if_pos h]
theorem split_skip {key : List Int} {ps : List (Vl × List Ev)} {r : List Ev} {e : Ev} (h : ((keyed e key).2.2 != 0) = false) (h2 : (!(keyed e key).2.1) = true) : splitGo key ps (e :: r) = splitGo key ps r := by rw [splitGo, ifF h, if_pos h2]
theorem split_put {key : List Int} {ps : List (Vl × List Ev)} {r : List Ev} {e : Ev} (h : ((keyed e key).2.2 != 0) = false) (h2 : (!(keyed e key).2.1) = false) : splitGo key ps (e :: r) = splitGo key (putS (keyed e key).1 e ps) r := by rw [splitGo, ifF h, ifF h2]
theorem map_len0 {ps : List PR} {v : Vl} (hne : ∀ q ∈ ps, q.2.2 ≠ []) (h : (((partOf (plain ps) v).length : Int) == 0) = true) : (ps.find? fun q => eqV v q.1) = none := by
  rw [part_p] at h
  cases hf : ps.find? fun q => eqV v q.1 with
  | none => rfl
  | some q =>
    exfalso
    rw [hf] at h
    have h1 : q.2.2.length = 0 := by
      have : ((q.2.2.length : Int) == 0) = true := h
      simp at this
      rw [this]; rfl
    exact hne q (List.mem_of_find?_eq_some hf) (List.length_eq_zero_iff.1 h1)
theorem map_len1 {ps : List PR} {v : Vl} (h : (((partOf (plain ps) v).length : Int) == 0) = false) : ∃ j q, pIdx v ps = some j ∧ ps[j]? = some q ∧ q.1 = v := by
  rw [part_p] at h
  cases hf : ps.find? fun q => eqV v q.1 with
  | none => rw [hf] at h; cases h
  | some q =>
    obtain ⟨j, h1, h2, h3⟩ := find_idx hf
    exact ⟨j, q, h1, h2, h3⟩
theorem row_at {ps : List PR} {j : Nat} {q : PR} {H : List HO} (h : ps[j]? = some q) : (pRows ps ++ H)[j]? = some (.row q.2.1 (q.2.2.map cEv).length 30 5) := by
  have hl := (List.getElem?_eq_some_iff.1 h).1
  have h2 : (pRows ps)[j]? = some (.row q.2.1 (q.2.2.map cEv).length 30 5) := by unfold pRows; rw [List.getElem?_map, h]; rfl
  rw [List.getElem?_append_left (by unfold pRows; rw [List.length_map]; exact hl)]; exact h2
theorem pMap_at {ps : List PR} {j : Nat} {q : PR} {v : Vl} (h : ps[j]? = some q) (hv : q.1 = v) : (pMap ps)[j]? = some (cV v, pRow q) := by
  unfold pMap; rw [List.getElem?_map, h, ← hv]; rfl
theorem pMap_end (ps : List PR) (n : List AV) (y : AV) : (pMap ps ++ [(n, y)])[(pMap ps).length]? = some (n, y) := by simp
theorem kput_end (ps : List PR) (v : Vl) (y : AV) (x : Value) (e : Ev) : kput (pMap ps ++ [(cV v, y)]) (pMap ps).length (.row x 5 [cEv e]) = pMap (ps ++ [(v, x, [e])]) := by
  apply List.ext_getElem?
  intro i
  unfold kput pMap
  rw [List.getElem?_modify, List.map_append]
  by_cases h : (List.map (fun q : PR => (cV q.1, pRow q)) ps).length = i
  · subst h; simp [pRow]
  · by_cases h2 : i < (List.map (fun q : PR => (cV q.1, pRow q)) ps).length
    · rw [List.getElem?_append_left h2, List.getElem?_append_left h2]; simp only [h, if_false]; cases (List.map (fun q : PR => (cV q.1, pRow q)) ps)[i]? <;> rfl
    · rw [List.getElem?_append_right (by omega), List.getElem?_append_right (by omega)]
      have : i - (List.map (fun q : PR => (cV q.1, pRow q)) ps).length = (i - (List.map (fun q : PR => (cV q.1, pRow q)) ps).length - 1) + 1 := by omega
      rw [this]; rfl
theorem kput_at {ps : List PR} {j : Nat} {q : PR} (x : Value) (e : Ev) (h : ps[j]? = some q) : kput (pMap ps) j (.row x 5 (q.2.2.map cEv ++ [cEv e])) = pMap (ps.set j (q.1, x, q.2.2 ++ [e])) := by
  apply List.ext_getElem?
  intro i
  unfold kput pMap
  rw [List.getElem?_modify, List.getElem?_map, List.getElem?_map, List.getElem?_set]
  have hl := (List.getElem?_eq_some_iff.1 h).1
  by_cases hji : j = i
  · subst hji
    simp only [if_true, h, hl]
    simp [pRow]
  · simp only [hji, if_false]
    cases ps[i]? <;> rfl
theorem rows_set {ps : List PR} {j : Nat} {q : PR} (x : Value) (e : Ev) (H : List HO) (h : ps[j]? = some q) : (pRows ps ++ H).set j (.row x (q.2.2.map cEv ++ [cEv e]).length 30 5) = pRows (ps.set j (q.1, x, q.2.2 ++ [e])) ++ H := by
  have hl := (List.getElem?_eq_some_iff.1 h).1
  unfold pRows
  rw [List.set_append_left _ _ (by rw [List.length_map]; exact hl), List.map_set, List.map_append]
  rfl
theorem keys_set {ps : List PR} {j : Nat} {q : PR} (x : Value) (m : List Ev) (h : ps[j]? = some q) : pKeys (ps.set j (q.1, x, m)) = pKeys ps := by
  apply List.ext_getElem?
  intro i
  unfold pKeys
  rw [List.getElem?_map, List.getElem?_map, List.getElem?_set]
  have hl := (List.getElem?_eq_some_iff.1 h).1
  by_cases hji : j = i
  · subst hji; rw [if_pos rfl, if_pos hl, h]; rfl
  · simp only [hji, if_false]
theorem rows_perm (u k : HO) (ps : List PR) (v : Vl) (x : Value) (e : Ev) (H : List HO) : (HO.row x [cEv e].length 30 5 :: u :: k :: (pRows ps ++ H)).Perm (u :: k :: (pRows (ps ++ [(v, x, [e])]) ++ H)) := by
  have e1 : pRows (ps ++ [(v, x, [e])]) ++ H = pRows ps ++ (HO.row x [cEv e].length 30 5 :: H) := by unfold pRows; simp
  rw [e1]
  refine ((List.Perm.swap ..).trans ((List.Perm.swap ..).cons u)).trans ?_
  exact (List.perm_middle.symm.cons k).cons u
theorem old_heap {ps : List PR} {j : Nat} {q : PR} (kv x : Value) (b : Nat) (e : Ev) (H : List HO) (h : ps[j]? = some q) :
    ((HO.buf kv ((pKeys ps).map cV) 39 3 :: .kmap b (pMap ps) :: (pRows ps ++ H)).set (j + 2) (.row x (q.2.2.map cEv ++ [cEv e]).length 30 5)).set 1 (.kmap b (kput (pMap ps) j (.row x 5 (q.2.2.map cEv ++ [cEv e])))) =
    .buf kv ((pKeys (ps.set j (q.1, x, q.2.2 ++ [e]))).map cV) 39 3 :: .kmap b (pMap (ps.set j (q.1, x, q.2.2 ++ [e]))) :: (pRows (ps.set j (q.1, x, q.2.2 ++ [e])) ++ H) := by
  rw [keys_set x _ h, ← kput_at x e h, ← rows_set x e H h]
  rfl
theorem not_nil {ps : List PR} {j : Nat} {q : PR} {x : Value} {e : Ev} (hne : ∀ q ∈ ps, q.2.2 ≠ []) : ∀ y ∈ ps.set j (q.1, x, q.2.2 ++ [e]), y.2.2 ≠ [] := fun y hy => by
  rcases List.mem_or_eq_of_mem_set hy with h | rfl
  · exact hne y h
  · simp
theorem small_set {ps : List PR} {j n : Nat} {q : PR} {x : Value} {e : Ev} (hq : q ∈ ps) (hs : ∀ q ∈ ps, q.2.2.length ≤ n) : ∀ y ∈ ps.set j (q.1, x, q.2.2 ++ [e]), y.2.2.length ≤ n + 1 := fun y hy => by
  rcases List.mem_or_eq_of_mem_set hy with h | rfl
  · exact Nat.le_succ_of_le (hs y h)
  · have := hs q hq; simp; omega


end Go.Proofs.Ytfpbgdjloccdbaa
