/-
  How long the text of an automaton can be; its shape in the reference. No program in sight. No condition.
-/
import Derived.Test.YtoolcpnahmgnnaaDoorP7
import Derived.Test.YtoolcpnahmgnnaaDoorW3
namespace Go.Proofs.YtoolcpnahmgnnaaDoor
open Go Go.Aw
set_option linter.unusedVariables false
set_option linter.unusedSimpArgs false

structure Im (a : Au) : Prop where
  e : ∀ x ∈ a.edges, EdI x
  g : ∀ s ∈ a.states, ∀ g ∈ s, GuI g
theorem I64_nat {n : Nat} (h : n ≤ 1048576) : I64 (n : Int) := ⟨by omega, by omega⟩
theorem listW_len (w : Str) (l : List Int) : (listW w l).length ≤ l.length + 1 := by
  unfold listW addW
  split
  · simp
  · simp
theorem addW_len (w : Str) (l : List Int) : (addW w l).length = l.length + 1 := by unfold addW; simp
theorem guardsW_len (l : List Gu) : (guardsW l).length = 4 * l.length := by
  induction l with
  | nil => rfl
  | cons g r ih =>
    show (addW sGuard [g.scope, g.type, g.var] ++ guardsW r).length = _
    rw [List.length_append, ih, addW_len]; simp only [List.length_cons, List.length_nil]; omega
theorem two_i64 {a b : Int} (ha : I64 a) (hb : I64 b) : ∀ x ∈ [a, b], I64 x := fun x hx => by
  simp only [List.mem_cons, List.not_mem_nil, or_false] at hx
  rcases hx with rfl | rfl
  · exact ha
  · exact hb
theorem one_i64 {a : Int} (ha : I64 a) : ∀ x ∈ [a], I64 x := fun x hx => by rw [List.mem_singleton.1 hx]; exact ha
theorem three_i64 {a b c : Int} (ha : I64 a) (hb : I64 b) (hc : I64 c) : ∀ x ∈ [a, b, c], I64 x := fun x hx => by
  simp only [List.mem_cons, List.not_mem_nil, or_false] at hx
  rcases hx with rfl | rfl | rfl
  · exact ha
  · exact hb
  · exact hc
theorem edgeT_len {x : Ed} (hi : EdI x) (hs : EdSm x) : (edgeT x).length ≤ 150000000 := by
  rw [edgeT_eq]
  have h1 := numT_len (two_i64 hi.var hi.type)
  have h2 := numT_len (one_i64 hi.dst)
  have h3 := numbersT_len (w := sOpens) (by decide) hi.o
  have h4 := numbersT_len (w := sCloses) (by decide) hi.c
  have h5 := numbersT_len (w := sInside) (by decide) hi.i
  have h6 := numbersT_len (w := sLimits) (by decide) hi.l
  have h7 : (chkT x.checks.length).length ≤ 40 := by
    have := itoa_le (I64_nat hs.k)
    unfold chkT
    split
    · simp only [List.length_append, List.length_cons, List.length_nil, sChecks]; omega
    · simp
  have := hs.o; have := hs.c; have := hs.i; have := hs.l
  rw [limI_len] at h6
  simp only [List.length_append, List.length_cons, List.length_nil, sEdge, sTo] at h1 h2 ⊢
  omega
theorem stateT_len {i : Nat} {l : List Gu} (hi : i ≤ 1048576) (hg : ∀ g ∈ l, GuI g) (hl : l.length ≤ 1048576) : (stateT i l).length ≤ 80000000 := by
  rw [stateT_eq]
  have h1 := itoa_le (I64_nat hi)
  have h2 := flat_len (f := fun g : Gu => numbersT sGuard [g.scope, g.type, g.var]) (n := 73) (l := l) fun g hg' => guard_len (hg g hg')
  simp only [List.length_append, List.length_cons, List.length_nil, sState]
  omega
theorem chunkT_len {a : Au} (sa : Sm a) (ia : Im a) (hm : a.edges.length ≤ 2048) {i : Nat} {s : List Gu} (hi : i ≤ 1048576) (hs : s ∈ a.states) : (chunkT a i s).length ≤ 307280000000 := by
  unfold chunkT
  have h1 := stateT_len hi (ia.g s hs) (sa.g s hs).1
  have h2 := flat_len (f := edgeT) (n := 150000000) (l := fromS a.edges (i : Int)) fun x hx => edgeT_len (ia.e x (List.mem_filter.1 hx).1) (sa.e x (List.mem_filter.1 hx).1)
  have h3 : (fromS a.edges (i : Int)).length ≤ 2048 := Nat.le_trans (List.length_filter_le ..) hm
  rw [List.length_append]
  omega
theorem fmtGo_len {a : Au} (sa : Sm a) (ia : Im a) (hm : a.edges.length ≤ 2048) : ∀ (l : List (List Gu)) (i : Nat), i + l.length ≤ 1048576 → (∀ s ∈ l, s ∈ a.states) → (fmtGo a i l).length ≤ 307280000000 * l.length
  | [], _, _, _ => Nat.zero_le _
  | s :: r, i, hi, h => by
    have h1 := chunkT_len sa ia hm (i := i) (s := s) (by simp only [List.length_cons] at hi; omega) (h s (List.mem_cons_self ..))
    have h2 := fmtGo_len sa ia hm r (i + 1) (by simp only [List.length_cons] at hi; omega) fun x hx => h x (List.mem_cons_of_mem _ hx)
    rw [fmtGo, List.length_append, List.length_cons, Nat.mul_succ]
    omega
/-- The whole text. -/
def wholeT (a : Au) : Str := fmtGo a 0 a.states
theorem whole_len {a : Au} (sa : Sm a) (ia : Im a) (hn : a.states.length ≤ 256) (hm : a.edges.length ≤ 2048) : (wholeT a).length ≤ 120000000000000 := by
  have := fmtGo_len sa ia hm a.states 0 (by omega) fun _ h => h
  unfold wholeT
  omega
theorem whole_step {a : Au} {k : Nat} {t : Str} {s : List Gu} (h : wholeT a = t ++ fmtGo a k (a.states.drop k)) (hs : a.states[k]? = some s) : wholeT a = (t ++ stateT k s) ++ ((fromS a.edges (k : Int)).flatMap edgeT ++ fmtGo a (k + 1) (a.states.drop (k + 1))) := by
  rw [h, drop_cons hs, fmtGo, chunkT]
  simp only [List.append_assoc]
theorem pre_len {a : Au} {t u : Str} {n : Nat} (h : wholeT a = t ++ u) (hn : (wholeT a).length ≤ n) : t.length ≤ n := by
  rw [h, List.length_append] at hn; omega
theorem flat_take {α : Type} (f : α → Str) {l : List α} {k : Nat} {x : α} (h : l[k]? = some x) : (l.take (k + 1)).flatMap f = (l.take k).flatMap f ++ f x := by
  obtain ⟨hk, rfl⟩ := List.getElem?_eq_some_iff.1 h
  rw [List.take_succ_eq_append_getElem hk, List.flatMap_append]; simp
theorem flat_split {α : Type} (f : α → Str) (l : List α) (k : Nat) : l.flatMap f = (l.take k).flatMap f ++ (l.drop k).flatMap f := by
  rw [← List.flatMap_append, List.take_append_drop]
theorem limI_take {l : List Li} {k : Nat} {x : Li} (h : l[k]? = some x) : limI (l.take (k + 1)) = limI (l.take k) ++ [x.scope, x.span] := by
  obtain ⟨hk, rfl⟩ := List.getElem?_eq_some_iff.1 h
  unfold limI
  rw [List.take_succ_eq_append_getElem hk, List.flatMap_append]; simp
theorem guardsW_take {l : List Gu} {k : Nat} {x : Gu} (h : l[k]? = some x) : guardsW (l.take (k + 1)) = guardsW (l.take k) ++ addW sGuard [x.scope, x.type, x.var] := by
  obtain ⟨hk, rfl⟩ := List.getElem?_eq_some_iff.1 h
  unfold guardsW
  rw [List.take_succ_eq_append_getElem hk, List.flatMap_append]; simp
theorem format_err {a : Au} (h : (checkA a != 0) = true) : formatS a = ([], checkA a) := if_pos h
theorem format_ok {a : Au} (h : (checkA a != 0) = false) : formatS a = (wholeT a, 0) := if_neg (Bool.eq_false_iff.mp h)
end Go.Proofs.YtoolcpnahmgnnaaDoor
