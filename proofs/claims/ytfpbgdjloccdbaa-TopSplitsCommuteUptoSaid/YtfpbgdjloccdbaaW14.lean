/-
  The walk of the law TopSplitsCommute. Condition: event types of at most 1048576 names and fields.
-/
import Derived.Test.YtfpbgdjloccdbaaP2
import Derived.KernelRfl
namespace Go.Proofs.Ytfpbgdjloccdbaa
open Go Go.Aw
set_option linter.unusedVariables false
set_option linter.unusedSimpArgs false

def eA : Ev := ⟨0, 0, 0, 5, [⟨0, 1, []⟩]⟩
def eB : Ev := ⟨0, 1, 0, 3, [⟨0, 2, []⟩]⟩
theorem small2 (a b : Ev) (ha : a.values.length ≤ 12) (hb : b.values.length ≤ 12) : ∀ e ∈ [a, b], e.values.length ≤ 1048576 := by
  intro e he
  simp only [List.mem_cons, List.not_mem_nil, or_false] at he
  rcases he with rfl | rfl <;> omega
theorem t_sort : APure Try.prog 8 [.sl 5 ([eA, eB].map cEv)] (.tuple [.sl 5 ([eB, eA].map cEv), .int .i64 0]) := by
  have h := s_Sort [eA, eB] (by decide) (small2 eA eB (by decide) (by decide))
  have e : sortE [eA, eB] = ([eB, eA], 0) := by kernel_rfl
  rw [e] at h
  exact h
theorem t_inv : APure Try.prog 13 [.sl 5 ([eA, eB].map cEv)] (.tuple [.int .i64 1, .int .i64 0]) := by
  have h := s_Inversions [eA, eB] (by decide)
  have e : invR [eA, eB] = (1, 0) := by kernel_rfl
  rw [e] at h
  exact h
theorem t_split : APure Try.prog 9 [.sl 5 ([eB, eA].map cEv), .sl 1 ([0].map cI)] (.tuple [.sl 3 ([(⟨0, 1, []⟩ : Vl), ⟨0, 2, []⟩].map cV), .sl 1 ([[eA], [eB]].map cLs), .int .i64 0]) := by
  have h := s_Split [eB, eA] (by decide) (small2 eB eA (by decide) (by decide)) [0]
  have e : splitS [eB, eA] [0] = ([⟨0, 1, []⟩, ⟨0, 2, []⟩], [[eA], [eB]], 0) := by kernel_rfl
  rw [e] at h
  exact h
theorem few_small {l : List Ev} (h : fewS l = true) : l.length ≤ 12 ∧ ∀ e ∈ l, e.values.length ≤ 12 := by
  unfold fewS at h
  rw [Bool.and_eq_true] at h
  have hl : l.length ≤ 12 := of_decide_eq_true h.2
  refine ⟨hl, fun e he => ?_⟩
  have h1 : (l.take 20).any (fun e => decide (12 < e.values.length) || !few1 e.values) = false := by simpa using h.1
  rw [List.take_of_length_le (by omega)] at h1
  refine Nat.le_of_not_lt fun hlt => ?_
  rw [Bool.eq_false_iff] at h1
  exact h1 (List.any_eq_true.2 ⟨e, he, by simp [hlt]⟩)
theorem guard4 {types : List Sc} {key : List Int} {l : List Ev} (h : (((!fewS l || decide ((16 : Int) < ((types.length : Nat) : Int))) || ((key.length : Nat) : Int) == 0) || ckeyE types key != 0) = false) : fewS l = true ∧ ((key.length : Int) == 0) = false ∧ ckeyE types key = 0 := by
  simp only [Bool.or_eq_false_iff, Bool.not_eq_false'] at h
  exact ⟨h.1.1.1, h.1.2, by simpa using h.2⟩
theorem all_take {types : List Sc} {l : List Ev} {k : Nat} {a : Ev} (ha : l[k]? = some a) (h : ∀ e ∈ l.take k, evCheckE types e = 0) (h2 : (evCheckE types a != 0) = false) : ∀ e ∈ l.take (k + 1), evCheckE types e = 0 := by
  intro e he
  rw [take_get ha] at he
  rcases List.mem_append.1 he with h3 | h3
  · exact h e h3
  · rw [List.mem_singleton.1 h3]; simpa using h2
/-- what the law knows behind its guards -/
structure Gd (types : List Sc) (key : List Int) (l : List Ev) : Prop where
  fit : Fit types key l
  hs : sortedS l = some (sortE l).1
  good : Good types key l (sortE l).1 (splitS (sortE l).1 key).1
theorem Gd.of {types : List Sc} {key : List Int} {l : List Ev} (f : Fit types key l) (h : ((sortE l).2 != 0) = false) : Gd types key l := by
  rcases f.sort with h1 | ⟨S, h1, h2⟩
  · rw [h1] at h; cases h
  · have e : (sortE l).1 = S := by rw [h1]
    have h3 : sortedS l = some (sortE l).1 := by rw [e]; exact h2
    exact ⟨f, h3, f.good h3 (Nat.le_trans (sorted_len h3) f.len)⟩
theorem sort_bad {types : List Sc} {key : List Int} {l : List Ev} (f : Fit types key l) (h : ((sortE l).2 != 0) = true) : (sortE l).2 = 22 := by
  rcases f.sort with h1 | ⟨S, h1, h2⟩
  · exact h1
  · rw [h1] at h; cases h
theorem Gd.err {types : List Sc} {key : List Int} {l : List Ev} (g : Gd types key l) : (splitS (sortE l).1 key).2.2 = 0 := congrArg (fun x => x.2.2) g.good.split
theorem Gd.parts {types : List Sc} {key : List Int} {l : List Ev} (g : Gd types key l) : (splitS (sortE l).1 key).2.1 = (splitS (sortE l).1 key).1.map (fun v => (sortE l).1.filter (isK key v)) := congrArg (fun x => x.2.1) g.good.split
theorem Gd.part_at {types : List Sc} {key : List Int} {l : List Ev} (g : Gd types key l) {k : Nat} {c : Vl} (h : (splitS (sortE l).1 key).1[k]? = some c) : ((splitS (sortE l).1 key).2.1.map cLs)[k]? = some (cLs ((sortE l).1.filter (isK key c))) := by
  rw [g.parts, List.getElem?_map, List.getElem?_map, h]; rfl
theorem Gd.t_mine {types : List Sc} {key : List Int} {l : List Ev} (g : Gd types key l) (htl : types.length ≤ 1048576) (hs : ∀ s ∈ types, scOK s) (c : Vl) : APure Try.prog 10 [.sl 2 (types.map cSc), .sl 1 (key.map cI), .sl 5 (l.map cEv), .agg (cV c)] (.tuple [.sl 5 ((l.filter (isK key c)).map cEv), .bool true]) := by
  have h := t_keyed types htl hs key l g.fit.len c
  rw [g.good.mine c] at h
  exact h
theorem Gd.t_part {types : List Sc} {key : List Int} {l : List Ev} (g : Gd types key l) (hv : ∀ e ∈ l, e.values.length ≤ 12) (c : Vl) : APure Try.prog 8 [.sl 5 ((l.filter (isK key c)).map cEv)] (.tuple [.sl 5 (((sortE l).1.filter (isK key c)).map cEv), .int .i64 0]) := by
  have h := s_Sort (l.filter (isK key c)) (Nat.le_trans (List.length_filter_le ..) g.fit.len) (fun e he => by have := hv e (List.mem_filter.1 he).1; omega)
  rw [g.good.part c] at h
  exact h
theorem Gd.t_merge {types : List Sc} {key : List Int} {l : List Ev} (g : Gd types key l) (hv : ∀ e ∈ l, e.values.length ≤ 12) {k : Nat} {c : Vl} (hk : (splitS (sortE l).1 key).1[k]? = some c) : APure Try.prog 12 [.sl 5 (((sortE l).1.filter (inK key ((splitS (sortE l).1 key).1.take k))).map cEv), .sl 5 (((sortE l).1.filter (isK key c)).map cEv)] (.tuple [.sl 5 (((sortE l).1.filter (inK key ((splitS (sortE l).1 key).1.take (k + 1)))).map cEv), .int .i64 0]) := by
  have hp := g.good.plus k c hk
  have hle := List.length_filter_le (inK key ((splitS (sortE l).1 key).1.take (k + 1))) (sortE l).1
  have h := s_Merge ((sortE l).1.filter (inK key ((splitS (sortE l).1 key).1.take k))) ((sortE l).1.filter (isK key c)) (by have := g.good.small; omega) (fun e he => by
    have hm : e ∈ (sortE l).1 := by
      rcases List.mem_append.1 he with h1 | h1 <;> exact (List.mem_filter.1 h1).1
    have := hv e (g.good.mem e hm); omega)
  rw [g.good.merge k c, ← take_get hk] at h
  exact h
theorem Gd.no {types : List Sc} {key : List Int} {l : List Ev} (g : Gd types key l) {k : Nat} {c : Vl} (hk : (splitS (sortE l).1 key).1[k]? = some c) :
    (((!true || (0 : Int) != 0) || (((((sortE l).1.filter (isK key c)).length : Nat) : Int) == 0)) || !sameEs ((sortE l).1.filter (isK key c)) ((sortE l).1.filter (isK key c))) = false := by
  have h1 := g.good.full c (List.mem_of_getElem? hk)
  have h2 : (((((sortE l).1.filter (isK key c)).length : Nat) : Int) == 0) = false := by
    rw [beq_eq_false_iff_ne]
    intro h; apply h1; exact List.length_eq_zero_iff.1 (by omega)
  rw [sameEs_self, h2]; rfl
theorem Gd.room {types : List Sc} {key : List Int} {l : List Ev} (g : Gd types key l) {k : Nat} {c : Vl} (hk : (splitS (sortE l).1 key).1[k]? = some c) : ((sortE l).1.filter (inK key ((splitS (sortE l).1 key).1.take k))).length + ((sortE l).1.filter (isK key c)).length ≤ 12 := by
  have hp := g.good.plus k c hk
  have hle := List.length_filter_le (inK key ((splitS (sortE l).1 key).1.take (k + 1))) (sortE l).1
  have := g.good.small
  omega
theorem none_in (key : List Int) (l : List Ev) : l.filter (inK key []) = [] := by
  rw [List.filter_eq_nil_iff]
  intro e _
  rw [inK_iff]; rintro ⟨_, h⟩; cases h
theorem cnt_take {l : List Ev} {k : Nat} {a : Ev} (f : Ev → Bool) (h : l[k]? = some a) : ((l.take (k + 1)).filter f).length = ((l.take k).filter f).length + if f a then 1 else 0 := filt_take f h

set_option maxRecDepth 20000 in
set_option maxHeartbeats 3200000 in
theorem t_orders  : APure Try.prog 4 [] (.bool true) := by
  refine APure.body (n := 78) tok Try.func4 rfl rfl rfl fun H => ?_
  refine AW.seq ?_
  refine AW.region ?_
  refine AOL.p (P_assign (v := .bool _) rfl) rfl ?_
  refine AOL.nil ?_
  refine thenN ?_
  refine AW.seq ?_
  refine AW.region ?_
  refine AOL.p (P_build (l := [.int .i64 _, .int .i64 _, .str _]) tok rfl rfl rfl) rfl ?_
  refine AOL.p (P_buildSlice (es := [[.int .i64 _, .int .i64 _, .str _]]) tok rfl rfl rfl rfl rfl rfl rfl rfl rfl) rfl ?_
  refine AOL.p (P_build (l := [.int .i64 _, .int .i64 _, .int .i64 _, .int .i64 _, _]) tok rfl rfl rfl) rfl ?_
  refine AOL.p (P_build (l := [.int .i64 _, .int .i64 _, .str _]) tok rfl rfl rfl) rfl ?_
  refine AOL.p (P_buildSlice (es := [[.int .i64 _, .int .i64 _, .str _]]) tok rfl rfl rfl rfl rfl rfl rfl rfl rfl) rfl ?_
  refine AOL.p (P_build (l := [.int .i64 _, .int .i64 _, .int .i64 _, .int .i64 _, _]) tok rfl rfl rfl) rfl ?_
  refine AOL.e (E_alloc (l := [.int .i64 0, .int .i64 0, .int .i64 0, .int .i64 0, .sl 3 []]) (by kernel_rfl)) rfl ?_
  rintro _ _ ⟨b1, rfl, rfl⟩
  refine AOL.e (E_alloc (l := [.int .i64 0, .int .i64 0, .int .i64 0, .int .i64 0, .sl 3 []]) (by kernel_rfl)) rfl ?_
  rintro _ _ ⟨b2, rfl, rfl⟩
  refine AOL.e (E_store (k := 1) (v := .agg _) (cs' := [.int .i64 _, .int .i64 _, .int .i64 _, .int .i64 _, _]) (H2 := _ :: _ :: _) tok rfl rfl rfl rfl rfl rfl rfl rfl rfl) rfl ?_
  rintro _ _ ⟨rfl, rfl⟩
  refine AOL.e (E_store (k := 0) (v := .agg _) (cs' := [.int .i64 _, .int .i64 _, .int .i64 _, .int .i64 _, _]) (H2 := _ :: _ :: _) tok rfl rfl rfl rfl rfl rfl rfl rfl rfl) rfl ?_
  rintro _ _ ⟨rfl, rfl⟩
  refine AOL.ghost (GS.freeze (t := 2) 0 rfl rfl) ?_
  refine AOL.ghost (GS.freeze (t := 1) 0 rfl rfl) ?_
  refine AOL.nil ?_
  refine thenN ?_
  refine AW.seq ?_
  refine AW.region ?_
  refine AOL.p (P_load_ptr_agg (l := [.int .i64 _, .int .i64 _, .int .i64 _, .int .i64 _, _]) tok rfl rfl rfl rfl rfl) rfl ?_
  refine AOL.p (P_load_ptr_agg (l := [.int .i64 _, .int .i64 _, .int .i64 _, .int .i64 _, _]) tok rfl rfl rfl rfl rfl) rfl ?_
  refine AOL.p (P_buildSlice (es := [[.int .i64 _, .int .i64 _, .int .i64 _, .int .i64 _, _], [.int .i64 _, .int .i64 _, .int .i64 _, .int .i64 _, _]]) tok rfl rfl rfl rfl rfl rfl rfl rfl rfl) rfl ?_
  refine AOL.p (P_callf (by kernel_rfl) rfl rfl (t_sort)) rfl ?_
  refine AOL.p (P_move (v := .tuple _) rfl) rfl ?_
  refine AOL.p (P_extract (v := .sl _ _) rfl rfl) rfl ?_
  refine AOL.p (P_extract (v := .int .i64 _) rfl rfl) rfl ?_
  refine AOL.p (P_assign (v := .sl _ _) rfl) rfl ?_
  refine AOL.p (P_assign (v := .int .i64 _) rfl) rfl ?_
  refine AOL.nil ?_
  refine thenN ?_
  refine AW.seq ?_
  refine AW.region ?_
  refine AOL.p (P_load_ptr_agg (l := [.int .i64 _, .int .i64 _, .int .i64 _, .int .i64 _, _]) tok rfl rfl rfl rfl rfl) rfl ?_
  refine AOL.p (P_load_ptr_agg (l := [.int .i64 _, .int .i64 _, .int .i64 _, .int .i64 _, _]) tok rfl rfl rfl rfl rfl) rfl ?_
  refine AOL.p (P_buildSlice (es := [[.int .i64 _, .int .i64 _, .int .i64 _, .int .i64 _, _], [.int .i64 _, .int .i64 _, .int .i64 _, .int .i64 _, _]]) tok rfl rfl rfl rfl rfl rfl rfl rfl rfl) rfl ?_
  refine AOL.p (P_callf (by kernel_rfl) rfl rfl (t_inv)) rfl ?_
  refine AOL.p (P_move (v := .tuple _) rfl) rfl ?_
  refine AOL.p (P_extract (v := .int .i64 _) rfl rfl) rfl ?_
  refine AOL.p (P_extract (v := .int .i64 _) rfl rfl) rfl ?_
  refine AOL.p (P_assign (v := .int .i64 _) rfl) rfl ?_
  refine AOL.p (P_assign (v := .int .i64 _) rfl) rfl ?_
  refine AOL.nil ?_
  refine thenN ?_
  refine AW.seq ?_
  refine AW.region ?_
  refine AOL.p (P_move (v := .sl _ _) rfl) rfl ?_
  refine AOL.p (P_buildSlice (es := [[.int .i64 _]]) tok rfl rfl rfl rfl rfl rfl rfl rfl rfl) rfl ?_
  refine AOL.p (P_callf (by kernel_rfl) rfl rfl (t_split)) rfl ?_
  refine AOL.p (P_move (v := .tuple _) rfl) rfl ?_
  refine AOL.p (P_extract (v := .sl _ _) rfl rfl) rfl ?_
  refine AOL.p (P_extract (v := .sl _ _) rfl rfl) rfl ?_
  refine AOL.p (P_extract (v := .int .i64 _) rfl rfl) rfl ?_
  refine AOL.p (P_assign (v := .sl _ _) rfl) rfl ?_
  refine AOL.p (P_assign (v := .sl _ _) rfl) rfl ?_
  refine AOL.p (P_assign (v := .int .i64 _) rfl) rfl ?_
  refine AOL.nil ?_
  refine thenN ?_
  refine AW.seq ?_
  refine AW.draw mixed (fun _ => True) trivial (by kernel_rfl) ?_
  refine Canon.pure _ _ 0 _ _ rfl (by kernel_rfl) (by kernel_rfl) rfl (.run rfl (P_move (v := .int .i64 _) rfl)) ?_
  refine Canon.pure _ _ 1 _ _ rfl (by kernel_rfl) (by kernel_rfl) rfl (.run rfl (P_eql rfl rfl)) ?_
  refine Canon.pure _ _ 2 _ _ rfl (by kernel_rfl) (by kernel_rfl) rfl (.run rfl (P_move (v := .bool _) rfl)) ?_
  refine Canon.pure _ _ 3 _ _ rfl (by kernel_rfl) (by kernel_rfl) rfl (.opt _ (.int .i64 _) [] rfl (EntL.all trivial) (fun hG => P_move (v := .int .i64 _) rfl) rfl) ?_
  refine Canon.pure _ _ 4 _ _ rfl (by kernel_rfl) (by kernel_rfl) rfl (.opt _ (.bool _) [(40, _)] rfl (EntL.all ⟨Ent.self _ _, trivial⟩) (fun hG => P_eql rfl rfl) rfl) ?_
  refine Canon.pure _ _ 5 _ _ rfl (by kernel_rfl) (by kernel_rfl) rfl (.run rfl (P_pick_and rfl rfl rfl)) ?_
  refine Canon.pure _ _ 6 _ _ rfl (by kernel_rfl) (by kernel_rfl) rfl (.run rfl (P_move (v := .bool _) rfl)) ?_
  refine Canon.pure _ _ 7 _ _ rfl (by kernel_rfl) (by kernel_rfl) rfl (.opt _ (.int .i64 _) [] rfl (EntL.all trivial) (fun hG => P_move (v := .int .i64 _) rfl) rfl) ?_
  refine Canon.pure _ _ 8 _ _ rfl (by kernel_rfl) (by kernel_rfl) rfl (.opt _ (.bool _) [(44, _)] rfl (EntL.all ⟨Ent.self _ _, trivial⟩) (fun hG => P_eql rfl rfl) rfl) ?_
  refine Canon.pure _ _ 9 _ _ rfl (by kernel_rfl) (by kernel_rfl) rfl (.run rfl (P_pick_and rfl rfl rfl)) ?_
  refine Canon.pure _ _ 10 _ _ rfl (by kernel_rfl) (by kernel_rfl) rfl (.run rfl (P_move (v := .bool _) rfl)) ?_
  refine Canon.pure _ _ 11 _ _ rfl (by kernel_rfl) (by kernel_rfl) rfl (.opt _ (.int .i64 _) [] rfl (EntL.all trivial) (fun hG => P_move (v := .int .i64 _) rfl) rfl) ?_
  refine Canon.pure _ _ 12 _ _ rfl (by kernel_rfl) (by kernel_rfl) rfl (.opt _ (.bool _) [(48, _)] rfl (EntL.all ⟨Ent.self _ _, trivial⟩) (fun hG => P_eql rfl rfl) rfl) ?_
  refine Canon.pure _ _ 13 _ _ rfl (by kernel_rfl) (by kernel_rfl) rfl (.run rfl (P_pick_and rfl rfl rfl)) ?_
  refine Canon.pure _ _ 14 _ _ rfl (by kernel_rfl) (by kernel_rfl) rfl (.run rfl (P_move (v := .bool _) rfl)) ?_
  refine Canon.pure _ _ 15 _ _ rfl (by kernel_rfl) (by kernel_rfl) rfl (.opt _ (.sl _ _) [] rfl (EntL.all trivial) (fun hG => P_move (v := .sl _ _) rfl) rfl) ?_
  refine Canon.pure _ _ 16 _ _ rfl (by kernel_rfl) (by kernel_rfl) rfl (.opt _ (.agg _) [] rfl (EntL.all trivial) (fun hG => P_load_ptr_agg (l := [.int .i64 _, .int .i64 _, .int .i64 _, .int .i64 _, _]) tok rfl rfl rfl rfl rfl) rfl) ?_
  refine Canon.pure _ _ 17 _ _ rfl (by kernel_rfl) (by kernel_rfl) rfl (.opt _ (.agg _) [] rfl (EntL.all trivial) (fun hG => P_load_ptr_agg (l := [.int .i64 _, .int .i64 _, .int .i64 _, .int .i64 _, _]) tok rfl rfl rfl rfl rfl) rfl) ?_
  refine Canon.pure _ _ 18 _ _ rfl (by kernel_rfl) (by kernel_rfl) rfl (.opt _ (.sl _ _) [(53, _), (54, _)] rfl (EntL.all ⟨Ent.self _ _, Ent.self _ _, trivial⟩) (fun hG => P_buildSlice (es := [[.int .i64 _, .int .i64 _, .int .i64 _, .int .i64 _, _], [.int .i64 _, .int .i64 _, .int .i64 _, .int .i64 _, _]]) tok rfl rfl rfl rfl rfl rfl rfl rfl rfl) rfl) ?_
  refine Canon.pure _ _ 19 _ _ rfl (by kernel_rfl) (by kernel_rfl) rfl (.opt _ (.bool _) [(52, _), (55, _)] rfl (EntL.all ⟨Ent.self _ _, Ent.self _ _, trivial⟩) (fun hG => P_callf (by kernel_rfl) rfl rfl (r5_Same [eB, eA] [eB, eA] (by decide) (small2 eB eA (by decide) (by decide)))) rfl) ?_
  refine Canon.pure _ _ 20 _ _ rfl (by kernel_rfl) (by kernel_rfl) rfl (.run rfl (P_pick_and rfl rfl rfl)) ?_
  refine Canon.pure _ _ 21 _ _ rfl (by kernel_rfl) (by kernel_rfl) rfl (.run rfl (P_move (v := .bool _) rfl)) ?_
  refine Canon.pure _ _ 22 _ _ rfl (by kernel_rfl) (by kernel_rfl) rfl (.opt _ (.sl _ _) [] rfl (EntL.all trivial) (fun hG => P_move (v := .sl _ _) rfl) rfl) ?_
  refine Canon.pure _ _ 23 _ _ rfl (by kernel_rfl) (by kernel_rfl) rfl (.opt _ (.int .i64 _) [(59, _)] rfl (EntL.all ⟨Ent.self _ _, trivial⟩) (fun hG => P_len_sl tok rfl rfl rfl rfl) rfl) ?_
  refine Canon.pure _ _ 24 _ _ rfl (by kernel_rfl) (by kernel_rfl) rfl (.opt _ (.bool _) [(60, _)] rfl (EntL.all ⟨Ent.self _ _, trivial⟩) (fun hG => P_eql rfl rfl) rfl) ?_
  refine Canon.pure _ _ 25 _ _ rfl (by kernel_rfl) (by kernel_rfl) rfl (.run rfl (P_pick_and rfl rfl rfl)) ?_
  refine Canon.pure _ _ 26 _ _ rfl (by kernel_rfl) (by kernel_rfl) rfl (.run rfl (P_move (v := .bool _) rfl)) ?_
  refine Canon.pure _ _ 27 _ _ rfl (by kernel_rfl) (by kernel_rfl) rfl (.opt _ (.sl _ _) [] rfl (EntL.all trivial) (fun hG => P_move (v := .sl _ _) rfl) rfl) ?_
  refine Canon.pure _ _ 28 _ _ rfl (by kernel_rfl) (by kernel_rfl) rfl (.opt _ (.int .i64 _) [(64, _)] rfl (EntL.all ⟨Ent.self _ _, trivial⟩) (fun hG => P_len_sl tok rfl rfl rfl rfl) rfl) ?_
  refine Canon.pure _ _ 29 _ _ rfl (by kernel_rfl) (by kernel_rfl) rfl (.opt _ (.bool _) [(65, _)] rfl (EntL.all ⟨Ent.self _ _, trivial⟩) (fun hG => P_eql rfl rfl) rfl) ?_
  refine Canon.pure _ _ 30 _ _ rfl (by kernel_rfl) (by kernel_rfl) rfl (.run rfl (P_pick_and rfl rfl rfl)) ?_
  refine Canon.pure _ _ 31 _ _ rfl (by kernel_rfl) (by kernel_rfl) rfl (.run rfl (P_move (v := .bool _) rfl)) ?_
  refine Canon.pure _ _ 32 _ _ rfl (by kernel_rfl) (by kernel_rfl) rfl (.opt _ (.sl _ _) [] rfl (EntL.all trivial) (fun hG => P_move (v := .sl _ _) rfl) rfl) ?_
  refine Canon.pure _ _ 33 _ _ rfl (by kernel_rfl) (by kernel_rfl) rfl (.opt _ (.ptr _) [(69, _)] rfl (EntL.all ⟨Ent.self _ _, trivial⟩) (fun hG => P_indexAddr (c := [.int .i64 _, .int .i64 _, .str _]) tok rfl rfl rfl rfl rfl rfl (by omega) (rfl)) rfl) ?_
  refine Canon.pure _ _ 34 _ _ rfl (by kernel_rfl) (by kernel_rfl) rfl (.opt _ (.agg _) [(70, _)] rfl (EntL.all ⟨Ent.self _ _, trivial⟩) (fun hG => P_load_ptr_agg (l := [.int .i64 _, .int .i64 _, .str _]) tok rfl rfl rfl rfl rfl) rfl) ?_
  refine Canon.pure _ _ 35 _ _ rfl (by kernel_rfl) (by kernel_rfl) rfl (.opt _ (.sl _ _) [] rfl (EntL.all trivial) (fun hG => P_move (v := .sl _ _) rfl) rfl) ?_
  refine Canon.pure _ _ 36 _ _ rfl (by kernel_rfl) (by kernel_rfl) rfl (.opt _ (.ptr _) [(72, _)] rfl (EntL.all ⟨Ent.self _ _, trivial⟩) (fun hG => P_indexAddr (c := [.int .i64 _, .int .i64 _, .str _]) tok rfl rfl rfl rfl rfl rfl (by omega) (rfl)) rfl) ?_
  refine Canon.pure _ _ 37 _ _ rfl (by kernel_rfl) (by kernel_rfl) rfl (.opt _ (.agg _) [(73, _)] rfl (EntL.all ⟨Ent.self _ _, trivial⟩) (fun hG => P_load_ptr_agg (l := [.int .i64 _, .int .i64 _, .str _]) tok rfl rfl rfl rfl rfl) rfl) ?_
  refine Canon.pure _ _ 38 _ _ rfl (by kernel_rfl) (by kernel_rfl) rfl (.opt _ (.int .i64 _) [(71, _), (74, _)] rfl (EntL.all ⟨Ent.self _ _, Ent.self _ _, trivial⟩) (fun hG => P_callf (by kernel_rfl) rfl rfl (v_Compare ⟨0, 1, []⟩ ⟨0, 2, []⟩)) rfl) ?_
  refine Canon.pure _ _ 39 _ _ rfl (by kernel_rfl) (by kernel_rfl) rfl (.opt _ (.bool _) [(75, _)] rfl (EntL.all ⟨Ent.self _ _, trivial⟩) (fun hG => P_eql rfl rfl) rfl) ?_
  refine Canon.pure _ _ 40 _ _ rfl (by kernel_rfl) (by kernel_rfl) rfl (.run rfl (P_pick_and rfl rfl rfl)) ?_
  refine Canon.pure _ _ 41 _ _ rfl (by kernel_rfl) (by kernel_rfl) rfl (.run rfl (P_assign (v := .bool _) rfl)) ?_
  refine Canon.done _ _ (by kernel_rfl) ?_
  refine thenN ?_
  refine AW.ret ?_
  refine ⟨.inr rfl, [.bool _], .cons (.tmp _ _ rfl) <| .nil, .refl _, ?_⟩
  have h1 : sameEs [eB, eA] [eB, eA] = true := sameEs_self _
  have h2 : vCmp ⟨0, 1, []⟩ ⟨0, 2, []⟩ = -1 := by decide
  exact congrArg AV.bool (by simp only [sameEs] at h1; rw [h1, h2]; rfl)
set_option maxRecDepth 20000 in
set_option maxHeartbeats 6400000 in
theorem t_law (types : List Sc) (htl : types.length ≤ 1048576) (hs : ∀ s ∈ types, scOK s) (key : List Int) (l : List Ev) : APure Try.prog 3 [.sl 2 (types.map cSc), .sl 1 (key.map cI), .sl 5 (l.map cEv)] (.bool true) := by
  refine APure.body (n := 165) tok Try.func3 rfl rfl rfl fun H => ?_
  refine AW.seq ?_
  refine AW.region ?_
  refine AOL.p (P_assign (v := .bool _) rfl) rfl ?_
  refine AOL.nil ?_
  refine thenN ?_
  refine AW.seq ?_
  refine AW.seq ?_
  refine AW.region ?_
  refine AOL.p (P_callf (by kernel_rfl) rfl rfl (t_orders)) rfl ?_
  refine AOL.p (P_not rfl) rfl ?_
  refine AOL.nil ?_
  refine thenN ?_
  refine AW.cond (b := _) rfl (fun hc1 => ?_) (fun hc1 => ?_)
  · skip
    cases hc1
  · skip
    refine AW.skip ?_
    refine thenN ?_
    refine AW.seq ?_
    refine AW.seq ?_
    refine AW.region ?_
    refine AOL.p (P_move (v := .sl _ _) rfl) rfl ?_
    refine AOL.p (P_callf (by kernel_rfl) rfl rfl (r_few l)) rfl ?_
    refine AOL.p (P_not rfl) rfl ?_
    refine AOL.p (P_move (v := .bool _) rfl) rfl ?_
    refine AOL.g (y := .sl _ _) _ [] rfl (EntL.all trivial) (fun hG => P_move (v := .sl _ _) rfl) rfl ?_
    refine AOL.g (y := .int .i64 _) _ [(33, _)] rfl (EntL.all ⟨Ent.self _ _, trivial⟩) (fun hG => P_len_sl (n := types.length) tok rfl rfl rfl (by simp)) rfl ?_
    refine AOL.g (y := .bool _) _ [(34, _)] rfl (EntL.all ⟨Ent.self _ _, trivial⟩) (fun hG => P_gtr rfl rfl) rfl ?_
    refine AOL.p (P_pick_or rfl rfl rfl) rfl ?_
    refine AOL.p (P_move (v := .bool _) rfl) rfl ?_
    refine AOL.g (y := .sl _ _) _ [] rfl (EntL.all trivial) (fun hG => P_move (v := .sl _ _) rfl) rfl ?_
    refine AOL.g (y := .int .i64 _) _ [(38, _)] rfl (EntL.all ⟨Ent.self _ _, trivial⟩) (fun hG => P_len_sl (n := key.length) tok rfl rfl rfl (by simp)) rfl ?_
    refine AOL.g (y := .bool _) _ [(39, _)] rfl (EntL.all ⟨Ent.self _ _, trivial⟩) (fun hG => P_eql rfl rfl) rfl ?_
    refine AOL.p (P_pick_or rfl rfl rfl) rfl ?_
    refine AOL.p (P_move (v := .bool _) rfl) rfl ?_
    refine AOL.g (y := .sl _ _) _ [] rfl (EntL.all trivial) (fun hG => P_move (v := .sl _ _) rfl) rfl ?_
    refine AOL.g (y := .sl _ _) _ [] rfl (EntL.all trivial) (fun hG => P_move (v := .sl _ _) rfl) rfl ?_
    refine AOL.g (y := .int .i64 _) _ [(43, _), (44, _)] rfl (EntL.all ⟨Ent.self _ _, Ent.self _ _, trivial⟩) (fun hG => P_callf (by kernel_rfl) rfl rfl (r_CheckKey types htl key)) rfl ?_
    refine AOL.g (y := .bool _) _ [(45, _)] rfl (EntL.all ⟨Ent.self _ _, trivial⟩) (fun hG => P_neq rfl rfl) rfl ?_
    refine AOL.p (P_pick_or rfl rfl rfl) rfl ?_
    refine AOL.nil ?_
    refine thenN ?_
    refine AW.cond (b := _) rfl (fun hc2 => ?_) (fun hc2 => ?_)
    · skip
      refine AW.seq ?_
      refine AW.region ?_
      refine AOL.p (P_assign (v := .bool _) rfl) rfl ?_
      refine AOL.nil ?_
      refine thenN ?_
      refine AW.ret ?_
      refine thenR ?_
      refine ⟨.inr rfl, [.bool _], .cons (.tmp _ _ rfl) <| .nil, .refl _, ?_⟩
      rfl
    · skip
      have hg4 := guard4 hc2
      have hsm := few_small hg4.1
      refine AW.skip ?_
      refine thenN ?_
      refine AW.seq ?_
      refine AW.seq ?_
      refine AW.region ?_
      refine AOL.p (P_move (v := .sl _ _) rfl) rfl ?_
      refine AOL.p (P_len_sl (n := l.length) tok rfl rfl rfl (by simp)) rfl ?_
      refine AOL.p (P_move (v := .int .i64 _) rfl) rfl ?_
      refine AOL.nil ?_
      refine thenN ?_
      refine AW.block ?_
      refine AW.loopS (fun (k : Nat) => (⟨[(0, .sl 2 (types.map cSc)), (1, .sl 1 (key.map cI)), (2, .sl 5 (l.map cEv)), (48, .sl 5 (l.map cEv)), (49, .int .i64 l.length), (50, .int .i64 (k : Int))], H, 165⟩ : St)) (fun (k : Nat) => k ≤ l.length ∧ ∀ e ∈ l.take k, evCheckE types e = 0) (fun (k : Nat) => l.length - k) (0) ?_ (GS.weaken ⟨rfl, rfl, rfl, rfl, rfl, rfl, trivial⟩ (.refl _)) ?_
      · exact ⟨Nat.zero_le _, by simp⟩
      · rintro k hR
        refine AW.seq ?_
        refine AW.region ?_
        refine AOL.p (P_lss rfl rfl) rfl ?_
        refine AOL.nil ?_
        refine thenN ?_
        refine AW.seq ?_
        refine AW.cond (b := _) rfl (fun hc3 => ?_) (fun hc3 => ?_)
        · skip
          obtain ⟨a, ha⟩ := get_lt hc3
          have hlt := get_lt' ha
          have hm := List.mem_of_getElem? ha
          refine AW.skip ?_
          refine thenN ?_
          refine AW.seq ?_
          refine AW.block ?_
          refine AW.seq ?_
          refine AW.region ?_
          refine AOL.p (P_indexAddr (c := [.int .i64 _, .int .i64 _, .int .i64 _, .int .i64 _, _]) tok rfl rfl rfl rfl rfl rfl (by omega) (map_at ha)) rfl ?_
          refine AOL.p (P_load_ptr_agg (l := [.int .i64 _, .int .i64 _, .int .i64 _, .int .i64 _, _]) tok rfl rfl rfl rfl rfl) rfl ?_
          refine AOL.e (E_alloc (l := [.int .i64 0, .int .i64 0, .int .i64 0, .int .i64 0, .sl 3 []]) (by kernel_rfl)) rfl ?_
          rintro _ _ ⟨b8, rfl, rfl⟩
          refine AOL.e (E_store (k := 0) (v := .agg _) (cs' := [.int .i64 _, .int .i64 _, .int .i64 _, .int .i64 _, _]) (H2 := _ :: _) tok rfl rfl rfl rfl rfl rfl rfl rfl rfl) rfl ?_
          rintro _ _ ⟨rfl, rfl⟩
          refine AOL.ghost (GS.freeze (t := 8) 0 rfl rfl) ?_
          refine AOL.nil ?_
          refine thenN ?_
          refine AW.seq ?_
          refine AW.region ?_
          refine AOL.p (P_move (v := .sl _ _) rfl) rfl ?_
          refine AOL.p (P_load_ptr_agg (l := [.int .i64 _, .int .i64 _, .int .i64 _, .int .i64 _, _]) tok rfl rfl rfl rfl rfl) rfl ?_
          refine AOL.p (P_callf (by kernel_rfl) rfl rfl (r_Check types htl hs a)) rfl ?_
          refine AOL.p (P_neq rfl rfl) rfl ?_
          refine AOL.nil ?_
          refine thenN ?_
          refine AW.cond (b := _) rfl (fun hc4 => ?_) (fun hc4 => ?_)
          · skip
            refine AW.seq ?_
            refine AW.region ?_
            refine AOL.p (P_assign (v := .bool _) rfl) rfl ?_
            refine AOL.nil ?_
            refine thenN ?_
            refine AW.ret ?_
            refine blkR ?_
            refine thenR ?_
            refine thenR ?_
            refine blkR ?_
            refine thenR ?_
            refine ⟨.inr rfl, [.bool _], .cons (.tmp _ _ rfl) <| .nil, .refl _, ?_⟩
            rfl
          · skip
            refine AW.skip ?_
            refine blkN ?_
            refine thenN ?_
            refine AW.region ?_
            refine AOL.p (P_add rfl rfl rfl (by constructor <;> omega)) rfl ?_
            refine AOL.p (P_move (v := .int .i64 _) rfl) rfl ?_
            refine AOL.nil ?_
            refine thenN ?_
            refine ⟨k + 1, ?_, ?_, GS.weaken ⟨rfl, rfl, rfl, rfl, rfl, rfl, trivial⟩ (.refl _)⟩
            · exact ⟨hlt, all_take ha hR.2 hc4⟩
            · omega
        · skip
          have hte := take_end hc3
          rw [hte] at hR
          have fit : Fit types key l := ⟨hsm.1, hR.2, hg4.2.2, hg4.2.1⟩
          refine AW.exit ?_
          refine thenE ?_
          refine thenE ?_
          refine blkHit ?_
          refine thenN ?_
          refine AW.seq ?_
          refine AW.region ?_
          refine AOL.p (P_move (v := .sl _ _) rfl) rfl ?_
          refine AOL.p (P_callf (by kernel_rfl) rfl rfl (s_Sort l hsm.1 (fun e he => by have := hsm.2 e he; omega))) rfl ?_
          refine AOL.p (P_move (v := .tuple _) rfl) rfl ?_
          refine AOL.p (P_extract (v := .sl _ _) rfl rfl) rfl ?_
          refine AOL.p (P_extract (v := .int .i64 _) rfl rfl) rfl ?_
          refine AOL.p (P_assign (v := .sl _ _) rfl) rfl ?_
          refine AOL.p (P_assign (v := .int .i64 _) rfl) rfl ?_
          refine AOL.nil ?_
          refine thenN ?_
          refine AW.seq ?_
          refine AW.seq ?_
          refine AW.region ?_
          refine AOL.p (P_move (v := .int .i64 _) rfl) rfl ?_
          refine AOL.p (P_neq rfl rfl) rfl ?_
          refine AOL.nil ?_
          refine thenN ?_
          refine AW.cond (b := _) rfl (fun hc5 => ?_) (fun hc5 => ?_)
          · skip
            refine AW.seq ?_
            refine AW.region ?_
            refine AOL.p (P_move (v := .int .i64 _) rfl) rfl ?_
            refine AOL.p (P_eql rfl rfl) rfl ?_
            refine AOL.p (P_assign (v := .bool _) rfl) rfl ?_
            refine AOL.nil ?_
            refine thenN ?_
            refine AW.ret ?_
            refine thenR ?_
            refine ⟨.inr rfl, [.bool _], .cons (.tmp _ _ rfl) <| .nil, .refl _, ?_⟩
            exact congrArg AV.bool (by rw [sort_bad fit hc5]; rfl)
          · skip
            have g := Gd.of fit hc5
            refine AW.skip ?_
            refine thenN ?_
            refine AW.seq ?_
            refine AW.region ?_
            refine AOL.p (P_move (v := .sl _ _) rfl) rfl ?_
            refine AOL.p (P_move (v := .sl _ _) rfl) rfl ?_
            refine AOL.p (P_callf (by kernel_rfl) rfl rfl (s_Split (sortE l).1 g.good.small (fun e he => by have := hsm.2 e (g.good.mem e he); omega) key)) rfl ?_
            refine AOL.p (P_move (v := .tuple _) rfl) rfl ?_
            refine AOL.p (P_extract (v := .sl _ _) rfl rfl) rfl ?_
            refine AOL.p (P_extract (v := .sl _ _) rfl rfl) rfl ?_
            refine AOL.p (P_extract (v := .int .i64 _) rfl rfl) rfl ?_
            refine AOL.p (P_assign (v := .sl _ _) rfl) rfl ?_
            refine AOL.p (P_assign (v := .sl _ _) rfl) rfl ?_
            refine AOL.p (P_assign (v := .int .i64 _) rfl) rfl ?_
            refine AOL.nil ?_
            refine thenN ?_
            refine AW.seq ?_
            refine AW.seq ?_
            refine AW.region ?_
            refine AOL.p (P_move (v := .int .i64 _) rfl) rfl ?_
            refine AOL.p (P_neq rfl rfl) rfl ?_
            refine AOL.p (P_move (v := .bool _) rfl) rfl ?_
            refine AOL.g (y := .sl _ _) _ [] rfl (EntL.all trivial) (fun hG => P_move (v := .sl _ _) rfl) rfl ?_
            refine AOL.g (y := .int .i64 _) _ [(78, _)] rfl (EntL.all ⟨Ent.self _ _, trivial⟩) (fun hG => P_len_sl (n := (splitS (sortE l).1 key).1.length) tok rfl rfl rfl (by simp)) rfl ?_
            refine AOL.g (y := .sl _ _) _ [] rfl (EntL.all trivial) (fun hG => P_move (v := .sl _ _) rfl) rfl ?_
            refine AOL.g (y := .int .i64 _) _ [(80, _)] rfl (EntL.all ⟨Ent.self _ _, trivial⟩) (fun hG => P_len_sl (n := (splitS (sortE l).1 key).2.1.length) tok rfl rfl rfl (by simp)) rfl ?_
            refine AOL.g (y := .bool _) _ [(79, _), (81, _)] rfl (EntL.all ⟨Ent.self _ _, Ent.self _ _, trivial⟩) (fun hG => P_neq rfl rfl) rfl ?_
            refine AOL.p (P_pick_or rfl rfl rfl) rfl ?_
            refine AOL.nil ?_
            refine thenN ?_
            refine AW.cond (b := _) rfl (fun hc6 => ?_) (fun hc6 => ?_)
            · skip
              rw [g.err, g.parts, List.length_map] at hc6
              exact absurd hc6 (by simp)
            · skip
              refine AW.skip ?_
              refine thenN ?_
              refine AW.seq ?_
              refine AW.region ?_
              refine AOL.p (P_assign_nil (z := 5) rfl) rfl ?_
              refine AOL.nil ?_
              refine thenN ?_
              refine AW.seq ?_
              refine AW.region ?_
              refine AOL.p (P_assign (v := .int .i64 _) rfl) rfl ?_
              refine AOL.nil ?_
              refine thenN ?_
              refine AW.seq ?_
              refine AW.seq ?_
              refine AW.region ?_
              refine AOL.p (P_move (v := .sl _ _) rfl) rfl ?_
              refine AOL.p (P_len_sl (n := (splitS (sortE l).1 key).1.length) tok rfl rfl rfl (by simp)) rfl ?_
              refine AOL.p (P_move (v := .int .i64 _) rfl) rfl ?_
              refine AOL.nil ?_
              refine thenN ?_
              refine AW.block ?_
              refine AW.sllen 84 rfl fun hlen84 => ?_
              simp only [List.length_map, maxLen] at hlen84
              refine AW.loopS (fun (p : Nat) => (⟨[(0, .sl 2 (types.map cSc)), (1, .sl 1 (key.map cI)), (2, .sl 5 (l.map cEv)), (9, .sl 5 ((sortE l).1.map cEv)), (11, .sl 3 ((splitS (sortE l).1 key).1.map cV)), (12, .sl 1 ((splitS (sortE l).1 key).2.1.map cLs)), (14, .sl 5 (((sortE l).1.filter (inK key ((splitS (sortE l).1 key).1.take p))).map cEv)), (15, .int .i64 ((((sortE l).1.filter (inK key ((splitS (sortE l).1 key).1.take p))).length : Nat) : Int)), (84, .sl 3 ((splitS (sortE l).1 key).1.map cV)), (85, .int .i64 (splitS (sortE l).1 key).1.length), (86, .int .i64 (p : Int))], H, 165⟩ : St)) (fun (p : Nat) => p ≤ (splitS (sortE l).1 key).1.length) (fun (p : Nat) => (splitS (sortE l).1 key).1.length - p) (0) ?_ (GS.weaken ⟨rfl, rfl, rfl, rfl, rfl, rfl, congrArg (fun x : List Ev => AV.sl 5 (x.map cEv)) (none_in key (sortE l).1).symm, congrArg (fun x : List Ev => AV.int .i64 ((x.length : Nat) : Int)) (none_in key (sortE l).1).symm, rfl, rfl, rfl, trivial⟩ (.refl _)) ?_
              · exact Nat.zero_le _
              · rintro p hP
                refine AW.seq ?_
                refine AW.region ?_
                refine AOL.p (P_lss rfl rfl) rfl ?_
                refine AOL.nil ?_
                refine thenN ?_
                refine AW.seq ?_
                refine AW.cond (b := _) rfl (fun hc7 => ?_) (fun hc7 => ?_)
                · skip
                  obtain ⟨c, hc⟩ := get_lt hc7
                  have hltc := get_lt' hc
                  refine AW.skip ?_
                  refine thenN ?_
                  refine AW.seq ?_
                  refine AW.block ?_
                  refine AW.seq ?_
                  refine AW.region ?_
                  refine AOL.p (P_move (v := .int .i64 _) rfl) rfl ?_
                  refine AOL.p (P_indexAddr (c := [.int .i64 _, .int .i64 _, .str _]) tok rfl rfl rfl rfl rfl rfl (by omega) (map_at hc)) rfl ?_
                  refine AOL.p (P_load_ptr_agg (l := [.int .i64 _, .int .i64 _, .str _]) tok rfl rfl rfl rfl rfl) rfl ?_
                  refine AOL.e (E_alloc (l := [.int .i64 0, .int .i64 0, .str []]) (by kernel_rfl)) rfl ?_
                  rintro _ _ ⟨b17, rfl, rfl⟩
                  refine AOL.p (P_assign (v := .int .i64 _) rfl) rfl ?_
                  refine AOL.e (E_store (k := 0) (v := .agg _) (cs' := [.int .i64 _, .int .i64 _, .str _]) (H2 := _ :: _) tok rfl rfl rfl rfl rfl rfl rfl rfl rfl) rfl ?_
                  rintro _ _ ⟨rfl, rfl⟩
                  refine AOL.ghost (GS.freeze (t := 17) 0 rfl rfl) ?_
                  refine AOL.nil ?_
                  refine thenN ?_
                  refine AW.seq ?_
                  refine AW.region ?_
                  refine AOL.p (P_move (v := .sl _ _) rfl) rfl ?_
                  refine AOL.p (P_move (v := .sl _ _) rfl) rfl ?_
                  refine AOL.p (P_move (v := .sl _ _) rfl) rfl ?_
                  refine AOL.p (P_load_ptr_agg (l := [.int .i64 _, .int .i64 _, .str _]) tok rfl rfl rfl rfl rfl) rfl ?_
                  refine AOL.p (P_callf (by kernel_rfl) rfl rfl (g.t_mine htl hs c)) rfl ?_
                  refine AOL.p (P_move (v := .tuple _) rfl) rfl ?_
                  refine AOL.p (P_extract (v := .sl _ _) rfl rfl) rfl ?_
                  refine AOL.p (P_extract (v := .bool _) rfl rfl) rfl ?_
                  refine AOL.p (P_assign (v := .sl _ _) rfl) rfl ?_
                  refine AOL.p (P_assign (v := .bool _) rfl) rfl ?_
                  refine AOL.nil ?_
                  refine thenN ?_
                  refine AW.seq ?_
                  refine AW.region ?_
                  refine AOL.p (P_move (v := .sl _ _) rfl) rfl ?_
                  refine AOL.p (P_callf (by kernel_rfl) rfl rfl (g.t_part hsm.2 c)) rfl ?_
                  refine AOL.p (P_move (v := .tuple _) rfl) rfl ?_
                  refine AOL.p (P_extract (v := .sl _ _) rfl rfl) rfl ?_
                  refine AOL.p (P_extract (v := .int .i64 _) rfl rfl) rfl ?_
                  refine AOL.p (P_assign (v := .sl _ _) rfl) rfl ?_
                  refine AOL.p (P_assign (v := .int .i64 _) rfl) rfl ?_
                  refine AOL.nil ?_
                  refine thenN ?_
                  refine AW.seq ?_
                  refine AW.seq ?_
                  refine AW.region ?_
                  refine AOL.p (P_move (v := .bool _) rfl) rfl ?_
                  refine AOL.p (P_not rfl) rfl ?_
                  refine AOL.p (P_move (v := .bool _) rfl) rfl ?_
                  refine AOL.g (y := .int .i64 _) _ [] rfl (EntL.all trivial) (fun hG => P_move (v := .int .i64 _) rfl) rfl ?_
                  refine AOL.g (y := .bool _) _ [(107, _)] rfl (EntL.all ⟨Ent.self _ _, trivial⟩) (fun hG => P_neq rfl rfl) rfl ?_
                  refine AOL.p (P_pick_or rfl rfl rfl) rfl ?_
                  refine AOL.p (P_move (v := .bool _) rfl) rfl ?_
                  refine AOL.g (y := .sl _ _) _ [] rfl (EntL.all trivial) (fun hG => P_move (v := .sl _ _) rfl) rfl ?_
                  refine AOL.g (y := .int .i64 _) _ [(111, _)] rfl (EntL.all ⟨Ent.self _ _, trivial⟩) (fun hG => P_len_sl (n := ((sortE l).1.filter (isK key c)).length) tok rfl rfl rfl (by simp)) rfl ?_
                  refine AOL.g (y := .bool _) _ [(112, _)] rfl (EntL.all ⟨Ent.self _ _, trivial⟩) (fun hG => P_eql rfl rfl) rfl ?_
                  refine AOL.p (P_pick_or rfl rfl rfl) rfl ?_
                  refine AOL.p (P_move (v := .bool _) rfl) rfl ?_
                  refine AOL.g (y := .sl _ _) _ [] rfl (EntL.all trivial) (fun hG => P_move (v := .sl _ _) rfl) rfl ?_
                  refine AOL.g (y := .sl _ _) _ [] rfl (EntL.all trivial) (fun hG => P_move (v := .sl _ _) rfl) rfl ?_
                  refine AOL.g (y := .int .i64 _) _ [] rfl (EntL.all trivial) (fun hG => P_move (v := .int .i64 _) rfl) rfl ?_
                  refine AOL.g (y := .ptr _) _ [(117, _), (118, _)] rfl (EntL.all ⟨Ent.self _ _, Ent.self _ _, trivial⟩) (fun hG => P_indexAddr (c := [_]) tok rfl rfl rfl rfl rfl rfl (by omega) (g.part_at hc)) rfl ?_
                  refine AOL.g (y := .sl _ _) _ [(119, _)] rfl (EntL.all ⟨Ent.self _ _, trivial⟩) (fun hG => P_load_ptr (c := .sl _ _) tok rfl rfl rfl) rfl ?_
                  refine AOL.g (y := .bool _) _ [(116, _), (120, _)] rfl (EntL.all ⟨Ent.self _ _, Ent.self _ _, trivial⟩) (fun hG => P_callf (by kernel_rfl) rfl rfl (r5_Same ((sortE l).1.filter (isK key c)) ((sortE l).1.filter (isK key c)) (by have := g.room hc; omega) (fun e he => by have := hsm.2 e (g.good.mem e (List.mem_filter.1 he).1); omega))) rfl ?_
                  refine AOL.g (y := .bool _) _ [(121, _)] rfl (EntL.all ⟨Ent.self _ _, trivial⟩) (fun hG => P_not rfl) rfl ?_
                  refine AOL.p (P_pick_or rfl rfl rfl) rfl ?_
                  refine AOL.nil ?_
                  refine thenN ?_
                  refine AW.cond (b := _) rfl (fun hc8 => ?_) (fun hc8 => ?_)
                  · skip
                    exact absurd hc8 (by rw [Bool.not_eq_true]; exact g.no hc)
                  · skip
                    refine AW.skip ?_
                    refine thenN ?_
                    refine AW.seq ?_
                    refine AW.region ?_
                    refine AOL.p (P_move (v := .sl _ _) rfl) rfl ?_
                    refine AOL.p (P_move (v := .sl _ _) rfl) rfl ?_
                    refine AOL.p (P_callf (by kernel_rfl) rfl rfl (g.t_merge hsm.2 hc)) rfl ?_
                    refine AOL.p (P_move (v := .tuple _) rfl) rfl ?_
                    refine AOL.p (P_extract (v := .sl _ _) rfl rfl) rfl ?_
                    refine AOL.p (P_extract (v := .int .i64 _) rfl rfl) rfl ?_
                    refine AOL.p (P_assign (v := .sl _ _) rfl) rfl ?_
                    refine AOL.p (P_assign (v := .int .i64 _) rfl) rfl ?_
                    refine AOL.nil ?_
                    refine thenN ?_
                    refine AW.seq ?_
                    refine AW.seq ?_
                    refine AW.region ?_
                    refine AOL.p (P_move (v := .int .i64 _) rfl) rfl ?_
                    refine AOL.p (P_neq rfl rfl) rfl ?_
                    refine AOL.nil ?_
                    refine thenN ?_
                    refine AW.cond (b := _) rfl (fun hc9 => ?_) (fun hc9 => ?_)
                    · skip
                      exact absurd hc9 (by decide)
                    · skip
                      refine AW.skip ?_
                      refine thenN ?_
                      refine AW.region ?_
                      refine AOL.p (P_move (v := .sl _ _) rfl) rfl ?_
                      refine AOL.p (P_move (v := .int .i64 _) rfl) rfl ?_
                      refine AOL.p (P_move (v := .sl _ _) rfl) rfl ?_
                      refine AOL.p (P_len_sl (n := ((sortE l).1.filter (isK key c)).length) tok rfl rfl rfl (by simp)) rfl ?_
                      refine AOL.p (P_add rfl rfl rfl (by have := g.room hc; constructor <;> omega)) rfl ?_
                      refine AOL.p (P_assign (v := .sl _ _) rfl) rfl ?_
                      refine AOL.p (P_assign (v := .int .i64 _) rfl) rfl ?_
                      refine AOL.nil ?_
                      refine blkN ?_
                      refine thenN ?_
                      refine AW.region ?_
                      refine AOL.p (P_add rfl rfl rfl (by constructor <;> omega)) rfl ?_
                      refine AOL.p (P_move (v := .int .i64 _) rfl) rfl ?_
                      refine AOL.nil ?_
                      refine thenN ?_
                      refine ⟨p + 1, ?_, ?_, GS.weaken ⟨rfl, rfl, rfl, rfl, rfl, rfl, rfl, congrArg (AV.int .i64) (by rw [g.good.plus p c hc]; rfl), rfl, rfl, rfl, trivial⟩ (.refl _)⟩
                      · exact hltc
                      · omega
                · skip
                  have hkt := take_end hc7
                  refine AW.exit ?_
                  refine thenE ?_
                  refine thenE ?_
                  refine blkHit ?_
                  refine thenN ?_
                  refine AW.seq ?_
                  refine AW.region ?_
                  refine AOL.p (P_assign (v := .int .i64 _) rfl) rfl ?_
                  refine AOL.nil ?_
                  refine thenN ?_
                  refine AW.seq ?_
                  refine AW.seq ?_
                  refine AW.region ?_
                  refine AOL.p (P_move (v := .sl _ _) rfl) rfl ?_
                  refine AOL.p (P_len_sl (n := (sortE l).1.length) tok rfl rfl rfl (by simp)) rfl ?_
                  refine AOL.p (P_move (v := .int .i64 _) rfl) rfl ?_
                  refine AOL.nil ?_
                  refine thenN ?_
                  refine AW.block ?_
                  have hsmall := g.good.small
                  refine AW.loopS (fun (q : Nat × Nat) => (⟨[(1, .sl 1 (key.map cI)), (9, .sl 5 ((sortE l).1.map cEv)), (14, .sl 5 (((sortE l).1.filter (inK key ((splitS (sortE l).1 key).1.take p))).map cEv)), (15, .int .i64 ((((sortE l).1.filter (inK key ((splitS (sortE l).1 key).1.take p))).length : Nat) : Int)), (24, .int .i64 (q.2 : Int)), (138, .sl 5 ((sortE l).1.map cEv)), (139, .int .i64 (sortE l).1.length), (140, .int .i64 (q.1 : Int))], H, 165⟩ : St)) (fun (q : Nat × Nat) => q.1 ≤ (sortE l).1.length ∧ q.2 = (((sortE l).1.take q.1).filter fun e => decide (kOf key e < 0)).length ∧ q.2 ≤ q.1) (fun (q : Nat × Nat) => (sortE l).1.length - q.1) ((0, 0)) ?_ (GS.weaken ⟨rfl, rfl, rfl, rfl, rfl, rfl, rfl, rfl, trivial⟩ (.refl _)) ?_
                  · exact ⟨Nat.zero_le _, by simp, Nat.le_refl _⟩
                  · rintro q hQ
                    refine AW.seq ?_
                    refine AW.region ?_
                    refine AOL.p (P_lss rfl rfl) rfl ?_
                    refine AOL.nil ?_
                    refine thenN ?_
                    refine AW.seq ?_
                    refine AW.cond (b := _) rfl (fun hc10 => ?_) (fun hc10 => ?_)
                    · skip
                      obtain ⟨a, ha⟩ := get_lt hc10
                      have hlt := get_lt' ha
                      have hm := List.mem_of_getElem? ha
                      have h1e := (fit.one (g.good.mem a hm)).2.2.2
                      have hcn := cnt_take (fun e => decide (kOf key e < 0)) ha
                      refine AW.skip ?_
                      refine thenN ?_
                      refine AW.seq ?_
                      refine AW.block ?_
                      refine AW.seq ?_
                      refine AW.region ?_
                      refine AOL.p (P_indexAddr (c := [.int .i64 _, .int .i64 _, .int .i64 _, .int .i64 _, _]) tok rfl rfl rfl rfl rfl rfl (by omega) (map_at ha)) rfl ?_
                      refine AOL.p (P_load_ptr_agg (l := [.int .i64 _, .int .i64 _, .int .i64 _, .int .i64 _, _]) tok rfl rfl rfl rfl rfl) rfl ?_
                      refine AOL.e (E_alloc (l := [.int .i64 0, .int .i64 0, .int .i64 0, .int .i64 0, .sl 3 []]) (by kernel_rfl)) rfl ?_
                      rintro _ _ ⟨b26, rfl, rfl⟩
                      refine AOL.e (E_store (k := 0) (v := .agg _) (cs' := [.int .i64 _, .int .i64 _, .int .i64 _, .int .i64 _, _]) (H2 := _ :: _) tok rfl rfl rfl rfl rfl rfl rfl rfl rfl) rfl ?_
                      rintro _ _ ⟨rfl, rfl⟩
                      refine AOL.ghost (GS.freeze (t := 26) 0 rfl rfl) ?_
                      refine AOL.nil ?_
                      refine thenN ?_
                      refine AW.seq ?_
                      refine AW.region ?_
                      refine AOL.p (P_move (v := .sl _ _) rfl) rfl ?_
                      refine AOL.p (P_fieldAddr_ptr (cs' := [.int .i64 _, .int .i64 _, _]) tok rfl rfl rfl rfl rfl rfl) rfl ?_
                      refine AOL.p (P_load_ptr (c := .int .i64 _) tok rfl rfl rfl) rfl ?_
                      refine AOL.p (P_indexAddr (c := [.int .i64 _]) tok rfl rfl rfl rfl rfl rfl (h1e.1) (map_at h1e.2)) rfl ?_
                      refine AOL.p (P_load_ptr (c := .int .i64 _) tok rfl rfl rfl) rfl ?_
                      refine AOL.p (P_lss rfl rfl) rfl ?_
                      refine AOL.nil ?_
                      refine thenN ?_
                      refine AW.cond (b := _) rfl (fun hc11 => ?_) (fun hc11 => ?_)
                      · skip
                        refine AW.region ?_
                        refine AOL.p (P_move (v := .int .i64 _) rfl) rfl ?_
                        refine AOL.p (P_add rfl rfl rfl (by constructor <;> omega)) rfl ?_
                        refine AOL.p (P_assign (v := .int .i64 _) rfl) rfl ?_
                        refine AOL.nil ?_
                        refine blkN ?_
                        refine thenN ?_
                        refine AW.region ?_
                        refine AOL.p (P_add rfl rfl rfl (by constructor <;> omega)) rfl ?_
                        refine AOL.p (P_move (v := .int .i64 _) rfl) rfl ?_
                        refine AOL.nil ?_
                        refine thenN ?_
                        refine ⟨(q.1 + 1, q.2 + 1), ?_, ?_, GS.weaken ⟨rfl, rfl, rfl, rfl, rfl, rfl, rfl, rfl, trivial⟩ (.refl _)⟩
                        · exact ⟨hlt, by simp only; rw [hcn, if_pos hc11, ← hQ.2.1], by simp only; omega⟩
                        · simp only; omega
                      · skip
                        refine AW.skip ?_
                        refine blkN ?_
                        refine thenN ?_
                        refine AW.region ?_
                        refine AOL.p (P_add rfl rfl rfl (by constructor <;> omega)) rfl ?_
                        refine AOL.p (P_move (v := .int .i64 _) rfl) rfl ?_
                        refine AOL.nil ?_
                        refine thenN ?_
                        refine ⟨(q.1 + 1, q.2), ?_, ?_, GS.weaken ⟨rfl, rfl, rfl, rfl, rfl, rfl, rfl, rfl, trivial⟩ (.refl _)⟩
                        · exact ⟨hlt, by simp only; rw [hcn, ifF hc11, ← hQ.2.1]; rfl, by simp only; omega⟩
                        · simp only; omega
                    · skip
                      have hst := take_end hc10
                      refine AW.exit ?_
                      refine thenE ?_
                      refine thenE ?_
                      refine blkHit ?_
                      refine thenN ?_
                      refine AW.seq ?_
                      refine AW.region ?_
                      refine AOL.p (P_move (v := .int .i64 _) rfl) rfl ?_
                      refine AOL.p (P_move (v := .sl _ _) rfl) rfl ?_
                      refine AOL.p (P_len_sl (n := ((sortE l).1.filter (inK key ((splitS (sortE l).1 key).1.take p))).length) tok rfl rfl rfl (by simp)) rfl ?_
                      refine AOL.p (P_eql rfl rfl) rfl ?_
                      refine AOL.p (P_move (v := .bool _) rfl) rfl ?_
                      refine AOL.g (y := .int .i64 _) _ [] rfl (EntL.all trivial) (fun hG => P_move (v := .int .i64 _) rfl) rfl ?_
                      refine AOL.g (y := .int .i64 _) _ [] rfl (EntL.all trivial) (fun hG => P_move (v := .int .i64 _) rfl) rfl ?_
                      refine AOL.g (y := .int .i64 _) _ [(158, _), (159, _)] rfl (EntL.all ⟨Ent.self _ _, Ent.self _ _, trivial⟩) (fun hG => P_add rfl rfl rfl (by have := g.good.small; have := List.length_filter_le (inK key ((splitS (sortE l).1 key).1.take p)) (sortE l).1; have h9 := List.length_filter_le (fun e => decide (kOf key e < 0)) ((sortE l).1.take q.1); rw [List.length_take] at h9; constructor <;> omega)) rfl ?_
                      refine AOL.g (y := .sl _ _) _ [] rfl (EntL.all trivial) (fun hG => P_move (v := .sl _ _) rfl) rfl ?_
                      refine AOL.g (y := .int .i64 _) _ [(161, _)] rfl (EntL.all ⟨Ent.self _ _, trivial⟩) (fun hG => P_len_sl (n := (sortE l).1.length) tok rfl rfl rfl (by simp)) rfl ?_
                      refine AOL.g (y := .bool _) _ [(160, _), (162, _)] rfl (EntL.all ⟨Ent.self _ _, Ent.self _ _, trivial⟩) (fun hG => P_eql rfl rfl) rfl ?_
                      refine AOL.p (P_pick_and rfl rfl rfl) rfl ?_
                      refine AOL.p (P_assign (v := .bool _) rfl) rfl ?_
                      refine AOL.nil ?_
                      refine thenN ?_
                      refine AW.ret ?_
                      refine ⟨.inr rfl, [.bool _], .cons (.tmp _ _ rfl) <| .nil, .refl _, ?_⟩
                      have h9 := g.good.count
                      rw [hst] at hQ
                      rw [← hQ.2.1] at h9
                      exact congrArg AV.bool (by rw [hkt]; simp; omega)

end Go.Proofs.Ytfpbgdjloccdbaa
