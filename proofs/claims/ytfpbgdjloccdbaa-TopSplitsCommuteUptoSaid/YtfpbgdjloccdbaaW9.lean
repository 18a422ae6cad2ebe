/-
  Walks of keys of events, and of sorting. No condition.
-/
import Derived.Test.YtfpbgdjloccdbaaW8
import Derived.KernelRfl
namespace Go.Proofs.Ytfpbgdjloccdbaa
open Go Go.Aw
set_option linter.unusedVariables false
set_option linter.unusedSimpArgs false

theorem sortE_bad {l : List Ev} (h : (allS l != 0) = true) : sortE l = ([], allS l) := by unfold sortE; rw [if_pos h]
theorem sortE_no {l : List Ev} (h : (allS l != 0) = false) (h2 : (!(sortedR l).2) = true) : sortE l = ([], 22) := by
  unfold sortE sortedR at *; rw [ifF h]
  cases hs : sortedS l with
  | none => rfl
  | some s => rw [hs] at h2; cases h2
theorem sortE_yes {l : List Ev} (h : (allS l != 0) = false) (h2 : (!(sortedR l).2) = false) : sortE l = ((sortedR l).1, 0) := by
  unfold sortE sortedR at *; rw [ifF h]
  cases hs : sortedS l with
  | none => rw [hs] at h2; cases h2
  | some s => rfl
theorem kty {key : List Int} {e : Ev} (h : (decide (e.type < 0) || decide ((key.length : Int) ≤ e.type)) = false) : key[e.type.toNat]? = some (kOf key e) ∧ 0 ≤ e.type := by
  have := ty_in h
  exact ⟨get_def 0 this.2, this.1⟩
theorem kval {e : Ev} {k : Int} (h : (decide (k < -1) || decide ((e.values.length : Int) ≤ k)) = false) (h2 : (k == -1) = false) : e.values[k.toNat]? = some (vAt e k) ∧ 0 ≤ k := by
  simp only [Bool.or_eq_false_iff, decide_eq_false_iff_not] at h
  have h3 : k ≠ -1 := by simpa using h2
  exact ⟨get_def v0 (by omega), by omega⟩
def concE (a b : List Ev) : List Ev × Int := match sortedS (a ++ b) with | some s => if decide (4096 < (s.length : Int)) then ([], 5) else (s, 0) | none => ([], 22)
theorem mergeE_eq (a b : List Ev) : mergeE a b = if streamS a != 0 then ([], streamS a) else if streamS b != 0 then ([], streamS b) else concE a b := rfl
theorem conc_no {a b : List Ev} (h2 : (!(sortedR (a ++ b)).2) = true) : concE a b = ([], 22) := by
  unfold concE sortedR at *
  cases hs : sortedS (a ++ b) with
  | none => rfl
  | some s => rw [hs] at h2; cases h2
theorem conc_many {a b : List Ev} (h2 : (!(sortedR (a ++ b)).2) = false) (h3 : decide (4096 < ((sortedR (a ++ b)).1.length : Int)) = true) : concE a b = ([], 5) := by
  unfold concE sortedR at *
  cases hs : sortedS (a ++ b) with
  | none => rw [hs] at h2; cases h2
  | some s => rw [hs] at h3; simp only [h3, if_true]
theorem conc_yes {a b : List Ev} (h2 : (!(sortedR (a ++ b)).2) = false) (h3 : decide (4096 < ((sortedR (a ++ b)).1.length : Int)) = false) : concE a b = ((sortedR (a ++ b)).1, 0) := by
  unfold concE sortedR at *
  cases hs : sortedS (a ++ b) with
  | none => rw [hs] at h2; cases h2
  | some s => rw [hs] at h3; simp only [h3, Bool.false_eq_true, if_false]
theorem ev_ok {types : List Sc} {e : Ev} (h : (evCheckE types e != 0) = false) : (0 ≤ e.type ∧ e.type.toNat < types.length) ∧ e.values.length = (fieldsOf types e).length := by
  have h1 : evCheckE types e = 0 := by simpa using h
  unfold evCheckE at h1
  split at h1
  · rename_i h2; rw [h1] at h2; cases h2
  · unfold validE at h1
    split at h1
    · rename_i h2; rw [h1] at h2; cases h2
    · split at h1
      · cases h1
      · rename_i h3
        split at h1
        · cases h1
        · rename_i h4
          exact ⟨ty_in (Bool.eq_false_iff.2 h3), len_eq (Bool.eq_false_iff.2 h4)⟩
theorem keys_in : ∀ {key : List Int} {types : List Sc} {i : Nat} {k : Int} {s : Sc}, keysS key types = 0 → key[i]? = some k → types[i]? = some s → 0 ≤ k → k.toNat < s.fields.length
  | [], _, _, _, _, _, h, _, _ => by simp at h
  | _ :: _, [], _, _, _, _, _, h, _ => by simp at h
  | a :: r, c :: t, i, k, s, h, h1, h2, h0 => by
    rw [keysS] at h
    split at h
    · rename_i h3; rw [h] at h3; cases h3
    · rename_i h3
      cases i with
      | zero =>
        simp only [List.getElem?_cons_zero, Option.some.injEq] at h1 h2
        subst h1 h2
        have h4 : keyE a c = 0 := by simpa using h3
        unfold keyE at h4
        split at h4
        · cases h4
        · rename_i h5
          simp only [Bool.or_eq_true, decide_eq_true_eq, not_or] at h5
          omega
      | succ i => exact keys_in h (by simpa using h1) (by simpa using h2) h0
def cLs (l : List Ev) : List AV := [.sl 5 (l.map cEv)]
theorem sum_take {ls : List (List Ev)} {k : Nat} {a : List Ev} (h : ls[k]? = some a) : ((ls.take (k + 1)).map List.length).sum = ((ls.take k).map List.length).sum + a.length := by rw [take_get h]; simp
theorem flat_take {ls : List (List Ev)} {k : Nat} {a : List Ev} (h : ls[k]? = some a) : (ls.take (k + 1)).flatten = (ls.take k).flatten ++ a := by rw [take_get h]; simp
theorem sum_le {ls : List (List Ev)} (k : Nat) : ((ls.take k).map List.length).sum ≤ (ls.map List.length).sum := by
  have h : ls = ls.take k ++ ls.drop k := (List.take_append_drop k ls).symm
  have h2 : (ls.map List.length).sum = ((ls.take k).map List.length).sum + ((ls.drop k).map List.length).sum := by
    rw [← List.sum_append, ← List.map_append, ← h]
  omega
theorem flatl_len (ls : List (List Ev)) : ls.flatten.length = (ls.map List.length).sum := by rw [List.length_flatten]

set_option maxRecDepth 20000 in
set_option maxHeartbeats 400000 in
theorem s_Sort (l : List Ev) (hl : l.length ≤ 12) (hv : ∀ e ∈ l, e.values.length ≤ 1048576) : APure Try.prog 8 [.sl 5 (l.map cEv)] (.tuple [.sl 5 ((sortE l).1.map cEv), .int .i64 (sortE l).2]) := by
  refine APure.body (n := 20) tok Try.func8 rfl rfl rfl fun H => ?_
  refine AW.seq ?_
  refine AW.region ?_
  refine AOL.p (P_assign_nil (z := 5) rfl) rfl ?_
  refine AOL.p (P_assign (v := .int .i64 _) rfl) rfl ?_
  refine AOL.nil ?_
  refine thenN ?_
  refine AW.seq ?_
  refine AW.seq ?_
  refine AW.region ?_
  refine AOL.p (P_move (v := .sl _ _) rfl) rfl ?_
  refine AOL.p (P_callf (by kernel_rfl) rfl rfl (s_all l)) rfl ?_
  refine AOL.p (P_assign (v := .int .i64 _) rfl) rfl ?_
  refine AOL.nil ?_
  refine thenN ?_
  refine AW.seq ?_
  refine AW.region ?_
  refine AOL.p (P_move (v := .int .i64 _) rfl) rfl ?_
  refine AOL.p (P_neq rfl rfl) rfl ?_
  refine AOL.nil ?_
  refine thenN ?_
  refine AW.cond (b := _) rfl (fun hc1 => ?_) (fun hc1 => ?_)
  · skip
    refine AW.seq ?_
    refine AW.region ?_
    refine AOL.p (P_move (v := .int .i64 _) rfl) rfl ?_
    refine AOL.p (P_assign_nil (z := 5) rfl) rfl ?_
    refine AOL.p (P_assign (v := .int .i64 _) rfl) rfl ?_
    refine AOL.nil ?_
    refine thenN ?_
    refine AW.ret ?_
    refine thenR ?_
    refine ⟨.inr rfl, [.sl _ _, .int .i64 _], .cons (.tmp _ _ rfl) <| .cons (.tmp _ _ rfl) <| .nil, .refl _, ?_⟩
    rw [sortE_bad hc1]; rfl
  · skip
    refine AW.skip ?_
    refine thenN ?_
    refine AW.seq ?_
    refine AW.region ?_
    refine AOL.p (P_move (v := .sl _ _) rfl) rfl ?_
    refine AOL.p (P_callf (by kernel_rfl) rfl rfl (s_sorted l hl hv)) rfl ?_
    refine AOL.p (P_move (v := .tuple _) rfl) rfl ?_
    refine AOL.p (P_extract (v := .sl _ _) rfl rfl) rfl ?_
    refine AOL.p (P_extract (v := .bool _) rfl rfl) rfl ?_
    refine AOL.p (P_assign (v := .sl _ _) rfl) rfl ?_
    refine AOL.p (P_assign (v := .bool _) rfl) rfl ?_
    refine AOL.nil ?_
    refine thenN ?_
    refine AW.seq ?_
    refine AW.seq ?_
    refine AW.region ?_
    refine AOL.p (P_move (v := .bool _) rfl) rfl ?_
    refine AOL.p (P_not rfl) rfl ?_
    refine AOL.nil ?_
    refine thenN ?_
    refine AW.cond (b := _) rfl (fun hc2 => ?_) (fun hc2 => ?_)
    · skip
      refine AW.seq ?_
      refine AW.region ?_
      refine AOL.p (P_assign_nil (z := 5) rfl) rfl ?_
      refine AOL.p (P_assign (v := .int .i64 _) rfl) rfl ?_
      refine AOL.nil ?_
      refine thenN ?_
      refine AW.ret ?_
      refine thenR ?_
      refine ⟨.inr rfl, [.sl _ _, .int .i64 _], .cons (.tmp _ _ rfl) <| .cons (.tmp _ _ rfl) <| .nil, .refl _, ?_⟩
      rw [sortE_no hc1 hc2]; rfl
    · skip
      refine AW.skip ?_
      refine thenN ?_
      refine AW.seq ?_
      refine AW.region ?_
      refine AOL.p (P_move (v := .sl _ _) rfl) rfl ?_
      refine AOL.p (P_assign (v := .sl _ _) rfl) rfl ?_
      refine AOL.p (P_assign (v := .int .i64 _) rfl) rfl ?_
      refine AOL.nil ?_
      refine thenN ?_
      refine AW.ret ?_
      refine ⟨.inr rfl, [.sl _ _, .int .i64 _], .cons (.tmp _ _ rfl) <| .cons (.tmp _ _ rfl) <| .nil, .refl _, ?_⟩
      rw [sortE_yes hc1 hc2]; rfl
set_option maxRecDepth 20000 in
set_option maxHeartbeats 1600000 in
theorem s_keyed (e : Ev) (key : List Int) : APure Try.prog 21 [.agg (cEv e), .sl 1 (key.map cI)] (.tuple [.agg (cV (keyed e key).1), .bool (keyed e key).2.1, .int .i64 (keyed e key).2.2]) := by
  refine APure.body (n := 60) tok Try.func21 rfl rfl rfl fun H => ?_
  refine AW.seq ?_
  refine AW.region ?_
  refine AOL.p (P_box (v := .agg _) (cs := [.int .i64 _, .int .i64 _, .int .i64 _, .int .i64 _, _]) rfl rfl rfl) rfl ?_
  refine AOL.e (E_alloc (l := [.int .i64 0, .int .i64 0, .str []]) (by kernel_rfl)) rfl ?_
  rintro _ _ ⟨b4, rfl, rfl⟩
  refine AOL.p (P_assign (v := .bool _) rfl) rfl ?_
  refine AOL.p (P_assign (v := .int .i64 _) rfl) rfl ?_
  refine AOL.nil ?_
  refine thenN ?_
  refine AW.seq ?_
  refine AW.block ?_
  refine AW.seq ?_
  refine AW.region ?_
  refine AOL.p (P_move (v := .sl _ _) rfl) rfl ?_
  refine AOL.p (P_len_sl (n := key.length) tok rfl rfl rfl (by simp)) rfl ?_
  refine AOL.p (P_eql rfl rfl) rfl ?_
  refine AOL.p (P_assign (v := .bool _) rfl) rfl ?_
  refine AOL.nil ?_
  refine thenN ?_
  refine AW.cond (b := _) rfl (fun hc1 => ?_) (fun hc1 => ?_)
  · skip
    refine AW.seq ?_
    refine AW.region ?_
    refine AOL.p (P_build (l := [.int .i64 _, .int .i64 _, .str _]) tok rfl rfl rfl) rfl ?_
    refine AOL.e (E_store (k := 0) (v := .agg _) (cs' := [.int .i64 _, .int .i64 _, .str _]) (H2 := _ :: _) tok rfl rfl rfl rfl rfl rfl rfl rfl rfl) rfl ?_
    rintro _ _ ⟨rfl, rfl⟩
    refine AOL.p (P_assign (v := .bool _) rfl) rfl ?_
    refine AOL.p (P_assign (v := .int .i64 _) rfl) rfl ?_
    refine AOL.nil ?_
    refine thenN ?_
    refine AW.ret ?_
    refine blkR ?_
    refine thenR ?_
    refine ⟨.inr rfl, [.agg [.int .i64 _, .int .i64 _, .str _], .bool _, .int .i64 _], .cons (.box _ _ _ 0 _ _ _ _ rfl rfl rfl rfl rfl rfl) <| .cons (.tmp _ _ rfl) <| .cons (.tmp _ _ rfl) <| .nil, .cons _ (.refl _), ?_⟩
    rw [show keyed e key = (v0, true, 0) by unfold keyed; rw [if_pos hc1]]; rfl
  · skip
    refine AW.seq ?_
    refine AW.region ?_
    refine AOL.p (P_fieldAddr_ptr (cs' := [.int .i64 _, .int .i64 _, _]) tok rfl rfl rfl rfl rfl rfl) rfl ?_
    refine AOL.p (P_load_ptr (c := .int .i64 _) tok rfl rfl rfl) rfl ?_
    refine AOL.p (P_lss rfl rfl) rfl ?_
    refine AOL.p (P_move (v := .bool _) rfl) rfl ?_
    refine AOL.g (y := .ptr _) _ [] rfl (EntL.all trivial) (fun hG => P_fieldAddr_ptr (cs' := [.int .i64 _, .int .i64 _, _]) tok rfl rfl rfl rfl rfl rfl) rfl ?_
    refine AOL.g (y := .int .i64 _) _ [(17, _)] rfl (EntL.all ⟨Ent.self _ _, trivial⟩) (fun hG => P_load_ptr (c := .int .i64 _) tok rfl rfl rfl) rfl ?_
    refine AOL.g (y := .sl _ _) _ [] rfl (EntL.all trivial) (fun hG => P_move (v := .sl _ _) rfl) rfl ?_
    refine AOL.g (y := .int .i64 _) _ [(19, _)] rfl (EntL.all ⟨Ent.self _ _, trivial⟩) (fun hG => P_len_sl (n := key.length) tok rfl rfl rfl (by simp)) rfl ?_
    refine AOL.g (y := .bool _) _ [(18, _), (20, _)] rfl (EntL.all ⟨Ent.self _ _, Ent.self _ _, trivial⟩) (fun hG => P_geq rfl rfl) rfl ?_
    refine AOL.p (P_pick_or rfl rfl rfl) rfl ?_
    refine AOL.p (P_assign (v := .bool _) rfl) rfl ?_
    refine AOL.nil ?_
    refine thenN ?_
    refine AW.cond (b := _) rfl (fun hc2 => ?_) (fun hc2 => ?_)
    · skip
      refine AW.seq ?_
      refine AW.region ?_
      refine AOL.p (P_build (l := [.int .i64 _, .int .i64 _, .str _]) tok rfl rfl rfl) rfl ?_
      refine AOL.e (E_store (k := 0) (v := .agg _) (cs' := [.int .i64 _, .int .i64 _, .str _]) (H2 := _ :: _) tok rfl rfl rfl rfl rfl rfl rfl rfl rfl) rfl ?_
      rintro _ _ ⟨rfl, rfl⟩
      refine AOL.p (P_assign (v := .bool _) rfl) rfl ?_
      refine AOL.p (P_assign (v := .int .i64 _) rfl) rfl ?_
      refine AOL.nil ?_
      refine thenN ?_
      refine AW.ret ?_
      refine blkR ?_
      refine thenR ?_
      refine ⟨.inr rfl, [.agg [.int .i64 _, .int .i64 _, .str _], .bool _, .int .i64 _], .cons (.box _ _ _ 0 _ _ _ _ rfl rfl rfl rfl rfl rfl) <| .cons (.tmp _ _ rfl) <| .cons (.tmp _ _ rfl) <| .nil, .cons _ (.refl _), ?_⟩
      rw [show keyed e key = (v0, false, 1) by unfold keyed; rw [ifF hc1, if_pos hc2]]; rfl
    · skip
      have hk := kty hc2
      refine AW.seq ?_
      refine AW.draw mixed (fun _ => True) trivial (by kernel_rfl) ?_
      refine Canon.pure _ _ 0 _ _ rfl (by kernel_rfl) (by kernel_rfl) rfl (.run rfl (P_move (v := .sl _ _) rfl)) ?_
      refine Canon.pure _ _ 1 _ _ rfl (by kernel_rfl) (by kernel_rfl) rfl (.run rfl (P_fieldAddr_ptr (cs' := [.int .i64 _, .int .i64 _, _]) tok rfl rfl rfl rfl rfl rfl)) ?_
      refine Canon.pure _ _ 2 _ _ rfl (by kernel_rfl) (by kernel_rfl) rfl (.run rfl (P_load_ptr (c := .int .i64 _) tok rfl rfl rfl)) ?_
      refine Canon.pure _ _ 3 _ _ rfl (by kernel_rfl) (by kernel_rfl) rfl (.run rfl (P_indexAddr (c := [.int .i64 _]) tok rfl rfl rfl rfl rfl rfl (hk.2) (map_at hk.1))) ?_
      refine Canon.pure _ _ 4 _ _ rfl (by kernel_rfl) (by kernel_rfl) rfl (.run rfl (P_load_ptr (c := .int .i64 _) tok rfl rfl rfl)) ?_
      refine Canon.pure _ _ 5 _ _ rfl (by kernel_rfl) (by kernel_rfl) rfl (.run rfl (P_lss rfl rfl)) ?_
      refine Canon.pure _ _ 6 _ _ rfl (by kernel_rfl) (by kernel_rfl) rfl (.run rfl (P_move (v := .bool _) rfl)) ?_
      refine Canon.pure _ _ 7 _ _ rfl (by kernel_rfl) (by kernel_rfl) rfl (.opt _ (.sl _ _) [] rfl (EntL.all trivial) (fun hG => P_move (v := .sl _ _) rfl) rfl) ?_
      refine Canon.pure _ _ 8 _ _ rfl (by kernel_rfl) (by kernel_rfl) rfl (.opt _ (.ptr _) [] rfl (EntL.all trivial) (fun hG => P_fieldAddr_ptr (cs' := [.int .i64 _, .int .i64 _, _]) tok rfl rfl rfl rfl rfl rfl) rfl) ?_
      refine Canon.pure _ _ 9 _ _ rfl (by kernel_rfl) (by kernel_rfl) rfl (.opt _ (.int .i64 _) [(33, _)] rfl (EntL.all ⟨Ent.self _ _, trivial⟩) (fun hG => P_load_ptr (c := .int .i64 _) tok rfl rfl rfl) rfl) ?_
      refine Canon.pure _ _ 10 _ _ rfl (by kernel_rfl) (by kernel_rfl) rfl (.opt _ (.ptr _) [(32, _), (34, _)] rfl (EntL.all ⟨Ent.self _ _, Ent.self _ _, trivial⟩) (fun hG => P_indexAddr (c := [.int .i64 _]) tok rfl rfl rfl rfl rfl rfl (hk.2) (map_at hk.1)) rfl) ?_
      refine Canon.pure _ _ 11 _ _ rfl (by kernel_rfl) (by kernel_rfl) rfl (.opt _ (.int .i64 _) [(35, _)] rfl (EntL.all ⟨Ent.self _ _, trivial⟩) (fun hG => P_load_ptr (c := .int .i64 _) tok rfl rfl rfl) rfl) ?_
      refine Canon.pure _ _ 12 _ _ rfl (by kernel_rfl) (by kernel_rfl) rfl (.opt _ (.ptr _) [] rfl (EntL.all trivial) (fun hG => P_fieldAddr_ptr (cs' := [_]) tok rfl rfl rfl rfl rfl rfl) rfl) ?_
      refine Canon.pure _ _ 13 _ _ rfl (by kernel_rfl) (by kernel_rfl) rfl (.opt _ (.sl _ _) [(37, _)] rfl (EntL.all ⟨Ent.self _ _, trivial⟩) (fun hG => P_load_ptr (c := .sl _ _) tok rfl rfl rfl) rfl) ?_
      refine Canon.pure _ _ 14 _ _ rfl (by kernel_rfl) (by kernel_rfl) rfl (.opt _ (.int .i64 _) [(38, _)] rfl (EntL.all ⟨Ent.self _ _, trivial⟩) (fun hG => P_len_sl (n := e.values.length) tok rfl rfl rfl (by simp)) rfl) ?_
      refine Canon.pure _ _ 15 _ _ rfl (by kernel_rfl) (by kernel_rfl) rfl (.opt _ (.bool _) [(36, _), (39, _)] rfl (EntL.all ⟨Ent.self _ _, Ent.self _ _, trivial⟩) (fun hG => P_geq rfl rfl) rfl) ?_
      refine Canon.pure _ _ 16 _ _ rfl (by kernel_rfl) (by kernel_rfl) rfl (.run rfl (P_pick_or rfl rfl rfl)) ?_
      refine Canon.pure _ _ 17 _ _ rfl (by kernel_rfl) (by kernel_rfl) rfl (.run rfl (P_assign (v := .bool _) rfl)) ?_
      refine Canon.done _ _ (by kernel_rfl) ?_
      refine thenN ?_
      refine AW.cond (b := _) rfl (fun hc3 => ?_) (fun hc3 => ?_)
      · skip
        refine AW.seq ?_
        refine AW.region ?_
        refine AOL.p (P_build (l := [.int .i64 _, .int .i64 _, .str _]) tok rfl rfl rfl) rfl ?_
        refine AOL.e (E_store (k := 0) (v := .agg _) (cs' := [.int .i64 _, .int .i64 _, .str _]) (H2 := _ :: _) tok rfl rfl rfl rfl rfl rfl rfl rfl rfl) rfl ?_
        rintro _ _ ⟨rfl, rfl⟩
        refine AOL.p (P_assign (v := .bool _) rfl) rfl ?_
        refine AOL.p (P_assign (v := .int .i64 _) rfl) rfl ?_
        refine AOL.nil ?_
        refine thenN ?_
        refine AW.ret ?_
        refine blkR ?_
        refine thenR ?_
        refine ⟨.inr rfl, [.agg [.int .i64 _, .int .i64 _, .str _], .bool _, .int .i64 _], .cons (.box _ _ _ 0 _ _ _ _ rfl rfl rfl rfl rfl rfl) <| .cons (.tmp _ _ rfl) <| .cons (.tmp _ _ rfl) <| .nil, .cons _ (.refl _), ?_⟩
        rw [show keyed e key = (v0, false, 2) by unfold keyed; rw [ifF hc1, ifF hc2, if_pos hc3]]; rfl
      · skip
        refine AW.seq ?_
        refine AW.region ?_
        refine AOL.p (P_move (v := .sl _ _) rfl) rfl ?_
        refine AOL.p (P_fieldAddr_ptr (cs' := [.int .i64 _, .int .i64 _, _]) tok rfl rfl rfl rfl rfl rfl) rfl ?_
        refine AOL.p (P_load_ptr (c := .int .i64 _) tok rfl rfl rfl) rfl ?_
        refine AOL.p (P_indexAddr (c := [.int .i64 _]) tok rfl rfl rfl rfl rfl rfl (hk.2) (map_at hk.1)) rfl ?_
        refine AOL.p (P_load_ptr (c := .int .i64 _) tok rfl rfl rfl) rfl ?_
        refine AOL.p (P_eql rfl rfl) rfl ?_
        refine AOL.p (P_assign (v := .bool _) rfl) rfl ?_
        refine AOL.nil ?_
        refine thenN ?_
        refine AW.cond (b := _) rfl (fun hc4 => ?_) (fun hc4 => ?_)
        · skip
          refine AW.seq ?_
          refine AW.region ?_
          refine AOL.p (P_build (l := [.int .i64 _, .int .i64 _, .str _]) tok rfl rfl rfl) rfl ?_
          refine AOL.e (E_store (k := 0) (v := .agg _) (cs' := [.int .i64 _, .int .i64 _, .str _]) (H2 := _ :: _) tok rfl rfl rfl rfl rfl rfl rfl rfl rfl) rfl ?_
          rintro _ _ ⟨rfl, rfl⟩
          refine AOL.p (P_assign (v := .bool _) rfl) rfl ?_
          refine AOL.p (P_assign (v := .int .i64 _) rfl) rfl ?_
          refine AOL.nil ?_
          refine thenN ?_
          refine AW.ret ?_
          refine blkR ?_
          refine thenR ?_
          refine ⟨.inr rfl, [.agg [.int .i64 _, .int .i64 _, .str _], .bool _, .int .i64 _], .cons (.box _ _ _ 0 _ _ _ _ rfl rfl rfl rfl rfl rfl) <| .cons (.tmp _ _ rfl) <| .cons (.tmp _ _ rfl) <| .nil, .cons _ (.refl _), ?_⟩
          rw [show keyed e key = (v0, false, 0) by unfold keyed; rw [ifF hc1, ifF hc2, ifF hc3, if_pos hc4]]; rfl
        · skip
          have hv := kval hc3 hc4
          refine AW.skip ?_
          refine blkN ?_
          refine thenN ?_
          refine AW.seq ?_
          refine AW.draw mixed (fun _ => True) trivial (by kernel_rfl) ?_
          refine Canon.pure _ _ 0 _ _ rfl (by kernel_rfl) (by kernel_rfl) rfl (.run rfl (P_fieldAddr_ptr (cs' := [_]) tok rfl rfl rfl rfl rfl rfl)) ?_
          refine Canon.pure _ _ 1 _ _ rfl (by kernel_rfl) (by kernel_rfl) rfl (.run rfl (P_load_ptr (c := .sl _ _) tok rfl rfl rfl)) ?_
          refine Canon.pure _ _ 2 _ _ rfl (by kernel_rfl) (by kernel_rfl) rfl (.run rfl (P_move (v := .sl _ _) rfl)) ?_
          refine Canon.pure _ _ 3 _ _ rfl (by kernel_rfl) (by kernel_rfl) rfl (.run rfl (P_fieldAddr_ptr (cs' := [.int .i64 _, .int .i64 _, _]) tok rfl rfl rfl rfl rfl rfl)) ?_
          refine Canon.pure _ _ 4 _ _ rfl (by kernel_rfl) (by kernel_rfl) rfl (.run rfl (P_load_ptr (c := .int .i64 _) tok rfl rfl rfl)) ?_
          refine Canon.pure _ _ 5 _ _ rfl (by kernel_rfl) (by kernel_rfl) rfl (.run rfl (P_indexAddr (c := [.int .i64 _]) tok rfl rfl rfl rfl rfl rfl (hk.2) (map_at hk.1))) ?_
          refine Canon.pure _ _ 6 _ _ rfl (by kernel_rfl) (by kernel_rfl) rfl (.run rfl (P_load_ptr (c := .int .i64 _) tok rfl rfl rfl)) ?_
          refine Canon.pure _ _ 7 _ _ rfl (by kernel_rfl) (by kernel_rfl) rfl (.run rfl (P_indexAddr (c := [.int .i64 _, .int .i64 _, .str _]) tok rfl rfl rfl rfl rfl rfl (hv.2) (map_at hv.1))) ?_
          refine Canon.pure _ _ 8 _ _ rfl (by kernel_rfl) (by kernel_rfl) rfl (.run rfl (P_load_ptr_agg (l := [.int .i64 _, .int .i64 _, .str _]) tok rfl rfl rfl rfl rfl)) ?_
          refine Canon.eff _ _ 9 _ _ rfl (by kernel_rfl) rfl rfl (E_store (k := 0) (v := .agg _) (cs' := [.int .i64 _, .int .i64 _, .str _]) (H2 := _ :: _) tok rfl rfl rfl rfl rfl rfl rfl rfl rfl) (fun _ _ _ => trivial) ?_
          rintro _ _ ⟨rfl, rfl⟩
          refine Canon.pure _ _ 10 _ _ rfl (by kernel_rfl) (by kernel_rfl) rfl (.run rfl (P_assign (v := .bool _) rfl)) ?_
          refine Canon.pure _ _ 11 _ _ rfl (by kernel_rfl) (by kernel_rfl) rfl (.run rfl (P_assign (v := .int .i64 _) rfl)) ?_
          refine Canon.done _ _ (by kernel_rfl) ?_
          refine thenN ?_
          refine AW.ret ?_
          refine ⟨.inr rfl, [.agg [.int .i64 _, .int .i64 _, .str _], .bool _, .int .i64 _], .cons (.box _ _ _ 0 _ _ _ _ rfl rfl rfl rfl rfl rfl) <| .cons (.tmp _ _ rfl) <| .cons (.tmp _ _ rfl) <| .nil, .cons _ (.refl _), ?_⟩
          rw [show keyed e key = (vAt e (kOf key e), true, 0) by unfold keyed; rw [ifF hc1, ifF hc2, ifF hc3, ifF hc4]]; rfl
set_option maxRecDepth 20000 in
set_option maxHeartbeats 1600000 in
theorem e_Key (types : List Sc) (hl : types.length ≤ 1048576) (hs : ∀ s ∈ types, scOK s) (key : List Int) (e : Ev) : APure Try.prog 24 [.sl 2 (types.map cSc), .sl 1 (key.map cI), .agg (cEv e)] (.tuple [.agg (cV (evKey types key e).1), .bool (evKey types key e).2.1, .int .i64 (evKey types key e).2.2]) := by
  refine APure.body (n := 64) tok Try.func24 rfl rfl rfl fun H => ?_
  refine AW.seq ?_
  refine AW.region ?_
  refine AOL.p (P_box (v := .agg _) (cs := [.int .i64 _, .int .i64 _, .int .i64 _, .int .i64 _, _]) rfl rfl rfl) rfl ?_
  refine AOL.e (E_alloc (l := [.int .i64 0, .int .i64 0, .str []]) (by kernel_rfl)) rfl ?_
  rintro _ _ ⟨b6, rfl, rfl⟩
  refine AOL.p (P_assign (v := .bool _) rfl) rfl ?_
  refine AOL.p (P_assign (v := .int .i64 _) rfl) rfl ?_
  refine AOL.nil ?_
  refine thenN ?_
  refine AW.seq ?_
  refine AW.seq ?_
  refine AW.region ?_
  refine AOL.p (P_move (v := .sl _ _) rfl) rfl ?_
  refine AOL.p (P_load_ptr_agg (l := [.int .i64 _, .int .i64 _, .int .i64 _, .int .i64 _, _]) tok rfl rfl rfl rfl rfl) rfl ?_
  refine AOL.p (P_callf (by kernel_rfl) rfl rfl (e_Check types hl hs e)) rfl ?_
  refine AOL.p (P_assign (v := .int .i64 _) rfl) rfl ?_
  refine AOL.nil ?_
  refine thenN ?_
  refine AW.seq ?_
  refine AW.region ?_
  refine AOL.p (P_move (v := .int .i64 _) rfl) rfl ?_
  refine AOL.p (P_neq rfl rfl) rfl ?_
  refine AOL.nil ?_
  refine thenN ?_
  refine AW.cond (b := _) rfl (fun hc1 => ?_) (fun hc1 => ?_)
  · skip
    refine AW.seq ?_
    refine AW.region ?_
    refine AOL.p (P_build (l := [.int .i64 _, .int .i64 _, .str _]) tok rfl rfl rfl) rfl ?_
    refine AOL.p (P_move (v := .int .i64 _) rfl) rfl ?_
    refine AOL.e (E_store (k := 0) (v := .agg _) (cs' := [.int .i64 _, .int .i64 _, .str _]) (H2 := _ :: _) tok rfl rfl rfl rfl rfl rfl rfl rfl rfl) rfl ?_
    rintro _ _ ⟨rfl, rfl⟩
    refine AOL.p (P_assign (v := .bool _) rfl) rfl ?_
    refine AOL.p (P_assign (v := .int .i64 _) rfl) rfl ?_
    refine AOL.nil ?_
    refine thenN ?_
    refine AW.ret ?_
    refine thenR ?_
    refine ⟨.inr rfl, [.agg [.int .i64 _, .int .i64 _, .str _], .bool _, .int .i64 _], .cons (.box _ _ _ 0 _ _ _ _ rfl rfl rfl rfl rfl rfl) <| .cons (.tmp _ _ rfl) <| .cons (.tmp _ _ rfl) <| .nil, .cons _ (.refl _), ?_⟩
    rw [show evKey types key e = (v0, false, evCheckE types e) by unfold evKey; rw [if_pos hc1]]; rfl
  · skip
    refine AW.skip ?_
    refine thenN ?_
    refine AW.seq ?_
    refine AW.seq ?_
    refine AW.region ?_
    refine AOL.p (P_move (v := .sl _ _) rfl) rfl ?_
    refine AOL.p (P_len_sl (n := key.length) tok rfl rfl rfl (by simp)) rfl ?_
    refine AOL.p (P_eql rfl rfl) rfl ?_
    refine AOL.nil ?_
    refine thenN ?_
    refine AW.cond (b := _) rfl (fun hc2 => ?_) (fun hc2 => ?_)
    · skip
      refine AW.seq ?_
      refine AW.region ?_
      refine AOL.p (P_build (l := [.int .i64 _, .int .i64 _, .str _]) tok rfl rfl rfl) rfl ?_
      refine AOL.e (E_store (k := 0) (v := .agg _) (cs' := [.int .i64 _, .int .i64 _, .str _]) (H2 := _ :: _) tok rfl rfl rfl rfl rfl rfl rfl rfl rfl) rfl ?_
      rintro _ _ ⟨rfl, rfl⟩
      refine AOL.p (P_assign (v := .bool _) rfl) rfl ?_
      refine AOL.p (P_assign (v := .int .i64 _) rfl) rfl ?_
      refine AOL.nil ?_
      refine thenN ?_
      refine AW.ret ?_
      refine thenR ?_
      refine ⟨.inr rfl, [.agg [.int .i64 _, .int .i64 _, .str _], .bool _, .int .i64 _], .cons (.box _ _ _ 0 _ _ _ _ rfl rfl rfl rfl rfl rfl) <| .cons (.tmp _ _ rfl) <| .cons (.tmp _ _ rfl) <| .nil, .cons _ (.refl _), ?_⟩
      rw [show evKey types key e = (v0, true, 0) by unfold evKey; rw [ifF hc1, if_pos hc2]]; rfl
    · skip
      refine AW.skip ?_
      refine thenN ?_
      refine AW.seq ?_
      refine AW.seq ?_
      refine AW.region ?_
      refine AOL.p (P_move (v := .sl _ _) rfl) rfl ?_
      refine AOL.p (P_len_sl (n := key.length) tok rfl rfl rfl (by simp)) rfl ?_
      refine AOL.p (P_move (v := .sl _ _) rfl) rfl ?_
      refine AOL.p (P_len_sl (n := types.length) tok rfl rfl rfl (by simp)) rfl ?_
      refine AOL.p (P_neq rfl rfl) rfl ?_
      refine AOL.nil ?_
      refine thenN ?_
      refine AW.cond (b := _) rfl (fun hc3 => ?_) (fun hc3 => ?_)
      · skip
        refine AW.seq ?_
        refine AW.region ?_
        refine AOL.p (P_build (l := [.int .i64 _, .int .i64 _, .str _]) tok rfl rfl rfl) rfl ?_
        refine AOL.e (E_store (k := 0) (v := .agg _) (cs' := [.int .i64 _, .int .i64 _, .str _]) (H2 := _ :: _) tok rfl rfl rfl rfl rfl rfl rfl rfl rfl) rfl ?_
        rintro _ _ ⟨rfl, rfl⟩
        refine AOL.p (P_assign (v := .bool _) rfl) rfl ?_
        refine AOL.p (P_assign (v := .int .i64 _) rfl) rfl ?_
        refine AOL.nil ?_
        refine thenN ?_
        refine AW.ret ?_
        refine thenR ?_
        refine ⟨.inr rfl, [.agg [.int .i64 _, .int .i64 _, .str _], .bool _, .int .i64 _], .cons (.box _ _ _ 0 _ _ _ _ rfl rfl rfl rfl rfl rfl) <| .cons (.tmp _ _ rfl) <| .cons (.tmp _ _ rfl) <| .nil, .cons _ (.refl _), ?_⟩
        rw [show evKey types key e = (v0, false, 15) by unfold evKey; rw [ifF hc1, ifF hc2, if_pos hc3]]; rfl
      · skip
        have hkl := len_eq hc3
        refine AW.skip ?_
        refine thenN ?_
        refine AW.seq ?_
        refine AW.seq ?_
        refine AW.region ?_
        refine AOL.p (P_move (v := .sl _ _) rfl) rfl ?_
        refine AOL.p (P_len_sl (n := key.length) tok rfl rfl rfl (by simp)) rfl ?_
        refine AOL.p (P_move (v := .int .i64 _) rfl) rfl ?_
        refine AOL.nil ?_
        refine thenN ?_
        refine AW.block ?_
        refine AW.sllen 30 rfl fun hlen => ?_
        simp only [List.length_map, maxLen] at hlen
        refine AW.loopS (fun (k : Nat) => (⟨[(0, .sl 2 (types.map cSc)), (1, .sl 1 (key.map cI)), (5, .ptr (cEv e)), (6, .val (.pointer (some ⟨b6, 0, none⟩))), (30, .sl 1 (key.map cI)), (31, .int .i64 key.length), (32, .int .i64 (k : Int))], .box b6 39 (cV v0) :: H, 64⟩ : St)) (fun (k : Nat) => k ≤ key.length ∧ keysS key types = keysS (key.drop k) (types.drop k)) (fun (k : Nat) => key.length - k) (0) ?_ (GS.weaken ⟨rfl, rfl, rfl, rfl, rfl, rfl, rfl, trivial⟩ (.refl _)) ?_
        · exact ⟨Nat.zero_le _, rfl⟩
        · rintro k hR
          refine AW.seq ?_
          refine AW.region ?_
          refine AOL.p (P_lss rfl rfl) rfl ?_
          refine AOL.nil ?_
          refine thenN ?_
          refine AW.seq ?_
          refine AW.cond (b := _) rfl (fun hc4 => ?_) (fun hc4 => ?_)
          · skip
            obtain ⟨a, ha⟩ := get_lt hc4
            have hlt := get_lt' ha
            have hm := List.mem_of_getElem? ha
            have hsk : types[k]? = some ((types[k]?).getD sc0) := get_def sc0 (by omega)
            have hstep := keys_drop ha hsk
            refine AW.skip ?_
            refine thenN ?_
            refine AW.seq ?_
            refine AW.block ?_
            refine AW.seq ?_
            refine AW.region ?_
            refine AOL.p (P_move (v := .int .i64 _) rfl) rfl ?_
            refine AOL.p (P_indexAddr (c := [.int .i64 _]) tok rfl rfl rfl rfl rfl rfl (by omega) (map_at ha)) rfl ?_
            refine AOL.p (P_load_ptr (c := .int .i64 _) tok rfl rfl rfl) rfl ?_
            refine AOL.p (P_assign (v := .int .i64 _) rfl) rfl ?_
            refine AOL.p (P_assign (v := .int .i64 _) rfl) rfl ?_
            refine AOL.nil ?_
            refine thenN ?_
            refine AW.seq ?_
            refine AW.region ?_
            refine AOL.p (P_move (v := .int .i64 _) rfl) rfl ?_
            refine AOL.p (P_lss rfl rfl) rfl ?_
            refine AOL.p (P_move (v := .bool _) rfl) rfl ?_
            refine AOL.g (y := .int .i64 _) _ [] rfl (EntL.all trivial) (fun hG => P_move (v := .int .i64 _) rfl) rfl ?_
            refine AOL.g (y := .sl _ _) _ [] rfl (EntL.all trivial) (fun hG => P_move (v := .sl _ _) rfl) rfl ?_
            refine AOL.g (y := .int .i64 _) _ [] rfl (EntL.all trivial) (fun hG => P_move (v := .int .i64 _) rfl) rfl ?_
            refine AOL.g (y := .ptr _) _ [(41, _), (42, _)] rfl (EntL.all ⟨Ent.self _ _, Ent.self _ _, trivial⟩) (fun hG => P_indexAddr (c := [.str _, _]) tok rfl rfl rfl rfl rfl rfl (by omega) (map_at hsk)) rfl ?_
            refine AOL.g (y := .ptr _) _ [(43, _)] rfl (EntL.all ⟨Ent.self _ _, trivial⟩) (fun hG => P_fieldAddr_ptr (cs' := [_]) tok rfl rfl rfl rfl rfl rfl) rfl ?_
            refine AOL.g (y := .sl _ _) _ [(44, _)] rfl (EntL.all ⟨Ent.self _ _, trivial⟩) (fun hG => P_load_ptr (c := .sl _ _) tok rfl rfl rfl) rfl ?_
            refine AOL.g (y := .int .i64 _) _ [(45, _)] rfl (EntL.all ⟨Ent.self _ _, trivial⟩) (fun hG => P_len_sl (n := ((types[k]?).getD sc0).fields.length) tok rfl rfl rfl (by simp)) rfl ?_
            refine AOL.g (y := .bool _) _ [(40, _), (46, _)] rfl (EntL.all ⟨Ent.self _ _, Ent.self _ _, trivial⟩) (fun hG => P_geq rfl rfl) rfl ?_
            refine AOL.p (P_pick_or rfl rfl rfl) rfl ?_
            refine AOL.nil ?_
            refine thenN ?_
            refine AW.cond (b := _) rfl (fun hc5 => ?_) (fun hc5 => ?_)
            · skip
              refine AW.seq ?_
              refine AW.region ?_
              refine AOL.p (P_build (l := [.int .i64 _, .int .i64 _, .str _]) tok rfl rfl rfl) rfl ?_
              refine AOL.e (E_store (k := 0) (v := .agg _) (cs' := [.int .i64 _, .int .i64 _, .str _]) (H2 := _ :: _) tok rfl rfl rfl rfl rfl rfl rfl rfl rfl) rfl ?_
              rintro _ _ ⟨rfl, rfl⟩
              refine AOL.p (P_assign (v := .bool _) rfl) rfl ?_
              refine AOL.p (P_assign (v := .int .i64 _) rfl) rfl ?_
              refine AOL.nil ?_
              refine thenN ?_
              refine AW.ret ?_
              refine blkR ?_
              refine thenR ?_
              refine thenR ?_
              refine blkR ?_
              refine thenR ?_
              refine ⟨.inr rfl, [.agg [.int .i64 _, .int .i64 _, .str _], .bool _, .int .i64 _], .cons (.box _ _ _ 0 _ _ _ _ rfl rfl rfl rfl rfl rfl) <| .cons (.tmp _ _ rfl) <| .cons (.tmp _ _ rfl) <| .nil, .cons _ (.refl _), ?_⟩
              have he : keysS key types = 16 := by
                have : keyE a ((types[k]?).getD sc0) = 16 := by unfold keyE; rw [if_pos hc5]
                rw [hR.2, hstep, this]; rfl
              rw [show evKey types key e = (v0, false, 16) by unfold evKey; rw [ifF hc1, ifF hc2, ifF hc3, he]; rfl]; rfl
            · skip
              refine AW.skip ?_
              refine blkN ?_
              refine thenN ?_
              refine AW.region ?_
              refine AOL.p (P_add rfl rfl rfl (by constructor <;> omega)) rfl ?_
              refine AOL.p (P_move (v := .int .i64 _) rfl) rfl ?_
              refine AOL.nil ?_
              refine thenN ?_
              refine ⟨k + 1, ?_, ?_, GS.weaken ⟨rfl, rfl, rfl, rfl, rfl, rfl, rfl, trivial⟩ (.refl _)⟩
              · exact ⟨hlt, by rw [hR.2, hstep, if_neg]; unfold keyE; rw [ifF hc5]; decide⟩
              · omega
          · skip
            have hd := get_end hc4
            have hks : keysS key types = 0 := by rw [hR.2, hd, keys_end]
            have hok := ev_ok hc1
            have hty := hok.1
            have hkk : key[e.type.toNat]? = some (kOf key e) := get_def 0 (by omega)
            refine AW.exit ?_
            refine thenE ?_
            refine thenE ?_
            refine blkHit ?_
            refine thenN ?_
            refine AW.seq ?_
            refine AW.seq ?_
            refine AW.region ?_
            refine AOL.p (P_move (v := .sl _ _) rfl) rfl ?_
            refine AOL.p (P_fieldAddr_ptr (cs' := [.int .i64 _, .int .i64 _, _]) tok rfl rfl rfl rfl rfl rfl) rfl ?_
            refine AOL.p (P_load_ptr (c := .int .i64 _) tok rfl rfl rfl) rfl ?_
            refine AOL.p (P_indexAddr (c := [.int .i64 _]) tok rfl rfl rfl rfl rfl rfl (hty.1) (map_at hkk)) rfl ?_
            refine AOL.p (P_load_ptr (c := .int .i64 _) tok rfl rfl rfl) rfl ?_
            refine AOL.p (P_assign (v := .int .i64 _) rfl) rfl ?_
            refine AOL.nil ?_
            refine thenN ?_
            refine AW.seq ?_
            refine AW.region ?_
            refine AOL.p (P_move (v := .int .i64 _) rfl) rfl ?_
            refine AOL.p (P_geq rfl rfl) rfl ?_
            refine AOL.nil ?_
            refine thenN ?_
            refine AW.cond (b := _) rfl (fun hc6 => ?_) (fun hc6 => ?_)
            · skip
              have hk0 := of_decide_eq_true hc6
              have hva : e.values[(kOf key e).toNat]? = some (vAt e (kOf key e)) := get_def v0 (by rw [hok.2]; exact keys_in hks hkk (get_def sc0 hty.2) hk0)
              refine AW.seq ?_
              refine AW.region ?_
              refine AOL.p (P_fieldAddr_ptr (cs' := [_]) tok rfl rfl rfl rfl rfl rfl) rfl ?_
              refine AOL.p (P_load_ptr (c := .sl _ _) tok rfl rfl rfl) rfl ?_
              refine AOL.p (P_move (v := .int .i64 _) rfl) rfl ?_
              refine AOL.p (P_indexAddr (c := [.int .i64 _, .int .i64 _, .str _]) tok rfl rfl rfl rfl rfl rfl (hk0) (map_at hva)) rfl ?_
              refine AOL.p (P_load_ptr_agg (l := [.int .i64 _, .int .i64 _, .str _]) tok rfl rfl rfl rfl rfl) rfl ?_
              refine AOL.e (E_store (k := 0) (v := .agg _) (cs' := [.int .i64 _, .int .i64 _, .str _]) (H2 := _ :: _) tok rfl rfl rfl rfl rfl rfl rfl rfl rfl) rfl ?_
              rintro _ _ ⟨rfl, rfl⟩
              refine AOL.p (P_assign (v := .bool _) rfl) rfl ?_
              refine AOL.p (P_assign (v := .int .i64 _) rfl) rfl ?_
              refine AOL.nil ?_
              refine thenN ?_
              refine AW.ret ?_
              refine thenR ?_
              refine ⟨.inr rfl, [.agg [.int .i64 _, .int .i64 _, .str _], .bool _, .int .i64 _], .cons (.box _ _ _ 0 _ _ _ _ rfl rfl rfl rfl rfl rfl) <| .cons (.tmp _ _ rfl) <| .cons (.tmp _ _ rfl) <| .nil, .cons _ (.refl _), ?_⟩
              rw [show evKey types key e = (vAt e (kOf key e), true, 0) by unfold evKey; rw [ifF hc1, ifF hc2, ifF hc3, hks]; exact if_pos hc6]; rfl
            · skip
              refine AW.skip ?_
              refine thenN ?_
              refine AW.seq ?_
              refine AW.region ?_
              refine AOL.p (P_build (l := [.int .i64 _, .int .i64 _, .str _]) tok rfl rfl rfl) rfl ?_
              refine AOL.e (E_store (k := 0) (v := .agg _) (cs' := [.int .i64 _, .int .i64 _, .str _]) (H2 := _ :: _) tok rfl rfl rfl rfl rfl rfl rfl rfl rfl) rfl ?_
              rintro _ _ ⟨rfl, rfl⟩
              refine AOL.p (P_assign (v := .bool _) rfl) rfl ?_
              refine AOL.p (P_assign (v := .int .i64 _) rfl) rfl ?_
              refine AOL.nil ?_
              refine thenN ?_
              refine AW.ret ?_
              refine ⟨.inr rfl, [.agg [.int .i64 _, .int .i64 _, .str _], .bool _, .int .i64 _], .cons (.box _ _ _ 0 _ _ _ _ rfl rfl rfl rfl rfl rfl) <| .cons (.tmp _ _ rfl) <| .cons (.tmp _ _ rfl) <| .nil, .cons _ (.refl _), ?_⟩
              rw [show evKey types key e = (v0, false, 0) by unfold evKey; rw [ifF hc1, ifF hc2, ifF hc3, hks]; exact ifF hc6]; rfl

end Go.Proofs.Ytfpbgdjloccdbaa
