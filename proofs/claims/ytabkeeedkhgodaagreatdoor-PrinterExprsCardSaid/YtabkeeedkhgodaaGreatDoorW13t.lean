/-
  Walks: the texts of the reference of the printer, part 2. No condition.
-/
import Derived.Test.YtabkeeedkhgodaaGreatDoorW13s
import Derived.Test.YtabkeeedkhgodaaGreatDoorW13c
import Derived.KernelRfl
namespace Go.Proofs.YtabkeeedkhgodaaGreatDoor
open Go Go.Aw
set_option linter.unusedVariables false
set_option linter.unusedSimpArgs false

theorem len_zero {α : Type} {l : List α} (h : ((l.length : Int) == 0) = true) : ¬ 0 < l.length := by simp only [beq_iff_eq] at h; omega
theorem len_pos {α : Type} {l : List α} (h : ((l.length : Int) == 0) = false) : 0 < l.length := by simp only [beq_eq_false_iff_ne, ne_eq] at h; omega
theorem wsn {t : Syn} : (t.kids.map writeC == []) = true ↔ ¬ 0 < t.kids.length := by
  cases hq : t.kids <;> simp
theorem wt_type0 {t : Syn} (hk : t.kind = 1) (h : ¬ 0 < t.kids.length) : writeC t = [116, 121, 112, 101, 32] ++ t.text ++ [32, 123, 125, 10] := by
  rw [writeC_eq]; unfold nodeT; rw [hk]
  show w_ttype ++ [32] ++ t.text ++ [32, 123] ++ (if (t.kids.map writeC == []) = true then [] else [32] ++ joinC (t.kids.map writeC) ++ [32]) ++ [125, 10] = _
  rw [if_pos (wsn.2 h)]; simp
theorem wt_type1 {t : Syn} (hk : t.kind = 1) (h : 0 < t.kids.length) : writeC t = [116, 121, 112, 101, 32] ++ t.text ++ [32, 123, 32] ++ joinC (t.kids.map writeC) ++ [32, 125, 10] := by
  rw [writeC_eq]; unfold nodeT; rw [hk]
  show w_ttype ++ [32] ++ t.text ++ [32, 123] ++ (if (t.kids.map writeC == []) = true then [] else [32] ++ joinC (t.kids.map writeC) ++ [32]) ++ [125, 10] = _
  rw [if_neg (fun e => (wsn.1 e) h)]; simp
theorem wt_query {t q0 q1 : Syn} {r : List Syn} (hk : t.kind = 3) (hq : t.kids = q0 :: q1 :: r) : writeC t = ([113, 117, 101, 114, 121, 32] ++ t.text ++ (if !(q0.text == []) then [32, 98, 121, 32] ++ q0.text else [])) ++ [10, 109, 97, 116, 99, 104, 32] ++ writeC q1 ++ [10, 114, 101, 116, 117, 114, 110, 32] ++ joinC (r.map writeC) ++ [59, 10] := by
  rw [writeC_eq]; unfold nodeT; rw [hk]
  show w_tquery ++ [32] ++ t.text ++ (if ((kidN t 0).text == []) = true then [] else [32] ++ w_by ++ [32] ++ (kidN t 0).text) ++ [10] ++ w_tmatch ++ [32] ++ (t.kids.map writeC).getD 1 [] ++ [10] ++ w_treturn ++ [32] ++ joinC ((t.kids.map writeC).drop 2) ++ [59, 10] = _
  have k0 : kidN t 0 = q0 := by unfold kidN; rw [hq]; rfl
  rw [k0, hq]
  show w_tquery ++ [32] ++ t.text ++ (if (q0.text == []) = true then [] else [32] ++ w_by ++ [32] ++ q0.text) ++ [10] ++ w_tmatch ++ [32] ++ writeC q1 ++ [10] ++ w_treturn ++ [32] ++ joinC (r.map writeC) ++ [59, 10] = _
  cases hc : (q0.text == [])
  · simp
  · simp
theorem wt_ev0 {t : Syn} (hk : t.kind = 5) (h : ¬ 0 < t.kids.length) : writeC t = t.text ++ [32] ++ t.name := by
  rw [writeC_eq]; unfold nodeT; rw [hk]
  show t.text ++ [32] ++ t.name ++ (if (t.kids.map writeC == []) = true then [] else [32] ++ w_tif ++ [32] ++ (t.kids.map writeC).getD 0 []) = _
  rw [if_pos (wsn.2 h)]; simp
theorem wt_ev1 {t x : Syn} (hk : t.kind = 5) (h0 : t.kids[0]? = some x) : writeC t = t.text ++ [32] ++ t.name ++ [32, 105, 102, 32] ++ writeC x := by
  rw [writeC_eq]; unfold nodeT; rw [hk]
  show t.text ++ [32] ++ t.name ++ (if (t.kids.map writeC == []) = true then [] else [32] ++ w_tif ++ [32] ++ (t.kids.map writeC).getD 0 []) = _
  have h1 : (t.kids.map writeC).getD 0 [] = writeC x := by rw [List.getD_eq_getElem?_getD, List.getElem?_map, h0]; rfl
  rw [if_neg (fun e => (wsn.1 e) (gt_lt h0)), h1]; simp
theorem wt_tot0 {t : Syn} (hk : t.kind = 16) (h : ¬ 0 < t.kids.length) : writeC t = aggT t.num ++ [40] ++ t.text ++ [46] ++ t.name ++ [41] := by
  rw [writeC_eq]; unfold nodeT; rw [hk]
  show aggT t.num ++ [40] ++ t.text ++ [46] ++ t.name ++ (if (t.kids.map writeC == []) = true then [] else [44, 32] ++ (t.kids.map writeC).getD 0 []) ++ [41] = _
  rw [if_pos (wsn.2 h)]; simp
theorem wt_tot1 {t x : Syn} (hk : t.kind = 16) (h0 : t.kids[0]? = some x) : writeC t = aggT t.num ++ [40] ++ t.text ++ [46] ++ t.name ++ ([44, 32] ++ writeC x) ++ [41] := by
  rw [writeC_eq]; unfold nodeT; rw [hk]
  show aggT t.num ++ [40] ++ t.text ++ [46] ++ t.name ++ (if (t.kids.map writeC == []) = true then [] else [44, 32] ++ (t.kids.map writeC).getD 0 []) ++ [41] = _
  have h1 : (t.kids.map writeC).getD 0 [] = writeC x := by rw [List.getD_eq_getElem?_getD, List.getElem?_map, h0]; rfl
  rw [if_neg (fun e => (wsn.1 e) (gt_lt h0)), h1]
theorem wt_lit {t : Syn} (hk : t.kind = 13) : writeC t = litT t := by rw [writeC_eq]; unfold nodeT; rw [hk]; rfl
theorem wt_bin {t x y : Syn} (hk : t.kind = 17) (hq : t.kids = [x, y]) : writeC t = wrapT t x (writeC x) ++ [32] ++ operT t.num ++ [32] ++ wrapT t y (writeC y) := by
  rw [writeC_eq]; unfold nodeT; rw [hk]
  show wrapT t (kidN t 0) ((t.kids.map writeC).getD 0 []) ++ [32] ++ operT t.num ++ [32] ++ wrapT t (kidN t 1) ((t.kids.map writeC).getD 1 []) = _
  have k0 : kidN t 0 = x := by unfold kidN; rw [hq]; rfl
  have k1 : kidN t 1 = y := by unfold kidN; rw [hq]; rfl
  rw [k0, k1, hq]; rfl
theorem wt_not {t x : Syn} (hk : t.kind = 18) (hq : t.kids = [x]) : writeC t = [110, 111, 116, 32] ++ wrapT t x (writeC x) := by
  rw [writeC_eq]; unfold nodeT; rw [hk]
  show w_tnot ++ [32] ++ wrapT t (kidN t 0) ((t.kids.map writeC).getD 0 []) = _
  have k0 : kidN t 0 = x := by unfold kidN; rw [hq]; rfl
  rw [k0, hq]; rfl
theorem wt_within {t x : Syn} (hk : t.kind = 11) (hq : t.kids = [x]) : writeC t = [119, 105, 116, 104, 105, 110, 40] ++ writeC x ++ [44, 32] ++ Lib.itoa t.num ++ [41] := by
  rw [writeC_eq]; unfold nodeT; rw [hk, hq]
  show w_within ++ [40] ++ writeC x ++ ([44, 32] ++ Lib.itoa t.num) ++ [41] = _
  simp
theorem wt_call {t : Syn} (h0 : 0 ≤ t.kind) (h18 : t.kind ≤ 18) (hn : t.kind ≠ 0 ∧ t.kind ≠ 1 ∧ t.kind ≠ 2 ∧ t.kind ≠ 3 ∧ t.kind ≠ 5 ∧ t.kind ≠ 11 ∧ t.kind ≠ 13 ∧ t.kind ≠ 14 ∧ t.kind ≠ 15 ∧ t.kind ≠ 16 ∧ t.kind ≠ 17 ∧ t.kind ≠ 18) : writeC t = callT t.kind ++ [40] ++ joinC (t.kids.map writeC) ++ [41] := by
  have e : ∀ k : Int, t.kind ≠ k → ¬ (t.kind == k) = true := fun k h => by simpa using h
  obtain ⟨a, b, c, d, f, g, h, i, j, k, l, m⟩ := hn
  rw [writeC_eq]; unfold nodeT
  rw [if_neg (e _ a), if_neg (e _ b), if_neg (e _ c), if_neg (e _ d), if_neg (e _ f), if_neg (e _ h), if_neg (e _ i), if_neg (e _ j), if_neg (e _ k), if_neg (e _ l), if_neg (e _ m), if_neg (e _ g), List.append_nil]
theorem lit_names {t : Syn} (hf : fieldsC t = 0) (hk : t.kind = 13) : t.name = w_tint ∨ t.name = w_tbool ∨ t.name = w_tstring := by
  unfold fieldsC at hf
  rw [hk] at hf
  replace hf : constC t = 0 := hf
  unfold constC at hf
  split at hf
  · rename_i h; exact .inl (by simpa using h)
  · split at hf
    · rename_i h; exact .inr (.inl (by simpa using h))
    · split at hf
      · rename_i h; exact .inr (.inr (by simpa using h))
      · cases hf
theorem r_list0 (t : Syn) (hl : t.kids.length ≤ 1000) (hn : ∀ x ∈ t.kids, WOK x) (hb : (joinC (t.kids.map writeC)).length ≤ 100000) : APure Tryz.prog 98 [.agg (cSyn t), .int .i64 0] (.str (joinC (t.kids.map writeC))) := r_list t 0 (by omega) hl hn hb

set_option maxRecDepth 20000 in
set_option maxHeartbeats 1600000 in
theorem r_declared (t : Syn) (hk : t.kind = 1) (hl : t.kids.length ≤ 1000) (hx : t.text.length ≤ 80) (hn : ∀ x ∈ t.kids, WOK x) (hb : (writeC t).length ≤ 100000) : APure Tryz.prog 89 [.agg (cSyn t)] (.str (writeC t)) := by
 refine APure.body (n := 19) tok Tryz.func89 rfl rfl rfl fun H => ?_
 refine AW.seq (AW.region ?_)
 refine AOL.p (P_box (v := .agg _) (cs := [.int .i64 _, .str _, .str _, .int .i64 _, _, .int .i64 _]) rfl rfl rfl) rfl ?_
 refine AOL.p (P_assign (v := .str _) rfl) rfl ?_
 refine AOL.nil (thenN ?_)
 refine AW.seq ?_
 refine AW.seq (AW.region ?_)
 refine AOL.p (P_fieldAddr_ptr (cs' := [_, .int .i64 _]) tok rfl rfl rfl rfl rfl rfl) rfl ?_
 refine AOL.p (P_load_ptr (c := .sl _ _) tok rfl rfl rfl) rfl ?_
 refine AOL.p (P_len_sl (n := t.kids.length) tok rfl rfl rfl (by simp)) rfl ?_
 refine AOL.p (P_eql rfl rfl) rfl ?_
 refine AOL.nil (thenN ?_)
 refine AW.cond (b := _) rfl (fun hc1 => ?_) (fun hc1 => ?_)
 ·
  have e := wt_type0 hk (len_zero hc1)
  refine AW.seq (AW.region ?_)
  refine AOL.p (P_fieldAddr_ptr (cs' := [.str _, .str _, .int .i64 _, _, .int .i64 _]) tok rfl rfl rfl rfl rfl rfl) rfl ?_
  refine AOL.p (P_load_ptr (c := .str _) tok rfl rfl rfl) rfl ?_
  refine AOL.p (P_add_str rfl rfl rfl (by unfold maxLen; (try simp only [List.length_append, List.length_cons, List.length_nil]); omega)) rfl ?_
  refine AOL.p (P_add_str rfl rfl rfl (by unfold maxLen; (try simp only [List.length_append, List.length_cons, List.length_nil]); omega)) rfl ?_
  refine AOL.p (P_assign (v := .str _) rfl) rfl ?_
  refine AOL.nil (thenN ?_)
  refine AW.ret ?_
  refine thenR ?_
  refine ⟨.inr rfl, [.str _], .cons (.tmp _ _ rfl) <| .nil, .refl _, ?_⟩
  rw [e]; rfl
 ·
  have h0 := len_pos hc1
  have e := wt_type1 hk h0
  have hb2 := hb
  rw [e] at hb2
  simp only [List.length_append, List.length_cons, List.length_nil] at hb2
  refine AW.skip ?_
  refine thenN ?_
  refine AW.seq ?_
  refine AW.draw mixed (fun _ => True) trivial (by kernel_rfl) ?_
  refine Canon.pure _ _ 0 _ _ rfl (by kernel_rfl) (by kernel_rfl) rfl (.run rfl (P_fieldAddr_ptr (cs' := [.str _, .str _, .int .i64 _, _, .int .i64 _]) tok rfl rfl rfl rfl rfl rfl)) ?_
  refine Canon.pure _ _ 1 _ _ rfl (by kernel_rfl) (by kernel_rfl) rfl (.run rfl (P_load_ptr (c := .str _) tok rfl rfl rfl)) ?_
  refine Canon.pure _ _ 2 _ _ rfl (by kernel_rfl) (by kernel_rfl) rfl (.run rfl (P_add_str rfl rfl rfl (by unfold maxLen; (try simp only [List.length_append, List.length_cons, List.length_nil]); omega))) ?_
  refine Canon.pure _ _ 3 _ _ rfl (by kernel_rfl) (by kernel_rfl) rfl (.run rfl (P_add_str rfl rfl rfl (by unfold maxLen; (try simp only [List.length_append, List.length_cons, List.length_nil]); omega))) ?_
  refine Canon.pure _ _ 4 _ _ rfl (by kernel_rfl) (by kernel_rfl) rfl (.run rfl (P_load_ptr_agg (l := [.int .i64 _, .str _, .str _, .int .i64 _, _, .int .i64 _]) tok rfl rfl rfl rfl rfl)) ?_
  refine Canon.pure _ _ 5 _ _ rfl (by kernel_rfl) (by kernel_rfl) rfl (.run rfl (P_callf (by kernel_rfl) rfl rfl (r_list0 t hl hn (by omega)))) ?_
  refine Canon.pure _ _ 6 _ _ rfl (by kernel_rfl) (by kernel_rfl) rfl (.run rfl (P_add_str rfl rfl rfl (by unfold maxLen; (try simp only [List.length_append, List.length_cons, List.length_nil]); omega))) ?_
  refine Canon.pure _ _ 7 _ _ rfl (by kernel_rfl) (by kernel_rfl) rfl (.run rfl (P_add_str rfl rfl rfl (by unfold maxLen; (try simp only [List.length_append, List.length_cons, List.length_nil]); omega))) ?_
  refine Canon.pure _ _ 8 _ _ rfl (by kernel_rfl) (by kernel_rfl) rfl (.run rfl (P_assign (v := .str _) rfl)) ?_
  refine Canon.done _ _ (by kernel_rfl) ?_
  refine thenN ?_
  refine AW.ret ?_
  refine ⟨.inr rfl, [.str _], .cons (.tmp _ _ rfl) <| .nil, .refl _, ?_⟩
  rw [e]; rfl
set_option maxRecDepth 20000 in
set_option maxHeartbeats 3200000 in
theorem r_asked (t q0 q1 : Syn) (r : List Syn) (hk : t.kind = 3) (hq : t.kids = q0 :: q1 :: r) (hl : t.kids.length ≤ 1000) (hx : t.text.length ≤ 80) (hx0 : q0.text.length ≤ 80) (h1 : WOK q1) (hn : ∀ x ∈ r, WOK x) (hb : (writeC t).length ≤ 100000) : APure Tryz.prog 91 [.agg (cSyn t)] (.str (writeC t)) := by
 have e := wt_query hk hq
 have hb2 := hb
 rw [e] at hb2
 simp only [List.length_append, List.length_cons, List.length_nil] at hb2
 have hw1 := h1.2
 have hlist := r_list t 2 (by omega) hl (by rw [hq]; exact hn) (by rw [hq]; show (joinC (r.map writeC)).length ≤ 100000; omega)
 rw [hq] at hlist
 replace hlist : APure Tryz.prog 98 [.agg (cSyn t), .int .i64 2] (.str (joinC (r.map writeC))) := by rw [hq] at *; exact hlist
 refine APure.body (n := 34) tok Tryz.func91 rfl rfl rfl fun H => ?_
 refine AW.seq (AW.region ?_)
 refine AOL.p (P_box (v := .agg _) (cs := [.int .i64 _, .str _, .str _, .int .i64 _, _, .int .i64 _]) rfl rfl rfl) rfl ?_
 refine AOL.p (P_assign (v := .str _) rfl) rfl ?_
 refine AOL.nil (thenN ?_)
 refine AW.seq (AW.region ?_)
 refine AOL.p (P_fieldAddr_ptr (cs' := [.str _, .str _, .int .i64 _, _, .int .i64 _]) tok rfl rfl rfl rfl rfl rfl) rfl ?_
 refine AOL.p (P_load_ptr (c := .str _) tok rfl rfl rfl) rfl ?_
 refine AOL.p (P_add_str rfl rfl rfl (by unfold maxLen; (try simp only [List.length_append, List.length_cons, List.length_nil]); omega)) rfl ?_
 refine AOL.p (P_assign (v := .str _) rfl) rfl ?_
 refine AOL.nil (thenN ?_)
 refine AW.seq ?_
 refine AW.seq (AW.region ?_)
 refine AOL.p (P_fieldAddr_ptr (cs' := [_, .int .i64 _]) tok rfl rfl rfl rfl rfl rfl) rfl ?_
 refine AOL.p (P_load_ptr (c := .sl _ _) tok rfl rfl rfl) rfl ?_
 refine AOL.p (P_indexAddr (c := [.int .i64 _, .str _, .str _, .int .i64 _, _, .int .i64 _]) tok rfl rfl rfl rfl rfl rfl (by decide) (encS_at (k := 0) (a := q0) (by rw [hq]; rfl))) rfl ?_
 refine AOL.p (P_fieldAddr_ptr (cs' := [.str _, .str _, .int .i64 _, _, .int .i64 _]) tok rfl rfl rfl rfl rfl rfl) rfl ?_
 refine AOL.p (P_load_ptr (c := .str _) tok rfl rfl rfl) rfl ?_
 refine AOL.p (P_neq_str rfl rfl) rfl ?_
 refine AOL.nil (thenN ?_)
 refine AW.cond (b := _) rfl (fun hc1 => ?_) (fun hc1 => ?_)
 ·
  rw [if_pos hc1] at e
  refine AW.region ?_
  refine AOL.p (P_move (v := .str _) rfl) rfl ?_
  refine AOL.p (P_fieldAddr_ptr (cs' := [_, .int .i64 _]) tok rfl rfl rfl rfl rfl rfl) rfl ?_
  refine AOL.p (P_load_ptr (c := .sl _ _) tok rfl rfl rfl) rfl ?_
  refine AOL.p (P_indexAddr (c := [.int .i64 _, .str _, .str _, .int .i64 _, _, .int .i64 _]) tok rfl rfl rfl rfl rfl rfl (by decide) (encS_at (k := 0) (a := q0) (by rw [hq]; rfl))) rfl ?_
  refine AOL.p (P_fieldAddr_ptr (cs' := [.str _, .str _, .int .i64 _, _, .int .i64 _]) tok rfl rfl rfl rfl rfl rfl) rfl ?_
  refine AOL.p (P_load_ptr (c := .str _) tok rfl rfl rfl) rfl ?_
  refine AOL.p (P_add_str rfl rfl rfl (by unfold maxLen; (try simp only [List.length_append, List.length_cons, List.length_nil]); omega)) rfl ?_
  refine AOL.p (P_add_str rfl rfl rfl (by unfold maxLen; (try simp only [List.length_append, List.length_cons, List.length_nil]); omega)) rfl ?_
  refine AOL.p (P_assign (v := .str _) rfl) rfl ?_
  refine AOL.nil (thenN ?_)
  refine AW.seq ?_
  refine AW.draw mixed (fun _ => True) trivial (by kernel_rfl) ?_
  refine Canon.pure _ _ 0 _ _ rfl (by kernel_rfl) (by kernel_rfl) rfl (.run rfl (P_move (v := .str _) rfl)) ?_
  refine Canon.pure _ _ 1 _ _ rfl (by kernel_rfl) (by kernel_rfl) rfl (.run rfl (P_add_str rfl rfl rfl (by unfold maxLen; (try simp only [List.length_append, List.length_cons, List.length_nil]); omega))) ?_
  refine Canon.pure _ _ 2 _ _ rfl (by kernel_rfl) (by kernel_rfl) rfl (.run rfl (P_fieldAddr_ptr (cs' := [_, .int .i64 _]) tok rfl rfl rfl rfl rfl rfl)) ?_
  refine Canon.pure _ _ 3 _ _ rfl (by kernel_rfl) (by kernel_rfl) rfl (.run rfl (P_load_ptr (c := .sl _ _) tok rfl rfl rfl)) ?_
  refine Canon.pure _ _ 4 _ _ rfl (by kernel_rfl) (by kernel_rfl) rfl (.run rfl (P_indexAddr (c := [.int .i64 _, .str _, .str _, .int .i64 _, _, .int .i64 _]) tok rfl rfl rfl rfl rfl rfl (by decide) (encS_at (k := 1) (a := q1) (by rw [hq]; rfl)))) ?_
  refine Canon.pure _ _ 5 _ _ rfl (by kernel_rfl) (by kernel_rfl) rfl (.run rfl (P_load_ptr_agg (l := [.int .i64 _, .str _, .str _, .int .i64 _, _, .int .i64 _]) tok rfl rfl rfl rfl rfl)) ?_
  refine Canon.pure _ _ 6 _ _ rfl (by kernel_rfl) (by kernel_rfl) rfl (.run rfl (P_callf (by kernel_rfl) rfl rfl (h1.1))) ?_
  refine Canon.pure _ _ 7 _ _ rfl (by kernel_rfl) (by kernel_rfl) rfl (.run rfl (P_add_str rfl rfl rfl (by unfold maxLen; (try simp only [List.length_append, List.length_cons, List.length_nil]); omega))) ?_
  refine Canon.pure _ _ 8 _ _ rfl (by kernel_rfl) (by kernel_rfl) rfl (.run rfl (P_add_str rfl rfl rfl (by unfold maxLen; (try simp only [List.length_append, List.length_cons, List.length_nil]); omega))) ?_
  refine Canon.pure _ _ 9 _ _ rfl (by kernel_rfl) (by kernel_rfl) rfl (.run rfl (P_load_ptr_agg (l := [.int .i64 _, .str _, .str _, .int .i64 _, _, .int .i64 _]) tok rfl rfl rfl rfl rfl)) ?_
  refine Canon.pure _ _ 10 _ _ rfl (by kernel_rfl) (by kernel_rfl) rfl (.run rfl (P_callf (by kernel_rfl) rfl rfl (hlist))) ?_
  refine Canon.pure _ _ 11 _ _ rfl (by kernel_rfl) (by kernel_rfl) rfl (.run rfl (P_add_str rfl rfl rfl (by unfold maxLen; (try simp only [List.length_append, List.length_cons, List.length_nil]); omega))) ?_
  refine Canon.pure _ _ 12 _ _ rfl (by kernel_rfl) (by kernel_rfl) rfl (.run rfl (P_add_str rfl rfl rfl (by unfold maxLen; (try simp only [List.length_append, List.length_cons, List.length_nil]); omega))) ?_
  refine Canon.pure _ _ 13 _ _ rfl (by kernel_rfl) (by kernel_rfl) rfl (.run rfl (P_assign (v := .str _) rfl)) ?_
  refine Canon.done _ _ (by kernel_rfl) ?_
  refine thenN ?_
  refine AW.ret ?_
  refine ⟨.inr rfl, [.str _], .cons (.tmp _ _ rfl) <| .nil, .refl _, ?_⟩
  rw [e]; simp only [List.append_assoc]; rfl
 ·
  rw [ifF hc1] at e
  refine AW.skip ?_
  refine thenN ?_
  refine AW.seq ?_
  refine AW.draw mixed (fun _ => True) trivial (by kernel_rfl) ?_
  refine Canon.pure _ _ 0 _ _ rfl (by kernel_rfl) (by kernel_rfl) rfl (.run rfl (P_move (v := .str _) rfl)) ?_
  refine Canon.pure _ _ 1 _ _ rfl (by kernel_rfl) (by kernel_rfl) rfl (.run rfl (P_add_str rfl rfl rfl (by unfold maxLen; (try simp only [List.length_append, List.length_cons, List.length_nil]); omega))) ?_
  refine Canon.pure _ _ 2 _ _ rfl (by kernel_rfl) (by kernel_rfl) rfl (.run rfl (P_fieldAddr_ptr (cs' := [_, .int .i64 _]) tok rfl rfl rfl rfl rfl rfl)) ?_
  refine Canon.pure _ _ 3 _ _ rfl (by kernel_rfl) (by kernel_rfl) rfl (.run rfl (P_load_ptr (c := .sl _ _) tok rfl rfl rfl)) ?_
  refine Canon.pure _ _ 4 _ _ rfl (by kernel_rfl) (by kernel_rfl) rfl (.run rfl (P_indexAddr (c := [.int .i64 _, .str _, .str _, .int .i64 _, _, .int .i64 _]) tok rfl rfl rfl rfl rfl rfl (by decide) (encS_at (k := 1) (a := q1) (by rw [hq]; rfl)))) ?_
  refine Canon.pure _ _ 5 _ _ rfl (by kernel_rfl) (by kernel_rfl) rfl (.run rfl (P_load_ptr_agg (l := [.int .i64 _, .str _, .str _, .int .i64 _, _, .int .i64 _]) tok rfl rfl rfl rfl rfl)) ?_
  refine Canon.pure _ _ 6 _ _ rfl (by kernel_rfl) (by kernel_rfl) rfl (.run rfl (P_callf (by kernel_rfl) rfl rfl (h1.1))) ?_
  refine Canon.pure _ _ 7 _ _ rfl (by kernel_rfl) (by kernel_rfl) rfl (.run rfl (P_add_str rfl rfl rfl (by unfold maxLen; (try simp only [List.length_append, List.length_cons, List.length_nil]); omega))) ?_
  refine Canon.pure _ _ 8 _ _ rfl (by kernel_rfl) (by kernel_rfl) rfl (.run rfl (P_add_str rfl rfl rfl (by unfold maxLen; (try simp only [List.length_append, List.length_cons, List.length_nil]); omega))) ?_
  refine Canon.pure _ _ 9 _ _ rfl (by kernel_rfl) (by kernel_rfl) rfl (.run rfl (P_load_ptr_agg (l := [.int .i64 _, .str _, .str _, .int .i64 _, _, .int .i64 _]) tok rfl rfl rfl rfl rfl)) ?_
  refine Canon.pure _ _ 10 _ _ rfl (by kernel_rfl) (by kernel_rfl) rfl (.run rfl (P_callf (by kernel_rfl) rfl rfl (hlist))) ?_
  refine Canon.pure _ _ 11 _ _ rfl (by kernel_rfl) (by kernel_rfl) rfl (.run rfl (P_add_str rfl rfl rfl (by unfold maxLen; (try simp only [List.length_append, List.length_cons, List.length_nil]); omega))) ?_
  refine Canon.pure _ _ 12 _ _ rfl (by kernel_rfl) (by kernel_rfl) rfl (.run rfl (P_add_str rfl rfl rfl (by unfold maxLen; (try simp only [List.length_append, List.length_cons, List.length_nil]); omega))) ?_
  refine Canon.pure _ _ 13 _ _ rfl (by kernel_rfl) (by kernel_rfl) rfl (.run rfl (P_assign (v := .str _) rfl)) ?_
  refine Canon.done _ _ (by kernel_rfl) ?_
  refine thenN ?_
  refine AW.ret ?_
  refine ⟨.inr rfl, [.str _], .cons (.tmp _ _ rfl) <| .nil, .refl _, ?_⟩
  rw [e]; simp only [List.append_nil, List.append_assoc]; rfl

end Go.Proofs.YtabkeeedkhgodaaGreatDoor
