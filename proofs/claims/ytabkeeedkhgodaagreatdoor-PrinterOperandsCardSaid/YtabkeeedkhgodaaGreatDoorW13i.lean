/-
  Walks: the printer, and the guard. No condition.
-/
import Derived.Test.YtabkeeedkhgodaaGreatDoorW13h
import Derived.KernelRfl
namespace Go.Proofs.YtabkeeedkhgodaaGreatDoor
open Go Go.Aw
set_option linter.unusedVariables false
set_option linter.unusedSimpArgs false

theorem totalL_drop {t x : Syn} {k : Nat} {n : Int} (h : t.kids[k]? = some x) (hn : decide (n ≤ 200) = true) : totalL (t.kids.drop k) n = totalL (t.kids.drop (k + 1)) (IntKind.i64.wrap (n + totalC x)) := by
  obtain ⟨h1, rfl⟩ := List.getElem?_eq_some_iff.1 h
  rw [List.drop_eq_getElem_cons h1, totalL, if_pos hn]
theorem totalL_stop {l : List Syn} {n : Int} (hn : decide (n ≤ 200) = false) : totalL l n = n := by
  cases l with
  | nil => rw [totalL]
  | cons x r => rw [totalL, if_neg (by rw [hn]; decide)]
theorem deepL_drop {t x : Syn} {k : Nat} {d : Int} (h : t.kids[k]? = some x) : deepL (t.kids.drop k) d = deepL (t.kids.drop (k + 1)) (max d (deepC x)) := by
  obtain ⟨h1, rfl⟩ := List.getElem?_eq_some_iff.1 h
  rw [List.drop_eq_getElem_cons h1, deepL]
theorem fewL_drop {t x : Syn} {k : Nat} (h : t.kids[k]? = some x) : fewL (t.kids.drop k) = if !(fewC x) then false else fewL (t.kids.drop (k + 1)) := by
  obtain ⟨h1, rfl⟩ := List.getElem?_eq_some_iff.1 h
  rw [List.drop_eq_getElem_cons h1, fewL]
/-- What the places of whole texts allow. -/
def Pl.fine (p : Pl) : Prop := ∀ k, p.at k = true → 0 ≤ k ∧ k ≤ 18 ∧ k ≠ 4
theorem fine_program : Pl.fine (.only 0) := fun k h => by have := only_at h; omega
theorem fine_query3 : Pl.fine (.only 3) := fun k h => by have := only_at h; omega
theorem fine_pats : Pl.fine .pats := fun k h => by have := pat_at h; omega
theorem fine_exps : Pl.fine .exps := fun k h => by have := exp_at h; omega
set_option maxRecDepth 20000 in
set_option maxHeartbeats 1600000 in
theorem f_total (t : Syn) : APure Tryz.prog 30 [.agg (cSyn t), .int .i64 200] (.int .i64 (totalC t)) := by
 skip
 induction t using Syn.ind
 rename_i t ih
 skip
 refine APure.body (n := 29) tok Tryz.func30 rfl rfl rfl fun H => ?_
 refine AW.seq (AW.region ?_)
 refine AOL.p (P_box (v := .agg _) (cs := [.int .i64 _, .str _, .str _, .int .i64 _, _, .int .i64 _]) rfl rfl rfl) rfl ?_
 refine AOL.p (P_assign (v := .int .i64 _) rfl) rfl ?_
 refine AOL.nil (thenN ?_)
 refine AW.seq (AW.region ?_)
 refine AOL.p (P_assign (v := .int .i64 _) rfl) rfl ?_
 refine AOL.nil (thenN ?_)
 refine AW.seq ?_
 refine AW.seq (AW.region ?_)
 refine AOL.p (P_assign (v := .int .i64 _) rfl) rfl ?_
 refine AOL.nil (thenN ?_)
 refine AW.block ?_
 refine AW.loopS (fun (p : Nat × Int) => (⟨[(1, .int .i64 200), (2, .ptr (cSyn t)), (5, .int .i64 p.2), (6, .int .i64 (p.1 : Int))], H, 29⟩ : St)) (fun (p : Nat × Int) => p.1 ≤ t.kids.length ∧ totalC t = totalL (t.kids.drop p.1) p.2) (fun (p : Nat × Int) => t.kids.length - p.1) ((0, 1)) ?_ (GS.weaken ⟨rfl, rfl, rfl, rfl, trivial⟩ (.refl _)) ?_
 · exact ⟨Nat.zero_le _, by rw [totalC_eq, List.drop_zero]⟩
 ·
  rintro p hR
  refine AW.seq ?_
  refine AW.seq (AW.region ?_)
  refine AOL.p (P_move (v := .int .i64 _) rfl) rfl ?_
  refine AOL.p (P_fieldAddr_ptr (cs' := [_, .int .i64 _]) tok rfl rfl rfl rfl rfl rfl) rfl ?_
  refine AOL.p (P_load_ptr (c := .sl _ _) tok rfl rfl rfl) rfl ?_
  refine AOL.know 9 rfl fun hml => ?_
  simp only [List.length_map, maxLen] at hml
  refine AOL.p (P_len_sl (n := t.kids.length) tok rfl rfl rfl (by simp)) rfl ?_
  refine AOL.p (P_lss rfl rfl) rfl ?_
  refine AOL.p (P_move (v := .bool _) rfl) rfl ?_
  refine AOL.g (y := .int .i64 _) _ [] rfl (EntL.all trivial) (fun hG => P_move (v := .int .i64 _) rfl) rfl ?_
  refine AOL.g (y := .int .i64 _) _ [] rfl (EntL.all trivial) (fun hG => P_move (v := .int .i64 _) rfl) rfl ?_
  refine AOL.g (y := .bool _) _ [(13, _), (14, _)] rfl (EntL.all ⟨Ent.self _ _, Ent.self _ _, trivial⟩) (fun hG => P_leq rfl rfl) rfl ?_
  refine AOL.p (P_pick_and rfl rfl rfl) rfl ?_
  refine AOL.nil (thenN ?_)
  refine AW.cond (b := _) rfl (fun hc1 => ?_) (fun hc1 => ?_)
  ·
   rw [Bool.and_eq_true] at hc1
   obtain ⟨x, hx⟩ := gt2 (l := t.kids) (k := p.1) (by have := of_decide_eq_true hc1.1; omega)
   have hlt := gt_lt hx
   have hm := List.mem_of_getElem? hx
   refine AW.skip ?_
   refine thenN ?_
   refine AW.seq ?_
   refine AW.block ?_
   refine AW.region ?_
   refine AOL.p (P_move (v := .int .i64 _) rfl) rfl ?_
   refine AOL.p (P_fieldAddr_ptr (cs' := [_, .int .i64 _]) tok rfl rfl rfl rfl rfl rfl) rfl ?_
   refine AOL.p (P_load_ptr (c := .sl _ _) tok rfl rfl rfl) rfl ?_
   refine AOL.p (P_move (v := .int .i64 _) rfl) rfl ?_
   refine AOL.p (P_indexAddr (c := [.int .i64 _, .str _, .str _, .int .i64 _, _, .int .i64 _]) tok rfl rfl rfl rfl rfl rfl (by omega) (encS_at hx)) rfl ?_
   refine AOL.p (P_load_ptr_agg (l := [.int .i64 _, .str _, .str _, .int .i64 _, _, .int .i64 _]) tok rfl rfl rfl rfl rfl) rfl ?_
   refine AOL.p (P_move (v := .int .i64 _) rfl) rfl ?_
   refine AOL.p (P_callf (by kernel_rfl) rfl rfl (ih x hm)) rfl ?_
   refine AOL.p (P_addw rfl rfl) rfl ?_
   refine AOL.p (P_assign (v := .int .i64 _) rfl) rfl ?_
   refine AOL.nil ?_
   refine blkN ?_
   refine thenN ?_
   refine AW.region ?_
   refine AOL.p (P_move (v := .int .i64 _) rfl) rfl ?_
   refine AOL.p (P_add rfl rfl rfl (by constructor <;> omega)) rfl ?_
   refine AOL.p (P_assign (v := .int .i64 _) rfl) rfl ?_
   refine AOL.nil (thenN ?_)
   refine ⟨(p.1 + 1, IntKind.i64.wrap (p.2 + totalC x)), ?_, ?_, GS.weaken ⟨rfl, rfl, rfl, rfl, trivial⟩ (.refl _)⟩
   · exact ⟨hlt, by rw [hR.2, totalL_drop hx hc1.2]⟩
   · simp only; omega
  ·
   rw [Bool.and_eq_false_iff] at hc1
   refine AW.exit ?_
   refine thenE ?_
   refine thenE ?_
   refine blkHit ?_
   refine thenN ?_
   refine AW.seq (AW.region ?_)
   refine AOL.p (P_move (v := .int .i64 _) rfl) rfl ?_
   refine AOL.p (P_assign (v := .int .i64 _) rfl) rfl ?_
   refine AOL.nil (thenN ?_)
   refine AW.ret ?_
   refine ⟨.inr rfl, [.int .i64 _], .cons (.tmp _ _ rfl) <| .nil, .refl _, ?_⟩
   have h9 : totalC t = p.2 := by
    rw [hR.2]
    rcases hc1 with h | h
    · rw [List.drop_eq_nil_of_le (by have := of_decide_eq_false h; omega), totalL]
    · exact totalL_stop h
   rw [h9]; rfl
set_option maxRecDepth 20000 in
set_option maxHeartbeats 1600000 in
theorem f_depth (t : Syn) : APure Tryz.prog 31 [.agg (cSyn t)] (.int .i64 (deepC t)) := by
 skip
 induction t using Syn.ind
 rename_i t ih
 skip
 refine APure.body (n := 22) tok Tryz.func31 rfl rfl rfl fun H => ?_
 refine AW.seq (AW.region ?_)
 refine AOL.p (P_box (v := .agg _) (cs := [.int .i64 _, .str _, .str _, .int .i64 _, _, .int .i64 _]) rfl rfl rfl) rfl ?_
 refine AOL.p (P_assign (v := .int .i64 _) rfl) rfl ?_
 refine AOL.nil (thenN ?_)
 refine AW.seq (AW.region ?_)
 refine AOL.p (P_assign (v := .int .i64 _) rfl) rfl ?_
 refine AOL.nil (thenN ?_)
 refine AW.seq ?_
 refine AW.seq (AW.region ?_)
 refine AOL.p (P_assign (v := .int .i64 _) rfl) rfl ?_
 refine AOL.nil (thenN ?_)
 refine AW.block ?_
 refine AW.loopS (fun (p : Nat × Int) => (⟨[(1, .ptr (cSyn t)), (3, .int .i64 p.2), (4, .int .i64 (p.1 : Int))], H, 22⟩ : St)) (fun (p : Nat × Int) => p.1 ≤ t.kids.length ∧ deepL t.kids 0 = deepL (t.kids.drop p.1) p.2) (fun (p : Nat × Int) => t.kids.length - p.1) ((0, 0)) ?_ (GS.weaken ⟨rfl, rfl, rfl, trivial⟩ (.refl _)) ?_
 · exact ⟨Nat.zero_le _, by rw [List.drop_zero]⟩
 ·
  rintro p hR
  refine AW.seq ?_
  refine AW.seq (AW.region ?_)
  refine AOL.p (P_move (v := .int .i64 _) rfl) rfl ?_
  refine AOL.p (P_fieldAddr_ptr (cs' := [_, .int .i64 _]) tok rfl rfl rfl rfl rfl rfl) rfl ?_
  refine AOL.p (P_load_ptr (c := .sl _ _) tok rfl rfl rfl) rfl ?_
  refine AOL.know 7 rfl fun hml => ?_
  simp only [List.length_map, maxLen] at hml
  refine AOL.p (P_len_sl (n := t.kids.length) tok rfl rfl rfl (by simp)) rfl ?_
  refine AOL.p (P_lss rfl rfl) rfl ?_
  refine AOL.nil (thenN ?_)
  refine AW.cond (b := _) rfl (fun hc1 => ?_) (fun hc1 => ?_)
  ·
   obtain ⟨x, hx⟩ := gt2 (l := t.kids) (k := p.1) (by have := of_decide_eq_true hc1; omega)
   have hlt := gt_lt hx
   have hm := List.mem_of_getElem? hx
   refine AW.skip ?_
   refine thenN ?_
   refine AW.seq ?_
   refine AW.block ?_
   refine AW.region ?_
   refine AOL.p (P_move (v := .int .i64 _) rfl) rfl ?_
   refine AOL.p (P_fieldAddr_ptr (cs' := [_, .int .i64 _]) tok rfl rfl rfl rfl rfl rfl) rfl ?_
   refine AOL.p (P_load_ptr (c := .sl _ _) tok rfl rfl rfl) rfl ?_
   refine AOL.p (P_move (v := .int .i64 _) rfl) rfl ?_
   refine AOL.p (P_indexAddr (c := [.int .i64 _, .str _, .str _, .int .i64 _, _, .int .i64 _]) tok rfl rfl rfl rfl rfl rfl (by omega) (encS_at hx)) rfl ?_
   refine AOL.p (P_load_ptr_agg (l := [.int .i64 _, .str _, .str _, .int .i64 _, _, .int .i64 _]) tok rfl rfl rfl rfl rfl) rfl ?_
   refine AOL.p (P_callf (by kernel_rfl) rfl rfl (ih x hm)) rfl ?_
   refine AOL.p (P_max rfl rfl) rfl ?_
   refine AOL.p (P_assign (v := .int .i64 _) rfl) rfl ?_
   refine AOL.nil ?_
   refine blkN ?_
   refine thenN ?_
   refine AW.region ?_
   refine AOL.p (P_move (v := .int .i64 _) rfl) rfl ?_
   refine AOL.p (P_add rfl rfl rfl (by constructor <;> omega)) rfl ?_
   refine AOL.p (P_assign (v := .int .i64 _) rfl) rfl ?_
   refine AOL.nil (thenN ?_)
   refine ⟨(p.1 + 1, max p.2 (deepC x)), ?_, ?_, GS.weaken ⟨rfl, rfl, rfl, trivial⟩ (.refl _)⟩
   · exact ⟨hlt, by rw [hR.2, deepL_drop hx]⟩
   · simp only; omega
  ·
   have hk : t.kids.length ≤ p.1 := by have := of_decide_eq_false hc1; omega
   refine AW.exit ?_
   refine thenE ?_
   refine thenE ?_
   refine blkHit ?_
   refine thenN ?_
   refine AW.seq (AW.region ?_)
   refine AOL.p (P_move (v := .int .i64 _) rfl) rfl ?_
   refine AOL.p (P_addw rfl rfl) rfl ?_
   refine AOL.p (P_assign (v := .int .i64 _) rfl) rfl ?_
   refine AOL.nil (thenN ?_)
   refine AW.ret ?_
   refine ⟨.inr rfl, [.int .i64 _], .cons (.tmp _ _ rfl) <| .nil, .refl _, ?_⟩
   have h9 : deepC t = IntKind.i64.wrap (p.2 + 1) := by rw [deepC_eq, hR.2, List.drop_eq_nil_of_le hk, deepL]
   rw [h9]; rfl
set_option maxRecDepth 20000 in
set_option maxHeartbeats 1600000 in
theorem f_few (t : Syn) : APure Tryz.prog 11 [.agg (cSyn t)] (.bool (fewC t)) := by
 skip
 induction t using Syn.ind
 rename_i t ih
 skip
 refine APure.body (n := 38) tok Tryz.func11 rfl rfl rfl fun H => ?_
 refine AW.seq (AW.region ?_)
 refine AOL.p (P_box (v := .agg _) (cs := [.int .i64 _, .str _, .str _, .int .i64 _, _, .int .i64 _]) rfl rfl rfl) rfl ?_
 refine AOL.p (P_assign (v := .bool _) rfl) rfl ?_
 refine AOL.nil (thenN ?_)
 refine AW.seq ?_
 refine AW.seq (AW.region ?_)
 refine AOL.p (P_fieldAddr_ptr (cs' := [.str _, .str _, .int .i64 _, _, .int .i64 _]) tok rfl rfl rfl rfl rfl rfl) rfl ?_
 refine AOL.p (P_load_ptr (c := .str _) tok rfl rfl rfl) rfl ?_
 refine AOL.p (P_len_str (n := t.text.length) tok rfl rfl rfl (rfl)) rfl ?_
 refine AOL.p (P_gtr rfl rfl) rfl ?_
 refine AOL.p (P_move (v := .bool _) rfl) rfl ?_
 refine AOL.g (y := .ptr _) _ [] rfl (EntL.all trivial) (fun hG => P_fieldAddr_ptr (cs' := [.str _, .int .i64 _, _, .int .i64 _]) tok rfl rfl rfl rfl rfl rfl) rfl ?_
 refine AOL.g (y := .str _) _ [(9, _)] rfl (EntL.all ⟨Ent.self _ _, trivial⟩) (fun hG => P_load_ptr (c := .str _) tok rfl rfl rfl) rfl ?_
 refine AOL.g (y := .int .i64 _) _ [(10, _)] rfl (EntL.all ⟨Ent.self _ _, trivial⟩) (fun hG => P_len_str (n := t.name.length) tok rfl rfl rfl (rfl)) rfl ?_
 refine AOL.g (y := .bool _) _ [(11, _)] rfl (EntL.all ⟨Ent.self _ _, trivial⟩) (fun hG => P_gtr rfl rfl) rfl ?_
 refine AOL.p (P_pick_or rfl rfl rfl) rfl ?_
 refine AOL.p (P_move (v := .bool _) rfl) rfl ?_
 refine AOL.g (y := .agg _) _ [] rfl (EntL.all trivial) (fun hG => P_load_ptr_agg (l := [.int .i64 _, .str _, .str _, .int .i64 _, _, .int .i64 _]) tok rfl rfl rfl rfl rfl) rfl ?_
 refine AOL.g (y := .int .i64 _) _ [(15, _)] rfl (EntL.all ⟨Ent.self _ _, trivial⟩) (fun hG => P_callf (by kernel_rfl) rfl rfl (f_total t)) rfl ?_
 refine AOL.g (y := .bool _) _ [(16, _)] rfl (EntL.all ⟨Ent.self _ _, trivial⟩) (fun hG => P_gtr rfl rfl) rfl ?_
 refine AOL.p (P_pick_or rfl rfl rfl) rfl ?_
 refine AOL.p (P_move (v := .bool _) rfl) rfl ?_
 refine AOL.g (y := .agg _) _ [] rfl (EntL.all trivial) (fun hG => P_load_ptr_agg (l := [.int .i64 _, .str _, .str _, .int .i64 _, _, .int .i64 _]) tok rfl rfl rfl rfl rfl) rfl ?_
 refine AOL.g (y := .int .i64 _) _ [(20, _)] rfl (EntL.all ⟨Ent.self _ _, trivial⟩) (fun hG => P_callf (by kernel_rfl) rfl rfl (f_depth t)) rfl ?_
 refine AOL.g (y := .bool _) _ [(21, _)] rfl (EntL.all ⟨Ent.self _ _, trivial⟩) (fun hG => P_gtr rfl rfl) rfl ?_
 refine AOL.p (P_pick_or rfl rfl rfl) rfl ?_
 refine AOL.nil (thenN ?_)
 refine AW.cond (b := _) rfl (fun hc1 => ?_) (fun hc1 => ?_)
 ·
  refine AW.seq (AW.region ?_)
  refine AOL.p (P_assign (v := .bool _) rfl) rfl ?_
  refine AOL.nil (thenN ?_)
  refine AW.ret ?_
  refine thenR ?_
  refine ⟨.inr rfl, [.bool _], .cons (.tmp _ _ rfl) <| .nil, .refl _, ?_⟩
  have h9 : fewC t = false := by rw [fewC_eq, if_pos hc1]
  rw [h9]; rfl
 ·
  refine AW.skip ?_
  refine thenN ?_
  refine AW.seq ?_
  refine AW.seq (AW.region ?_)
  refine AOL.p (P_assign (v := .int .i64 _) rfl) rfl ?_
  refine AOL.nil (thenN ?_)
  refine AW.block ?_
  refine AW.loopS (fun (k : Nat) => (⟨[(1, .ptr (cSyn t)), (3, .int .i64 (k : Int))], H, 38⟩ : St)) (fun (k : Nat) => k ≤ t.kids.length ∧ fewC t = fewL (t.kids.drop k)) (fun (k : Nat) => t.kids.length - k) (0) ?_ (GS.weaken ⟨rfl, rfl, trivial⟩ (.refl _)) ?_
  · exact ⟨Nat.zero_le _, by rw [fewC_eq, ifF hc1, List.drop_zero]⟩
  ·
   rintro k hR
   refine AW.seq ?_
   refine AW.seq (AW.region ?_)
   refine AOL.p (P_move (v := .int .i64 _) rfl) rfl ?_
   refine AOL.p (P_fieldAddr_ptr (cs' := [_, .int .i64 _]) tok rfl rfl rfl rfl rfl rfl) rfl ?_
   refine AOL.p (P_load_ptr (c := .sl _ _) tok rfl rfl rfl) rfl ?_
   refine AOL.know 26 rfl fun hml => ?_
   simp only [List.length_map, maxLen] at hml
   refine AOL.p (P_len_sl (n := t.kids.length) tok rfl rfl rfl (by simp)) rfl ?_
   refine AOL.p (P_lss rfl rfl) rfl ?_
   refine AOL.nil (thenN ?_)
   refine AW.cond (b := _) rfl (fun hc2 => ?_) (fun hc2 => ?_)
   ·
    obtain ⟨x, hx⟩ := gt2 (l := t.kids) (k := k) (by have := of_decide_eq_true hc2; omega)
    have hlt := gt_lt hx
    have hm := List.mem_of_getElem? hx
    refine AW.skip ?_
    refine thenN ?_
    refine AW.seq ?_
    refine AW.block ?_
    refine AW.seq (AW.region ?_)
    refine AOL.p (P_fieldAddr_ptr (cs' := [_, .int .i64 _]) tok rfl rfl rfl rfl rfl rfl) rfl ?_
    refine AOL.p (P_load_ptr (c := .sl _ _) tok rfl rfl rfl) rfl ?_
    refine AOL.p (P_move (v := .int .i64 _) rfl) rfl ?_
    refine AOL.p (P_indexAddr (c := [.int .i64 _, .str _, .str _, .int .i64 _, _, .int .i64 _]) tok rfl rfl rfl rfl rfl rfl (by omega) (encS_at hx)) rfl ?_
    refine AOL.p (P_load_ptr_agg (l := [.int .i64 _, .str _, .str _, .int .i64 _, _, .int .i64 _]) tok rfl rfl rfl rfl rfl) rfl ?_
    refine AOL.p (P_callf (by kernel_rfl) rfl rfl (ih x hm)) rfl ?_
    refine AOL.p (P_not rfl) rfl ?_
    refine AOL.nil (thenN ?_)
    refine AW.cond (b := _) rfl (fun hc3 => ?_) (fun hc3 => ?_)
    ·
     refine AW.seq (AW.region ?_)
     refine AOL.p (P_assign (v := .bool _) rfl) rfl ?_
     refine AOL.nil (thenN ?_)
     refine AW.ret ?_
     refine blkR ?_
     refine thenR ?_
     refine thenR ?_
     refine blkR ?_
     refine thenR ?_
     refine ⟨.inr rfl, [.bool _], .cons (.tmp _ _ rfl) <| .nil, .refl _, ?_⟩
     have h9 : fewC t = false := by rw [hR.2, fewL_drop hx, if_pos hc3]
     rw [h9]; rfl
    ·
     refine AW.skip ?_
     refine blkN ?_
     refine thenN ?_
     refine AW.region ?_
     refine AOL.p (P_move (v := .int .i64 _) rfl) rfl ?_
     refine AOL.p (P_add rfl rfl rfl (by constructor <;> omega)) rfl ?_
     refine AOL.p (P_assign (v := .int .i64 _) rfl) rfl ?_
     refine AOL.nil (thenN ?_)
     refine ⟨k + 1, ?_, ?_, GS.weaken ⟨rfl, rfl, trivial⟩ (.refl _)⟩
     · exact ⟨hlt, by rw [hR.2, fewL_drop hx, ifF hc3]⟩
     · omega
   ·
    have hk : t.kids.length ≤ k := by have := of_decide_eq_false hc2; omega
    refine AW.exit ?_
    refine thenE ?_
    refine thenE ?_
    refine blkHit ?_
    refine thenN ?_
    refine AW.seq (AW.region ?_)
    refine AOL.p (P_assign (v := .bool _) rfl) rfl ?_
    refine AOL.nil (thenN ?_)
    refine AW.ret ?_
    refine ⟨.inr rfl, [.bool _], .cons (.tmp _ _ rfl) <| .nil, .refl _, ?_⟩
    have h9 : fewC t = true := by rw [hR.2, List.drop_eq_nil_of_le hk, fewL]
    rw [h9]; rfl
set_option maxRecDepth 20000 in
set_option maxHeartbeats 3200000 in
theorem w_written (t : Syn) (p : Pl) (hfew : medC t) (hp : p.fine) : APure Tryz.prog 33 [.agg (cSyn t), plV p] (.tuple [.str (writtenC t p).1, .int .i64 (writtenC t p).2]) := by
 obtain ⟨f, first, cap, hv, hfn, hP⟩ := pl_fn p
 have hck := w_check t p hfew
 rw [hv] at hck ⊢
 refine APure.body (n := 30) tok Tryz.func33 rfl rfl rfl fun H => ?_
 refine AW.seq (AW.region ?_)
 refine AOL.p (P_box (v := .agg _) (cs := [.int .i64 _, .str _, .str _, .int .i64 _, _, .int .i64 _]) rfl rfl rfl) rfl ?_
 refine AOL.p (P_assign (v := .str _) rfl) rfl ?_
 refine AOL.p (P_assign (v := .int .i64 _) rfl) rfl ?_
 refine AOL.nil (thenN ?_)
 refine AW.seq ?_
 refine AW.seq (AW.region ?_)
 refine AOL.p (P_load_ptr_agg (l := [.int .i64 _, .str _, .str _, .int .i64 _, _, .int .i64 _]) tok rfl rfl rfl rfl rfl) rfl ?_
 refine AOL.p (P_move (v := .fn _ _ _) rfl) rfl ?_
 refine AOL.p (P_callf (by kernel_rfl) rfl rfl (hck)) rfl ?_
 refine AOL.p (P_assign (v := .int .i64 _) rfl) rfl ?_
 refine AOL.nil (thenN ?_)
 refine AW.seq (AW.region ?_)
 refine AOL.p (P_move (v := .int .i64 _) rfl) rfl ?_
 refine AOL.p (P_neq rfl rfl) rfl ?_
 refine AOL.nil (thenN ?_)
 refine AW.cond (b := _) rfl (fun hc1 => ?_) (fun hc1 => ?_)
 ·
  refine AW.seq (AW.region ?_)
  refine AOL.p (P_move (v := .int .i64 _) rfl) rfl ?_
  refine AOL.p (P_assign (v := .str _) rfl) rfl ?_
  refine AOL.p (P_assign (v := .int .i64 _) rfl) rfl ?_
  refine AOL.nil (thenN ?_)
  refine AW.ret ?_
  refine thenR ?_
  refine ⟨.inr rfl, [.str _, .int .i64 _], .cons (.tmp _ _ rfl) <| .cons (.tmp _ _ rfl) <| .nil, .refl _, ?_⟩
  have h9 : writtenC t p = ([], checkC t p) := if_pos hc1
  rw [h9]; rfl
 ·
  have h0 : checkC t p = 0 := by simpa using hc1
  have hkd := hp _ (own_at (ok_own h0).1).1
  have hwl := med_big h0 hfew
  refine AW.skip ?_
  refine thenN ?_
  refine AW.seq ?_
  refine AW.seq (AW.region ?_)
  refine AOL.p (P_load_ptr_agg (l := [.int .i64 _, .str _, .str _, .int .i64 _, _, .int .i64 _]) tok rfl rfl rfl rfl rfl) rfl ?_
  refine AOL.p (P_callf (by kernel_rfl) rfl rfl (w_depth t hfew)) rfl ?_
  refine AOL.p (P_gtr rfl rfl) rfl ?_
  refine AOL.nil (thenN ?_)
  refine AW.cond (b := _) rfl (fun hc2 => ?_) (fun hc2 => ?_)
  ·
   refine AW.seq (AW.region ?_)
   refine AOL.p (P_assign (v := .str _) rfl) rfl ?_
   refine AOL.p (P_assign (v := .int .i64 _) rfl) rfl ?_
   refine AOL.nil (thenN ?_)
   refine AW.ret ?_
   refine thenR ?_
   refine ⟨.inr rfl, [.str _, .int .i64 _], .cons (.tmp _ _ rfl) <| .cons (.tmp _ _ rfl) <| .nil, .refl _, ?_⟩
   have h9 : writtenC t p = ([], 12) := (ifF hc1).trans (if_pos hc2)
   rw [h9]; rfl
  ·
   refine AW.skip ?_
   refine thenN ?_
   refine AW.seq (AW.region ?_)
   refine AOL.e (E_callf (by kernel_rfl) rfl rfl (w_new _)) rfl ?_
   rintro _ _ ⟨b17, rfl, rfl⟩
   refine AOL.p (P_assign (v := .val _) rfl) rfl ?_
   refine AOL.nil (thenN ?_)
   refine AW.seq (AW.region ?_)
   refine AOL.p (P_move (v := .val _) rfl) rfl ?_
   refine AOL.p (P_load_ptr_agg (l := [.int .i64 _, .str _, .str _, .int .i64 _, _, .int .i64 _]) tok rfl rfl rfl rfl rfl) rfl ?_
   refine AOL.e (E_callf (by kernel_rfl) rfl rfl (node_ok b17 t p h0 hfew hkd.1 hkd.2.1 hkd.2.2 [] _ _ (.inl rfl) _ (by show 0 + (writeC t).length ≤ big; unfold big; omega))) rfl ?_
   rintro _ _ ⟨v20, a20, rfl, ha20, rfl⟩
   refine AOL.nil (thenN ?_)
   refine AW.seq ?_
   refine AW.seq (AW.region ?_)
   refine AOL.p (P_move (v := .val _) rfl) rfl ?_
   refine AOL.p (P_nilCheck rfl) rfl ?_
   refine AOL.p (P_fieldAddr_val tok rfl rfl rfl rfl rfl rfl) rfl ?_
   refine AOL.e (E_callf (by kernel_rfl) rfl rfl (k_blen b17 62 _ _ _ _ _)) rfl ?_
   rintro _ _ ⟨rfl, rfl⟩
   refine AOL.p (P_gtr rfl rfl) rfl ?_
   refine AOL.nil (thenN ?_)
   refine AW.cond (b := _) rfl (fun hc3 => ?_) (fun hc3 => ?_)
   ·
    refine AW.seq (AW.region ?_)
    refine AOL.p (P_assign (v := .str _) rfl) rfl ?_
    refine AOL.p (P_assign (v := .int .i64 _) rfl) rfl ?_
    refine AOL.nil (thenN ?_)
    refine AW.ret ?_
    refine thenR ?_
    refine ⟨.inr rfl, [.str _, .int .i64 _], .cons (.tmp _ _ rfl) <| .cons (.tmp _ _ rfl) <| .nil, .cons _ (.cons _ (.refl _)), ?_⟩
    have h9 : writtenC t p = ([], 13) := ((ifF hc1).trans (ifF hc2)).trans (if_pos hc3)
    rw [h9]; rfl
   ·
    refine AW.skip ?_
    refine thenN ?_
    refine AW.seq (AW.region ?_)
    refine AOL.p (P_move (v := .val _) rfl) rfl ?_
    refine AOL.p (P_nilCheck rfl) rfl ?_
    refine AOL.p (P_fieldAddr_val tok rfl rfl rfl rfl rfl rfl) rfl ?_
    refine AOL.e (E_callf (by kernel_rfl) rfl rfl (k_string b17 62 _ _ _ _ _)) rfl ?_
    rintro _ _ ⟨rfl, rfl⟩
    refine AOL.p (P_assign (v := .str _) rfl) rfl ?_
    refine AOL.p (P_assign (v := .int .i64 _) rfl) rfl ?_
    refine AOL.nil (thenN ?_)
    refine AW.ret ?_
    refine ⟨.inr rfl, [.str _, .int .i64 _], .cons (.tmp _ _ rfl) <| .cons (.tmp _ _ rfl) <| .nil, .cons _ (.cons _ (.refl _)), ?_⟩
    have h9 : writtenC t p = (writeC t, 0) := ((ifF hc1).trans (ifF hc2)).trans (ifF hc3)
    rw [h9]; rfl
set_option maxRecDepth 20000 in
set_option maxHeartbeats 400000 in
theorem m_Format (t : Syn) (hfew : medC t) : APure Tryz.prog 18 [.agg (cSyn t)] (.tuple [.str (writtenC t (.only 0)).1, .int .i64 (writtenC t (.only 0)).2]) := by
 refine APure.body (n := 9) tok Tryz.func18 rfl rfl rfl fun H => ?_
 refine AW.seq (AW.region ?_)
 refine AOL.p (P_box (v := .agg _) (cs := [.int .i64 _, .str _, .str _, .int .i64 _, _, .int .i64 _]) rfl rfl rfl) rfl ?_
 refine AOL.p (P_assign (v := .str _) rfl) rfl ?_
 refine AOL.p (P_assign (v := .int .i64 _) rfl) rfl ?_
 refine AOL.nil (thenN ?_)
 refine AW.seq ?_
 refine AW.draw mixed (fun _ => True) trivial (by kernel_rfl) ?_
 refine Canon.pure _ _ 0 _ _ rfl (by kernel_rfl) (by kernel_rfl) rfl (.run rfl (P_load_ptr_agg (l := [.int .i64 _, .str _, .str _, .int .i64 _, _, .int .i64 _]) tok rfl rfl rfl rfl rfl)) ?_
 refine Canon.pure _ _ 1 _ _ rfl (by kernel_rfl) (by kernel_rfl) rfl (.run rfl (P_callf (by kernel_rfl) rfl rfl (w_only _))) ?_
 refine Canon.pure _ _ 2 _ _ rfl (by kernel_rfl) (by kernel_rfl) rfl (.run rfl (P_callf (by kernel_rfl) rfl rfl (w_written t (.only 0) hfew fine_program))) ?_
 refine Canon.pure _ _ 3 _ _ rfl (by kernel_rfl) (by kernel_rfl) rfl (.run rfl (P_extract (v := .str _) rfl rfl)) ?_
 refine Canon.pure _ _ 4 _ _ rfl (by kernel_rfl) (by kernel_rfl) rfl (.run rfl (P_extract (v := .int .i64 _) rfl rfl)) ?_
 refine Canon.pure _ _ 5 _ _ rfl (by kernel_rfl) (by kernel_rfl) rfl (.run rfl (P_assign (v := .str _) rfl)) ?_
 refine Canon.pure _ _ 6 _ _ rfl (by kernel_rfl) (by kernel_rfl) rfl (.run rfl (P_assign (v := .int .i64 _) rfl)) ?_
 refine Canon.done _ _ (by kernel_rfl) ?_
 refine thenN ?_
 refine AW.ret ?_
 refine ⟨.inr rfl, [.str _, .int .i64 _], .cons (.tmp _ _ rfl) <| .cons (.tmp _ _ rfl) <| .nil, .refl _, ?_⟩
 rfl
theorem w_Format (t : Syn) (hfew : fewC t = true) : APure Tryz.prog 18 [.agg (cSyn t)] (.tuple [.str (writtenC t (.only 0)).1, .int .i64 (writtenC t (.only 0)).2]) := m_Format t (few_med hfew)
set_option maxRecDepth 20000 in
set_option maxHeartbeats 400000 in
theorem m_Query (t : Syn) (hfew : medC t) : APure Tryz.prog 21 [.agg (cSyn t)] (.tuple [.str (writtenC t (.only 3)).1, .int .i64 (writtenC t (.only 3)).2]) := by
 refine APure.body (n := 9) tok Tryz.func21 rfl rfl rfl fun H => ?_
 refine AW.seq (AW.region ?_)
 refine AOL.p (P_box (v := .agg _) (cs := [.int .i64 _, .str _, .str _, .int .i64 _, _, .int .i64 _]) rfl rfl rfl) rfl ?_
 refine AOL.p (P_assign (v := .str _) rfl) rfl ?_
 refine AOL.p (P_assign (v := .int .i64 _) rfl) rfl ?_
 refine AOL.nil (thenN ?_)
 refine AW.seq ?_
 refine AW.draw mixed (fun _ => True) trivial (by kernel_rfl) ?_
 refine Canon.pure _ _ 0 _ _ rfl (by kernel_rfl) (by kernel_rfl) rfl (.run rfl (P_load_ptr_agg (l := [.int .i64 _, .str _, .str _, .int .i64 _, _, .int .i64 _]) tok rfl rfl rfl rfl rfl)) ?_
 refine Canon.pure _ _ 1 _ _ rfl (by kernel_rfl) (by kernel_rfl) rfl (.run rfl (P_callf (by kernel_rfl) rfl rfl (w_only _))) ?_
 refine Canon.pure _ _ 2 _ _ rfl (by kernel_rfl) (by kernel_rfl) rfl (.run rfl (P_callf (by kernel_rfl) rfl rfl (w_written t (.only 3) hfew fine_query3))) ?_
 refine Canon.pure _ _ 3 _ _ rfl (by kernel_rfl) (by kernel_rfl) rfl (.run rfl (P_extract (v := .str _) rfl rfl)) ?_
 refine Canon.pure _ _ 4 _ _ rfl (by kernel_rfl) (by kernel_rfl) rfl (.run rfl (P_extract (v := .int .i64 _) rfl rfl)) ?_
 refine Canon.pure _ _ 5 _ _ rfl (by kernel_rfl) (by kernel_rfl) rfl (.run rfl (P_assign (v := .str _) rfl)) ?_
 refine Canon.pure _ _ 6 _ _ rfl (by kernel_rfl) (by kernel_rfl) rfl (.run rfl (P_assign (v := .int .i64 _) rfl)) ?_
 refine Canon.done _ _ (by kernel_rfl) ?_
 refine thenN ?_
 refine AW.ret ?_
 refine ⟨.inr rfl, [.str _, .int .i64 _], .cons (.tmp _ _ rfl) <| .cons (.tmp _ _ rfl) <| .nil, .refl _, ?_⟩
 rfl
theorem w_Query (t : Syn) (hfew : fewC t = true) : APure Tryz.prog 21 [.agg (cSyn t)] (.tuple [.str (writtenC t (.only 3)).1, .int .i64 (writtenC t (.only 3)).2]) := m_Query t (few_med hfew)
set_option maxRecDepth 20000 in
set_option maxHeartbeats 400000 in
theorem m_Pattern (t : Syn) (hfew : medC t) : APure Tryz.prog 13 [.agg (cSyn t)] (.tuple [.str (writtenC t (.pats)).1, .int .i64 (writtenC t (.pats)).2]) := by
 refine APure.body (n := 8) tok Tryz.func13 rfl rfl rfl fun H => ?_
 refine AW.seq (AW.region ?_)
 refine AOL.p (P_box (v := .agg _) (cs := [.int .i64 _, .str _, .str _, .int .i64 _, _, .int .i64 _]) rfl rfl rfl) rfl ?_
 refine AOL.p (P_assign (v := .str _) rfl) rfl ?_
 refine AOL.p (P_assign (v := .int .i64 _) rfl) rfl ?_
 refine AOL.nil (thenN ?_)
 refine AW.seq (AW.region ?_)
 refine AOL.p (P_load_ptr_agg (l := [.int .i64 _, .str _, .str _, .int .i64 _, _, .int .i64 _]) tok rfl rfl rfl rfl rfl) rfl ?_
 refine AOL.p (P_callf (by kernel_rfl) rfl rfl (w_written t (.pats) hfew fine_pats)) rfl ?_
 refine AOL.p (P_extract (v := .str _) rfl rfl) rfl ?_
 refine AOL.p (P_extract (v := .int .i64 _) rfl rfl) rfl ?_
 refine AOL.p (P_assign (v := .str _) rfl) rfl ?_
 refine AOL.p (P_assign (v := .int .i64 _) rfl) rfl ?_
 refine AOL.nil (thenN ?_)
 refine AW.ret ?_
 refine ⟨.inr rfl, [.str _, .int .i64 _], .cons (.tmp _ _ rfl) <| .cons (.tmp _ _ rfl) <| .nil, .refl _, ?_⟩
 rfl
theorem w_Pattern (t : Syn) (hfew : fewC t = true) : APure Tryz.prog 13 [.agg (cSyn t)] (.tuple [.str (writtenC t (.pats)).1, .int .i64 (writtenC t (.pats)).2]) := m_Pattern t (few_med hfew)
set_option maxRecDepth 20000 in
set_option maxHeartbeats 400000 in
theorem m_Expr (t : Syn) (hfew : medC t) : APure Tryz.prog 15 [.agg (cSyn t)] (.tuple [.str (writtenC t (.exps)).1, .int .i64 (writtenC t (.exps)).2]) := by
 refine APure.body (n := 8) tok Tryz.func15 rfl rfl rfl fun H => ?_
 refine AW.seq (AW.region ?_)
 refine AOL.p (P_box (v := .agg _) (cs := [.int .i64 _, .str _, .str _, .int .i64 _, _, .int .i64 _]) rfl rfl rfl) rfl ?_
 refine AOL.p (P_assign (v := .str _) rfl) rfl ?_
 refine AOL.p (P_assign (v := .int .i64 _) rfl) rfl ?_
 refine AOL.nil (thenN ?_)
 refine AW.seq (AW.region ?_)
 refine AOL.p (P_load_ptr_agg (l := [.int .i64 _, .str _, .str _, .int .i64 _, _, .int .i64 _]) tok rfl rfl rfl rfl rfl) rfl ?_
 refine AOL.p (P_callf (by kernel_rfl) rfl rfl (w_written t (.exps) hfew fine_exps)) rfl ?_
 refine AOL.p (P_extract (v := .str _) rfl rfl) rfl ?_
 refine AOL.p (P_extract (v := .int .i64 _) rfl rfl) rfl ?_
 refine AOL.p (P_assign (v := .str _) rfl) rfl ?_
 refine AOL.p (P_assign (v := .int .i64 _) rfl) rfl ?_
 refine AOL.nil (thenN ?_)
 refine AW.ret ?_
 refine ⟨.inr rfl, [.str _, .int .i64 _], .cons (.tmp _ _ rfl) <| .cons (.tmp _ _ rfl) <| .nil, .refl _, ?_⟩
 rfl
theorem w_Expr (t : Syn) (hfew : fewC t = true) : APure Tryz.prog 15 [.agg (cSyn t)] (.tuple [.str (writtenC t (.exps)).1, .int .i64 (writtenC t (.exps)).2]) := m_Expr t (few_med hfew)
end Go.Proofs.YtabkeeedkhgodaaGreatDoor
