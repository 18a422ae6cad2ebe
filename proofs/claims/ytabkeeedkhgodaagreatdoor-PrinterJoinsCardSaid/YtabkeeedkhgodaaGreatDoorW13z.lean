/-
  The law PrinterJoins walked. No condition.
-/
import Derived.Test.YtabkeeedkhgodaaGreatDoorW13v
import Derived.Test.YtabkeeedkhgodaaGreatDoorQ8
import Derived.Test.YtabkeeedkhgodaaGreatDoorC
import Derived.KernelRfl
namespace Go.Proofs.YtabkeeedkhgodaaGreatDoor
open Go Go.Aw
set_option linter.unusedVariables false
set_option linter.unusedSimpArgs false

theorem k_suf (s p : Str) (hs : s.length ≤ 65536) : APure Tryz.prog 26 [.str s, .str p] (.bool (Lib.hasSuffix s p)) :=
  .of_same fun g w vs _ ha => by
    obtain ⟨u, v, rfl, h1, h2⟩ := ha.inv2
    have e1 := h1.inv_str.1
    have e2 := h2.inv_str.1
    subst e1 e2
    exact ⟨.bool (Lib.hasSuffix s p), fun _ _ => .bool _, Tryz.strings_HasSuffix ⟨s.toArray⟩ ⟨p.toArray⟩ w (by rw [ba_size]; omega)⟩
theorem trim_len (s p : Str) : (Lib.trimSuffix s p).length ≤ s.length := by
  unfold Lib.trimSuffix
  split
  · rw [List.length_take]; omega
  · exact Nat.le_refl _
theorem k_trim (s p : Str) (hs : s.length ≤ 65536) : APure Tryz.prog 27 [.str s, .str p] (.str (Lib.trimSuffix s p)) :=
  .of_same fun g w vs _ ha => by
    obtain ⟨u, v, rfl, h1, h2⟩ := ha.inv2
    have e1 := h1.inv_str.1
    have e2 := h2.inv_str.1
    subst e1 e2
    have hl := trim_len s p
    exact ⟨.string ⟨(Lib.trimSuffix s p).toArray⟩, fun _ _ => rep_string (by unfold maxLen; omega), Tryz.strings_TrimSuffix ⟨s.toArray⟩ ⟨p.toArray⟩ w (by rw [ba_size]; omega)⟩
theorem c_query {x : Syn} (hf : fewC x = true) (h : writtenC x (.only 3) = (writeC x, 0)) : APure Tryz.prog 21 [.agg (cSyn x)] (.tuple [.str (writeC x), .int .i64 0]) := by
  have h5 := w_Query x hf
  rw [h] at h5
  exact h5
theorem c_pattern {x : Syn} (hf : fewC x = true) (h : writtenC x .pats = (writeC x, 0)) : APure Tryz.prog 13 [.agg (cSyn x)] (.tuple [.str (writeC x), .int .i64 0]) := by
  have h5 := w_Pattern x hf
  rw [h] at h5
  exact h5

set_option maxRecDepth 20000 in
set_option maxHeartbeats 6400000 in
theorem l_PrinterJoins (t : Syn) : APure Tryz.prog 10 [.agg (cSyn t)] (.bool true) := by
 refine APure.body (n := 93) tok Tryz.func10 rfl rfl rfl fun H => ?_
 refine AW.seq (AW.region ?_)
 refine AOL.p (P_box (v := .agg _) (cs := [.int .i64 _, .str _, .str _, .int .i64 _, _, .int .i64 _]) rfl rfl rfl) rfl ?_
 refine AOL.p (P_assign (v := .bool _) rfl) rfl ?_
 refine AOL.nil (thenN ?_)
 refine AW.seq ?_
 refine AW.seq (AW.region ?_)
 refine AOL.p (P_load_ptr_agg (l := [.int .i64 _, .str _, .str _, .int .i64 _, _, .int .i64 _]) tok rfl rfl rfl rfl rfl) rfl ?_
 refine AOL.p (P_callf (by kernel_rfl) rfl rfl (f_few t)) rfl ?_
 refine AOL.p (P_not rfl) rfl ?_
 refine AOL.nil (thenN ?_)
 refine AW.cond (b := _) rfl (fun hc1 => ?_) (fun hc1 => ?_)
 ·
  refine AW.seq (AW.region ?_)
  refine AOL.p (P_callf (by kernel_rfl) rfl rfl (l_awake)) rfl ?_
  refine AOL.p (P_assign (v := .bool _) rfl) rfl ?_
  refine AOL.nil (thenN ?_)
  refine AW.ret ?_
  refine thenR ?_
  refine ⟨.inr rfl, [.bool _], .cons (.tmp _ _ rfl) <| .nil, .refl _, ?_⟩
  rfl
 ·
  have hf : fewC t = true := by simpa using hc1
  refine AW.skip ?_
  refine thenN ?_
  refine AW.seq (AW.region ?_)
  refine AOL.p (P_load_ptr_agg (l := [.int .i64 _, .str _, .str _, .int .i64 _, _, .int .i64 _]) tok rfl rfl rfl rfl rfl) rfl ?_
  refine AOL.p (P_callf (by kernel_rfl) rfl rfl (w_Format t hf)) rfl ?_
  refine AOL.p (P_move (v := .tuple _) rfl) rfl ?_
  refine AOL.p (P_extract (v := .str _) rfl rfl) rfl ?_
  refine AOL.p (P_extract (v := .int .i64 _) rfl rfl) rfl ?_
  refine AOL.p (P_assign (v := .str _) rfl) rfl ?_
  refine AOL.p (P_assign (v := .int .i64 _) rfl) rfl ?_
  refine AOL.nil (thenN ?_)
  refine AW.seq ?_
  refine AW.seq (AW.region ?_)
  refine AOL.p (P_move (v := .int .i64 _) rfl) rfl ?_
  refine AOL.p (P_neq rfl rfl) rfl ?_
  refine AOL.nil (thenN ?_)
  refine AW.cond (b := _) rfl (fun hc2 => ?_) (fun hc2 => ?_)
  ·
   refine AW.seq (AW.region ?_)
   refine AOL.p (P_callf (by kernel_rfl) rfl rfl (l_awake)) rfl ?_
   refine AOL.p (P_assign (v := .bool _) rfl) rfl ?_
   refine AOL.nil (thenN ?_)
   refine AW.ret ?_
   refine thenR ?_
   refine ⟨.inr rfl, [.bool _], .cons (.tmp _ _ rfl) <| .nil, .refl _, ?_⟩
   rfl
  ·
   have hw := written_good hc2
   have h1 := hw.1
   have h2 := hw.2.1
   have h3 := hw.2.2.1
   have hj0 : (writtenC t (.only 0)).1 = firstT t t.kids.length := by rw [hw.2.2.2, firstT_all (prog_kind h1)]
   refine AW.skip ?_
   refine thenN ?_
   refine AW.seq ?_
   refine AW.seq (AW.region ?_)
   refine AOL.p (P_fieldAddr_ptr (cs' := [_, .int .i64 _]) tok rfl rfl rfl rfl rfl rfl) rfl ?_
   refine AOL.p (P_load_ptr (c := .sl _ _) tok rfl rfl rfl) rfl ?_
   refine AOL.know 23 rfl fun hml => ?_
   simp only [List.length_map, maxLen] at hml
   refine AOL.p (P_len_sl (n := t.kids.length) tok rfl rfl rfl (by simp)) rfl ?_
   refine AOL.p (P_sub rfl rfl rfl (by constructor <;> omega)) rfl ?_
   refine AOL.p (P_assign (v := .int .i64 _) rfl) rfl ?_
   refine AOL.nil (thenN ?_)
   refine AW.block ?_
   refine AW.loopS (fun (j : Nat) => (⟨[(1, .ptr (cSyn t)), (3, .str (firstT t j)), (5, .int .i64 ((j : Int) - 1))], H, 93⟩ : St)) (fun (j : Nat) => j ≤ t.kids.length) (fun (j : Nat) => j) (t.kids.length) ?_ (GS.weaken ⟨rfl, congrArg AV.str hj0, rfl, trivial⟩ (.refl _)) ?_
   · exact Nat.le_refl _
   ·
    rintro j hR
    refine AW.seq ?_
    refine AW.seq (AW.region ?_)
    refine AOL.p (P_move (v := .int .i64 _) rfl) rfl ?_
    refine AOL.p (P_geq rfl rfl) rfl ?_
    refine AOL.nil (thenN ?_)
    refine AW.cond (b := _) rfl (fun hc3 => ?_) (fun hc3 => ?_)
    ·
     have hj : 1 ≤ j := by have := of_decide_eq_true hc3; omega
     refine (get_ex (l := t.kids) (k := j - 1) (by omega)).elim fun x hx => ?_
     have hxi : t.kids[((j : Int) - 1).toNat]? = some x := by rw [show ((j : Int) - 1).toNat = j - 1 by omega]; exact hx
     have hm := List.mem_of_getElem? hx
     have hfl : (firstT t j).length ≤ 65536 := Nat.le_trans (first_len t (prog_kind h1) j) h3
     refine AW.skip ?_
     refine thenN ?_
     refine AW.seq ?_
     refine AW.block ?_
     refine AW.seq ?_
     refine AW.seq (AW.region ?_)
     refine AOL.p (P_fieldAddr_ptr (cs' := [_, .int .i64 _]) tok rfl rfl rfl rfl rfl rfl) rfl ?_
     refine AOL.p (P_load_ptr (c := .sl _ _) tok rfl rfl rfl) rfl ?_
     refine AOL.p (P_move (v := .int .i64 _) rfl) rfl ?_
     refine AOL.p (P_indexAddr (c := [.int .i64 _, .str _, .str _, .int .i64 _, _, .int .i64 _]) tok rfl rfl rfl rfl rfl rfl (by omega) (encS_at hxi)) rfl ?_
     refine AOL.p (P_fieldAddr_ptr (cs' := [.int .i64 _, .str _, .str _, .int .i64 _, _, .int .i64 _]) tok rfl rfl rfl rfl rfl rfl) rfl ?_
     refine AOL.p (P_load_ptr (c := .int .i64 _) tok rfl rfl rfl) rfl ?_
     refine AOL.p (P_neq rfl rfl) rfl ?_
     refine AOL.nil (thenN ?_)
     refine AW.cond (b := _) rfl (fun hc4 => ?_) (fun hc4 => ?_)
     ·
      have hk3 : x.kind ≠ 3 := by simpa using hc4
      refine AW.exit ?_
      refine thenE ?_
      refine blkMiss rfl ?_
      refine thenE ?_
      refine thenE ?_
      refine blkHit ?_
      refine thenN ?_
      refine AW.seq (AW.region ?_)
      refine AOL.p (P_callf (by kernel_rfl) rfl rfl (l_awake)) rfl ?_
      refine AOL.p (P_move (v := .bool _) rfl) rfl ?_
      refine AOL.g (y := .str _) _ [] rfl (EntL.all trivial) (fun hG => P_move (v := .str _) rfl) rfl ?_
      refine AOL.g (y := .bool _) _ [(81, _)] rfl (EntL.all ⟨Ent.self _ _, trivial⟩) (fun hG => P_eql_str rfl rfl) rfl ?_
      refine AOL.g (y := .bool _) _ [(82, _)] rfl (EntL.all ⟨Ent.self _ _, trivial⟩) (fun hG => P_move (v := .bool _) rfl) rfl ?_
      refine AOL.g (y := .str _) _ [] rfl (EntL.all trivial) (fun hG => P_move (v := .str _) rfl) rfl ?_
      refine AOL.g (y := .bool _) _ [(84, _)] rfl (EntL.all ⟨Ent.self _ _, trivial⟩) (fun hG => P_callf (by kernel_rfl) rfl rfl (k28 _ _)) rfl ?_
      refine AOL.g (y := .bool _) _ [(83, _), (85, _)] rfl (EntL.all ⟨Ent.self _ _, Ent.suf _ _ _, trivial⟩) (fun hG => P_pick_or rfl rfl rfl) rfl ?_
      refine AOL.p (P_pick_and rfl rfl rfl) rfl ?_
      refine AOL.p (P_move (v := .bool _) rfl) rfl ?_
      refine AOL.g (y := .str _) _ [] rfl (EntL.all trivial) (fun hG => P_move (v := .str _) rfl) rfl ?_
      refine AOL.g (y := .bool _) _ [(89, _)] rfl (EntL.all ⟨Ent.self _ _, trivial⟩) (fun hG => P_callf (by kernel_rfl) rfl rfl (k29 _ _ (by omega))) rfl ?_
      refine AOL.g (y := .bool _) _ [(90, _)] rfl (EntL.all ⟨Ent.self _ _, trivial⟩) (fun hG => P_not rfl) rfl ?_
      refine AOL.p (P_pick_and rfl rfl rfl) rfl ?_
      refine AOL.p (P_assign (v := .bool _) rfl) rfl ?_
      refine AOL.nil (thenN ?_)
      refine AW.ret ?_
      refine ⟨.inr rfl, [.bool _], .cons (.tmp _ _ rfl) <| .nil, .refl _, ?_⟩
      have he := prog_end h1 (j := j) (.inr ⟨x, hx, hk3⟩)
      have he1 : ((firstT t j == []) || Lib.hasPrefix (firstT t j) [116, 121, 112, 101, 32]) = true := he.1
      have he2 := he.2
      exact congrArg AV.bool (by rw [he1, he2]; rfl)
     ·
      have hk3 : x.kind = 3 := by simpa using hc4
      have hja := joins_at h1 h2 h3 hx hk3
      rw [show j - 1 + 1 = j by omega] at hja
      have cq := c_query (few_kid hf hm) hja.1
      have hsf := hja.2.1
      have htr := hja.2.2.1
      have hlx := hja.2.2.2.1
      refine hja.2.2.2.2.elim fun y hy => ?_
      have hly := hy.2.2.1
      have cp := c_pattern (few_kid (few_kid hf hm) (List.mem_of_getElem? hy.1)) hy.2.1
      have hcn := hy.2.2.2
      refine AW.skip ?_
      refine thenN ?_
      refine AW.seq (AW.region ?_)
      refine AOL.p (P_fieldAddr_ptr (cs' := [_, .int .i64 _]) tok rfl rfl rfl rfl rfl rfl) rfl ?_
      refine AOL.p (P_load_ptr (c := .sl _ _) tok rfl rfl rfl) rfl ?_
      refine AOL.p (P_move (v := .int .i64 _) rfl) rfl ?_
      refine AOL.p (P_indexAddr (c := [.int .i64 _, .str _, .str _, .int .i64 _, _, .int .i64 _]) tok rfl rfl rfl rfl rfl rfl (by omega) (encS_at hxi)) rfl ?_
      refine AOL.p (P_load_ptr_agg (l := [.int .i64 _, .str _, .str _, .int .i64 _, _, .int .i64 _]) tok rfl rfl rfl rfl rfl) rfl ?_
      refine AOL.p (P_callf (by kernel_rfl) rfl rfl (cq)) rfl ?_
      refine AOL.p (P_move (v := .tuple _) rfl) rfl ?_
      refine AOL.p (P_extract (v := .str _) rfl rfl) rfl ?_
      refine AOL.p (P_extract (v := .int .i64 _) rfl rfl) rfl ?_
      refine AOL.p (P_assign (v := .str _) rfl) rfl ?_
      refine AOL.p (P_assign (v := .int .i64 _) rfl) rfl ?_
      refine AOL.nil (thenN ?_)
      refine AW.seq ?_
      refine AW.seq (AW.region ?_)
      refine AOL.p (P_move (v := .int .i64 _) rfl) rfl ?_
      refine AOL.p (P_neq rfl rfl) rfl ?_
      refine AOL.p (P_move (v := .bool _) rfl) rfl ?_
      refine AOL.g (y := .str _) _ [] rfl (EntL.all trivial) (fun hG => P_move (v := .str _) rfl) rfl ?_
      refine AOL.g (y := .str _) _ [] rfl (EntL.all trivial) (fun hG => P_move (v := .str _) rfl) rfl ?_
      refine AOL.g (y := .bool _) _ [(49, _), (50, _)] rfl (EntL.all ⟨Ent.self _ _, Ent.self _ _, trivial⟩) (fun hG => P_callf (by kernel_rfl) rfl rfl (k_suf _ _ hfl)) rfl ?_
      refine AOL.g (y := .bool _) _ [(51, _)] rfl (EntL.all ⟨Ent.self _ _, trivial⟩) (fun hG => P_not rfl) rfl ?_
      refine AOL.p (P_pick_or rfl rfl rfl) rfl ?_
      refine AOL.nil (thenN ?_)
      refine AW.cond (b := _) rfl (fun hc5 => ?_) (fun hc5 => ?_)
      ·
       rw [hsf] at hc5
       cases hc5
      ·
       refine AW.skip ?_
       refine thenN ?_
       refine AW.seq (AW.region ?_)
       refine AOL.p (P_move (v := .str _) rfl) rfl ?_
       refine AOL.p (P_move (v := .str _) rfl) rfl ?_
       refine AOL.p (P_callf (by kernel_rfl) rfl rfl (k_trim _ _ hfl)) rfl ?_
       refine AOL.p (P_assign (v := .str _) rfl) rfl ?_
       refine AOL.nil (thenN ?_)
       refine AW.seq (AW.region ?_)
       refine AOL.p (P_fieldAddr_ptr (cs' := [_, .int .i64 _]) tok rfl rfl rfl rfl rfl rfl) rfl ?_
       refine AOL.p (P_load_ptr (c := .sl _ _) tok rfl rfl rfl) rfl ?_
       refine AOL.p (P_move (v := .int .i64 _) rfl) rfl ?_
       refine AOL.p (P_indexAddr (c := [.int .i64 _, .str _, .str _, .int .i64 _, _, .int .i64 _]) tok rfl rfl rfl rfl rfl rfl (by omega) (encS_at hxi)) rfl ?_
       refine AOL.p (P_fieldAddr_ptr (cs' := [_, .int .i64 _]) tok rfl rfl rfl rfl rfl rfl) rfl ?_
       refine AOL.p (P_load_ptr (c := .sl _ _) tok rfl rfl rfl) rfl ?_
       refine AOL.p (P_indexAddr (c := [.int .i64 _, .str _, .str _, .int .i64 _, _, .int .i64 _]) tok rfl rfl rfl rfl rfl rfl (by decide) (encS_at hy.1)) rfl ?_
       refine AOL.p (P_load_ptr_agg (l := [.int .i64 _, .str _, .str _, .int .i64 _, _, .int .i64 _]) tok rfl rfl rfl rfl rfl) rfl ?_
       refine AOL.p (P_callf (by kernel_rfl) rfl rfl (cp)) rfl ?_
       refine AOL.p (P_move (v := .tuple _) rfl) rfl ?_
       refine AOL.p (P_extract (v := .str _) rfl rfl) rfl ?_
       refine AOL.p (P_extract (v := .int .i64 _) rfl rfl) rfl ?_
       refine AOL.p (P_assign (v := .str _) rfl) rfl ?_
       refine AOL.p (P_assign (v := .int .i64 _) rfl) rfl ?_
       refine AOL.nil (thenN ?_)
       refine AW.seq (AW.region ?_)
       refine AOL.p (P_move (v := .int .i64 _) rfl) rfl ?_
       refine AOL.p (P_neq rfl rfl) rfl ?_
       refine AOL.p (P_move (v := .bool _) rfl) rfl ?_
       refine AOL.g (y := .str _) _ [] rfl (EntL.all trivial) (fun hG => P_move (v := .str _) rfl) rfl ?_
       refine AOL.g (y := .str _) _ [] rfl (EntL.all trivial) (fun hG => P_move (v := .str _) rfl) rfl ?_
       refine AOL.g (y := .str _) _ [(73, _)] rfl (EntL.all ⟨Ent.self _ _, trivial⟩) (fun hG => P_add_str rfl rfl rfl (by simp [maxLen]; omega)) rfl ?_
       refine AOL.g (y := .str _) _ [(74, _)] rfl (EntL.all ⟨Ent.self _ _, trivial⟩) (fun hG => P_add_str rfl rfl rfl (by simp [maxLen]; omega)) rfl ?_
       refine AOL.g (y := .bool _) _ [(72, _), (75, _)] rfl (EntL.all ⟨Ent.self _ _, Ent.self _ _, trivial⟩) (fun hG => P_callf (by kernel_rfl) rfl rfl (k29 _ _ (by omega))) rfl ?_
       refine AOL.g (y := .bool _) _ [(76, _)] rfl (EntL.all ⟨Ent.self _ _, trivial⟩) (fun hG => P_not rfl) rfl ?_
       refine AOL.p (P_pick_or rfl rfl rfl) rfl ?_
       refine AOL.nil (thenN ?_)
       refine AW.cond (b := _) rfl (fun hc6 => ?_) (fun hc6 => ?_)
       ·
        rw [hcn] at hc6
        cases hc6
       ·
        refine AW.skip ?_
        refine blkN ?_
        refine thenN ?_
        refine AW.region ?_
        refine AOL.p (P_move (v := .int .i64 _) rfl) rfl ?_
        refine AOL.p (P_sub rfl rfl rfl (by constructor <;> omega)) rfl ?_
        refine AOL.p (P_assign (v := .int .i64 _) rfl) rfl ?_
        refine AOL.nil (thenN ?_)
        refine ⟨j - 1, ?_, ?_, GS.weaken ⟨rfl, congrArg AV.str htr, congrArg (AV.int .i64) (by omega), trivial⟩ (.refl _)⟩
        · exact (by omega)
        · omega
    ·
     have hj : j = 0 := by have := of_decide_eq_false hc3; omega
     have hfl : (firstT t j).length ≤ 65536 := Nat.le_trans (first_len t (prog_kind h1) j) h3
     refine AW.exit ?_
     refine thenE ?_
     refine thenE ?_
     refine blkHit ?_
     refine thenN ?_
     refine AW.seq (AW.region ?_)
     refine AOL.p (P_callf (by kernel_rfl) rfl rfl (l_awake)) rfl ?_
     refine AOL.p (P_move (v := .bool _) rfl) rfl ?_
     refine AOL.g (y := .str _) _ [] rfl (EntL.all trivial) (fun hG => P_move (v := .str _) rfl) rfl ?_
     refine AOL.g (y := .bool _) _ [(81, _)] rfl (EntL.all ⟨Ent.self _ _, trivial⟩) (fun hG => P_eql_str rfl rfl) rfl ?_
     refine AOL.g (y := .bool _) _ [(82, _)] rfl (EntL.all ⟨Ent.self _ _, trivial⟩) (fun hG => P_move (v := .bool _) rfl) rfl ?_
     refine AOL.g (y := .str _) _ [] rfl (EntL.all trivial) (fun hG => P_move (v := .str _) rfl) rfl ?_
     refine AOL.g (y := .bool _) _ [(84, _)] rfl (EntL.all ⟨Ent.self _ _, trivial⟩) (fun hG => P_callf (by kernel_rfl) rfl rfl (k28 _ _)) rfl ?_
     refine AOL.g (y := .bool _) _ [(83, _), (85, _)] rfl (EntL.all ⟨Ent.self _ _, Ent.suf _ _ _, trivial⟩) (fun hG => P_pick_or rfl rfl rfl) rfl ?_
     refine AOL.p (P_pick_and rfl rfl rfl) rfl ?_
     refine AOL.p (P_move (v := .bool _) rfl) rfl ?_
     refine AOL.g (y := .str _) _ [] rfl (EntL.all trivial) (fun hG => P_move (v := .str _) rfl) rfl ?_
     refine AOL.g (y := .bool _) _ [(89, _)] rfl (EntL.all ⟨Ent.self _ _, trivial⟩) (fun hG => P_callf (by kernel_rfl) rfl rfl (k29 _ _ (by omega))) rfl ?_
     refine AOL.g (y := .bool _) _ [(90, _)] rfl (EntL.all ⟨Ent.self _ _, trivial⟩) (fun hG => P_not rfl) rfl ?_
     refine AOL.p (P_pick_and rfl rfl rfl) rfl ?_
     refine AOL.p (P_assign (v := .bool _) rfl) rfl ?_
     refine AOL.nil (thenN ?_)
     refine AW.ret ?_
     refine ⟨.inr rfl, [.bool _], .cons (.tmp _ _ rfl) <| .nil, .refl _, ?_⟩
     have he := prog_end h1 (j := j) (.inl hj)
     have he1 : ((firstT t j == []) || Lib.hasPrefix (firstT t j) [116, 121, 112, 101, 32]) = true := he.1
     have he2 := he.2
     exact congrArg AV.bool (by rw [he1, he2]; rfl)

end Go.Proofs.YtabkeeedkhgodaaGreatDoor
