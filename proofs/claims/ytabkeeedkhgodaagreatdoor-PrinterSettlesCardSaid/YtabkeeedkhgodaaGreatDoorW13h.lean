/-
  Walks: check and depth of the printer. No condition.
-/
import Derived.Test.YtabkeeedkhgodaaGreatDoorW13g
import Derived.KernelRfl
namespace Go.Proofs.YtabkeeedkhgodaaGreatDoor
open Go Go.Aw
set_option linter.unusedVariables false
set_option linter.unusedSimpArgs false

theorem check_own {t : Syn} {p : Pl} {e : Int} (h : ownC p t = e) (he : e ≠ 0) : checkC t p = e := by
  rw [checkC_eq, h, if_pos (by simpa using he)]
theorem check_kids {t : Syn} {p : Pl} (h : ownC p t = 0) : checkC t p = kidsE t 0 (t.kids.drop 0) := by
  rw [checkC_eq, h, if_neg (by decide), List.drop_zero]
theorem kidsE_drop {t x : Syn} {k : Nat} (h : t.kids[k]? = some x) : kidsE t k (t.kids.drop k) = if (checkC x (kidC t k) != 0) then checkC x (kidC t k) else kidsE t (k + 1) (t.kids.drop (k + 1)) := by
  obtain ⟨h1, rfl⟩ := List.getElem?_eq_some_iff.1 h
  rw [List.drop_eq_getElem_cons h1, kidsE]
theorem depthL_drop {t x : Syn} {k : Nat} (h : t.kids[k]? = some x) : depthL t.kind (t.kids.drop k) = max (depthC x + (if closedC t.kind x.kind then 1 else 0)) (depthL t.kind (t.kids.drop (k + 1))) := by
  obtain ⟨h1, rfl⟩ := List.getElem?_eq_some_iff.1 h
  rw [List.drop_eq_getElem_cons h1, depthL]
theorem med_depth {t : Syn} (h : medC t) : depthC t ≤ 2000000 := by
  have h1 := depth_cnt t
  have h2 := med_cnt h
  omega

set_option maxRecDepth 20000 in
set_option maxHeartbeats 3200000 in
theorem w_check (t : Syn) (p : Pl) (hfew : medC t) : APure Tryz.prog 45 [.agg (cSyn t), plV p] (.int .i64 (checkC t p)) := by
 revert p hfew
 induction t using Syn.ind
 rename_i t ih
 intro p hfew
 have hkl := med_len hfew
 have htx := med_text hfew
 obtain ⟨f, first, cap, hv, hfn, hP⟩ := pl_fn p
 rw [hv]
 refine APure.body (n := 45) tok Tryz.func45 rfl rfl rfl fun H => ?_
 refine AW.seq (AW.region ?_)
 refine AOL.p (P_box (v := .agg _) (cs := [.int .i64 _, .str _, .str _, .int .i64 _, _, .int .i64 _]) rfl rfl rfl) rfl ?_
 refine AOL.p (P_assign (v := .int .i64 _) rfl) rfl ?_
 refine AOL.nil (thenN ?_)
 refine AW.seq ?_
 refine AW.block ?_
 refine AW.seq (AW.region ?_)
 refine AOL.p (P_move (v := .fn _ _ _) rfl) rfl ?_
 refine AOL.p (P_fieldAddr_ptr (cs' := [.int .i64 _, .str _, .str _, .int .i64 _, _, .int .i64 _]) tok rfl rfl rfl rfl rfl rfl) rfl ?_
 refine AOL.p (P_load_ptr (c := .int .i64 _) tok rfl rfl rfl) rfl ?_
 refine AOL.p (P_call hfn rfl rfl rfl (hP t.kind)) rfl ?_
 refine AOL.p (P_not rfl) rfl ?_
 refine AOL.p (P_assign (v := .bool _) rfl) rfl ?_
 refine AOL.nil (thenN ?_)
 refine AW.cond (b := _) rfl (fun hc1 => ?_) (fun hc1 => ?_)
 ·
  refine AW.seq (AW.region ?_)
  refine AOL.p (P_assign (v := .int .i64 _) rfl) rfl ?_
  refine AOL.nil (thenN ?_)
  refine AW.ret ?_
  refine blkR ?_
  refine thenR ?_
  refine ⟨.inr rfl, [.int .i64 _], .cons (.tmp _ _ rfl) <| .nil, .refl _, ?_⟩
  have h9 : checkC t p = 1 := check_own (if_pos hc1) (by decide)
  rw [h9]; rfl
 ·
  refine AW.seq (AW.region ?_)
  refine AOL.p (P_load_ptr_agg (l := [.int .i64 _, .str _, .str _, .int .i64 _, _, .int .i64 _]) tok rfl rfl rfl rfl rfl) rfl ?_
  refine AOL.p (P_callf (by kernel_rfl) rfl rfl (w_shaped t)) rfl ?_
  refine AOL.p (P_not rfl) rfl ?_
  refine AOL.p (P_assign (v := .bool _) rfl) rfl ?_
  refine AOL.nil (thenN ?_)
  refine AW.cond (b := _) rfl (fun hc2 => ?_) (fun hc2 => ?_)
  ·
   refine AW.seq (AW.region ?_)
   refine AOL.p (P_assign (v := .int .i64 _) rfl) rfl ?_
   refine AOL.nil (thenN ?_)
   refine AW.ret ?_
   refine blkR ?_
   refine thenR ?_
   refine ⟨.inr rfl, [.int .i64 _], .cons (.tmp _ _ rfl) <| .nil, .refl _, ?_⟩
   have h9 : checkC t p = 15 := check_own ((ifF hc1).trans (if_pos hc2)) (by decide)
   rw [h9]; rfl
  ·
   refine AW.seq (AW.region ?_)
   refine AOL.p (P_load_ptr_agg (l := [.int .i64 _, .str _, .str _, .int .i64 _, _, .int .i64 _]) tok rfl rfl rfl rfl rfl) rfl ?_
   refine AOL.p (P_callf (by kernel_rfl) rfl rfl (w_named t htx.1 htx.2)) rfl ?_
   refine AOL.p (P_not rfl) rfl ?_
   refine AOL.p (P_assign (v := .bool _) rfl) rfl ?_
   refine AOL.nil (thenN ?_)
   refine AW.cond (b := _) rfl (fun hc3 => ?_) (fun hc3 => ?_)
   ·
    refine AW.seq (AW.region ?_)
    refine AOL.p (P_assign (v := .int .i64 _) rfl) rfl ?_
    refine AOL.nil (thenN ?_)
    refine AW.ret ?_
    refine blkR ?_
    refine thenR ?_
    refine ⟨.inr rfl, [.int .i64 _], .cons (.tmp _ _ rfl) <| .nil, .refl _, ?_⟩
    have h9 : checkC t p = 8 := check_own (((ifF hc1).trans (ifF hc2)).trans (if_pos hc3)) (by decide)
    rw [h9]; rfl
   ·
    refine AW.skip ?_
    refine blkN ?_
    refine thenN ?_
    refine AW.seq ?_
    refine AW.seq (AW.region ?_)
    refine AOL.p (P_load_ptr_agg (l := [.int .i64 _, .str _, .str _, .int .i64 _, _, .int .i64 _]) tok rfl rfl rfl rfl rfl) rfl ?_
    refine AOL.p (P_callf (by kernel_rfl) rfl rfl (w_fields t)) rfl ?_
    refine AOL.p (P_assign (v := .int .i64 _) rfl) rfl ?_
    refine AOL.nil (thenN ?_)
    refine AW.seq (AW.region ?_)
    refine AOL.p (P_move (v := .int .i64 _) rfl) rfl ?_
    refine AOL.p (P_neq rfl rfl) rfl ?_
    refine AOL.nil (thenN ?_)
    refine AW.cond (b := _) rfl (fun hc4 => ?_) (fun hc4 => ?_)
    ·
     refine AW.seq (AW.region ?_)
     refine AOL.p (P_move (v := .int .i64 _) rfl) rfl ?_
     refine AOL.p (P_assign (v := .int .i64 _) rfl) rfl ?_
     refine AOL.nil (thenN ?_)
     refine AW.ret ?_
     refine thenR ?_
     refine ⟨.inr rfl, [.int .i64 _], .cons (.tmp _ _ rfl) <| .nil, .refl _, ?_⟩
     have h9 : checkC t p = fieldsC t := check_own (((ifF hc1).trans (ifF hc2)).trans (ifF hc3)) (by simpa using hc4)
     rw [h9]; rfl
    ·
     have h0 : ownC p t = 0 := by unfold ownC; rw [ifF hc1, ifF hc2, ifF hc3]; simpa using hc4
     refine AW.skip ?_
     refine thenN ?_
     refine AW.seq ?_
     refine AW.seq (AW.region ?_)
     refine AOL.p (P_fieldAddr_ptr (cs' := [_, .int .i64 _]) tok rfl rfl rfl rfl rfl rfl) rfl ?_
     refine AOL.p (P_load_ptr (c := .sl _ _) tok rfl rfl rfl) rfl ?_
     refine AOL.p (P_len_sl (n := t.kids.length) tok rfl rfl rfl (by simp)) rfl ?_
     refine AOL.p (P_move (v := .int .i64 _) rfl) rfl ?_
     refine AOL.nil (thenN ?_)
     refine AW.block ?_
     refine AW.loopS (fun (k : Nat) => (⟨[(2, .ptr (cSyn t)), (29, .sl 6 (t.kids.map encS)), (30, .int .i64 t.kids.length), (31, .int .i64 (k : Int))], H, 45⟩ : St)) (fun (k : Nat) => k ≤ t.kids.length ∧ checkC t p = kidsE t k (t.kids.drop k)) (fun (k : Nat) => t.kids.length - k) (0) ?_ (GS.weaken ⟨rfl, rfl, rfl, rfl, trivial⟩ (.refl _)) ?_
     · exact ⟨Nat.zero_le _, check_kids h0⟩
     ·
      rintro k hR
      refine AW.seq (AW.region ?_)
      refine AOL.p (P_lss rfl rfl) rfl ?_
      refine AOL.nil (thenN ?_)
      refine AW.seq ?_
      refine AW.cond (b := _) rfl (fun hc5 => ?_) (fun hc5 => ?_)
      ·
       obtain ⟨x, hx⟩ := gt2 (l := t.kids) (k := k) (by have := of_decide_eq_true hc5; omega)
       have hlt := gt_lt hx
       have hm := List.mem_of_getElem? hx
       refine AW.skip ?_
       refine thenN ?_
       refine AW.seq ?_
       refine AW.block ?_
       refine AW.seq (AW.region ?_)
       refine AOL.p (P_move (v := .int .i64 _) rfl) rfl ?_
       refine AOL.p (P_indexAddr (c := [.int .i64 _, .str _, .str _, .int .i64 _, _, .int .i64 _]) tok rfl rfl rfl rfl rfl rfl (by omega) (encS_at hx)) rfl ?_
       refine AOL.p (P_load_ptr_agg (l := [.int .i64 _, .str _, .str _, .int .i64 _, _, .int .i64 _]) tok rfl rfl rfl rfl rfl) rfl ?_
       refine AOL.e (E_alloc (l := [.int .i64 0, .str [], .str [], .int .i64 0, .sl 6 [], .int .i64 0]) (by kernel_rfl)) rfl ?_
       rintro _ _ ⟨b7, rfl, rfl⟩
       refine AOL.p (P_assign (v := .int .i64 _) rfl) rfl ?_
       refine AOL.e (E_store (k := 0) (v := .agg _) (cs' := [.int .i64 _, .str _, .str _, .int .i64 _, _, .int .i64 _]) (H2 := _ :: _) tok rfl rfl rfl rfl rfl rfl rfl rfl rfl) rfl ?_
       rintro _ _ ⟨rfl, rfl⟩
       refine AOL.ghost (GS.freeze (t := 7) 0 rfl rfl) ?_
       refine AOL.nil (thenN ?_)
       refine AW.seq ?_
       refine AW.draw mixed (fun _ => True) trivial (by kernel_rfl) ?_
       refine Canon.pure _ _ 0 _ _ rfl (by kernel_rfl) (by kernel_rfl) rfl (.run rfl (P_load_ptr_agg (l := [.int .i64 _, .str _, .str _, .int .i64 _, _, .int .i64 _]) tok rfl rfl rfl rfl rfl)) ?_
       refine Canon.pure _ _ 1 _ _ rfl (by kernel_rfl) (by kernel_rfl) rfl (.run rfl (P_load_ptr_agg (l := [.int .i64 _, .str _, .str _, .int .i64 _, _, .int .i64 _]) tok rfl rfl rfl rfl rfl)) ?_
       refine Canon.pure _ _ 2 _ _ rfl (by kernel_rfl) (by kernel_rfl) rfl (.run rfl (P_move (v := .int .i64 _) rfl)) ?_
       refine Canon.pure _ _ 3 _ _ rfl (by kernel_rfl) (by kernel_rfl) rfl (.run rfl (P_callf (by kernel_rfl) rfl rfl (w_kid t k hlt (by omega)))) ?_
       refine Canon.pure _ _ 4 _ _ rfl (by kernel_rfl) (by kernel_rfl) rfl (.run rfl (P_callf (by kernel_rfl) rfl rfl (ih x hm (kidC t k) (med_kid hfew hm)))) ?_
       refine Canon.pure _ _ 5 _ _ rfl (by kernel_rfl) (by kernel_rfl) rfl (.run rfl (P_assign (v := .int .i64 _) rfl)) ?_
       refine Canon.done _ _ (by kernel_rfl) ?_
       refine thenN ?_
       refine AW.seq (AW.region ?_)
       refine AOL.p (P_move (v := .int .i64 _) rfl) rfl ?_
       refine AOL.p (P_neq rfl rfl) rfl ?_
       refine AOL.nil (thenN ?_)
       refine AW.cond (b := _) rfl (fun hc6 => ?_) (fun hc6 => ?_)
       ·
        refine AW.seq (AW.region ?_)
        refine AOL.p (P_move (v := .int .i64 _) rfl) rfl ?_
        refine AOL.p (P_assign (v := .int .i64 _) rfl) rfl ?_
        refine AOL.nil (thenN ?_)
        refine AW.ret ?_
        refine blkR ?_
        refine thenR ?_
        refine thenR ?_
        refine blkR ?_
        refine thenR ?_
        refine ⟨.inr rfl, [.int .i64 _], .cons (.tmp _ _ rfl) <| .nil, .refl _, ?_⟩
        have h9 : checkC t p = checkC x (kidC t k) := by rw [hR.2, kidsE_drop hx, if_pos hc6]
        rw [h9]; rfl
       ·
        refine AW.skip ?_
        refine blkN ?_
        refine thenN ?_
        refine AW.region ?_
        refine AOL.p (P_add rfl rfl rfl (by constructor <;> omega)) rfl ?_
        refine AOL.p (P_move (v := .int .i64 _) rfl) rfl ?_
        refine AOL.nil (thenN ?_)
        refine ⟨k + 1, ?_, ?_, GS.weaken ⟨rfl, rfl, rfl, rfl, trivial⟩ (.refl _)⟩
        · exact ⟨hlt, by rw [hR.2, kidsE_drop hx, ifF hc6]⟩
        · omega
      ·
       have hk : t.kids.length ≤ k := by have := of_decide_eq_false hc5; omega
       refine AW.exit ?_
       refine thenE ?_
       refine thenE ?_
       refine blkHit ?_
       refine thenN ?_
       refine AW.seq (AW.region ?_)
       refine AOL.p (P_assign (v := .int .i64 _) rfl) rfl ?_
       refine AOL.nil (thenN ?_)
       refine AW.ret ?_
       refine ⟨.inr rfl, [.int .i64 _], .cons (.tmp _ _ rfl) <| .nil, .refl _, ?_⟩
       have h9 : checkC t p = 0 := by rw [hR.2, List.drop_eq_nil_of_le hk, kidsE]
       rw [h9]; rfl
set_option maxRecDepth 20000 in
set_option maxHeartbeats 3200000 in
theorem w_depth (t : Syn) (hfew : medC t) : APure Tryz.prog 46 [.agg (cSyn t)] (.int .i64 (depthC t : Int)) := by
 revert hfew
 induction t using Syn.ind
 rename_i t ih
 intro hfew
 have hkl := med_len hfew
 refine APure.body (n := 43) tok Tryz.func46 rfl rfl rfl fun H => ?_
 refine AW.seq (AW.region ?_)
 refine AOL.p (P_box (v := .agg _) (cs := [.int .i64 _, .str _, .str _, .int .i64 _, _, .int .i64 _]) rfl rfl rfl) rfl ?_
 refine AOL.p (P_assign (v := .int .i64 _) rfl) rfl ?_
 refine AOL.nil (thenN ?_)
 refine AW.seq (AW.region ?_)
 refine AOL.p (P_assign (v := .int .i64 _) rfl) rfl ?_
 refine AOL.nil (thenN ?_)
 refine AW.seq ?_
 refine AW.seq (AW.region ?_)
 refine AOL.p (P_fieldAddr_ptr (cs' := [_, .int .i64 _]) tok rfl rfl rfl rfl rfl rfl) rfl ?_
 refine AOL.p (P_load_ptr (c := .sl _ _) tok rfl rfl rfl) rfl ?_
 refine AOL.p (P_len_sl (n := t.kids.length) tok rfl rfl rfl (by simp)) rfl ?_
 refine AOL.p (P_move (v := .int .i64 _) rfl) rfl ?_
 refine AOL.nil (thenN ?_)
 refine AW.block ?_
 refine AW.loopS (fun (p : Nat × Nat) => (⟨[(1, .ptr (cSyn t)), (3, .int .i64 (p.2 : Int)), (8, .sl 6 (t.kids.map encS)), (9, .int .i64 t.kids.length), (10, .int .i64 (p.1 : Int))], H, 43⟩ : St)) (fun (p : Nat × Nat) => p.1 ≤ t.kids.length ∧ depthL t.kind t.kids = max p.2 (depthL t.kind (t.kids.drop p.1)) ∧ p.2 ≤ 5000000) (fun (p : Nat × Nat) => t.kids.length - p.1) ((0, 0)) ?_ (GS.weaken ⟨rfl, rfl, rfl, rfl, rfl, trivial⟩ (.refl _)) ?_
 · exact ⟨Nat.zero_le _, by simp, Nat.zero_le _⟩
 ·
  rintro p hR
  refine AW.seq (AW.region ?_)
  refine AOL.p (P_lss rfl rfl) rfl ?_
  refine AOL.nil (thenN ?_)
  refine AW.seq ?_
  refine AW.cond (b := _) rfl (fun hc1 => ?_) (fun hc1 => ?_)
  ·
   obtain ⟨x, hx⟩ := gt2 (l := t.kids) (k := p.1) (by have := of_decide_eq_true hc1; omega)
   have hlt := gt_lt hx
   have hm := List.mem_of_getElem? hx
   have hdx := med_depth (med_kid hfew hm)
   have hd2 := depthL_drop hx
   refine AW.skip ?_
   refine thenN ?_
   refine AW.seq ?_
   refine AW.block ?_
   refine AW.seq (AW.region ?_)
   refine AOL.p (P_indexAddr (c := [.int .i64 _, .str _, .str _, .int .i64 _, _, .int .i64 _]) tok rfl rfl rfl rfl rfl rfl (by omega) (encS_at hx)) rfl ?_
   refine AOL.p (P_load_ptr_agg (l := [.int .i64 _, .str _, .str _, .int .i64 _, _, .int .i64 _]) tok rfl rfl rfl rfl rfl) rfl ?_
   refine AOL.e (E_alloc (l := [.int .i64 0, .str [], .str [], .int .i64 0, .sl 6 [], .int .i64 0]) (by kernel_rfl)) rfl ?_
   rintro _ _ ⟨b5, rfl, rfl⟩
   refine AOL.e (E_store (k := 0) (v := .agg _) (cs' := [.int .i64 _, .str _, .str _, .int .i64 _, _, .int .i64 _]) (H2 := _ :: _) tok rfl rfl rfl rfl rfl rfl rfl rfl rfl) rfl ?_
   rintro _ _ ⟨rfl, rfl⟩
   refine AOL.ghost (GS.freeze (t := 5) 0 rfl rfl) ?_
   refine AOL.nil (thenN ?_)
   refine AW.seq (AW.region ?_)
   refine AOL.p (P_load_ptr_agg (l := [.int .i64 _, .str _, .str _, .int .i64 _, _, .int .i64 _]) tok rfl rfl rfl rfl rfl) rfl ?_
   refine AOL.p (P_callf (by kernel_rfl) rfl rfl (ih x hm (med_kid hfew hm))) rfl ?_
   refine AOL.p (P_assign (v := .int .i64 _) rfl) rfl ?_
   refine AOL.nil (thenN ?_)
   refine AW.seq ?_
   refine AW.seq (AW.region ?_)
   refine AOL.p (P_fieldAddr_ptr (cs' := [.int .i64 _, .str _, .str _, .int .i64 _, _, .int .i64 _]) tok rfl rfl rfl rfl rfl rfl) rfl ?_
   refine AOL.p (P_load_ptr (c := .int .i64 _) tok rfl rfl rfl) rfl ?_
   refine AOL.p (P_fieldAddr_ptr (cs' := [.int .i64 _, .str _, .str _, .int .i64 _, _, .int .i64 _]) tok rfl rfl rfl rfl rfl rfl) rfl ?_
   refine AOL.p (P_load_ptr (c := .int .i64 _) tok rfl rfl rfl) rfl ?_
   refine AOL.p (P_callf (by kernel_rfl) rfl rfl (w_closed t.kind x.kind)) rfl ?_
   refine AOL.nil (thenN ?_)
   refine AW.cond (b := _) rfl (fun hc2 => ?_) (fun hc2 => ?_)
   ·
    rw [if_pos hc2] at hd2
    refine AW.region ?_
    refine AOL.p (P_move (v := .int .i64 _) rfl) rfl ?_
    refine AOL.p (P_add rfl rfl rfl (by constructor <;> omega)) rfl ?_
    refine AOL.p (P_assign (v := .int .i64 _) rfl) rfl ?_
    refine AOL.nil (thenN ?_)
    refine AW.region ?_
    refine AOL.p (P_move (v := .int .i64 _) rfl) rfl ?_
    refine AOL.p (P_move (v := .int .i64 _) rfl) rfl ?_
    refine AOL.p (P_max rfl rfl) rfl ?_
    refine AOL.p (P_assign (v := .int .i64 _) rfl) rfl ?_
    refine AOL.nil ?_
    refine blkN ?_
    refine thenN ?_
    refine AW.region ?_
    refine AOL.p (P_add rfl rfl rfl (by constructor <;> omega)) rfl ?_
    refine AOL.p (P_move (v := .int .i64 _) rfl) rfl ?_
    refine AOL.nil (thenN ?_)
    refine ⟨(p.1 + 1, max p.2 (depthC x + 1)), ?_, ?_, GS.weaken ⟨rfl, congrArg (AV.int .i64) (by simp only; omega), rfl, rfl, rfl, trivial⟩ (.refl _)⟩
    · exact ⟨hlt, by simp only; omega, by simp only; omega⟩
    · simp only; omega
   ·
    rw [ifF hc2] at hd2
    refine AW.skip ?_
    refine thenN ?_
    refine AW.region ?_
    refine AOL.p (P_move (v := .int .i64 _) rfl) rfl ?_
    refine AOL.p (P_move (v := .int .i64 _) rfl) rfl ?_
    refine AOL.p (P_max rfl rfl) rfl ?_
    refine AOL.p (P_assign (v := .int .i64 _) rfl) rfl ?_
    refine AOL.nil ?_
    refine blkN ?_
    refine thenN ?_
    refine AW.region ?_
    refine AOL.p (P_add rfl rfl rfl (by constructor <;> omega)) rfl ?_
    refine AOL.p (P_move (v := .int .i64 _) rfl) rfl ?_
    refine AOL.nil (thenN ?_)
    refine ⟨(p.1 + 1, max p.2 (depthC x)), ?_, ?_, GS.weaken ⟨rfl, congrArg (AV.int .i64) (by simp only; omega), rfl, rfl, rfl, trivial⟩ (.refl _)⟩
    · exact ⟨hlt, by simp only; omega, by simp only; omega⟩
    · simp only; omega
  ·
   have hk : t.kids.length ≤ p.1 := by have := of_decide_eq_false hc1; omega
   have he := hR.2.1
   rw [List.drop_eq_nil_of_le hk, depthL] at he
   have hfd := med_depth hfew
   have hde := depthC_eq t
   refine AW.exit ?_
   refine thenE ?_
   refine thenE ?_
   refine blkHit ?_
   refine thenN ?_
   refine AW.seq ?_
   refine AW.seq (AW.region ?_)
   refine AOL.p (P_fieldAddr_ptr (cs' := [.int .i64 _, .str _, .str _, .int .i64 _, _, .int .i64 _]) tok rfl rfl rfl rfl rfl rfl) rfl ?_
   refine AOL.p (P_load_ptr (c := .int .i64 _) tok rfl rfl rfl) rfl ?_
   refine AOL.p (P_eql rfl rfl) rfl ?_
   refine AOL.p (P_move (v := .bool _) rfl) rfl ?_
   refine AOL.g (y := .ptr _) _ [] rfl (EntL.all trivial) (fun hG => P_fieldAddr_ptr (cs' := [.int .i64 _, .str _, .str _, .int .i64 _, _, .int .i64 _]) tok rfl rfl rfl rfl rfl rfl) rfl ?_
   refine AOL.g (y := .int .i64 _) _ [(31, _)] rfl (EntL.all ⟨Ent.self _ _, trivial⟩) (fun hG => P_load_ptr (c := .int .i64 _) tok rfl rfl rfl) rfl ?_
   refine AOL.g (y := .bool _) _ [(32, _)] rfl (EntL.all ⟨Ent.self _ _, trivial⟩) (fun hG => P_callf (by kernel_rfl) rfl rfl (w_pats t.kind)) rfl ?_
   refine AOL.g (y := .bool _) _ [(33, _)] rfl (EntL.all ⟨Ent.self _ _, trivial⟩) (fun hG => P_move (v := .bool _) rfl) rfl ?_
   refine AOL.g (y := .ptr _) _ [] rfl (EntL.all trivial) (fun hG => P_fieldAddr_ptr (cs' := [.int .i64 _, .str _, .str _, .int .i64 _, _, .int .i64 _]) tok rfl rfl rfl rfl rfl rfl) rfl ?_
   refine AOL.g (y := .int .i64 _) _ [(35, _)] rfl (EntL.all ⟨Ent.self _ _, trivial⟩) (fun hG => P_load_ptr (c := .int .i64 _) tok rfl rfl rfl) rfl ?_
   refine AOL.g (y := .bool _) _ [(36, _)] rfl (EntL.all ⟨Ent.self _ _, trivial⟩) (fun hG => P_neq rfl rfl) rfl ?_
   refine AOL.g (y := .bool _) _ [(34, _), (37, _)] rfl (EntL.all ⟨Ent.self _ _, Ent.suf _ _ _, trivial⟩) (fun hG => P_pick_and rfl rfl rfl) rfl ?_
   refine AOL.p (P_pick_or rfl rfl rfl) rfl ?_
   refine AOL.nil (thenN ?_)
   refine AW.cond (b := _) rfl (fun hc3 => ?_) (fun hc3 => ?_)
   ·
    refine AW.region ?_
    refine AOL.p (P_move (v := .int .i64 _) rfl) rfl ?_
    refine AOL.p (P_add rfl rfl rfl (by constructor <;> omega)) rfl ?_
    refine AOL.p (P_assign (v := .int .i64 _) rfl) rfl ?_
    refine AOL.nil (thenN ?_)
    refine AW.seq (AW.region ?_)
    refine AOL.p (P_move (v := .int .i64 _) rfl) rfl ?_
    refine AOL.p (P_assign (v := .int .i64 _) rfl) rfl ?_
    refine AOL.nil (thenN ?_)
    refine AW.ret ?_
    refine ⟨.inr rfl, [.int .i64 _], .cons (.tmp _ _ rfl) <| .nil, .refl _, ?_⟩
    have h9 : depthC t = p.2 + 1 := by rw [hde, if_pos hc3]; omega
    rw [h9]; rfl
   ·
    refine AW.skip ?_
    refine thenN ?_
    refine AW.seq (AW.region ?_)
    refine AOL.p (P_move (v := .int .i64 _) rfl) rfl ?_
    refine AOL.p (P_assign (v := .int .i64 _) rfl) rfl ?_
    refine AOL.nil (thenN ?_)
    refine AW.ret ?_
    refine ⟨.inr rfl, [.int .i64 _], .cons (.tmp _ _ rfl) <| .nil, .refl _, ?_⟩
    have h9 : depthC t = p.2 := by rw [hde, ifF hc3]; omega
    rw [h9]; rfl

end Go.Proofs.YtabkeeedkhgodaaGreatDoor
