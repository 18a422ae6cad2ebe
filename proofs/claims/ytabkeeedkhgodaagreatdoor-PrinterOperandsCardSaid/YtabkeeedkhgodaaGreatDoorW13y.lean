/-
  The law PrinterOperands walked. No condition.
-/
import Derived.Test.YtabkeeedkhgodaaGreatDoorW13x
import Derived.Test.YtabkeeedkhgodaaGreatDoorQ9
import Derived.KernelRfl
namespace Go.Proofs.YtabkeeedkhgodaaGreatDoor
open Go Go.Aw
set_option linter.unusedVariables false
set_option linter.unusedSimpArgs false

theorem c_opnd {t : Syn} (h : ((writtenC t .exps).2 != 0) = false) : APure Tryz.prog 20 [.str (writtenC t .exps).1] (.tuple [.agg (cSyn (parseP EE (writeC t)).1), .int .i64 0, .int .i64 0]) ∧ sameN t (parseP EE (writeC t)).1 = true := c_expr h
theorem opnd_c (a b : Syn) (op : Int) : cSyn (opndT a b op) = [.int .i64 18, .str [], .str [], .int .i64 0, .sl 6 [[.int .i64 17, .str [], .str [], .int .i64 op, .sl 6 [cSyn a, cSyn b], .int .i64 0]], .int .i64 0] := by
  have e1 : encS ⟨17, [], [], op, [a, b], 0⟩ = [.int .i64 17, .str [], .str [], .int .i64 op, .sl 6 [cSyn a, cSyn b], .int .i64 0] := by
    rw [encS_eq, ← encS_eq a, ← encS_eq b]
    rfl
  show [AV.int .i64 18, .str [], .str [], .int .i64 0, .sl 6 [encS ⟨17, [], [], op, [a, b], 0⟩], .int .i64 0] = _
  rw [e1]
theorem c_opnd2 {a b : Syn} (op : Int) (ha : fewC a = true) (hb : fewC b = true) : APure Tryz.prog 15 [.agg [.int .i64 18, .str [], .str [], .int .i64 0, .sl 6 [[.int .i64 17, .str [], .str [], .int .i64 op, .sl 6 [cSyn a, cSyn b], .int .i64 0]], .int .i64 0]] (.tuple [.str (writtenC (opndT a b op) .exps).1, .int .i64 (writtenC (opndT a b op) .exps).2]) := by
  have h := m_Expr (opndT a b op) (opnd_med ha hb)
  rw [opnd_c] at h
  exact h
theorem c_opnd3 (a b : Syn) (op : Int) (u : Syn) : APure Tryz.prog 19 [.agg [.int .i64 18, .str [], .str [], .int .i64 0, .sl 6 [[.int .i64 17, .str [], .str [], .int .i64 op, .sl 6 [cSyn a, cSyn b], .int .i64 0]], .int .i64 0], .agg (cSyn u)] (.bool (sameN (opndT a b op) u)) := by
  have h := r_Same (opndT a b op) u
  rw [opnd_c] at h
  exact h
theorem guard_ops {a b : Syn} {op : Int} (h : ((((!(fewC a)) || (!(fewC b))) || decide (op < 5)) || decide (11 < op)) = false) : fewC a = true ∧ fewC b = true ∧ 5 ≤ op ∧ op ≤ 11 := by
  simp only [Bool.or_eq_false_iff, Bool.not_eq_false', decide_eq_false_iff_not] at h
  exact ⟨h.1.1.1, h.1.1.2, by omega, by omega⟩
theorem guard_two {a b : Syn} (h : (((writtenC a .exps).2 != 0) || ((writtenC b .exps).2 != 0)) = false) : ((writtenC a .exps).2 != 0) = false ∧ ((writtenC b .exps).2 != 0) = false := by
  rw [Bool.or_eq_false_iff] at h
  exact h

set_option maxRecDepth 20000 in
set_option maxHeartbeats 6400000 in
theorem l_PrinterOperands (a b : Syn) (op : Int) : APure Tryz.prog 6 [.agg (cSyn a), .agg (cSyn b), .int .i64 op] (.bool true) := by
 refine APure.body (n := 86) tok Tryz.func6 rfl rfl rfl fun H => ?_
 refine AW.seq (AW.region ?_)
 refine AOL.p (P_box (v := .agg _) (cs := [.int .i64 _, .str _, .str _, .int .i64 _, _, .int .i64 _]) rfl rfl rfl) rfl ?_
 refine AOL.p (P_box (v := .agg _) (cs := [.int .i64 _, .str _, .str _, .int .i64 _, _, .int .i64 _]) rfl rfl rfl) rfl ?_
 refine AOL.p (P_assign (v := .bool _) rfl) rfl ?_
 refine AOL.nil (thenN ?_)
 refine AW.seq ?_
 refine AW.seq (AW.region ?_)
 refine AOL.p (P_load_ptr_agg (l := [.int .i64 _, .str _, .str _, .int .i64 _, _, .int .i64 _]) tok rfl rfl rfl rfl rfl) rfl ?_
 refine AOL.p (P_callf (by kernel_rfl) rfl rfl (f_few a)) rfl ?_
 refine AOL.p (P_not rfl) rfl ?_
 refine AOL.p (P_move (v := .bool _) rfl) rfl ?_
 refine AOL.g (y := .agg _) _ [] rfl (EntL.all trivial) (fun hG => P_load_ptr_agg (l := [.int .i64 _, .str _, .str _, .int .i64 _, _, .int .i64 _]) tok rfl rfl rfl rfl rfl) rfl ?_
 refine AOL.g (y := .bool _) _ [(21, _)] rfl (EntL.all ⟨Ent.self _ _, trivial⟩) (fun hG => P_callf (by kernel_rfl) rfl rfl (f_few b)) rfl ?_
 refine AOL.g (y := .bool _) _ [(22, _)] rfl (EntL.all ⟨Ent.self _ _, trivial⟩) (fun hG => P_not rfl) rfl ?_
 refine AOL.p (P_pick_or rfl rfl rfl) rfl ?_
 refine AOL.p (P_move (v := .bool _) rfl) rfl ?_
 refine AOL.g (y := .int .i64 _) _ [] rfl (EntL.all trivial) (fun hG => P_move (v := .int .i64 _) rfl) rfl ?_
 refine AOL.g (y := .bool _) _ [(26, _)] rfl (EntL.all ⟨Ent.self _ _, trivial⟩) (fun hG => P_lss rfl rfl) rfl ?_
 refine AOL.p (P_pick_or rfl rfl rfl) rfl ?_
 refine AOL.p (P_move (v := .bool _) rfl) rfl ?_
 refine AOL.g (y := .int .i64 _) _ [] rfl (EntL.all trivial) (fun hG => P_move (v := .int .i64 _) rfl) rfl ?_
 refine AOL.g (y := .bool _) _ [(30, _)] rfl (EntL.all ⟨Ent.self _ _, trivial⟩) (fun hG => P_gtr rfl rfl) rfl ?_
 refine AOL.p (P_pick_or rfl rfl rfl) rfl ?_
 refine AOL.nil (thenN ?_)
 refine AW.cond (b := _) rfl (fun hc1 => ?_) (fun hc1 => ?_)
 ·
  refine AW.seq (AW.region ?_)
  refine AOL.p (P_callf (by kernel_rfl) rfl rfl (l_awake)) rfl ?_
  refine AOL.p (P_assign (v := .bool _) rfl) rfl ?_
  refine AOL.nil (thenN ?_)
  refine AW.ret ?_
  refine thenR ?_
  refine ⟨.inr rfl, [.bool _], .cons (.tmp _ _ rfl) <| .nil, .refl _, ?_⟩
  rfl
 ·
  have hg := guard_ops hc1
  refine AW.skip ?_
  refine thenN ?_
  refine AW.seq (AW.region ?_)
  refine AOL.p (P_load_ptr_agg (l := [.int .i64 _, .str _, .str _, .int .i64 _, _, .int .i64 _]) tok rfl rfl rfl rfl rfl) rfl ?_
  refine AOL.p (P_callf (by kernel_rfl) rfl rfl (w_Expr a hg.1)) rfl ?_
  refine AOL.p (P_move (v := .tuple _) rfl) rfl ?_
  refine AOL.p (P_extract (v := .str _) rfl rfl) rfl ?_
  refine AOL.p (P_extract (v := .int .i64 _) rfl rfl) rfl ?_
  refine AOL.p (P_assign (v := .str _) rfl) rfl ?_
  refine AOL.p (P_assign (v := .int .i64 _) rfl) rfl ?_
  refine AOL.nil (thenN ?_)
  refine AW.seq (AW.region ?_)
  refine AOL.p (P_load_ptr_agg (l := [.int .i64 _, .str _, .str _, .int .i64 _, _, .int .i64 _]) tok rfl rfl rfl rfl rfl) rfl ?_
  refine AOL.p (P_callf (by kernel_rfl) rfl rfl (w_Expr b hg.2.1)) rfl ?_
  refine AOL.p (P_move (v := .tuple _) rfl) rfl ?_
  refine AOL.p (P_extract (v := .str _) rfl rfl) rfl ?_
  refine AOL.p (P_extract (v := .int .i64 _) rfl rfl) rfl ?_
  refine AOL.p (P_assign (v := .str _) rfl) rfl ?_
  refine AOL.p (P_assign (v := .int .i64 _) rfl) rfl ?_
  refine AOL.nil (thenN ?_)
  refine AW.seq ?_
  refine AW.seq (AW.region ?_)
  refine AOL.p (P_move (v := .int .i64 _) rfl) rfl ?_
  refine AOL.p (P_neq rfl rfl) rfl ?_
  refine AOL.p (P_move (v := .bool _) rfl) rfl ?_
  refine AOL.g (y := .int .i64 _) _ [] rfl (EntL.all trivial) (fun hG => P_move (v := .int .i64 _) rfl) rfl ?_
  refine AOL.g (y := .bool _) _ [(47, _)] rfl (EntL.all ⟨Ent.self _ _, trivial⟩) (fun hG => P_neq rfl rfl) rfl ?_
  refine AOL.p (P_pick_or rfl rfl rfl) rfl ?_
  refine AOL.nil (thenN ?_)
  refine AW.cond (b := _) rfl (fun hc2 => ?_) (fun hc2 => ?_)
  ·
   refine AW.seq (AW.region ?_)
   refine AOL.p (P_callf (by kernel_rfl) rfl rfl (l_awake)) rfl ?_
   refine AOL.p (P_assign (v := .bool _) rfl) rfl ?_
   refine AOL.nil (thenN ?_)
   refine AW.ret ?_
   refine thenR ?_
   refine ⟨.inr rfl, [.bool _], .cons (.tmp _ _ rfl) <| .nil, .refl _, ?_⟩
   rfl
  ·
   have hg2 := guard_two hc2
   have ya := written_yes hg2.1
   have yb := written_yes hg2.2
   refine AW.skip ?_
   refine thenN ?_
   refine AW.seq (AW.region ?_)
   refine AOL.p (P_move (v := .int .i64 _) rfl) rfl ?_
   refine AOL.p (P_load_ptr_agg (l := [.int .i64 _, .str _, .str _, .int .i64 _, _, .int .i64 _]) tok rfl rfl rfl rfl rfl) rfl ?_
   refine AOL.p (P_load_ptr_agg (l := [.int .i64 _, .str _, .str _, .int .i64 _, _, .int .i64 _]) tok rfl rfl rfl rfl rfl) rfl ?_
   refine AOL.p (P_buildSlice (es := [[.int .i64 _, .str _, .str _, .int .i64 _, _, .int .i64 _], [.int .i64 _, .str _, .str _, .int .i64 _, _, .int .i64 _]]) tok rfl rfl rfl rfl rfl rfl rfl rfl rfl) rfl ?_
   refine AOL.p (P_build (l := [.int .i64 _, .str _, .str _, .int .i64 _, _, .int .i64 _]) tok rfl rfl rfl) rfl ?_
   refine AOL.p (P_buildSlice (es := [[.int .i64 _, .str _, .str _, .int .i64 _, _, .int .i64 _]]) tok rfl rfl rfl rfl rfl rfl rfl rfl rfl) rfl ?_
   refine AOL.p (P_build (l := [.int .i64 _, .str _, .str _, .int .i64 _, _, .int .i64 _]) tok rfl rfl rfl) rfl ?_
   refine AOL.e (E_alloc (l := [.int .i64 0, .str [], .str [], .int .i64 0, .sl 6 [], .int .i64 0]) (by kernel_rfl)) rfl ?_
   rintro _ _ ⟨b11, rfl, rfl⟩
   refine AOL.e (E_store (k := 0) (v := .agg _) (cs' := [.int .i64 _, .str _, .str _, .int .i64 _, _, .int .i64 _]) (H2 := _ :: _) tok rfl rfl rfl rfl rfl rfl rfl rfl rfl) rfl ?_
   rintro _ _ ⟨rfl, rfl⟩
   refine AOL.ghost (GS.freeze (t := 11) 0 rfl rfl) ?_
   refine AOL.nil (thenN ?_)
   refine AW.seq (AW.region ?_)
   refine AOL.p (P_load_ptr_agg (l := [.int .i64 _, .str _, .str _, .int .i64 _, _, .int .i64 _]) tok rfl rfl rfl rfl rfl) rfl ?_
   refine AOL.p (P_callf (by kernel_rfl) rfl rfl (c_opnd2 op hg.1 hg.2.1)) rfl ?_
   refine AOL.p (P_move (v := .tuple _) rfl) rfl ?_
   refine AOL.p (P_extract (v := .str _) rfl rfl) rfl ?_
   refine AOL.p (P_extract (v := .int .i64 _) rfl rfl) rfl ?_
   refine AOL.p (P_assign (v := .str _) rfl) rfl ?_
   refine AOL.p (P_assign (v := .int .i64 _) rfl) rfl ?_
   refine AOL.nil (thenN ?_)
   refine AW.seq ?_
   refine AW.seq (AW.region ?_)
   refine AOL.p (P_move (v := .int .i64 _) rfl) rfl ?_
   refine AOL.p (P_neq rfl rfl) rfl ?_
   refine AOL.nil (thenN ?_)
   refine AW.cond (b := _) rfl (fun hc3 => ?_) (fun hc3 => ?_)
   ·
    have h12 := opnd_err hg.1 hg.2.1 ya.1 yb.1 hg.2.2.1 hg.2.2.2 hc3
    refine AW.seq (AW.region ?_)
    refine AOL.p (P_callf (by kernel_rfl) rfl rfl (l_awake)) rfl ?_
    refine AOL.p (P_move (v := .bool _) rfl) rfl ?_
    refine AOL.g (y := .int .i64 _) _ [] rfl (EntL.all trivial) (fun hG => P_move (v := .int .i64 _) rfl) rfl ?_
    refine AOL.g (y := .bool _) _ [(67, _)] rfl (EntL.all ⟨Ent.self _ _, trivial⟩) (fun hG => P_eql rfl rfl) rfl ?_
    refine AOL.p (P_pick_and rfl rfl rfl) rfl ?_
    refine AOL.p (P_assign (v := .bool _) rfl) rfl ?_
    refine AOL.nil (thenN ?_)
    refine AW.ret ?_
    refine thenR ?_
    refine ⟨.inr rfl, [.bool _], .cons (.tmp _ _ rfl) <| .nil, .refl _, ?_⟩
    exact congrArg AV.bool (by rw [h12]; rfl)
   ·
    have hcb := c_opnd hc3
    refine AW.skip ?_
    refine thenN ?_
    refine AW.seq (AW.region ?_)
    refine AOL.p (P_move (v := .str _) rfl) rfl ?_
    refine AOL.p (P_callf (by kernel_rfl) rfl rfl (hcb.1)) rfl ?_
    refine AOL.p (P_move (v := .tuple _) rfl) rfl ?_
    refine AOL.p (P_extract (v := .agg [.int .i64 _, .str _, .str _, .int .i64 _, _, .int .i64 _]) rfl rfl) rfl ?_
    refine AOL.p (P_extract (v := .int .i64 _) rfl rfl) rfl ?_
    refine AOL.p (P_extract (v := .int .i64 _) rfl rfl) rfl ?_
    refine AOL.e (E_alloc (l := [.int .i64 0, .str [], .str [], .int .i64 0, .sl 6 [], .int .i64 0]) (by kernel_rfl)) rfl ?_
    rintro _ _ ⟨b14, rfl, rfl⟩
    refine AOL.e (E_store (k := 0) (v := .agg _) (cs' := [.int .i64 _, .str _, .str _, .int .i64 _, _, .int .i64 _]) (H2 := _ :: _) tok rfl rfl rfl rfl rfl rfl rfl rfl rfl) rfl ?_
    rintro _ _ ⟨rfl, rfl⟩
    refine AOL.p (P_assign (v := .int .i64 _) rfl) rfl ?_
    refine AOL.p (P_assign (v := .int .i64 _) rfl) rfl ?_
    refine AOL.ghost (GS.freeze (t := 14) 0 rfl rfl) ?_
    refine AOL.nil (thenN ?_)
    refine AW.seq (AW.region ?_)
    refine AOL.p (P_callf (by kernel_rfl) rfl rfl (l_awake)) rfl ?_
    refine AOL.p (P_move (v := .bool _) rfl) rfl ?_
    refine AOL.g (y := .int .i64 _) _ [] rfl (EntL.all trivial) (fun hG => P_move (v := .int .i64 _) rfl) rfl ?_
    refine AOL.g (y := .bool _) _ [(78, _)] rfl (EntL.all ⟨Ent.self _ _, trivial⟩) (fun hG => P_eql rfl rfl) rfl ?_
    refine AOL.p (P_pick_and rfl rfl rfl) rfl ?_
    refine AOL.p (P_move (v := .bool _) rfl) rfl ?_
    refine AOL.g (y := .agg _) _ [] rfl (EntL.all trivial) (fun hG => P_load_ptr_agg (l := [.int .i64 _, .str _, .str _, .int .i64 _, _, .int .i64 _]) tok rfl rfl rfl rfl rfl) rfl ?_
    refine AOL.g (y := .agg _) _ [] rfl (EntL.all trivial) (fun hG => P_load_ptr_agg (l := [.int .i64 _, .str _, .str _, .int .i64 _, _, .int .i64 _]) tok rfl rfl rfl rfl rfl) rfl ?_
    refine AOL.g (y := .bool _) _ [(82, _), (83, _)] rfl (EntL.all ⟨Ent.self _ _, Ent.self _ _, trivial⟩) (fun hG => P_callf (by kernel_rfl) rfl rfl (c_opnd3 a b op _)) rfl ?_
    refine AOL.p (P_pick_and rfl rfl rfl) rfl ?_
    refine AOL.p (P_assign (v := .bool _) rfl) rfl ?_
    refine AOL.nil (thenN ?_)
    refine AW.ret ?_
    refine ⟨.inr rfl, [.bool _], .cons (.tmp _ _ rfl) <| .nil, .refl _, ?_⟩
    exact congrArg AV.bool (by rw [hcb.2]; rfl)

end Go.Proofs.YtabkeeedkhgodaaGreatDoor
