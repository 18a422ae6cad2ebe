/-
  The law PrinterReturns walked. No condition.
-/
import Derived.Test.YtabkeeedkhgodaaGreatDoorW13v
import Derived.Test.YtabkeeedkhgodaaGreatDoorQ7
import Derived.Test.YtabkeeedkhgodaaGreatDoorL1
import Derived.KernelRfl
namespace Go.Proofs.YtabkeeedkhgodaaGreatDoor
open Go Go.Aw
set_option linter.unusedVariables false
set_option linter.unusedSimpArgs false

theorem written_no {t : Syn} {p : Pl} (h : ((writtenC t p).2 != 0) = true) : (writtenC t p).1 = [] := by
  unfold writtenC at h ⊢
  split
  · rfl
  · split
    · rfl
    · split
      · rfl
      · rename_i h1 h2 h3
        rw [if_neg h1, if_neg h2, if_neg h3] at h
        exact absurd h (by simp)
theorem written_yes {t : Syn} {p : Pl} (h : ((writtenC t p).2 != 0) = false) : checkC t p = 0 ∧ depthC t ≤ 64 ∧ (writeC t).length ≤ 65536 ∧ writtenC t p = (writeC t, 0) := by
  have h0 : (writtenC t p).2 = 0 := by simpa using h
  have hw : writtenC t p = if (checkC t p != 0) then ([], checkC t p) else if decide (64 < (depthC t : Int)) then ([], 12) else if decide (65536 < ((writeC t).length : Int)) then ([], 13) else (writeC t, 0) := rfl
  cases h1 : (checkC t p != 0) with
  | true => rw [hw, if_pos h1] at h0; rw [show checkC t p = 0 from h0] at h1; cases h1
  | false =>
    rw [ifF h1] at hw
    cases h2 : decide (64 < (depthC t : Int)) with
    | true => rw [hw, if_pos h2] at h0; cases h0
    | false =>
      rw [ifF h2] at hw
      cases h3 : decide (65536 < ((writeC t).length : Int)) with
      | true => rw [hw, if_pos h3] at h0; cases h0
      | false =>
        rw [ifF h3] at hw
        refine ⟨by simpa using h1, ?_, ?_, hw⟩
        · have := of_decide_eq_false h2; omega
        · have := of_decide_eq_false h3; omega
theorem c_back {t : Syn} (h : ((writtenC t (.only 0)).2 != 0) = false) : APure Tryz.prog 17 [.str (writtenC t (.only 0)).1] (.tuple [.agg (cSyn (parseP (progP EE TT) (writeC t)).1), .int .i64 0, .int .i64 0]) ∧ sameN t (parseP (progP EE TT) (writeC t)).1 = true ∧ (writtenC t (.only 0)).2 = 0 := by
  obtain ⟨h1, h2, h3, h4⟩ := written_yes h
  have hb := prog_back h1 h2 h3
  have h5 := pp_Parse (writeC t) (by omega)
  rw [h4]
  refine ⟨?_, sameN_er _ _ hb.2.symm, rfl⟩
  rw [hb.1] at h5
  exact h5
set_option maxRecDepth 20000 in
set_option maxHeartbeats 3200000 in
theorem l_PrinterReturns (t : Syn) : APure Tryz.prog 9 [.agg (cSyn t)] (.bool true) := by
 refine APure.body (n := 55) tok Tryz.func9 rfl rfl rfl fun H => ?_
 refine AW.seq (AW.region ?_)
 refine AOL.p (P_box (v := .agg _) (cs := [.int .i64 _, .str _, .str _, .int .i64 _, _, .int .i64 _]) rfl rfl rfl) rfl ?_
 refine AOL.p (P_assign (v := .bool _) rfl) rfl ?_
 refine AOL.nil (thenN ?_)
 refine AW.seq ?_
 refine AW.seq (AW.region ?_)
 refine AOL.p (P_load_ptr_agg (l := [.int .i64 _, .str _, .str _, .int .i64 _, _, .int .i64 _]) tok rfl rfl rfl rfl rfl) rfl ?_
 refine AOL.p (P_callf (by kernel_rfl) rfl rfl (f_few t)) rfl ?_
 refine AOL.p (P_not rfl) rfl ?_
 refine AOL.nil (thenN ?_)
 refine AW.cond (b := _) rfl (fun hc1 => ?_) (fun hc1 => ?_)
 ·
  refine AW.seq (AW.region ?_)
  refine AOL.p (P_callf (by kernel_rfl) rfl rfl (l_awake)) rfl ?_
  refine AOL.p (P_assign (v := .bool _) rfl) rfl ?_
  refine AOL.nil (thenN ?_)
  refine AW.ret ?_
  refine thenR ?_
  refine ⟨.inr rfl, [.bool _], .cons (.tmp _ _ rfl) <| .nil, .refl _, ?_⟩
  rfl
 ·
  have hf : fewC t = true := by simpa using hc1
  refine AW.skip ?_
  refine thenN ?_
  refine AW.seq (AW.region ?_)
  refine AOL.p (P_load_ptr_agg (l := [.int .i64 _, .str _, .str _, .int .i64 _, _, .int .i64 _]) tok rfl rfl rfl rfl rfl) rfl ?_
  refine AOL.p (P_callf (by kernel_rfl) rfl rfl (w_Format t hf)) rfl ?_
  refine AOL.p (P_move (v := .tuple _) rfl) rfl ?_
  refine AOL.p (P_extract (v := .str _) rfl rfl) rfl ?_
  refine AOL.p (P_extract (v := .int .i64 _) rfl rfl) rfl ?_
  refine AOL.p (P_assign (v := .str _) rfl) rfl ?_
  refine AOL.p (P_assign (v := .int .i64 _) rfl) rfl ?_
  refine AOL.nil (thenN ?_)
  refine AW.seq ?_
  refine AW.seq (AW.region ?_)
  refine AOL.p (P_move (v := .int .i64 _) rfl) rfl ?_
  refine AOL.p (P_neq rfl rfl) rfl ?_
  refine AOL.nil (thenN ?_)
  refine AW.cond (b := _) rfl (fun hc2 => ?_) (fun hc2 => ?_)
  ·
   have h0 := written_no hc2
   refine AW.seq (AW.region ?_)
   refine AOL.p (P_callf (by kernel_rfl) rfl rfl (l_awake)) rfl ?_
   refine AOL.p (P_move (v := .bool _) rfl) rfl ?_
   refine AOL.g (y := .str _) _ [] rfl (EntL.all trivial) (fun hG => P_move (v := .str _) rfl) rfl ?_
   refine AOL.g (y := .bool _) _ [(21, _)] rfl (EntL.all ⟨Ent.self _ _, trivial⟩) (fun hG => P_eql_str rfl rfl) rfl ?_
   refine AOL.p (P_pick_and rfl rfl rfl) rfl ?_
   refine AOL.p (P_move (v := .bool _) rfl) rfl ?_
   refine AOL.g (y := .agg _) _ [] rfl (EntL.all trivial) (fun hG => P_load_ptr_agg (l := [.int .i64 _, .str _, .str _, .int .i64 _, _, .int .i64 _]) tok rfl rfl rfl rfl rfl) rfl ?_
   refine AOL.g (y := .int .i64 _) _ [(25, _)] rfl (EntL.all ⟨Ent.self _ _, trivial⟩) (fun hG => P_callf (by kernel_rfl) rfl rfl (w_Check t hf)) rfl ?_
   refine AOL.g (y := .int .i64 _) _ [] rfl (EntL.all trivial) (fun hG => P_move (v := .int .i64 _) rfl) rfl ?_
   refine AOL.g (y := .bool _) _ [(26, _), (27, _)] rfl (EntL.all ⟨Ent.self _ _, Ent.self _ _, trivial⟩) (fun hG => P_eql rfl rfl) rfl ?_
   refine AOL.p (P_pick_and rfl rfl rfl) rfl ?_
   refine AOL.p (P_assign (v := .bool _) rfl) rfl ?_
   refine AOL.nil (thenN ?_)
   refine AW.ret ?_
   refine thenR ?_
   refine ⟨.inr rfl, [.bool _], .cons (.tmp _ _ rfl) <| .nil, .refl _, ?_⟩
   exact congrArg AV.bool (by rw [h0]; simp)
  ·
   have hcb := c_back hc2
   refine AW.skip ?_
   refine thenN ?_
   refine AW.seq (AW.region ?_)
   refine AOL.p (P_move (v := .str _) rfl) rfl ?_
   refine AOL.p (P_callf (by kernel_rfl) rfl rfl (hcb.1)) rfl ?_
   refine AOL.p (P_move (v := .tuple _) rfl) rfl ?_
   refine AOL.p (P_extract (v := .agg [.int .i64 _, .str _, .str _, .int .i64 _, _, .int .i64 _]) rfl rfl) rfl ?_
   refine AOL.p (P_extract (v := .int .i64 _) rfl rfl) rfl ?_
   refine AOL.p (P_extract (v := .int .i64 _) rfl rfl) rfl ?_
   refine AOL.e (E_alloc (l := [.int .i64 0, .str [], .str [], .int .i64 0, .sl 6 [], .int .i64 0]) (by kernel_rfl)) rfl ?_
   rintro _ _ ⟨b5, rfl, rfl⟩
   refine AOL.e (E_store (k := 0) (v := .agg _) (cs' := [.int .i64 _, .str _, .str _, .int .i64 _, _, .int .i64 _]) (H2 := _ :: _) tok rfl rfl rfl rfl rfl rfl rfl rfl rfl) rfl ?_
   rintro _ _ ⟨rfl, rfl⟩
   refine AOL.p (P_assign (v := .int .i64 _) rfl) rfl ?_
   refine AOL.p (P_assign (v := .int .i64 _) rfl) rfl ?_
   refine AOL.ghost (GS.freeze (t := 5) 0 rfl rfl) ?_
   refine AOL.nil (thenN ?_)
   refine AW.seq (AW.region ?_)
   refine AOL.p (P_callf (by kernel_rfl) rfl rfl (l_awake)) rfl ?_
   refine AOL.p (P_move (v := .bool _) rfl) rfl ?_
   refine AOL.g (y := .int .i64 _) _ [] rfl (EntL.all trivial) (fun hG => P_move (v := .int .i64 _) rfl) rfl ?_
   refine AOL.g (y := .bool _) _ [(38, _)] rfl (EntL.all ⟨Ent.self _ _, trivial⟩) (fun hG => P_eql rfl rfl) rfl ?_
   refine AOL.p (P_pick_and rfl rfl rfl) rfl ?_
   refine AOL.p (P_move (v := .bool _) rfl) rfl ?_
   refine AOL.g (y := .int .i64 _) _ [] rfl (EntL.all trivial) (fun hG => P_move (v := .int .i64 _) rfl) rfl ?_
   refine AOL.g (y := .bool _) _ [(42, _)] rfl (EntL.all ⟨Ent.self _ _, trivial⟩) (fun hG => P_eql rfl rfl) rfl ?_
   refine AOL.p (P_pick_and rfl rfl rfl) rfl ?_
   refine AOL.p (P_move (v := .bool _) rfl) rfl ?_
   refine AOL.g (y := .agg _) _ [] rfl (EntL.all trivial) (fun hG => P_load_ptr_agg (l := [.int .i64 _, .str _, .str _, .int .i64 _, _, .int .i64 _]) tok rfl rfl rfl rfl rfl) rfl ?_
   refine AOL.g (y := .agg _) _ [] rfl (EntL.all trivial) (fun hG => P_load_ptr_agg (l := [.int .i64 _, .str _, .str _, .int .i64 _, _, .int .i64 _]) tok rfl rfl rfl rfl rfl) rfl ?_
   refine AOL.g (y := .bool _) _ [(46, _), (47, _)] rfl (EntL.all ⟨Ent.self _ _, Ent.self _ _, trivial⟩) (fun hG => P_callf (by kernel_rfl) rfl rfl (r_Same t _)) rfl ?_
   refine AOL.p (P_pick_and rfl rfl rfl) rfl ?_
   refine AOL.p (P_move (v := .bool _) rfl) rfl ?_
   refine AOL.g (y := .agg _) _ [] rfl (EntL.all trivial) (fun hG => P_load_ptr_agg (l := [.int .i64 _, .str _, .str _, .int .i64 _, _, .int .i64 _]) tok rfl rfl rfl rfl rfl) rfl ?_
   refine AOL.g (y := .int .i64 _) _ [(51, _)] rfl (EntL.all ⟨Ent.self _ _, trivial⟩) (fun hG => P_callf (by kernel_rfl) rfl rfl (w_Check t hf)) rfl ?_
   refine AOL.g (y := .bool _) _ [(52, _)] rfl (EntL.all ⟨Ent.self _ _, trivial⟩) (fun hG => P_eql rfl rfl) rfl ?_
   refine AOL.p (P_pick_and rfl rfl rfl) rfl ?_
   refine AOL.p (P_assign (v := .bool _) rfl) rfl ?_
   refine AOL.nil (thenN ?_)
   refine AW.ret ?_
   refine ⟨.inr rfl, [.bool _], .cons (.tmp _ _ rfl) <| .nil, .refl _, ?_⟩
   exact congrArg AV.bool (by rw [hcb.2.1, hcb.2.2]; rfl)

end Go.Proofs.YtabkeeedkhgodaaGreatDoor
