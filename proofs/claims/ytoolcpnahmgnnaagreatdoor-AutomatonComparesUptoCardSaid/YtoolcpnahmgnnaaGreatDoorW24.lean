/-
  Walks of layer 23: the law of compared automata. No condition.
-/
import Derived.Test.YtoolcpnahmgnnaaGreatDoorW23
import Derived.KernelRfl
namespace Go.Proofs.YtoolcpnahmgnnaaGreatDoor
open Go Go.Aw
set_option linter.unusedVariables false
set_option linter.unusedSimpArgs false

def isoV (a b : Au) : Bool := !(((a.vars != b.vars) || (a.scopes != b.scopes)) || !((isoD a b).1))
theorem isoS_v {a b : Au} (ha : Wf a) (hb : Wf b) : (isoS a b).2 = (isoV a b, 0) := by
  cases h : (((a.vars != b.vars) || (a.scopes != b.scopes)) || !((isoD a b).1))
  · rw [isoS_yes (check_wf.2 ha) (check_wf.2 hb) h]; unfold isoV; rw [h]; rfl
  · rw [isoS_no (check_wf.2 ha) (check_wf.2 hb) h]; unfold isoV; rw [h]; rfl
theorem bne_swap (x y : Int) : (x != y) = (y != x) := congrArg (fun b => !b) (beq_comm_int x y)
theorem isoV_swap {a b : Au} (ha : Wf a) (hb : Wf b) : isoV b a = isoV a b := by
  unfold isoV
  rw [(iso_swap ha hb).1, bne_swap b.vars, bne_swap b.scopes]
theorem isoV_no {a b : Au} (ha : Wf a) (hb : Wf b) (h : isoV a b = false) : (isoS a b).1 = [] := by
  unfold isoV at h
  rw [Bool.not_eq_false'] at h
  rw [isoS_no (check_wf.2 ha) (check_wf.2 hb) h]
theorem isoV_yes {a b : Au} (ha : Wf a) (hb : Wf b) (h : isoV a b = true) : (isoS a b).1 = (isoD a b).2.1 ∧ (isoD a b).1 = true := by
  unfold isoV at h
  rw [Bool.not_eq_true'] at h
  exact ⟨by rw [isoS_yes (check_wf.2 ha) (check_wf.2 hb) h], by have := (Bool.or_eq_false_iff.1 h).2; simpa using this⟩
theorem c_isoAB {a b : Au} (ha : Wf a) (hb : Wf b) (sa : Sm a) (sb : Sm b) : APure Tryz.prog 18 [.agg (cAu a), .agg (cAu b)] (.tuple [.sl 1 ((isoS a b).1.map cI), .bool (isoV a b), .int .i64 0]) := by
  have h := a_Isomorphic a b sa sb
  rwa [isoS_v ha hb] at h
theorem c_isoBA {a b : Au} (ha : Wf a) (hb : Wf b) (sa : Sm a) (sb : Sm b) : APure Tryz.prog 18 [.agg (cAu b), .agg (cAu a)] (.tuple [.sl 1 ((isoS b a).1.map cI), .bool (isoV a b), .int .i64 0]) := by
  have h := a_Isomorphic b a sb sa
  rwa [isoS_v hb ha, isoV_swap ha hb] at h
theorem c_edges {a : Au} (hw : Wf a) (sa : Sm a) {s : Int} (hs : InR a.states.length s) : APure Tryz.prog 24 [.agg (cAu a), .int .i64 s] (.tuple [.sl 17 ((fromS a.edges s).map cEd), .int .i64 0]) := by
  have h := a_Edges a s sa
  have h9 : edgesS a s = (fromS a.edges s, 0) := by
    unfold edgesS
    rw [if_neg (by rw [chk0 hw]; decide), if_neg]
    have h1 := hs.1
    have h2 := hs.lt
    simp only [inS, Bool.not_eq_true', Bool.and_eq_false_iff, decide_eq_false_iff_not]
    omega
  rwa [h9] at h
theorem from_sm {a : Au} (sa : Sm a) (s : Int) : ∀ x ∈ fromS a.edges s, EdSm x := fun x hx => sa.e x (List.mem_filter.1 hx).1
theorem wf_two {a b : Au} {x y : Bool} (h : (((!x || !y) || (checkA a != 0)) || (checkA b != 0)) = false) : Wf a ∧ Wf b := by
  have h1 := Bool.or_eq_false_iff.1 h
  have h2 := Bool.or_eq_false_iff.1 h1.1
  exact ⟨check_wf.1 (by simpa using h2.2), check_wf.1 (by simpa using h1.2)⟩
theorem c_same {a b : Au} (sa : Sm a) (s t : Int) : APure Tryz.prog 30 [.sl 17 ((fromS a.edges s).map cEd), .sl 17 ((fromS b.edges t).map cEd), .fn (.func 31) [] []] (.bool (allTwo sameEd (fromS a.edges s) (fromS b.edges t))) :=
  s_eqE 31 (by kernel_rfl) [] sameEd _ _ fun x hx y _ => r22_Edge x y (from_sm sa s x hx)
set_option maxRecDepth 20000 in
set_option maxHeartbeats 3200000 in
theorem l_AutomatonCompares (a b : Au) (sa : Sm a) (sb : Sm b) : APure Tryz.prog 8 [.agg (cAu a), .agg (cAu b)] (.bool true) := by
  refine APure.body (n := 145) tok Tryz.func8 rfl rfl rfl fun H => ?_
  refine AW.seq ?_
  refine AW.region ?_
  refine AOL.p (P_box (v := .agg _) (cs := [.int .i64 _, .int .i64 _, _, _]) rfl rfl rfl) rfl ?_
  refine AOL.p (P_box (v := .agg _) (cs := [.int .i64 _, .int .i64 _, _, _]) rfl rfl rfl) rfl ?_
  refine AOL.p (P_assign (v := .bool _) rfl) rfl ?_
  refine AOL.nil ?_
  refine thenN ?_
  refine AW.seq ?_
  refine AW.seq ?_
  refine AW.region ?_
  refine AOL.p (P_load_ptr_agg (l := [.int .i64 _, .int .i64 _, _, _]) tok rfl rfl rfl rfl rfl) rfl ?_
  refine AOL.p (P_callf (by kernel_rfl) rfl rfl (r_Few a sa)) rfl ?_
  refine AOL.p (P_not rfl) rfl ?_
  refine AOL.p (P_move (v := .bool _) rfl) rfl ?_
  refine AOL.g (y := .agg _) _ [] rfl (EntL.all trivial) (fun hG => P_load_ptr_agg (l := [.int .i64 _, .int .i64 _, _, _]) tok rfl rfl rfl rfl rfl) rfl ?_
  refine AOL.g (y := .bool _) _ [(21, _)] rfl (EntL.all ⟨Ent.self _ _, trivial⟩) (fun hG => P_callf (by kernel_rfl) rfl rfl (r_Few b sb)) rfl ?_
  refine AOL.g (y := .bool _) _ [(22, _)] rfl (EntL.all ⟨Ent.self _ _, trivial⟩) (fun hG => P_not rfl) rfl ?_
  refine AOL.p (P_pick_or rfl rfl rfl) rfl ?_
  refine AOL.p (P_move (v := .bool _) rfl) rfl ?_
  refine AOL.g (y := .agg _) _ [] rfl (EntL.all trivial) (fun hG => P_load_ptr_agg (l := [.int .i64 _, .int .i64 _, _, _]) tok rfl rfl rfl rfl rfl) rfl ?_
  refine AOL.g (y := .int .i64 _) _ [(26, _)] rfl (EntL.all ⟨Ent.self _ _, trivial⟩) (fun hG => P_callf (by kernel_rfl) rfl rfl (a_Check a sa)) rfl ?_
  refine AOL.g (y := .bool _) _ [(27, _)] rfl (EntL.all ⟨Ent.self _ _, trivial⟩) (fun hG => P_neq rfl rfl) rfl ?_
  refine AOL.p (P_pick_or rfl rfl rfl) rfl ?_
  refine AOL.p (P_move (v := .bool _) rfl) rfl ?_
  refine AOL.g (y := .agg _) _ [] rfl (EntL.all trivial) (fun hG => P_load_ptr_agg (l := [.int .i64 _, .int .i64 _, _, _]) tok rfl rfl rfl rfl rfl) rfl ?_
  refine AOL.g (y := .int .i64 _) _ [(31, _)] rfl (EntL.all ⟨Ent.self _ _, trivial⟩) (fun hG => P_callf (by kernel_rfl) rfl rfl (a_Check b sb)) rfl ?_
  refine AOL.g (y := .bool _) _ [(32, _)] rfl (EntL.all ⟨Ent.self _ _, trivial⟩) (fun hG => P_neq rfl rfl) rfl ?_
  refine AOL.p (P_pick_or rfl rfl rfl) rfl ?_
  refine AOL.nil ?_
  refine thenN ?_
  refine AW.cond (b := _) rfl (fun hc1 => ?_) (fun hc1 => ?_)
  · skip
    refine AW.seq ?_
    refine AW.region ?_
    refine AOL.p (P_callf (by kernel_rfl) rfl rfl (l_awake)) rfl ?_
    refine AOL.p (P_assign (v := .bool _) rfl) rfl ?_
    refine AOL.nil ?_
    refine thenN ?_
    refine AW.ret ?_
    refine thenR ?_
    refine ⟨.inr rfl, [.bool _], .cons (.tmp _ _ rfl) <| .nil, .refl _, ?_⟩
    simp [resOf]
  · skip
    have hwa : Wf a := (wf_two hc1).1
    have hwb : Wf b := (wf_two hc1).2
    have hsn := hwa.most
    have hsm := hwb.most
    refine AW.skip ?_
    refine thenN ?_
    refine AW.seq ?_
    refine AW.region ?_
    refine AOL.p (P_load_ptr_agg (l := [.int .i64 _, .int .i64 _, _, _]) tok rfl rfl rfl rfl rfl) rfl ?_
    refine AOL.p (P_load_ptr_agg (l := [.int .i64 _, .int .i64 _, _, _]) tok rfl rfl rfl rfl rfl) rfl ?_
    refine AOL.p (P_callf (by kernel_rfl) rfl rfl (c_isoAB hwa hwb sa sb)) rfl ?_
    refine AOL.p (P_move (v := .tuple _) rfl) rfl ?_
    refine AOL.p (P_extract (v := .sl _ _) rfl rfl) rfl ?_
    refine AOL.p (P_extract (v := .bool _) rfl rfl) rfl ?_
    refine AOL.p (P_extract (v := .int .i64 _) rfl rfl) rfl ?_
    refine AOL.p (P_assign (v := .sl _ _) rfl) rfl ?_
    refine AOL.p (P_assign (v := .bool _) rfl) rfl ?_
    refine AOL.p (P_assign (v := .int .i64 _) rfl) rfl ?_
    refine AOL.nil ?_
    refine thenN ?_
    refine AW.seq ?_
    refine AW.region ?_
    refine AOL.p (P_load_ptr_agg (l := [.int .i64 _, .int .i64 _, _, _]) tok rfl rfl rfl rfl rfl) rfl ?_
    refine AOL.p (P_load_ptr_agg (l := [.int .i64 _, .int .i64 _, _, _]) tok rfl rfl rfl rfl rfl) rfl ?_
    refine AOL.p (P_callf (by kernel_rfl) rfl rfl (c_isoBA hwa hwb sa sb)) rfl ?_
    refine AOL.p (P_move (v := .tuple _) rfl) rfl ?_
    refine AOL.p (P_extract (v := .sl _ _) rfl rfl) rfl ?_
    refine AOL.p (P_extract (v := .bool _) rfl rfl) rfl ?_
    refine AOL.p (P_extract (v := .int .i64 _) rfl rfl) rfl ?_
    refine AOL.p (P_assign (v := .sl _ _) rfl) rfl ?_
    refine AOL.p (P_assign (v := .bool _) rfl) rfl ?_
    refine AOL.p (P_assign (v := .int .i64 _) rfl) rfl ?_
    refine AOL.nil ?_
    refine thenN ?_
    refine AW.seq ?_
    refine AW.seq ?_
    refine AW.region ?_
    refine AOL.p (P_move (v := .int .i64 _) rfl) rfl ?_
    refine AOL.p (P_neq rfl rfl) rfl ?_
    refine AOL.p (P_move (v := .bool _) rfl) rfl ?_
    refine AOL.g (y := .int .i64 _) _ [] rfl (EntL.all trivial) (fun hG => P_move (v := .int .i64 _) rfl) rfl ?_
    refine AOL.g (y := .bool _) _ [(53, _)] rfl (EntL.all ⟨Ent.self _ _, trivial⟩) (fun hG => P_neq rfl rfl) rfl ?_
    refine AOL.p (P_pick_or rfl rfl rfl) rfl ?_
    refine AOL.p (P_move (v := .bool _) rfl) rfl ?_
    refine AOL.g (y := .bool _) _ [] rfl (EntL.all trivial) (fun hG => P_move (v := .bool _) rfl) rfl ?_
    refine AOL.g (y := .bool _) _ [] rfl (EntL.all trivial) (fun hG => P_move (v := .bool _) rfl) rfl ?_
    refine AOL.g (y := .bool _) _ [(57, _), (58, _)] rfl (EntL.all ⟨Ent.self _ _, Ent.self _ _, trivial⟩) (fun hG => P_neq_bool tok rfl rfl rfl rfl) rfl ?_
    refine AOL.p (P_pick_or rfl rfl rfl) rfl ?_
    refine AOL.nil ?_
    refine thenN ?_
    refine AW.cond (b := _) rfl (fun hc2 => ?_) (fun hc2 => ?_)
    · skip
      exact absurd hc2 (by simp)
    · skip
      refine AW.skip ?_
      refine thenN ?_
      refine AW.seq ?_
      refine AW.seq ?_
      refine AW.region ?_
      refine AOL.p (P_move (v := .bool _) rfl) rfl ?_
      refine AOL.p (P_not rfl) rfl ?_
      refine AOL.nil ?_
      refine thenN ?_
      refine AW.cond (b := _) rfl (fun hc3 => ?_) (fun hc3 => ?_)
      · skip
        have hv : isoV a b = false := by simpa using hc3
        have hE1 := isoV_no hwa hwb hv
        have hE2 := isoV_no hwb hwa ((isoV_swap hwa hwb).trans hv)
        refine AW.seq ?_
        refine AW.region ?_
        refine AOL.p (P_move (v := .sl _ _) rfl) rfl ?_
        refine AOL.p (P_len_sl (n := 0) tok rfl rfl rfl (by rw [hE1]; rfl)) rfl ?_
        refine AOL.p (P_eql rfl rfl) rfl ?_
        refine AOL.p (P_move (v := .bool _) rfl) rfl ?_
        refine AOL.g (y := .sl _ _) _ [] rfl (EntL.all trivial) (fun hG => P_move (v := .sl _ _) rfl) rfl ?_
        refine AOL.g (y := .int .i64 _) _ [(67, _)] rfl (EntL.all ⟨Ent.self _ _, trivial⟩) (fun hG => P_len_sl (n := 0) tok rfl rfl rfl (by rw [hE2]; rfl)) rfl ?_
        refine AOL.g (y := .bool _) _ [(68, _)] rfl (EntL.all ⟨Ent.self _ _, trivial⟩) (fun hG => P_eql rfl rfl) rfl ?_
        refine AOL.p (P_pick_and rfl rfl rfl) rfl ?_
        refine AOL.p (P_move (v := .bool _) rfl) rfl ?_
        refine AOL.g (y := .bool _) _ [] rfl (EntL.all trivial) (fun hG => P_callf (by kernel_rfl) rfl rfl (l_awake)) rfl ?_
        refine AOL.p (P_pick_and rfl rfl rfl) rfl ?_
        refine AOL.p (P_assign (v := .bool _) rfl) rfl ?_
        refine AOL.nil ?_
        refine thenN ?_
        refine AW.ret ?_
        refine thenR ?_
        refine ⟨.inr rfl, [.bool _], .cons (.tmp _ _ rfl) <| .nil, .refl _, ?_⟩
        simp [resOf]
      · skip
        have hv : isoV a b = true := by simpa using hc3
        have hL := isoV_yes hwa hwb hv
        have hM := isoV_yes hwb hwa ((isoV_swap hwa hwb).trans hv)
        have hF := (isoD_ok hwa hwb).1 hL.2
        have hMq : (isoS b a).1 = (isoD a b).2.2 := hM.1.trans ((iso_swap hwa hwb).2 hL.2)
        have hl1 : (isoS a b).1.length = a.states.length := by rw [hL.1]; exact hF.inv.l1
        have hl2 : (isoS b a).1.length = b.states.length := by rw [hMq]; exact hF.inv.l2
        have hz : (isoS a b).1[0]? = some (0 : Int) := by
          rw [hL.1, show (0 : Nat) = ((0 : Nat) : Nat) from rfl]
          have h9 := toS_at (l := (isoD a b).2.1) (k := 0) (by rw [hF.inv.l1]; exact hwa.pos)
          rw [h9]; exact congrArg some hF.zero
        refine AW.skip ?_
        refine thenN ?_
        refine AW.seq ?_
        refine AW.seq ?_
        refine AW.region ?_
        refine AOL.p (P_move (v := .sl _ _) rfl) rfl ?_
        refine AOL.p (P_len_sl (n := a.states.length) tok rfl rfl rfl (by rw [List.length_map]; exact hl1)) rfl ?_
        refine AOL.p (P_fieldAddr_ptr (cs' := [_, _]) tok rfl rfl rfl rfl rfl rfl) rfl ?_
        refine AOL.p (P_load_ptr (c := .sl _ _) tok rfl rfl rfl) rfl ?_
        refine AOL.p (P_len_sl (n := a.states.length) tok rfl rfl rfl (by simp)) rfl ?_
        refine AOL.p (P_neq rfl rfl) rfl ?_
        refine AOL.p (P_move (v := .bool _) rfl) rfl ?_
        refine AOL.g (y := .sl _ _) _ [] rfl (EntL.all trivial) (fun hG => P_move (v := .sl _ _) rfl) rfl ?_
        refine AOL.g (y := .int .i64 _) _ [(81, _)] rfl (EntL.all ⟨Ent.self _ _, trivial⟩) (fun hG => P_len_sl (n := b.states.length) tok rfl rfl rfl (by rw [List.length_map]; exact hl2)) rfl ?_
        refine AOL.g (y := .ptr _) _ [] rfl (EntL.all trivial) (fun hG => P_fieldAddr_ptr (cs' := [_, _]) tok rfl rfl rfl rfl rfl rfl) rfl ?_
        refine AOL.g (y := .sl _ _) _ [(83, _)] rfl (EntL.all ⟨Ent.self _ _, trivial⟩) (fun hG => P_load_ptr (c := .sl _ _) tok rfl rfl rfl) rfl ?_
        refine AOL.g (y := .int .i64 _) _ [(84, _)] rfl (EntL.all ⟨Ent.self _ _, trivial⟩) (fun hG => P_len_sl (n := b.states.length) tok rfl rfl rfl (by simp)) rfl ?_
        refine AOL.g (y := .bool _) _ [(82, _), (85, _)] rfl (EntL.all ⟨Ent.self _ _, Ent.self _ _, trivial⟩) (fun hG => P_neq rfl rfl) rfl ?_
        refine AOL.p (P_pick_or rfl rfl rfl) rfl ?_
        refine AOL.p (P_move (v := .bool _) rfl) rfl ?_
        refine AOL.g (y := .sl _ _) _ [] rfl (EntL.all trivial) (fun hG => P_move (v := .sl _ _) rfl) rfl ?_
        refine AOL.g (y := .ptr _) _ [(89, _)] rfl (EntL.all ⟨Ent.self _ _, trivial⟩) (fun hG => P_indexAddr (c := [.int .i64 _]) tok rfl rfl rfl rfl rfl rfl (by decide) (cI_at hz)) rfl ?_
        refine AOL.g (y := .int .i64 _) _ [(90, _)] rfl (EntL.all ⟨Ent.self _ _, trivial⟩) (fun hG => P_load_ptr (c := .int .i64 _) tok rfl rfl rfl) rfl ?_
        refine AOL.g (y := .bool _) _ [(91, _)] rfl (EntL.all ⟨Ent.self _ _, trivial⟩) (fun hG => P_neq rfl rfl) rfl ?_
        refine AOL.p (P_pick_or rfl rfl rfl) rfl ?_
        refine AOL.nil ?_
        refine thenN ?_
        refine AW.cond (b := _) rfl (fun hc4 => ?_) (fun hc4 => ?_)
        · skip
          exact absurd hc4 (by simp)
        · skip
          refine AW.skip ?_
          refine thenN ?_
          refine AW.seq ?_
          refine AW.seq ?_
          refine AW.region ?_
          refine AOL.p (P_move (v := .sl _ _) rfl) rfl ?_
          refine AOL.p (P_len_sl (n := a.states.length) tok rfl rfl rfl (by rw [List.length_map]; exact hl1)) rfl ?_
          refine AOL.p (P_move (v := .int .i64 _) rfl) rfl ?_
          refine AOL.nil ?_
          refine thenN ?_
          refine AW.block ?_
          refine AW.loopS (fun (k : Nat) => (⟨[(2, .ptr (cAu a)), (3, .ptr (cAu b)), (8, .sl 1 ((isoS b a).1.map cI)), (94, .sl 1 ((isoS a b).1.map cI)), (95, .int .i64 a.states.length), (96, .int .i64 (k : Int))], H, 145⟩ : St)) (fun (k : Nat) => k ≤ a.states.length) (fun (k : Nat) => a.states.length - k) (0) ?_ (GS.weaken ⟨rfl, rfl, rfl, rfl, rfl, rfl, trivial⟩ (.refl _)) ?_
          · exact Nat.zero_le _
          · rintro k hR
            refine AW.seq ?_
            refine AW.region ?_
            refine AOL.p (P_lss rfl rfl) rfl ?_
            refine AOL.nil ?_
            refine thenN ?_
            refine AW.seq ?_
            refine AW.cond (b := _) rfl (fun hc5 => ?_) (fun hc5 => ?_)
            · skip
              have hlt : k < a.states.length := by have := of_decide_eq_true hc5; omega
              have hin : InR a.states.length (k : Int) := ⟨Int.natCast_nonneg _, by omega⟩
              have hlk : (isoS a b).1[k]? = some (toS (isoD a b).2.1 (k : Int)) := by rw [hL.1]; exact toS_at (by rw [hF.inv.l1]; exact hlt)
              refine AW.skip ?_
              refine thenN ?_
              refine AW.seq ?_
              refine AW.block ?_
              refine AW.seq ?_
              refine AW.region ?_
              refine AOL.p (P_move (v := .int .i64 _) rfl) rfl ?_
              refine AOL.p (P_indexAddr (c := [.int .i64 _]) tok rfl rfl rfl rfl rfl rfl (by omega) (cI_at hlk)) rfl ?_
              refine AOL.p (P_load_ptr (c := .int .i64 _) tok rfl rfl rfl) rfl ?_
              refine AOL.p (P_assign (v := .int .i64 _) rfl) rfl ?_
              refine AOL.p (P_assign (v := .int .i64 _) rfl) rfl ?_
              refine AOL.nil ?_
              refine thenN ?_
              refine AW.seq ?_
              refine AW.seq ?_
              refine AW.region ?_
              refine AOL.p (P_move (v := .int .i64 _) rfl) rfl ?_
              refine AOL.p (P_eql rfl rfl) rfl ?_
              refine AOL.nil ?_
              refine thenN ?_
              refine AW.cond (b := _) rfl (fun hc6 => ?_) (fun hc6 => ?_)
              · skip
                refine AW.exit ?_
                refine thenE ?_
                refine blkHit ?_
                refine thenN ?_
                refine AW.region ?_
                refine AOL.p (P_add rfl rfl rfl (by constructor <;> omega)) rfl ?_
                refine AOL.p (P_move (v := .int .i64 _) rfl) rfl ?_
                refine AOL.nil ?_
                refine thenN ?_
                refine ⟨k + 1, ?_, ?_, GS.weaken ⟨rfl, rfl, rfl, rfl, rfl, rfl, trivial⟩ (.refl _)⟩
                · omega
                · omega
              · skip
                have hne : (toS (isoD a b).2.1 (k : Int)) ≠ -1 := by simpa using hc6
                have hge : 0 ≤ (toS (isoD a b).2.1 (k : Int)) := by
                  rcases Int.lt_or_le (toS (isoD a b).2.1 (k : Int)) 0 with h9 | h9
                  · exact absurd (hF.inv.neg _ hin h9) hne
                  · exact h9
                have hkv := hF.inv.to _ hin hge
                have hlt2 := hkv.1.lt
                have hmk : (isoS b a).1[(toS (isoD a b).2.1 (k : Int)).toNat]? = some (k : Int) := by
                  have h9 := toS_at (l := (isoD a b).2.2) (k := (toS (isoD a b).2.1 (k : Int)).toNat) (by rw [hF.inv.l2]; exact hkv.1.2)
                  rw [Int.toNat_of_nonneg hge, hkv.2] at h9
                  rw [hMq]; exact h9
                refine AW.skip ?_
                refine thenN ?_
                refine AW.seq ?_
                refine AW.seq ?_
                refine AW.region ?_
                refine AOL.p (P_move (v := .int .i64 _) rfl) rfl ?_
                refine AOL.p (P_lss rfl rfl) rfl ?_
                refine AOL.p (P_move (v := .bool _) rfl) rfl ?_
                refine AOL.g (y := .int .i64 _) _ [] rfl (EntL.all trivial) (fun hG => P_move (v := .int .i64 _) rfl) rfl ?_
                refine AOL.g (y := .sl _ _) _ [] rfl (EntL.all trivial) (fun hG => P_move (v := .sl _ _) rfl) rfl ?_
                refine AOL.g (y := .int .i64 _) _ [(107, _)] rfl (EntL.all ⟨Ent.self _ _, trivial⟩) (fun hG => P_len_sl (n := b.states.length) tok rfl rfl rfl (by rw [List.length_map]; exact hl2)) rfl ?_
                refine AOL.g (y := .bool _) _ [(106, _), (108, _)] rfl (EntL.all ⟨Ent.self _ _, Ent.self _ _, trivial⟩) (fun hG => P_geq rfl rfl) rfl ?_
                refine AOL.p (P_pick_or rfl rfl rfl) rfl ?_
                refine AOL.p (P_move (v := .bool _) rfl) rfl ?_
                refine AOL.g (y := .sl _ _) _ [] rfl (EntL.all trivial) (fun hG => P_move (v := .sl _ _) rfl) rfl ?_
                refine AOL.g (y := .int .i64 _) _ [] rfl (EntL.all trivial) (fun hG => P_move (v := .int .i64 _) rfl) rfl ?_
                refine AOL.g (y := .ptr _) _ [(112, _), (113, _)] rfl (EntL.all ⟨Ent.self _ _, Ent.self _ _, trivial⟩) (fun hG => P_indexAddr (c := [.int .i64 _]) tok rfl rfl rfl rfl rfl rfl (hge) (cI_at hmk)) rfl ?_
                refine AOL.g (y := .int .i64 _) _ [(114, _)] rfl (EntL.all ⟨Ent.self _ _, trivial⟩) (fun hG => P_load_ptr (c := .int .i64 _) tok rfl rfl rfl) rfl ?_
                refine AOL.g (y := .int .i64 _) _ [] rfl (EntL.all trivial) (fun hG => P_move (v := .int .i64 _) rfl) rfl ?_
                refine AOL.g (y := .bool _) _ [(115, _), (116, _)] rfl (EntL.all ⟨Ent.self _ _, Ent.self _ _, trivial⟩) (fun hG => P_neq rfl rfl) rfl ?_
                refine AOL.p (P_pick_or rfl rfl rfl) rfl ?_
                refine AOL.nil ?_
                refine thenN ?_
                refine AW.cond (b := _) rfl (fun hc7 => ?_) (fun hc7 => ?_)
                · skip
                  exact absurd hc7 (by simp; omega)
                · skip
                  have hall : allTwo sameEd (fromS a.edges (k : Int)) (fromS b.edges (toS (isoD a b).2.1 (k : Int))) = true := Mt.all (hF.clo _ hin hge).2
                  refine AW.skip ?_
                  refine thenN ?_
                  refine AW.seq ?_
                  refine AW.region ?_
                  refine AOL.p (P_load_ptr_agg (l := [.int .i64 _, .int .i64 _, _, _]) tok rfl rfl rfl rfl rfl) rfl ?_
                  refine AOL.p (P_move (v := .int .i64 _) rfl) rfl ?_
                  refine AOL.p (P_callf (by kernel_rfl) rfl rfl (c_edges hwa sa hin)) rfl ?_
                  refine AOL.p (P_move (v := .tuple _) rfl) rfl ?_
                  refine AOL.p (P_extract (v := .sl _ _) rfl rfl) rfl ?_
                  refine AOL.p (P_extract (v := .int .i64 _) rfl rfl) rfl ?_
                  refine AOL.p (P_assign (v := .sl _ _) rfl) rfl ?_
                  refine AOL.p (P_assign (v := .int .i64 _) rfl) rfl ?_
                  refine AOL.nil ?_
                  refine thenN ?_
                  refine AW.seq ?_
                  refine AW.region ?_
                  refine AOL.p (P_load_ptr_agg (l := [.int .i64 _, .int .i64 _, _, _]) tok rfl rfl rfl rfl rfl) rfl ?_
                  refine AOL.p (P_move (v := .int .i64 _) rfl) rfl ?_
                  refine AOL.p (P_callf (by kernel_rfl) rfl rfl (c_edges hwb sb hkv.1)) rfl ?_
                  refine AOL.p (P_move (v := .tuple _) rfl) rfl ?_
                  refine AOL.p (P_extract (v := .sl _ _) rfl rfl) rfl ?_
                  refine AOL.p (P_extract (v := .int .i64 _) rfl rfl) rfl ?_
                  refine AOL.p (P_assign (v := .sl _ _) rfl) rfl ?_
                  refine AOL.p (P_assign (v := .int .i64 _) rfl) rfl ?_
                  refine AOL.nil ?_
                  refine thenN ?_
                  refine AW.seq ?_
                  refine AW.region ?_
                  refine AOL.p (P_move (v := .int .i64 _) rfl) rfl ?_
                  refine AOL.p (P_neq rfl rfl) rfl ?_
                  refine AOL.p (P_move (v := .bool _) rfl) rfl ?_
                  refine AOL.g (y := .int .i64 _) _ [] rfl (EntL.all trivial) (fun hG => P_move (v := .int .i64 _) rfl) rfl ?_
                  refine AOL.g (y := .bool _) _ [(134, _)] rfl (EntL.all ⟨Ent.self _ _, trivial⟩) (fun hG => P_neq rfl rfl) rfl ?_
                  refine AOL.p (P_pick_or rfl rfl rfl) rfl ?_
                  refine AOL.p (P_move (v := .bool _) rfl) rfl ?_
                  refine AOL.g (y := .sl _ _) _ [] rfl (EntL.all trivial) (fun hG => P_move (v := .sl _ _) rfl) rfl ?_
                  refine AOL.g (y := .sl _ _) _ [] rfl (EntL.all trivial) (fun hG => P_move (v := .sl _ _) rfl) rfl ?_
                  refine AOL.g (y := .bool _) _ [(138, _), (139, _)] rfl (EntL.all ⟨Ent.self _ _, Ent.self _ _, trivial⟩) (fun hG => P_callf (by kernel_rfl) rfl rfl (c_same sa _ _)) rfl ?_
                  refine AOL.g (y := .bool _) _ [(140, _)] rfl (EntL.all ⟨Ent.self _ _, trivial⟩) (fun hG => P_not rfl) rfl ?_
                  refine AOL.p (P_pick_or rfl rfl rfl) rfl ?_
                  refine AOL.nil ?_
                  refine thenN ?_
                  refine AW.cond (b := _) rfl (fun hc8 => ?_) (fun hc8 => ?_)
                  · skip
                    exact absurd hc8 (by rw [hall]; simp)
                  · skip
                    refine AW.skip ?_
                    refine blkN ?_
                    refine thenN ?_
                    refine AW.region ?_
                    refine AOL.p (P_add rfl rfl rfl (by constructor <;> omega)) rfl ?_
                    refine AOL.p (P_move (v := .int .i64 _) rfl) rfl ?_
                    refine AOL.nil ?_
                    refine thenN ?_
                    refine ⟨k + 1, ?_, ?_, GS.weaken ⟨rfl, rfl, rfl, rfl, rfl, rfl, trivial⟩ (.refl _)⟩
                    · omega
                    · omega
            · skip
              refine AW.exit ?_
              refine thenE ?_
              refine thenE ?_
              refine blkHit ?_
              refine thenN ?_
              refine AW.seq ?_
              refine AW.region ?_
              refine AOL.p (P_callf (by kernel_rfl) rfl rfl (l_awake)) rfl ?_
              refine AOL.p (P_assign (v := .bool _) rfl) rfl ?_
              refine AOL.nil ?_
              refine thenN ?_
              refine AW.ret ?_
              refine ⟨.inr rfl, [.bool _], .cons (.tmp _ _ rfl) <| .nil, .refl _, ?_⟩
              simp [resOf]

end Go.Proofs.YtoolcpnahmgnnaaGreatDoor
