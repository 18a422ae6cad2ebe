/-
  Walks of layer 8: ExprKeeps, ExprRenames. No condition.
-/
import Derived.Test.YtkkacfnkjiijkaaW18
import Derived.Test.YtkkacfnkjiijkaaW17
import Derived.Test.YtkkacfnkjiijkaaM7
import Derived.KernelRfl
namespace Go.Proofs.Ytkkacfnkjiijkaa
open Go Go.Aw
set_option linter.unusedVariables false
set_option linter.unusedSimpArgs false

theorem few_two (a b : Ex) (hs : sizeN a ≤ 1048576) (hs' : sizeN b ≤ 1048576) : APure Try.prog 11 [.sl 8 [cE a, cE b]] (.bool (fewE a && fewE b)) := by
  have := c11 [a, b] (by simp) (by simp [hs, hs'])
  simpa [encE_eq] using this
theorem fold_err {e : Ex} (h : ((FoldS e).2 != 0) = true) : (FoldS e).2 = checkS e := by
  unfold FoldS at h ⊢
  by_cases hc : (checkS e != 0) = true
  · rw [if_pos hc]
  · rw [if_neg hc] at h; cases h
theorem fold_fine {e : Ex} (h : ((FoldS e).2 != 0) = false) : checkS e = 0 ∧ FoldS e = (rebS FZ e, 0) := by
  unfold FoldS at h ⊢
  by_cases hc : (checkS e != 0) = true
  · rw [if_pos hc] at h; simp at h hc; exact absurd h hc
  · rw [if_neg hc]; exact ⟨by simpa using hc, rfl⟩
theorem ren_size' (e : Ex) (to : List Int) (hs : sizeN e ≤ 1048576) : sizeN (RenameS e to).1 ≤ 1048576 := by
  have h0 : sizeN ex0 ≤ 1048576 := by decide
  unfold RenameS renS
  split
  · exact h0
  · split
    · exact h0
    · show sizeN (rebS (renNodeS to) e) ≤ _
      rw [ren_size]; exact hs

set_option maxRecDepth 20000 in
set_option maxHeartbeats 1600000 in
theorem c5 (e : Ex) (hs : sizeN e ≤ 1048576) (vars : List (List Ev)) (own : Int) (ev : Ev) (hv : vars.length ≤ 1048576) (hx : ∀ l ∈ vars, l.length ≤ 1048576) : APure Try.prog 5 [.agg (cE e), .agg (cP (vars, own, ev))] (.bool true) := by
  refine APure.body (n := 93) tok Try.func5 rfl rfl rfl fun H => ?_
  refine AW.seq ?_
  refine AW.region ?_
  refine AOL.p (P_box (v := .agg _) (cs := [.int .i64 _, _, .int .i64 _, .int .i64 _, .int .i64 _, .int .i64 _, .int .i64 _, .str _]) rfl rfl rfl) rfl ?_
  refine AOL.p (P_box (v := .agg _) (cs := [_, .int .i64 _, .int .i64 _, .int .i64 _, .int .i64 _, .int .i64 _, _]) rfl rfl rfl) rfl ?_
  refine AOL.p (P_assign (v := .bool _) rfl) rfl ?_
  refine AOL.nil ?_
  refine thenN ?_
  refine AW.seq ?_
  refine AW.seq ?_
  refine AW.region ?_
  refine AOL.p (P_load_ptr_agg (l := [.int .i64 _, _, .int .i64 _, .int .i64 _, .int .i64 _, .int .i64 _, .int .i64 _, .str _]) tok rfl rfl rfl rfl rfl) rfl ?_
  refine AOL.p (P_buildSlice (es := [[.int .i64 _, _, .int .i64 _, .int .i64 _, .int .i64 _, .int .i64 _, .int .i64 _, .str _]]) tok rfl rfl rfl rfl rfl rfl rfl rfl rfl) rfl ?_
  refine AOL.p (P_callf (by kernel_rfl) rfl rfl (few_one e hs)) rfl ?_
  refine AOL.p (P_not rfl) rfl ?_
  refine AOL.p (P_move (v := .bool _) rfl) rfl ?_
  refine AOL.g (y := .ptr _) _ [] rfl (EntL.all trivial) (fun hG => P_fieldAddr_ptr (cs' := [_, .int .i64 _, .int .i64 _, .int .i64 _, .int .i64 _, .int .i64 _, _]) tok rfl rfl rfl rfl rfl rfl) rfl ?_
  refine AOL.g (y := .agg _) _ [(18, _)] rfl (EntL.all ⟨Ent.self _ _, trivial⟩) (fun hG => P_load_ptr_agg (l := [_]) tok rfl rfl rfl rfl rfl) rfl ?_
  refine AOL.g (y := .bool _) _ [(19, _)] rfl (EntL.all ⟨Ent.self _ _, trivial⟩) (fun hG => P_callf (by kernel_rfl) rfl rfl (c12 vars hv hx)) rfl ?_
  refine AOL.g (y := .bool _) _ [(20, _)] rfl (EntL.all ⟨Ent.self _ _, trivial⟩) (fun hG => P_not rfl) rfl ?_
  refine AOL.p (P_pick_or rfl rfl rfl) rfl ?_
  refine AOL.p (P_move (v := .bool _) rfl) rfl ?_
  refine AOL.g (y := .ptr _) _ [] rfl (EntL.all trivial) (fun hG => P_fieldAddr_ptr (cs' := [.int .i64 _, .int .i64 _, .int .i64 _, .int .i64 _, _]) tok rfl rfl rfl rfl rfl rfl) rfl ?_
  refine AOL.g (y := .ptr _) _ [(24, _)] rfl (EntL.all ⟨Ent.self _ _, trivial⟩) (fun hG => P_fieldAddr_ptr (cs' := [_]) tok rfl rfl rfl rfl rfl rfl) rfl ?_
  refine AOL.g (y := .sl _ _) _ [(25, _)] rfl (EntL.all ⟨Ent.self _ _, trivial⟩) (fun hG => P_load_ptr (c := .sl _ _) tok rfl rfl rfl) rfl ?_
  refine AOL.g (y := .int .i64 _) _ [(26, _)] rfl (EntL.all ⟨Ent.self _ _, trivial⟩) (fun hG => P_len_sl (n := ev.values.length) tok rfl rfl rfl (by simp)) rfl ?_
  refine AOL.g (y := .bool _) _ [(27, _)] rfl (EntL.all ⟨Ent.self _ _, trivial⟩) (fun hG => P_gtr rfl rfl) rfl ?_
  refine AOL.p (P_pick_or rfl rfl rfl) rfl ?_
  refine AOL.nil ?_
  refine thenN ?_
  refine AW.cond (b := _) rfl (fun hc1 => ?_) (fun hc1 => ?_)
  · skip
    refine AW.seq ?_
    refine AW.region ?_
    refine AOL.p (P_callf (by kernel_rfl) rfl rfl (c13)) rfl ?_
    refine AOL.p (P_assign (v := .bool _) rfl) rfl ?_
    refine AOL.nil ?_
    refine thenN ?_
    refine AW.ret ?_
    refine thenR ?_
    refine ⟨.inr rfl, [.bool _], .cons (.tmp _ _ rfl) <| .nil, .refl _, ?_⟩
    rfl
  · skip
    refine AW.skip ?_
    refine thenN ?_
    refine AW.seq ?_
    refine AW.region ?_
    refine AOL.p (P_load_ptr_agg (l := [.int .i64 _, _, .int .i64 _, .int .i64 _, .int .i64 _, .int .i64 _, .int .i64 _, .str _]) tok rfl rfl rfl rfl rfl) rfl ?_
    refine AOL.p (P_callf (by kernel_rfl) rfl rfl (c18 e hs)) rfl ?_
    refine AOL.p (P_move (v := .tuple _) rfl) rfl ?_
    refine AOL.p (P_extract (v := .agg [.int .i64 _, _, .int .i64 _, .int .i64 _, .int .i64 _, .int .i64 _, .int .i64 _, .str _]) rfl rfl) rfl ?_
    refine AOL.p (P_extract (v := .int .i64 _) rfl rfl) rfl ?_
    refine AOL.e (E_alloc (l := [.int .i64 0, .sl 8 [], .int .i64 0, .int .i64 0, .int .i64 0, .int .i64 0, .int .i64 0, .str []]) (by kernel_rfl)) rfl ?_
    rintro _ _ ⟨b5, rfl, rfl⟩
    refine AOL.e (E_store (k := 0) (v := .agg _) (cs' := [.int .i64 _, _, .int .i64 _, .int .i64 _, .int .i64 _, .int .i64 _, .int .i64 _, .str _]) (H2 := _ :: _) tok rfl rfl rfl rfl rfl rfl rfl rfl rfl) rfl ?_
    rintro _ _ ⟨rfl, rfl⟩
    refine AOL.p (P_assign (v := .int .i64 _) rfl) rfl ?_
    refine AOL.ghost (GS.freeze (t := 5) 0 rfl rfl) ?_
    refine AOL.nil ?_
    refine thenN ?_
    refine AW.seq ?_
    refine AW.seq ?_
    refine AW.region ?_
    refine AOL.p (P_move (v := .int .i64 _) rfl) rfl ?_
    refine AOL.p (P_neq rfl rfl) rfl ?_
    refine AOL.nil ?_
    refine thenN ?_
    refine AW.cond (b := _) rfl (fun hc2 => ?_) (fun hc2 => ?_)
    · skip
      refine AW.seq ?_
      refine AW.region ?_
      refine AOL.p (P_callf (by kernel_rfl) rfl rfl (c13)) rfl ?_
      refine AOL.p (P_move (v := .bool _) rfl) rfl ?_
      refine AOL.g (y := .int .i64 _) _ [] rfl (EntL.all trivial) (fun hG => P_move (v := .int .i64 _) rfl) rfl ?_
      refine AOL.g (y := .agg _) _ [] rfl (EntL.all trivial) (fun hG => P_load_ptr_agg (l := [.int .i64 _, _, .int .i64 _, .int .i64 _, .int .i64 _, .int .i64 _, .int .i64 _, .str _]) tok rfl rfl rfl rfl rfl) rfl ?_
      refine AOL.g (y := .int .i64 _) _ [(41, _)] rfl (EntL.all ⟨Ent.self _ _, trivial⟩) (fun hG => P_callf (by kernel_rfl) rfl rfl (c21 e hs)) rfl ?_
      refine AOL.g (y := .bool _) _ [(40, _), (42, _)] rfl (EntL.all ⟨Ent.self _ _, Ent.self _ _, trivial⟩) (fun hG => P_eql rfl rfl) rfl ?_
      refine AOL.p (P_pick_and rfl rfl rfl) rfl ?_
      refine AOL.p (P_assign (v := .bool _) rfl) rfl ?_
      refine AOL.nil ?_
      refine thenN ?_
      refine AW.ret ?_
      refine thenR ?_
      refine ⟨.inr rfl, [.bool _], .cons (.tmp _ _ rfl) <| .nil, .refl _, ?_⟩
      rw [fold_err hc2]; simp [resOf]
    · skip
      have hff := fold_fine hc2
      have hag := fold_again hff.1
      refine AW.skip ?_
      refine thenN ?_
      refine AW.seq ?_
      refine AW.region ?_
      refine AOL.p (P_load_ptr_agg (l := [.int .i64 _, _, .int .i64 _, .int .i64 _, .int .i64 _, .int .i64 _, .int .i64 _, .str _]) tok rfl rfl rfl rfl rfl) rfl ?_
      refine AOL.p (P_callf (by kernel_rfl) rfl rfl (c18 (FoldS e).1 (fold_size e hs))) rfl ?_
      refine AOL.p (P_move (v := .tuple _) rfl) rfl ?_
      refine AOL.p (P_extract (v := .agg [.int .i64 _, _, .int .i64 _, .int .i64 _, .int .i64 _, .int .i64 _, .int .i64 _, .str _]) rfl rfl) rfl ?_
      refine AOL.p (P_extract (v := .int .i64 _) rfl rfl) rfl ?_
      refine AOL.e (E_alloc (l := [.int .i64 0, .sl 8 [], .int .i64 0, .int .i64 0, .int .i64 0, .int .i64 0, .int .i64 0, .str []]) (by kernel_rfl)) rfl ?_
      rintro _ _ ⟨b7, rfl, rfl⟩
      refine AOL.e (E_store (k := 0) (v := .agg _) (cs' := [.int .i64 _, _, .int .i64 _, .int .i64 _, .int .i64 _, .int .i64 _, .int .i64 _, .str _]) (H2 := _ :: _) tok rfl rfl rfl rfl rfl rfl rfl rfl rfl) rfl ?_
      rintro _ _ ⟨rfl, rfl⟩
      refine AOL.p (P_assign (v := .int .i64 _) rfl) rfl ?_
      refine AOL.ghost (GS.freeze (t := 7) 0 rfl rfl) ?_
      refine AOL.nil ?_
      refine thenN ?_
      refine AW.seq ?_
      refine AW.seq ?_
      refine AW.region ?_
      refine AOL.p (P_move (v := .int .i64 _) rfl) rfl ?_
      refine AOL.p (P_neq rfl rfl) rfl ?_
      refine AOL.p (P_move (v := .bool _) rfl) rfl ?_
      refine AOL.g (y := .agg _) _ [] rfl (EntL.all trivial) (fun hG => P_load_ptr_agg (l := [.int .i64 _, _, .int .i64 _, .int .i64 _, .int .i64 _, .int .i64 _, .int .i64 _, .str _]) tok rfl rfl rfl rfl rfl) rfl ?_
      refine AOL.g (y := .agg _) _ [] rfl (EntL.all trivial) (fun hG => P_load_ptr_agg (l := [.int .i64 _, _, .int .i64 _, .int .i64 _, .int .i64 _, .int .i64 _, .int .i64 _, .str _]) tok rfl rfl rfl rfl rfl) rfl ?_
      refine AOL.g (y := .bool _) _ [(53, _), (54, _)] rfl (EntL.all ⟨Ent.self _ _, Ent.self _ _, trivial⟩) (fun hG => P_callf (by kernel_rfl) rfl rfl (c22 (FoldS e).1 (FoldS (FoldS e).1).1 (fold_size e hs))) rfl ?_
      refine AOL.g (y := .bool _) _ [(55, _)] rfl (EntL.all ⟨Ent.self _ _, trivial⟩) (fun hG => P_not rfl) rfl ?_
      refine AOL.p (P_pick_or rfl rfl rfl) rfl ?_
      refine AOL.nil ?_
      refine thenN ?_
      refine AW.cond (b := _) rfl (fun hc3 => ?_) (fun hc3 => ?_)
      · skip
        exfalso; rw [hff.2] at hc3; simp only [hag] at hc3; simp [sameS_refl] at hc3
      · skip
        refine AW.skip ?_
        refine thenN ?_
        refine AW.seq ?_
        refine AW.region ?_
        refine AOL.p (P_load_ptr_agg (l := [.int .i64 _, _, .int .i64 _, .int .i64 _, .int .i64 _, .int .i64 _, .int .i64 _, .str _]) tok rfl rfl rfl rfl rfl) rfl ?_
        refine AOL.p (P_fieldAddr_ptr (cs' := [_, .int .i64 _, .int .i64 _, .int .i64 _, .int .i64 _, .int .i64 _, _]) tok rfl rfl rfl rfl rfl rfl) rfl ?_
        refine AOL.p (P_load_ptr_agg (l := [_]) tok rfl rfl rfl rfl rfl) rfl ?_
        refine AOL.p (P_fieldAddr_ptr (cs' := [.int .i64 _, .int .i64 _, .int .i64 _, .int .i64 _, .int .i64 _, _]) tok rfl rfl rfl rfl rfl rfl) rfl ?_
        refine AOL.p (P_load_ptr (c := .int .i64 _) tok rfl rfl rfl) rfl ?_
        refine AOL.p (P_fieldAddr_ptr (cs' := [.int .i64 _, .int .i64 _, .int .i64 _, .int .i64 _, _]) tok rfl rfl rfl rfl rfl rfl) rfl ?_
        refine AOL.p (P_load_ptr_agg (l := [.int .i64 _, .int .i64 _, .int .i64 _, .int .i64 _, _]) tok rfl rfl rfl rfl rfl) rfl ?_
        refine AOL.p (P_callf (by kernel_rfl) rfl rfl (c14 vars own ev hx e hs)) rfl ?_
        refine AOL.p (P_move (v := .tuple _) rfl) rfl ?_
        refine AOL.p (P_extract (v := .agg [.int .i64 _, .int .i64 _, .str _]) rfl rfl) rfl ?_
        refine AOL.p (P_extract (v := .int .i64 _) rfl rfl) rfl ?_
        refine AOL.e (E_alloc (l := [.int .i64 0, .int .i64 0, .str []]) (by kernel_rfl)) rfl ?_
        rintro _ _ ⟨b9, rfl, rfl⟩
        refine AOL.e (E_store (k := 0) (v := .agg _) (cs' := [.int .i64 _, .int .i64 _, .str _]) (H2 := _ :: _) tok rfl rfl rfl rfl rfl rfl rfl rfl rfl) rfl ?_
        rintro _ _ ⟨rfl, rfl⟩
        refine AOL.p (P_assign (v := .int .i64 _) rfl) rfl ?_
        refine AOL.ghost (GS.freeze (t := 9) 0 rfl rfl) ?_
        refine AOL.nil ?_
        refine thenN ?_
        refine AW.seq ?_
        refine AW.seq ?_
        refine AW.region ?_
        refine AOL.p (P_move (v := .int .i64 _) rfl) rfl ?_
        refine AOL.p (P_neq rfl rfl) rfl ?_
        refine AOL.nil ?_
        refine thenN ?_
        refine AW.cond (b := _) rfl (fun hc4 => ?_) (fun hc4 => ?_)
        · skip
          refine AW.seq ?_
          refine AW.region ?_
          refine AOL.p (P_callf (by kernel_rfl) rfl rfl (c13)) rfl ?_
          refine AOL.p (P_assign (v := .bool _) rfl) rfl ?_
          refine AOL.nil ?_
          refine thenN ?_
          refine AW.ret ?_
          refine thenR ?_
          refine ⟨.inr rfl, [.bool _], .cons (.tmp _ _ rfl) <| .nil, .refl _, ?_⟩
          rfl
        · skip
          have hval := Fold_value (x := ⟨vars, own, ev⟩) hff.1 (by simpa using hc4)
          have hx1 : (FoldS e).1 = rebS FZ e := by rw [hff.2]
          refine AW.skip ?_
          refine thenN ?_
          refine AW.seq ?_
          refine AW.region ?_
          refine AOL.p (P_load_ptr_agg (l := [.int .i64 _, _, .int .i64 _, .int .i64 _, .int .i64 _, .int .i64 _, .int .i64 _, .str _]) tok rfl rfl rfl rfl rfl) rfl ?_
          refine AOL.p (P_fieldAddr_ptr (cs' := [_, .int .i64 _, .int .i64 _, .int .i64 _, .int .i64 _, .int .i64 _, _]) tok rfl rfl rfl rfl rfl rfl) rfl ?_
          refine AOL.p (P_load_ptr_agg (l := [_]) tok rfl rfl rfl rfl rfl) rfl ?_
          refine AOL.p (P_fieldAddr_ptr (cs' := [.int .i64 _, .int .i64 _, .int .i64 _, .int .i64 _, .int .i64 _, _]) tok rfl rfl rfl rfl rfl rfl) rfl ?_
          refine AOL.p (P_load_ptr (c := .int .i64 _) tok rfl rfl rfl) rfl ?_
          refine AOL.p (P_fieldAddr_ptr (cs' := [.int .i64 _, .int .i64 _, .int .i64 _, .int .i64 _, _]) tok rfl rfl rfl rfl rfl rfl) rfl ?_
          refine AOL.p (P_load_ptr_agg (l := [.int .i64 _, .int .i64 _, .int .i64 _, .int .i64 _, _]) tok rfl rfl rfl rfl rfl) rfl ?_
          refine AOL.p (P_callf (by kernel_rfl) rfl rfl (c14 vars own ev hx (FoldS e).1 (fold_size e hs))) rfl ?_
          refine AOL.p (P_move (v := .tuple _) rfl) rfl ?_
          refine AOL.p (P_extract (v := .agg [.int .i64 _, .int .i64 _, .str _]) rfl rfl) rfl ?_
          refine AOL.p (P_extract (v := .int .i64 _) rfl rfl) rfl ?_
          refine AOL.e (E_alloc (l := [.int .i64 0, .int .i64 0, .str []]) (by kernel_rfl)) rfl ?_
          rintro _ _ ⟨b11, rfl, rfl⟩
          refine AOL.e (E_store (k := 0) (v := .agg _) (cs' := [.int .i64 _, .int .i64 _, .str _]) (H2 := _ :: _) tok rfl rfl rfl rfl rfl rfl rfl rfl rfl) rfl ?_
          rintro _ _ ⟨rfl, rfl⟩
          refine AOL.p (P_assign (v := .int .i64 _) rfl) rfl ?_
          refine AOL.ghost (GS.freeze (t := 11) 0 rfl rfl) ?_
          refine AOL.nil ?_
          refine thenN ?_
          refine AW.seq ?_
          refine AW.region ?_
          refine AOL.p (P_callf (by kernel_rfl) rfl rfl (c13)) rfl ?_
          refine AOL.p (P_move (v := .bool _) rfl) rfl ?_
          refine AOL.g (y := .int .i64 _) _ [] rfl (EntL.all trivial) (fun hG => P_move (v := .int .i64 _) rfl) rfl ?_
          refine AOL.g (y := .bool _) _ [(85, _)] rfl (EntL.all ⟨Ent.self _ _, trivial⟩) (fun hG => P_eql rfl rfl) rfl ?_
          refine AOL.p (P_pick_and rfl rfl rfl) rfl ?_
          refine AOL.p (P_move (v := .bool _) rfl) rfl ?_
          refine AOL.g (y := .agg _) _ [] rfl (EntL.all trivial) (fun hG => P_load_ptr_agg (l := [.int .i64 _, .int .i64 _, .str _]) tok rfl rfl rfl rfl rfl) rfl ?_
          refine AOL.g (y := .agg _) _ [] rfl (EntL.all trivial) (fun hG => P_load_ptr_agg (l := [.int .i64 _, .int .i64 _, .str _]) tok rfl rfl rfl rfl rfl) rfl ?_
          refine AOL.g (y := .bool _) _ [(89, _), (90, _)] rfl (EntL.all ⟨Ent.self _ _, Ent.self _ _, trivial⟩) (fun hG => P_eql_agg tok rfl rfl rfl rfl rfl) rfl ?_
          refine AOL.p (P_pick_and rfl rfl rfl) rfl ?_
          refine AOL.p (P_assign (v := .bool _) rfl) rfl ?_
          refine AOL.nil ?_
          refine thenN ?_
          refine AW.ret ?_
          refine ⟨.inr rfl, [.bool _], .cons (.tmp _ _ rfl) <| .nil, .refl _, ?_⟩
          have h0 : (EvalS ⟨vars, own, ev⟩ e).2 = 0 := by simpa using hc4
          simp only [hx1]
          have hval2 : EvalS ⟨vars, own, ev⟩ (rebS FZ e) = EvalS ⟨vars, own, ev⟩ e := hval
          rw [hval2, h0]; simp [resOf]
set_option maxRecDepth 20000 in
set_option maxHeartbeats 1600000 in
theorem c7 (a b : Ex) (hs : sizeN a ≤ 1048576) (hs' : sizeN b ≤ 1048576) (to : List Int) (ht : to.length ≤ 1048576) : APure Try.prog 7 [.agg (cE a), .agg (cE b), .sl 1 (cTo to)] (.bool true) := by
  refine APure.body (n := 59) tok Try.func7 rfl rfl rfl fun H => ?_
  refine AW.seq ?_
  refine AW.region ?_
  refine AOL.p (P_box (v := .agg _) (cs := [.int .i64 _, _, .int .i64 _, .int .i64 _, .int .i64 _, .int .i64 _, .int .i64 _, .str _]) rfl rfl rfl) rfl ?_
  refine AOL.p (P_box (v := .agg _) (cs := [.int .i64 _, _, .int .i64 _, .int .i64 _, .int .i64 _, .int .i64 _, .int .i64 _, .str _]) rfl rfl rfl) rfl ?_
  refine AOL.p (P_assign (v := .bool _) rfl) rfl ?_
  refine AOL.nil ?_
  refine thenN ?_
  refine AW.seq ?_
  refine AW.seq ?_
  refine AW.region ?_
  refine AOL.p (P_load_ptr_agg (l := [.int .i64 _, _, .int .i64 _, .int .i64 _, .int .i64 _, .int .i64 _, .int .i64 _, .str _]) tok rfl rfl rfl rfl rfl) rfl ?_
  refine AOL.p (P_load_ptr_agg (l := [.int .i64 _, _, .int .i64 _, .int .i64 _, .int .i64 _, .int .i64 _, .int .i64 _, .str _]) tok rfl rfl rfl rfl rfl) rfl ?_
  refine AOL.p (P_buildSlice (es := [[.int .i64 _, _, .int .i64 _, .int .i64 _, .int .i64 _, .int .i64 _, .int .i64 _, .str _], [.int .i64 _, _, .int .i64 _, .int .i64 _, .int .i64 _, .int .i64 _, .int .i64 _, .str _]]) tok rfl rfl rfl rfl rfl rfl rfl rfl rfl) rfl ?_
  refine AOL.p (P_callf (by kernel_rfl) rfl rfl (few_two a b hs hs')) rfl ?_
  refine AOL.p (P_not rfl) rfl ?_
  refine AOL.p (P_move (v := .bool _) rfl) rfl ?_
  refine AOL.g (y := .sl _ _) _ [] rfl (EntL.all trivial) (fun hG => P_move (v := .sl _ _) rfl) rfl ?_
  refine AOL.g (y := .int .i64 _) _ [(17, _)] rfl (EntL.all ⟨Ent.self _ _, trivial⟩) (fun hG => P_len_sl (n := to.length) tok rfl rfl rfl (by simp [cTo])) rfl ?_
  refine AOL.g (y := .bool _) _ [(18, _)] rfl (EntL.all ⟨Ent.self _ _, trivial⟩) (fun hG => P_gtr rfl rfl) rfl ?_
  refine AOL.p (P_pick_or rfl rfl rfl) rfl ?_
  refine AOL.nil ?_
  refine thenN ?_
  refine AW.cond (b := _) rfl (fun hc1 => ?_) (fun hc1 => ?_)
  · skip
    refine AW.seq ?_
    refine AW.region ?_
    refine AOL.p (P_callf (by kernel_rfl) rfl rfl (c13)) rfl ?_
    refine AOL.p (P_assign (v := .bool _) rfl) rfl ?_
    refine AOL.nil ?_
    refine thenN ?_
    refine AW.ret ?_
    refine thenR ?_
    refine ⟨.inr rfl, [.bool _], .cons (.tmp _ _ rfl) <| .nil, .refl _, ?_⟩
    rfl
  · skip
    refine AW.skip ?_
    refine thenN ?_
    refine AW.seq ?_
    refine AW.region ?_
    refine AOL.p (P_load_ptr_agg (l := [.int .i64 _, _, .int .i64 _, .int .i64 _, .int .i64 _, .int .i64 _, .int .i64 _, .str _]) tok rfl rfl rfl rfl rfl) rfl ?_
    refine AOL.p (P_move (v := .sl _ _) rfl) rfl ?_
    refine AOL.p (P_callf (by kernel_rfl) rfl rfl (c28 to ht a hs)) rfl ?_
    refine AOL.p (P_move (v := .tuple _) rfl) rfl ?_
    refine AOL.p (P_extract (v := .agg [.int .i64 _, _, .int .i64 _, .int .i64 _, .int .i64 _, .int .i64 _, .int .i64 _, .str _]) rfl rfl) rfl ?_
    refine AOL.p (P_extract (v := .int .i64 _) rfl rfl) rfl ?_
    refine AOL.e (E_alloc (l := [.int .i64 0, .sl 8 [], .int .i64 0, .int .i64 0, .int .i64 0, .int .i64 0, .int .i64 0, .str []]) (by kernel_rfl)) rfl ?_
    rintro _ _ ⟨b7, rfl, rfl⟩
    refine AOL.e (E_store (k := 0) (v := .agg _) (cs' := [.int .i64 _, _, .int .i64 _, .int .i64 _, .int .i64 _, .int .i64 _, .int .i64 _, .str _]) (H2 := _ :: _) tok rfl rfl rfl rfl rfl rfl rfl rfl rfl) rfl ?_
    rintro _ _ ⟨rfl, rfl⟩
    refine AOL.p (P_assign (v := .int .i64 _) rfl) rfl ?_
    refine AOL.ghost (GS.freeze (t := 7) 0 rfl rfl) ?_
    refine AOL.nil ?_
    refine thenN ?_
    refine AW.seq ?_
    refine AW.region ?_
    refine AOL.p (P_load_ptr_agg (l := [.int .i64 _, _, .int .i64 _, .int .i64 _, .int .i64 _, .int .i64 _, .int .i64 _, .str _]) tok rfl rfl rfl rfl rfl) rfl ?_
    refine AOL.p (P_move (v := .sl _ _) rfl) rfl ?_
    refine AOL.p (P_callf (by kernel_rfl) rfl rfl (c29 to ht a hs)) rfl ?_
    refine AOL.p (P_move (v := .tuple _) rfl) rfl ?_
    refine AOL.p (P_extract (v := .agg [.int .i64 _, _, .int .i64 _, .int .i64 _, .int .i64 _, .int .i64 _, .int .i64 _, .str _]) rfl rfl) rfl ?_
    refine AOL.p (P_extract (v := .int .i64 _) rfl rfl) rfl ?_
    refine AOL.e (E_alloc (l := [.int .i64 0, .sl 8 [], .int .i64 0, .int .i64 0, .int .i64 0, .int .i64 0, .int .i64 0, .str []]) (by kernel_rfl)) rfl ?_
    rintro _ _ ⟨b9, rfl, rfl⟩
    refine AOL.e (E_store (k := 0) (v := .agg _) (cs' := [.int .i64 _, _, .int .i64 _, .int .i64 _, .int .i64 _, .int .i64 _, .int .i64 _, .str _]) (H2 := _ :: _) tok rfl rfl rfl rfl rfl rfl rfl rfl rfl) rfl ?_
    rintro _ _ ⟨rfl, rfl⟩
    refine AOL.p (P_assign (v := .int .i64 _) rfl) rfl ?_
    refine AOL.ghost (GS.freeze (t := 9) 0 rfl rfl) ?_
    refine AOL.nil ?_
    refine thenN ?_
    refine AW.seq ?_
    refine AW.draw mixed (fun _ => True) trivial (by kernel_rfl) ?_
    refine Canon.pure _ _ 0 _ _ rfl (by kernel_rfl) (by kernel_rfl) rfl (.run rfl (P_callf (by kernel_rfl) rfl rfl (c13))) ?_
    refine Canon.pure _ _ 1 _ _ rfl (by kernel_rfl) (by kernel_rfl) rfl (.run rfl (P_move (v := .bool _) rfl)) ?_
    refine Canon.pure _ _ 2 _ _ rfl (by kernel_rfl) (by kernel_rfl) rfl (.opt _ (.agg _) [] rfl (EntL.all trivial) (fun hG => P_load_ptr_agg (l := [.int .i64 _, _, .int .i64 _, .int .i64 _, .int .i64 _, .int .i64 _, .int .i64 _, .str _]) tok rfl rfl rfl rfl rfl) rfl) ?_
    refine Canon.pure _ _ 3 _ _ rfl (by kernel_rfl) (by kernel_rfl) rfl (.opt _ (.agg _) [] rfl (EntL.all trivial) (fun hG => P_load_ptr_agg (l := [.int .i64 _, _, .int .i64 _, .int .i64 _, .int .i64 _, .int .i64 _, .int .i64 _, .str _]) tok rfl rfl rfl rfl rfl) rfl) ?_
    refine Canon.pure _ _ 4 _ _ rfl (by kernel_rfl) (by kernel_rfl) rfl (.opt _ (.bool _) [(36, _), (37, _)] rfl (EntL.all ⟨Ent.self _ _, Ent.self _ _, trivial⟩) (fun hG => P_callf (by kernel_rfl) rfl rfl (c20 (RenameS a to).1 (RenameS a to).1 (ren_size' a to hs))) rfl) ?_
    refine Canon.pure _ _ 5 _ _ rfl (by kernel_rfl) (by kernel_rfl) rfl (.run rfl (P_pick_and rfl rfl rfl)) ?_
    refine Canon.pure _ _ 6 _ _ rfl (by kernel_rfl) (by kernel_rfl) rfl (.run rfl (P_move (v := .bool _) rfl)) ?_
    refine Canon.pure _ _ 7 _ _ rfl (by kernel_rfl) (by kernel_rfl) rfl (.opt _ (.int .i64 _) [] rfl (EntL.all trivial) (fun hG => P_move (v := .int .i64 _) rfl) rfl) ?_
    refine Canon.pure _ _ 8 _ _ rfl (by kernel_rfl) (by kernel_rfl) rfl (.opt _ (.int .i64 _) [] rfl (EntL.all trivial) (fun hG => P_move (v := .int .i64 _) rfl) rfl) ?_
    refine Canon.pure _ _ 9 _ _ rfl (by kernel_rfl) (by kernel_rfl) rfl (.opt _ (.bool _) [(41, _), (42, _)] rfl (EntL.all ⟨Ent.self _ _, Ent.self _ _, trivial⟩) (fun hG => P_eql rfl rfl) rfl) ?_
    refine Canon.pure _ _ 10 _ _ rfl (by kernel_rfl) (by kernel_rfl) rfl (.run rfl (P_pick_and rfl rfl rfl)) ?_
    refine Canon.pure _ _ 11 _ _ rfl (by kernel_rfl) (by kernel_rfl) rfl (.run rfl (P_move (v := .bool _) rfl)) ?_
    refine Canon.pure _ _ 12 _ _ rfl (by kernel_rfl) (by kernel_rfl) rfl (.opt _ (.agg _) [] rfl (EntL.all trivial) (fun hG => P_load_ptr_agg (l := [.int .i64 _, _, .int .i64 _, .int .i64 _, .int .i64 _, .int .i64 _, .int .i64 _, .str _]) tok rfl rfl rfl rfl rfl) rfl) ?_
    refine Canon.pure _ _ 13 _ _ rfl (by kernel_rfl) (by kernel_rfl) rfl (.opt _ (.agg _) [] rfl (EntL.all trivial) (fun hG => P_load_ptr_agg (l := [.int .i64 _, _, .int .i64 _, .int .i64 _, .int .i64 _, .int .i64 _, .int .i64 _, .str _]) tok rfl rfl rfl rfl rfl) rfl) ?_
    refine Canon.pure _ _ 14 _ _ rfl (by kernel_rfl) (by kernel_rfl) rfl (.opt _ (.bool _) [(46, _), (47, _)] rfl (EntL.all ⟨Ent.self _ _, Ent.self _ _, trivial⟩) (fun hG => P_callf (by kernel_rfl) rfl rfl (c22 a b hs)) rfl) ?_
    refine Canon.pure _ _ 15 _ _ rfl (by kernel_rfl) (by kernel_rfl) rfl (.opt _ (.agg _) [] rfl (EntL.all trivial) (fun hG => P_load_ptr_agg (l := [.int .i64 _, _, .int .i64 _, .int .i64 _, .int .i64 _, .int .i64 _, .int .i64 _, .str _]) tok rfl rfl rfl rfl rfl) rfl) ?_
    refine Canon.pure _ _ 16 _ _ rfl (by kernel_rfl) (by kernel_rfl) rfl (.opt _ (.agg _) [] rfl (EntL.all trivial) (fun hG => P_load_ptr_agg (l := [.int .i64 _, _, .int .i64 _, .int .i64 _, .int .i64 _, .int .i64 _, .int .i64 _, .str _]) tok rfl rfl rfl rfl rfl) rfl) ?_
    refine Canon.pure _ _ 17 _ _ rfl (by kernel_rfl) (by kernel_rfl) rfl (.opt _ (.bool _) [(49, _), (50, _)] rfl (EntL.all ⟨Ent.self _ _, Ent.self _ _, trivial⟩) (fun hG => P_callf (by kernel_rfl) rfl rfl (c20 a b hs)) rfl) ?_
    refine Canon.pure _ _ 18 _ _ rfl (by kernel_rfl) (by kernel_rfl) rfl (.opt _ (.bool _) [(48, _), (51, _)] rfl (EntL.all ⟨Ent.self _ _, Ent.self _ _, trivial⟩) (fun hG => P_eql_bool tok rfl rfl rfl rfl) rfl) ?_
    refine Canon.pure _ _ 19 _ _ rfl (by kernel_rfl) (by kernel_rfl) rfl (.run rfl (P_pick_and rfl rfl rfl)) ?_
    refine Canon.pure _ _ 20 _ _ rfl (by kernel_rfl) (by kernel_rfl) rfl (.run rfl (P_move (v := .bool _) rfl)) ?_
    refine Canon.pure _ _ 21 _ _ rfl (by kernel_rfl) (by kernel_rfl) rfl (.opt _ (.agg _) [] rfl (EntL.all trivial) (fun hG => P_load_ptr_agg (l := [.int .i64 _, _, .int .i64 _, .int .i64 _, .int .i64 _, .int .i64 _, .int .i64 _, .str _]) tok rfl rfl rfl rfl rfl) rfl) ?_
    refine Canon.pure _ _ 22 _ _ rfl (by kernel_rfl) (by kernel_rfl) rfl (.opt _ (.agg _) [] rfl (EntL.all trivial) (fun hG => P_load_ptr_agg (l := [.int .i64 _, _, .int .i64 _, .int .i64 _, .int .i64 _, .int .i64 _, .int .i64 _, .str _]) tok rfl rfl rfl rfl rfl) rfl) ?_
    refine Canon.pure _ _ 23 _ _ rfl (by kernel_rfl) (by kernel_rfl) rfl (.opt _ (.bool _) [(55, _), (56, _)] rfl (EntL.all ⟨Ent.self _ _, Ent.self _ _, trivial⟩) (fun hG => P_callf (by kernel_rfl) rfl rfl (c22 a a hs)) rfl) ?_
    refine Canon.pure _ _ 24 _ _ rfl (by kernel_rfl) (by kernel_rfl) rfl (.run rfl (P_pick_and rfl rfl rfl)) ?_
    refine Canon.pure _ _ 25 _ _ rfl (by kernel_rfl) (by kernel_rfl) rfl (.run rfl (P_assign (v := .bool _) rfl)) ?_
    refine Canon.done _ _ (by kernel_rfl) ?_
    refine thenN ?_
    refine AW.ret ?_
    refine ⟨.inr rfl, [.bool _], .cons (.tmp _ _ rfl) <| .nil, .refl _, ?_⟩
    simp [resOf, sameS_refl]

end Go.Proofs.Ytkkacfnkjiijkaa
