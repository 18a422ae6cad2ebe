/-
  Walks of layer 8: ExprValues, ExprFolds. No condition.
-/
import Derived.Test.YtkkacfnkjiijkaaW16
import Derived.Test.YtkkacfnkjiijkaaB
import Derived.KernelRfl
namespace Go.Proofs.Ytkkacfnkjiijkaa
open Go Go.Aw
set_option linter.unusedVariables false
set_option linter.unusedSimpArgs false

theorem dummyW17 : True := trivial
theorem few_one (e : Ex) (hs : sizeN e ≤ 1048576) : APure Try.prog 11 [.sl 8 [cE e]] (.bool (fewE e)) := by
  have := c11 [e] (by simp) (by simpa using hs)
  simpa [encE_eq] using this

theorem fold_size (e : Ex) (hs : sizeN e ≤ 1048576) : sizeN (FoldS e).1 ≤ 1048576 := by
  unfold FoldS
  split
  · show sizeN ex0 ≤ 1048576; decide
  · rename_i h
    have := (reb_ok (f := FZ) (fun e h => fnode_ok xz h) e (check_nodes (by simpa using h))).2.2
    exact Nat.le_trans this hs

set_option maxRecDepth 20000 in
set_option maxHeartbeats 1600000 in
theorem c3 (e : Ex) (hs : sizeN e ≤ 1048576) (vars : List (List Ev)) (own : Int) (ev : Ev) (hv : vars.length ≤ 1048576) (hx : ∀ l ∈ vars, l.length ≤ 1048576) : APure Try.prog 3 [.agg (cE e), .agg (cP (vars, own, ev))] (.bool true) := by
  refine APure.body (n := 79) tok Try.func3 rfl rfl rfl fun H => ?_
  refine AW.seq ?_
  refine AW.region ?_
  refine AOL.p (P_box (v := .agg _) (cs := [.int .i64 _, _, .int .i64 _, .int .i64 _, .int .i64 _, .int .i64 _, .int .i64 _, .str _]) rfl rfl rfl) rfl ?_
  refine AOL.p (P_box (v := .agg _) (cs := [_, .int .i64 _, .int .i64 _, .int .i64 _, .int .i64 _, .int .i64 _, _]) rfl rfl rfl) rfl ?_
  refine AOL.p (P_assign (v := .bool _) rfl) rfl ?_
  refine AOL.nil ?_
  refine thenN ?_
  refine AW.seq ?_
  refine AW.seq ?_
  refine AW.region ?_
  refine AOL.p (P_load_ptr_agg (l := [.int .i64 _, _, .int .i64 _, .int .i64 _, .int .i64 _, .int .i64 _, .int .i64 _, .str _]) tok rfl rfl rfl rfl rfl) rfl ?_
  refine AOL.p (P_buildSlice (es := [[.int .i64 _, _, .int .i64 _, .int .i64 _, .int .i64 _, .int .i64 _, .int .i64 _, .str _]]) tok rfl rfl rfl rfl rfl rfl rfl rfl rfl) rfl ?_
  refine AOL.p (P_callf (by kernel_rfl) rfl rfl (few_one e hs)) rfl ?_
  refine AOL.p (P_not rfl) rfl ?_
  refine AOL.p (P_move (v := .bool _) rfl) rfl ?_
  refine AOL.g (y := .ptr _) _ [] rfl (EntL.all trivial) (fun hG => P_fieldAddr_ptr (cs' := [_, .int .i64 _, .int .i64 _, .int .i64 _, .int .i64 _, .int .i64 _, _]) tok rfl rfl rfl rfl rfl rfl) rfl ?_
  refine AOL.g (y := .agg _) _ [(14, _)] rfl (EntL.all ⟨Ent.self _ _, trivial⟩) (fun hG => P_load_ptr_agg (l := [_]) tok rfl rfl rfl rfl rfl) rfl ?_
  refine AOL.g (y := .bool _) _ [(15, _)] rfl (EntL.all ⟨Ent.self _ _, trivial⟩) (fun hG => P_callf (by kernel_rfl) rfl rfl (c12 vars hv hx)) rfl ?_
  refine AOL.g (y := .bool _) _ [(16, _)] rfl (EntL.all ⟨Ent.self _ _, trivial⟩) (fun hG => P_not rfl) rfl ?_
  refine AOL.p (P_pick_or rfl rfl rfl) rfl ?_
  refine AOL.p (P_move (v := .bool _) rfl) rfl ?_
  refine AOL.g (y := .ptr _) _ [] rfl (EntL.all trivial) (fun hG => P_fieldAddr_ptr (cs' := [.int .i64 _, .int .i64 _, .int .i64 _, .int .i64 _, _]) tok rfl rfl rfl rfl rfl rfl) rfl ?_
  refine AOL.g (y := .ptr _) _ [(20, _)] rfl (EntL.all ⟨Ent.self _ _, trivial⟩) (fun hG => P_fieldAddr_ptr (cs' := [_]) tok rfl rfl rfl rfl rfl rfl) rfl ?_
  refine AOL.g (y := .sl _ _) _ [(21, _)] rfl (EntL.all ⟨Ent.self _ _, trivial⟩) (fun hG => P_load_ptr (c := .sl _ _) tok rfl rfl rfl) rfl ?_
  refine AOL.g (y := .int .i64 _) _ [(22, _)] rfl (EntL.all ⟨Ent.self _ _, trivial⟩) (fun hG => P_len_sl (n := ev.values.length) tok rfl rfl rfl (by simp)) rfl ?_
  refine AOL.g (y := .bool _) _ [(23, _)] rfl (EntL.all ⟨Ent.self _ _, trivial⟩) (fun hG => P_gtr rfl rfl) rfl ?_
  refine AOL.p (P_pick_or rfl rfl rfl) rfl ?_
  refine AOL.nil ?_
  refine thenN ?_
  refine AW.cond (b := _) rfl (fun hc1 => ?_) (fun hc1 => ?_)
  · skip
    refine AW.seq ?_
    refine AW.region ?_
    refine AOL.p (P_callf (by kernel_rfl) rfl rfl (c13)) rfl ?_
    refine AOL.p (P_assign (v := .bool _) rfl) rfl ?_
    refine AOL.nil ?_
    refine thenN ?_
    refine AW.ret ?_
    refine thenR ?_
    refine ⟨.inr rfl, [.bool _], .cons (.tmp _ _ rfl) <| .nil, .refl _, ?_⟩
    simp [resOf]
  · skip
    refine AW.skip ?_
    refine thenN ?_
    refine AW.seq ?_
    refine AW.region ?_
    refine AOL.p (P_load_ptr_agg (l := [.int .i64 _, _, .int .i64 _, .int .i64 _, .int .i64 _, .int .i64 _, .int .i64 _, .str _]) tok rfl rfl rfl rfl rfl) rfl ?_
    refine AOL.p (P_fieldAddr_ptr (cs' := [_, .int .i64 _, .int .i64 _, .int .i64 _, .int .i64 _, .int .i64 _, _]) tok rfl rfl rfl rfl rfl rfl) rfl ?_
    refine AOL.p (P_load_ptr_agg (l := [_]) tok rfl rfl rfl rfl rfl) rfl ?_
    refine AOL.p (P_fieldAddr_ptr (cs' := [.int .i64 _, .int .i64 _, .int .i64 _, .int .i64 _, .int .i64 _, _]) tok rfl rfl rfl rfl rfl rfl) rfl ?_
    refine AOL.p (P_load_ptr (c := .int .i64 _) tok rfl rfl rfl) rfl ?_
    refine AOL.p (P_fieldAddr_ptr (cs' := [.int .i64 _, .int .i64 _, .int .i64 _, .int .i64 _, _]) tok rfl rfl rfl rfl rfl rfl) rfl ?_
    refine AOL.p (P_load_ptr_agg (l := [.int .i64 _, .int .i64 _, .int .i64 _, .int .i64 _, _]) tok rfl rfl rfl rfl rfl) rfl ?_
    refine AOL.p (P_callf (by kernel_rfl) rfl rfl (c14 vars own ev hx e hs)) rfl ?_
    refine AOL.p (P_move (v := .tuple _) rfl) rfl ?_
    refine AOL.p (P_extract (v := .agg [.int .i64 _, .int .i64 _, .str _]) rfl rfl) rfl ?_
    refine AOL.p (P_extract (v := .int .i64 _) rfl rfl) rfl ?_
    refine AOL.e (E_alloc (l := [.int .i64 0, .int .i64 0, .str []]) (by kernel_rfl)) rfl ?_
    rintro _ _ ⟨b5, rfl, rfl⟩
    refine AOL.e (E_store (k := 0) (v := .agg _) (cs' := [.int .i64 _, .int .i64 _, .str _]) (H2 := _ :: _) tok rfl rfl rfl rfl rfl rfl rfl rfl rfl) rfl ?_
    rintro _ _ ⟨rfl, rfl⟩
    refine AOL.p (P_assign (v := .int .i64 _) rfl) rfl ?_
    refine AOL.ghost (GS.freeze (t := 5) 0 rfl rfl) ?_
    refine AOL.nil ?_
    refine thenN ?_
    refine AW.seq ?_
    refine AW.region ?_
    refine AOL.p (P_load_ptr_agg (l := [.int .i64 _, _, .int .i64 _, .int .i64 _, .int .i64 _, .int .i64 _, .int .i64 _, .str _]) tok rfl rfl rfl rfl rfl) rfl ?_
    refine AOL.p (P_fieldAddr_ptr (cs' := [_, .int .i64 _, .int .i64 _, .int .i64 _, .int .i64 _, .int .i64 _, _]) tok rfl rfl rfl rfl rfl rfl) rfl ?_
    refine AOL.p (P_load_ptr_agg (l := [_]) tok rfl rfl rfl rfl rfl) rfl ?_
    refine AOL.p (P_fieldAddr_ptr (cs' := [.int .i64 _, .int .i64 _, .int .i64 _, .int .i64 _, .int .i64 _, _]) tok rfl rfl rfl rfl rfl rfl) rfl ?_
    refine AOL.p (P_load_ptr (c := .int .i64 _) tok rfl rfl rfl) rfl ?_
    refine AOL.p (P_fieldAddr_ptr (cs' := [.int .i64 _, .int .i64 _, .int .i64 _, .int .i64 _, _]) tok rfl rfl rfl rfl rfl rfl) rfl ?_
    refine AOL.p (P_load_ptr_agg (l := [.int .i64 _, .int .i64 _, .int .i64 _, .int .i64 _, _]) tok rfl rfl rfl rfl rfl) rfl ?_
    refine AOL.p (P_callf (by kernel_rfl) rfl rfl (c15 vars own ev hx e hs)) rfl ?_
    refine AOL.p (P_move (v := .tuple _) rfl) rfl ?_
    refine AOL.p (P_extract (v := .agg [.int .i64 _, .int .i64 _, .str _]) rfl rfl) rfl ?_
    refine AOL.p (P_extract (v := .int .i64 _) rfl rfl) rfl ?_
    refine AOL.e (E_alloc (l := [.int .i64 0, .int .i64 0, .str []]) (by kernel_rfl)) rfl ?_
    rintro _ _ ⟨b7, rfl, rfl⟩
    refine AOL.e (E_store (k := 0) (v := .agg _) (cs' := [.int .i64 _, .int .i64 _, .str _]) (H2 := _ :: _) tok rfl rfl rfl rfl rfl rfl rfl rfl rfl) rfl ?_
    rintro _ _ ⟨rfl, rfl⟩
    refine AOL.p (P_assign (v := .int .i64 _) rfl) rfl ?_
    refine AOL.ghost (GS.freeze (t := 7) 0 rfl rfl) ?_
    refine AOL.nil ?_
    refine thenN ?_
    refine AW.seq ?_
    refine AW.draw mixed (fun _ => True) trivial (by kernel_rfl) ?_
    refine Canon.pure _ _ 0 _ _ rfl (by kernel_rfl) (by kernel_rfl) rfl (.run rfl (P_callf (by kernel_rfl) rfl rfl (c13))) ?_
    refine Canon.pure _ _ 1 _ _ rfl (by kernel_rfl) (by kernel_rfl) rfl (.run rfl (P_move (v := .bool _) rfl)) ?_
    refine Canon.pure _ _ 2 _ _ rfl (by kernel_rfl) (by kernel_rfl) rfl (.opt _ (.agg _) [] rfl (EntL.all trivial) (fun hG => P_load_ptr_agg (l := [.int .i64 _, .int .i64 _, .str _]) tok rfl rfl rfl rfl rfl) rfl) ?_
    refine Canon.pure _ _ 3 _ _ rfl (by kernel_rfl) (by kernel_rfl) rfl (.opt _ (.agg _) [] rfl (EntL.all trivial) (fun hG => P_load_ptr_agg (l := [.int .i64 _, .int .i64 _, .str _]) tok rfl rfl rfl rfl rfl) rfl) ?_
    refine Canon.pure _ _ 4 _ _ rfl (by kernel_rfl) (by kernel_rfl) rfl (.opt _ (.bool _) [(51, _), (52, _)] rfl (EntL.all ⟨Ent.self _ _, Ent.self _ _, trivial⟩) (fun hG => P_eql_agg tok rfl rfl rfl rfl rfl) rfl) ?_
    refine Canon.pure _ _ 5 _ _ rfl (by kernel_rfl) (by kernel_rfl) rfl (.run rfl (P_pick_and rfl rfl rfl)) ?_
    refine Canon.pure _ _ 6 _ _ rfl (by kernel_rfl) (by kernel_rfl) rfl (.run rfl (P_move (v := .bool _) rfl)) ?_
    refine Canon.pure _ _ 7 _ _ rfl (by kernel_rfl) (by kernel_rfl) rfl (.opt _ (.int .i64 _) [] rfl (EntL.all trivial) (fun hG => P_move (v := .int .i64 _) rfl) rfl) ?_
    refine Canon.pure _ _ 8 _ _ rfl (by kernel_rfl) (by kernel_rfl) rfl (.opt _ (.int .i64 _) [] rfl (EntL.all trivial) (fun hG => P_move (v := .int .i64 _) rfl) rfl) ?_
    refine Canon.pure _ _ 9 _ _ rfl (by kernel_rfl) (by kernel_rfl) rfl (.opt _ (.bool _) [(56, _), (57, _)] rfl (EntL.all ⟨Ent.self _ _, Ent.self _ _, trivial⟩) (fun hG => P_eql rfl rfl) rfl) ?_
    refine Canon.pure _ _ 10 _ _ rfl (by kernel_rfl) (by kernel_rfl) rfl (.run rfl (P_pick_and rfl rfl rfl)) ?_
    refine Canon.pure _ _ 11 _ _ rfl (by kernel_rfl) (by kernel_rfl) rfl (.run rfl (P_move (v := .bool _) rfl)) ?_
    refine Canon.pure _ _ 12 _ _ rfl (by kernel_rfl) (by kernel_rfl) rfl (.opt _ (.agg _) [] rfl (EntL.all trivial) (fun hG => P_load_ptr_agg (l := [.int .i64 _, _, .int .i64 _, .int .i64 _, .int .i64 _, .int .i64 _, .int .i64 _, .str _]) tok rfl rfl rfl rfl rfl) rfl) ?_
    refine Canon.pure _ _ 13 _ _ rfl (by kernel_rfl) (by kernel_rfl) rfl (.opt _ (.ptr _) [] rfl (EntL.all trivial) (fun hG => P_fieldAddr_ptr (cs' := [_, .int .i64 _, .int .i64 _, .int .i64 _, .int .i64 _, .int .i64 _, _]) tok rfl rfl rfl rfl rfl rfl) rfl) ?_
    refine Canon.pure _ _ 14 _ _ rfl (by kernel_rfl) (by kernel_rfl) rfl (.opt _ (.agg _) [(62, _)] rfl (EntL.all ⟨Ent.self _ _, trivial⟩) (fun hG => P_load_ptr_agg (l := [_]) tok rfl rfl rfl rfl rfl) rfl) ?_
    refine Canon.pure _ _ 15 _ _ rfl (by kernel_rfl) (by kernel_rfl) rfl (.opt _ (.ptr _) [] rfl (EntL.all trivial) (fun hG => P_fieldAddr_ptr (cs' := [.int .i64 _, .int .i64 _, .int .i64 _, .int .i64 _, .int .i64 _, _]) tok rfl rfl rfl rfl rfl rfl) rfl) ?_
    refine Canon.pure _ _ 16 _ _ rfl (by kernel_rfl) (by kernel_rfl) rfl (.opt _ (.int .i64 _) [(64, _)] rfl (EntL.all ⟨Ent.self _ _, trivial⟩) (fun hG => P_load_ptr (c := .int .i64 _) tok rfl rfl rfl) rfl) ?_
    refine Canon.pure _ _ 17 _ _ rfl (by kernel_rfl) (by kernel_rfl) rfl (.opt _ (.ptr _) [] rfl (EntL.all trivial) (fun hG => P_fieldAddr_ptr (cs' := [.int .i64 _, .int .i64 _, .int .i64 _, .int .i64 _, _]) tok rfl rfl rfl rfl rfl rfl) rfl) ?_
    refine Canon.pure _ _ 18 _ _ rfl (by kernel_rfl) (by kernel_rfl) rfl (.opt _ (.agg _) [(66, _)] rfl (EntL.all ⟨Ent.self _ _, trivial⟩) (fun hG => P_load_ptr_agg (l := [.int .i64 _, .int .i64 _, .int .i64 _, .int .i64 _, _]) tok rfl rfl rfl rfl rfl) rfl) ?_
    refine Canon.pure _ _ 19 _ _ rfl (by kernel_rfl) (by kernel_rfl) rfl (.opt _ (.bool _) [(61, _), (63, _), (65, _), (67, _)] rfl (EntL.all ⟨Ent.self _ _, Ent.self _ _, Ent.self _ _, Ent.self _ _, trivial⟩) (fun hG => P_callf (by kernel_rfl) rfl rfl (c16 vars own ev hx e hs)) rfl) ?_
    refine Canon.pure _ _ 20 _ _ rfl (by kernel_rfl) (by kernel_rfl) rfl (.opt _ (.agg _) [] rfl (EntL.all trivial) (fun hG => P_load_ptr_agg (l := [.int .i64 _, _, .int .i64 _, .int .i64 _, .int .i64 _, .int .i64 _, .int .i64 _, .str _]) tok rfl rfl rfl rfl rfl) rfl) ?_
    refine Canon.pure _ _ 21 _ _ rfl (by kernel_rfl) (by kernel_rfl) rfl (.opt _ (.ptr _) [] rfl (EntL.all trivial) (fun hG => P_fieldAddr_ptr (cs' := [_, .int .i64 _, .int .i64 _, .int .i64 _, .int .i64 _, .int .i64 _, _]) tok rfl rfl rfl rfl rfl rfl) rfl) ?_
    refine Canon.pure _ _ 22 _ _ rfl (by kernel_rfl) (by kernel_rfl) rfl (.opt _ (.agg _) [(70, _)] rfl (EntL.all ⟨Ent.self _ _, trivial⟩) (fun hG => P_load_ptr_agg (l := [_]) tok rfl rfl rfl rfl rfl) rfl) ?_
    refine Canon.pure _ _ 23 _ _ rfl (by kernel_rfl) (by kernel_rfl) rfl (.opt _ (.ptr _) [] rfl (EntL.all trivial) (fun hG => P_fieldAddr_ptr (cs' := [.int .i64 _, .int .i64 _, .int .i64 _, .int .i64 _, .int .i64 _, _]) tok rfl rfl rfl rfl rfl rfl) rfl) ?_
    refine Canon.pure _ _ 24 _ _ rfl (by kernel_rfl) (by kernel_rfl) rfl (.opt _ (.int .i64 _) [(72, _)] rfl (EntL.all ⟨Ent.self _ _, trivial⟩) (fun hG => P_load_ptr (c := .int .i64 _) tok rfl rfl rfl) rfl) ?_
    refine Canon.pure _ _ 25 _ _ rfl (by kernel_rfl) (by kernel_rfl) rfl (.opt _ (.ptr _) [] rfl (EntL.all trivial) (fun hG => P_fieldAddr_ptr (cs' := [.int .i64 _, .int .i64 _, .int .i64 _, .int .i64 _, _]) tok rfl rfl rfl rfl rfl rfl) rfl) ?_
    refine Canon.pure _ _ 26 _ _ rfl (by kernel_rfl) (by kernel_rfl) rfl (.opt _ (.agg _) [(74, _)] rfl (EntL.all ⟨Ent.self _ _, trivial⟩) (fun hG => P_load_ptr_agg (l := [.int .i64 _, .int .i64 _, .int .i64 _, .int .i64 _, _]) tok rfl rfl rfl rfl rfl) rfl) ?_
    refine Canon.pure _ _ 27 _ _ rfl (by kernel_rfl) (by kernel_rfl) rfl (.opt _ (.bool _) [(69, _), (71, _), (73, _), (75, _)] rfl (EntL.all ⟨Ent.self _ _, Ent.self _ _, Ent.self _ _, Ent.self _ _, trivial⟩) (fun hG => P_callf (by kernel_rfl) rfl rfl (c17 vars own ev hx e hs)) rfl) ?_
    refine Canon.pure _ _ 28 _ _ rfl (by kernel_rfl) (by kernel_rfl) rfl (.opt _ (.bool _) [(68, _), (76, _)] rfl (EntL.all ⟨Ent.self _ _, Ent.self _ _, trivial⟩) (fun hG => P_eql_bool tok rfl rfl rfl rfl) rfl) ?_
    refine Canon.pure _ _ 29 _ _ rfl (by kernel_rfl) (by kernel_rfl) rfl (.run rfl (P_pick_and rfl rfl rfl)) ?_
    refine Canon.pure _ _ 30 _ _ rfl (by kernel_rfl) (by kernel_rfl) rfl (.run rfl (P_assign (v := .bool _) rfl)) ?_
    refine Canon.done _ _ (by kernel_rfl) ?_
    refine thenN ?_
    refine AW.ret ?_
    refine ⟨.inr rfl, [.bool _], .cons (.tmp _ _ rfl) <| .nil, .refl _, ?_⟩
    simp [resOf]
set_option maxRecDepth 20000 in
set_option maxHeartbeats 1600000 in
theorem c4 (e : Ex) (hs : sizeN e ≤ 1048576) : APure Try.prog 4 [.agg (cE e)] (.bool true) := by
  refine APure.body (n := 33) tok Try.func4 rfl rfl rfl fun H => ?_
  refine AW.seq ?_
  refine AW.region ?_
  refine AOL.p (P_box (v := .agg _) (cs := [.int .i64 _, _, .int .i64 _, .int .i64 _, .int .i64 _, .int .i64 _, .int .i64 _, .str _]) rfl rfl rfl) rfl ?_
  refine AOL.p (P_assign (v := .bool _) rfl) rfl ?_
  refine AOL.nil ?_
  refine thenN ?_
  refine AW.seq ?_
  refine AW.seq ?_
  refine AW.region ?_
  refine AOL.p (P_load_ptr_agg (l := [.int .i64 _, _, .int .i64 _, .int .i64 _, .int .i64 _, .int .i64 _, .int .i64 _, .str _]) tok rfl rfl rfl rfl rfl) rfl ?_
  refine AOL.p (P_buildSlice (es := [[.int .i64 _, _, .int .i64 _, .int .i64 _, .int .i64 _, .int .i64 _, .int .i64 _, .str _]]) tok rfl rfl rfl rfl rfl rfl rfl rfl rfl) rfl ?_
  refine AOL.p (P_callf (by kernel_rfl) rfl rfl (few_one e hs)) rfl ?_
  refine AOL.p (P_not rfl) rfl ?_
  refine AOL.nil ?_
  refine thenN ?_
  refine AW.cond (b := _) rfl (fun hc1 => ?_) (fun hc1 => ?_)
  · skip
    refine AW.seq ?_
    refine AW.region ?_
    refine AOL.p (P_callf (by kernel_rfl) rfl rfl (c13)) rfl ?_
    refine AOL.p (P_assign (v := .bool _) rfl) rfl ?_
    refine AOL.nil ?_
    refine thenN ?_
    refine AW.ret ?_
    refine thenR ?_
    refine ⟨.inr rfl, [.bool _], .cons (.tmp _ _ rfl) <| .nil, .refl _, ?_⟩
    simp [resOf, sameS_refl]
  · skip
    refine AW.skip ?_
    refine thenN ?_
    refine AW.seq ?_
    refine AW.region ?_
    refine AOL.p (P_load_ptr_agg (l := [.int .i64 _, _, .int .i64 _, .int .i64 _, .int .i64 _, .int .i64 _, .int .i64 _, .str _]) tok rfl rfl rfl rfl rfl) rfl ?_
    refine AOL.p (P_callf (by kernel_rfl) rfl rfl (c18 e hs)) rfl ?_
    refine AOL.p (P_move (v := .tuple _) rfl) rfl ?_
    refine AOL.p (P_extract (v := .agg [.int .i64 _, _, .int .i64 _, .int .i64 _, .int .i64 _, .int .i64 _, .int .i64 _, .str _]) rfl rfl) rfl ?_
    refine AOL.p (P_extract (v := .int .i64 _) rfl rfl) rfl ?_
    refine AOL.e (E_alloc (l := [.int .i64 0, .sl 8 [], .int .i64 0, .int .i64 0, .int .i64 0, .int .i64 0, .int .i64 0, .str []]) (by kernel_rfl)) rfl ?_
    rintro _ _ ⟨b3, rfl, rfl⟩
    refine AOL.e (E_store (k := 0) (v := .agg _) (cs' := [.int .i64 _, _, .int .i64 _, .int .i64 _, .int .i64 _, .int .i64 _, .int .i64 _, .str _]) (H2 := _ :: _) tok rfl rfl rfl rfl rfl rfl rfl rfl rfl) rfl ?_
    rintro _ _ ⟨rfl, rfl⟩
    refine AOL.p (P_assign (v := .int .i64 _) rfl) rfl ?_
    refine AOL.ghost (GS.freeze (t := 3) 0 rfl rfl) ?_
    refine AOL.nil ?_
    refine thenN ?_
    refine AW.seq ?_
    refine AW.region ?_
    refine AOL.p (P_load_ptr_agg (l := [.int .i64 _, _, .int .i64 _, .int .i64 _, .int .i64 _, .int .i64 _, .int .i64 _, .str _]) tok rfl rfl rfl rfl rfl) rfl ?_
    refine AOL.p (P_callf (by kernel_rfl) rfl rfl (c19 e hs)) rfl ?_
    refine AOL.p (P_move (v := .tuple _) rfl) rfl ?_
    refine AOL.p (P_extract (v := .agg [.int .i64 _, _, .int .i64 _, .int .i64 _, .int .i64 _, .int .i64 _, .int .i64 _, .str _]) rfl rfl) rfl ?_
    refine AOL.p (P_extract (v := .int .i64 _) rfl rfl) rfl ?_
    refine AOL.e (E_alloc (l := [.int .i64 0, .sl 8 [], .int .i64 0, .int .i64 0, .int .i64 0, .int .i64 0, .int .i64 0, .str []]) (by kernel_rfl)) rfl ?_
    rintro _ _ ⟨b5, rfl, rfl⟩
    refine AOL.e (E_store (k := 0) (v := .agg _) (cs' := [.int .i64 _, _, .int .i64 _, .int .i64 _, .int .i64 _, .int .i64 _, .int .i64 _, .str _]) (H2 := _ :: _) tok rfl rfl rfl rfl rfl rfl rfl rfl rfl) rfl ?_
    rintro _ _ ⟨rfl, rfl⟩
    refine AOL.p (P_assign (v := .int .i64 _) rfl) rfl ?_
    refine AOL.ghost (GS.freeze (t := 5) 0 rfl rfl) ?_
    refine AOL.nil ?_
    refine thenN ?_
    refine AW.seq ?_
    refine AW.region ?_
    refine AOL.p (P_callf (by kernel_rfl) rfl rfl (c13)) rfl ?_
    refine AOL.p (P_move (v := .bool _) rfl) rfl ?_
    refine AOL.g (y := .agg _) _ [] rfl (EntL.all trivial) (fun hG => P_load_ptr_agg (l := [.int .i64 _, _, .int .i64 _, .int .i64 _, .int .i64 _, .int .i64 _, .int .i64 _, .str _]) tok rfl rfl rfl rfl rfl) rfl ?_
    refine AOL.g (y := .agg _) _ [] rfl (EntL.all trivial) (fun hG => P_load_ptr_agg (l := [.int .i64 _, _, .int .i64 _, .int .i64 _, .int .i64 _, .int .i64 _, .int .i64 _, .str _]) tok rfl rfl rfl rfl rfl) rfl ?_
    refine AOL.g (y := .bool _) _ [(24, _), (25, _)] rfl (EntL.all ⟨Ent.self _ _, Ent.self _ _, trivial⟩) (fun hG => P_callf (by kernel_rfl) rfl rfl (c20 (FoldS e).1 (FoldS e).1 (fold_size e hs))) rfl ?_
    refine AOL.p (P_pick_and rfl rfl rfl) rfl ?_
    refine AOL.p (P_move (v := .bool _) rfl) rfl ?_
    refine AOL.g (y := .int .i64 _) _ [] rfl (EntL.all trivial) (fun hG => P_move (v := .int .i64 _) rfl) rfl ?_
    refine AOL.g (y := .int .i64 _) _ [] rfl (EntL.all trivial) (fun hG => P_move (v := .int .i64 _) rfl) rfl ?_
    refine AOL.g (y := .bool _) _ [(29, _), (30, _)] rfl (EntL.all ⟨Ent.self _ _, Ent.self _ _, trivial⟩) (fun hG => P_eql rfl rfl) rfl ?_
    refine AOL.p (P_pick_and rfl rfl rfl) rfl ?_
    refine AOL.p (P_assign (v := .bool _) rfl) rfl ?_
    refine AOL.nil ?_
    refine thenN ?_
    refine AW.ret ?_
    refine ⟨.inr rfl, [.bool _], .cons (.tmp _ _ rfl) <| .nil, .refl _, ?_⟩
    simp [resOf, sameS_refl]

end Go.Proofs.Ytkkacfnkjiijkaa
