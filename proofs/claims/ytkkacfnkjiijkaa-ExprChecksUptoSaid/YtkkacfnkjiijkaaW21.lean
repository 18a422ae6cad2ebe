/-
  Walks of layer 8: ExprChecks. No condition.
-/
import Derived.Test.YtkkacfnkjiijkaaW20
import Derived.Test.YtkkacfnkjiijkaaW17
import Derived.KernelRfl
namespace Go.Proofs.Ytkkacfnkjiijkaa
open Go Go.Aw
set_option linter.unusedVariables false
set_option linter.unusedSimpArgs false

set_option maxRecDepth 20000 in
set_option maxHeartbeats 1600000 in
theorem c6 (e : Ex) (hs : sizeN e ≤ 1048576) : APure Try.prog 6 [.agg (cE e)] (.bool true) := by
  refine APure.body (n := 69) tok Try.func6 rfl rfl rfl fun H => ?_
  refine AW.seq ?_
  refine AW.region ?_
  refine AOL.p (P_box (v := .agg _) (cs := [.int .i64 _, _, .int .i64 _, .int .i64 _, .int .i64 _, .int .i64 _, .int .i64 _, .str _]) rfl rfl rfl) rfl ?_
  refine AOL.p (P_assign (v := .bool _) rfl) rfl ?_
  refine AOL.nil ?_
  refine thenN ?_
  refine AW.seq ?_
  refine AW.seq ?_
  refine AW.region ?_
  refine AOL.p (P_load_ptr_agg (l := [.int .i64 _, _, .int .i64 _, .int .i64 _, .int .i64 _, .int .i64 _, .int .i64 _, .str _]) tok rfl rfl rfl rfl rfl) rfl ?_
  refine AOL.p (P_buildSlice (es := [[.int .i64 _, _, .int .i64 _, .int .i64 _, .int .i64 _, .int .i64 _, .int .i64 _, .str _]]) tok rfl rfl rfl rfl rfl rfl rfl rfl rfl) rfl ?_
  refine AOL.p (P_callf (by kernel_rfl) rfl rfl (few_one e hs)) rfl ?_
  refine AOL.p (P_not rfl) rfl ?_
  refine AOL.nil ?_
  refine thenN ?_
  refine AW.cond (b := _) rfl (fun hc1 => ?_) (fun hc1 => ?_)
  · skip
    refine AW.seq ?_
    refine AW.region ?_
    refine AOL.p (P_callf (by kernel_rfl) rfl rfl (c13)) rfl ?_
    refine AOL.p (P_assign (v := .bool _) rfl) rfl ?_
    refine AOL.nil ?_
    refine thenN ?_
    refine AW.ret ?_
    refine thenR ?_
    refine ⟨.inr rfl, [.bool _], .cons (.tmp _ _ rfl) <| .nil, .refl _, ?_⟩
    rfl
  · skip
    refine AW.skip ?_
    refine thenN ?_
    refine AW.seq ?_
    refine AW.region ?_
    refine AOL.p (P_load_ptr_agg (l := [.int .i64 _, _, .int .i64 _, .int .i64 _, .int .i64 _, .int .i64 _, .int .i64 _, .str _]) tok rfl rfl rfl rfl rfl) rfl ?_
    refine AOL.p (P_callf (by kernel_rfl) rfl rfl (c23 e hs)) rfl ?_
    refine AOL.p (P_move (v := .tuple _) rfl) rfl ?_
    refine AOL.p (P_extract (v := .int .i64 _) rfl rfl) rfl ?_
    refine AOL.p (P_extract (v := .int .i64 _) rfl rfl) rfl ?_
    refine AOL.p (P_assign (v := .int .i64 _) rfl) rfl ?_
    refine AOL.p (P_assign (v := .int .i64 _) rfl) rfl ?_
    refine AOL.nil ?_
    refine thenN ?_
    refine AW.seq ?_
    refine AW.region ?_
    refine AOL.p (P_load_ptr_agg (l := [.int .i64 _, _, .int .i64 _, .int .i64 _, .int .i64 _, .int .i64 _, .int .i64 _, .str _]) tok rfl rfl rfl rfl rfl) rfl ?_
    refine AOL.p (P_callf (by kernel_rfl) rfl rfl (c24 e hs)) rfl ?_
    refine AOL.p (P_move (v := .tuple _) rfl) rfl ?_
    refine AOL.p (P_extract (v := .int .i64 _) rfl rfl) rfl ?_
    refine AOL.p (P_extract (v := .int .i64 _) rfl rfl) rfl ?_
    refine AOL.p (P_assign (v := .int .i64 _) rfl) rfl ?_
    refine AOL.p (P_assign (v := .int .i64 _) rfl) rfl ?_
    refine AOL.nil ?_
    refine thenN ?_
    refine AW.seq ?_
    refine AW.seq ?_
    refine AW.draw mixed (fun _ => True) trivial (by kernel_rfl) ?_
    refine Canon.pure _ _ 0 _ _ rfl (by kernel_rfl) (by kernel_rfl) rfl (.run rfl (P_load_ptr_agg (l := [.int .i64 _, _, .int .i64 _, .int .i64 _, .int .i64 _, .int .i64 _, .int .i64 _, .str _]) tok rfl rfl rfl rfl rfl)) ?_
    refine Canon.pure _ _ 1 _ _ rfl (by kernel_rfl) (by kernel_rfl) rfl (.run rfl (P_callf (by kernel_rfl) rfl rfl (c21 e hs))) ?_
    refine Canon.pure _ _ 2 _ _ rfl (by kernel_rfl) (by kernel_rfl) rfl (.run rfl (P_load_ptr_agg (l := [.int .i64 _, _, .int .i64 _, .int .i64 _, .int .i64 _, .int .i64 _, .int .i64 _, .str _]) tok rfl rfl rfl rfl rfl)) ?_
    refine Canon.pure _ _ 3 _ _ rfl (by kernel_rfl) (by kernel_rfl) rfl (.run rfl (P_callf (by kernel_rfl) rfl rfl (c25 e hs))) ?_
    refine Canon.pure _ _ 4 _ _ rfl (by kernel_rfl) (by kernel_rfl) rfl (.run rfl (P_neq rfl rfl)) ?_
    refine Canon.pure _ _ 5 _ _ rfl (by kernel_rfl) (by kernel_rfl) rfl (.run rfl (P_move (v := .bool _) rfl)) ?_
    refine Canon.pure _ _ 6 _ _ rfl (by kernel_rfl) (by kernel_rfl) rfl (.opt _ (.int .i64 _) [] rfl (EntL.all trivial) (fun hG => P_move (v := .int .i64 _) rfl) rfl) ?_
    refine Canon.pure _ _ 7 _ _ rfl (by kernel_rfl) (by kernel_rfl) rfl (.opt _ (.int .i64 _) [] rfl (EntL.all trivial) (fun hG => P_move (v := .int .i64 _) rfl) rfl) ?_
    refine Canon.pure _ _ 8 _ _ rfl (by kernel_rfl) (by kernel_rfl) rfl (.opt _ (.bool _) [(31, _), (32, _)] rfl (EntL.all ⟨Ent.self _ _, Ent.self _ _, trivial⟩) (fun hG => P_neq rfl rfl) rfl) ?_
    refine Canon.pure _ _ 9 _ _ rfl (by kernel_rfl) (by kernel_rfl) rfl (.run rfl (P_pick_or rfl rfl rfl)) ?_
    refine Canon.pure _ _ 10 _ _ rfl (by kernel_rfl) (by kernel_rfl) rfl (.run rfl (P_move (v := .bool _) rfl)) ?_
    refine Canon.pure _ _ 11 _ _ rfl (by kernel_rfl) (by kernel_rfl) rfl (.opt _ (.int .i64 _) [] rfl (EntL.all trivial) (fun hG => P_move (v := .int .i64 _) rfl) rfl) ?_
    refine Canon.pure _ _ 12 _ _ rfl (by kernel_rfl) (by kernel_rfl) rfl (.opt _ (.int .i64 _) [] rfl (EntL.all trivial) (fun hG => P_move (v := .int .i64 _) rfl) rfl) ?_
    refine Canon.pure _ _ 13 _ _ rfl (by kernel_rfl) (by kernel_rfl) rfl (.opt _ (.bool _) [(36, _), (37, _)] rfl (EntL.all ⟨Ent.self _ _, Ent.self _ _, trivial⟩) (fun hG => P_neq rfl rfl) rfl) ?_
    refine Canon.pure _ _ 14 _ _ rfl (by kernel_rfl) (by kernel_rfl) rfl (.run rfl (P_pick_or rfl rfl rfl)) ?_
    refine Canon.done _ _ (by kernel_rfl) ?_
    refine thenN ?_
    refine AW.cond (b := _) rfl (fun hc2 => ?_) (fun hc2 => ?_)
    · skip
      exfalso; simp at hc2
    · skip
      refine AW.skip ?_
      refine thenN ?_
      refine AW.seq ?_
      refine AW.seq ?_
      refine AW.region ?_
      refine AOL.p (P_load_ptr_agg (l := [.int .i64 _, _, .int .i64 _, .int .i64 _, .int .i64 _, .int .i64 _, .int .i64 _, .str _]) tok rfl rfl rfl rfl rfl) rfl ?_
      refine AOL.p (P_callf (by kernel_rfl) rfl rfl (c25 e hs)) rfl ?_
      refine AOL.p (P_neq rfl rfl) rfl ?_
      refine AOL.nil ?_
      refine thenN ?_
      refine AW.cond (b := _) rfl (fun hc3 => ?_) (fun hc3 => ?_)
      · skip
        refine AW.seq ?_
        refine AW.region ?_
        refine AOL.p (P_callf (by kernel_rfl) rfl rfl (c13)) rfl ?_
        refine AOL.p (P_assign (v := .bool _) rfl) rfl ?_
        refine AOL.nil ?_
        refine thenN ?_
        refine AW.ret ?_
        refine thenR ?_
        refine ⟨.inr rfl, [.bool _], .cons (.tmp _ _ rfl) <| .nil, .refl _, ?_⟩
        rfl
      · skip
        refine AW.skip ?_
        refine thenN ?_
        refine AW.seq ?_
        refine AW.draw mixed (fun _ => True) trivial (by kernel_rfl) ?_
        refine Canon.pure _ _ 0 _ _ rfl (by kernel_rfl) (by kernel_rfl) rfl (.run rfl (P_load_ptr_agg (l := [.int .i64 _, _, .int .i64 _, .int .i64 _, .int .i64 _, .int .i64 _, .int .i64 _, .str _]) tok rfl rfl rfl rfl rfl)) ?_
        refine Canon.pure _ _ 1 _ _ rfl (by kernel_rfl) (by kernel_rfl) rfl (.run rfl (P_callf (by kernel_rfl) rfl rfl (c26 e hs))) ?_
        refine Canon.pure _ _ 2 _ _ rfl (by kernel_rfl) (by kernel_rfl) rfl (.run rfl (P_load_ptr_agg (l := [.int .i64 _, _, .int .i64 _, .int .i64 _, .int .i64 _, .int .i64 _, .int .i64 _, .str _]) tok rfl rfl rfl rfl rfl)) ?_
        refine Canon.pure _ _ 3 _ _ rfl (by kernel_rfl) (by kernel_rfl) rfl (.run rfl (P_callf (by kernel_rfl) rfl rfl (c27 e hs))) ?_
        refine Canon.pure _ _ 4 _ _ rfl (by kernel_rfl) (by kernel_rfl) rfl (.run rfl (P_assign (v := .sl _ _) rfl)) ?_
        refine Canon.pure _ _ 5 _ _ rfl (by kernel_rfl) (by kernel_rfl) rfl (.run rfl (P_assign (v := .sl _ _) rfl)) ?_
        refine Canon.done _ _ (by kernel_rfl) ?_
        refine thenN ?_
        refine AW.seq ?_
        refine AW.seq ?_
        refine AW.region ?_
        refine AOL.p (P_move (v := .sl _ _) rfl) rfl ?_
        refine AOL.p (P_len_sl (n := (varsS e).length) tok rfl rfl rfl (by simp [cTo])) rfl ?_
        refine AOL.p (P_move (v := .sl _ _) rfl) rfl ?_
        refine AOL.p (P_len_sl (n := (varsS e).length) tok rfl rfl rfl (by simp [cTo])) rfl ?_
        refine AOL.p (P_neq rfl rfl) rfl ?_
        refine AOL.nil ?_
        refine thenN ?_
        refine AW.cond (b := _) rfl (fun hc4 => ?_) (fun hc4 => ?_)
        · skip
          exfalso; simp at hc4
        · skip
          refine AW.skip ?_
          refine thenN ?_
          refine AW.seq ?_
          refine AW.seq ?_
          refine AW.region ?_
          refine AOL.p (P_assign (v := .int .i64 _) rfl) rfl ?_
          refine AOL.nil ?_
          refine thenN ?_
          refine AW.block ?_
          refine AW.loopS (fun (p : Nat) => (⟨[(7, .sl 1 (cTo (varsS e))), (8, .sl 1 (cTo (varsS e))), (9, .int .i64 (p : Int))], H, 69⟩ : St)) (fun (p : Nat) => p ≤ (varsS e).length) (fun (p : Nat) => (varsS e).length - p) (0) ?_ (GS.weaken ⟨rfl, rfl, rfl, trivial⟩ (.refl _)) ?_
          · exact Nat.zero_le _
          · rintro p hR
            refine AW.seq ?_
            refine AW.seq ?_
            refine AW.region ?_
            refine AOL.p (P_move (v := .int .i64 _) rfl) rfl ?_
            refine AOL.p (P_move (v := .sl _ _) rfl) rfl ?_
            refine AOL.p (P_len_sl (n := (varsS e).length) tok rfl rfl rfl (by simp [cTo])) rfl ?_
            refine AOL.p (P_lss rfl rfl) rfl ?_
            refine AOL.nil ?_
            refine thenN ?_
            refine AW.cond (b := _) rfl (fun hc5 => ?_) (fun hc5 => ?_)
            · skip
              obtain ⟨a, ha⟩ := get_lt hc5
              have hlt := get_lt' ha
              have hln := upto_len (usedS e) 16
              have hln2 : (varsS e).length ≤ 16 := hln
              refine AW.skip ?_
              refine thenN ?_
              refine AW.seq ?_
              refine AW.block ?_
              refine AW.seq ?_
              refine AW.draw mixed (fun _ => True) trivial (by kernel_rfl) ?_
              refine Canon.pure _ _ 0 _ _ rfl (by kernel_rfl) (by kernel_rfl) rfl (.run rfl (P_move (v := .sl _ _) rfl)) ?_
              refine Canon.pure _ _ 1 _ _ rfl (by kernel_rfl) (by kernel_rfl) rfl (.run rfl (P_move (v := .int .i64 _) rfl)) ?_
              refine Canon.pure _ _ 2 _ _ rfl (by kernel_rfl) (by kernel_rfl) rfl (.run rfl (P_indexAddr (c := [.int .i64 _]) tok rfl rfl rfl rfl rfl rfl (by omega) (map_at (f := fun k => [AV.int .i64 k]) ha))) ?_
              refine Canon.pure _ _ 3 _ _ rfl (by kernel_rfl) (by kernel_rfl) rfl (.run rfl (P_load_ptr (c := .int .i64 _) tok rfl rfl rfl)) ?_
              refine Canon.pure _ _ 4 _ _ rfl (by kernel_rfl) (by kernel_rfl) rfl (.run rfl (P_move (v := .sl _ _) rfl)) ?_
              refine Canon.pure _ _ 5 _ _ rfl (by kernel_rfl) (by kernel_rfl) rfl (.run rfl (P_move (v := .int .i64 _) rfl)) ?_
              refine Canon.pure _ _ 6 _ _ rfl (by kernel_rfl) (by kernel_rfl) rfl (.run rfl (P_indexAddr (c := [.int .i64 _]) tok rfl rfl rfl rfl rfl rfl (by omega) (map_at (f := fun k => [AV.int .i64 k]) ha))) ?_
              refine Canon.pure _ _ 7 _ _ rfl (by kernel_rfl) (by kernel_rfl) rfl (.run rfl (P_load_ptr (c := .int .i64 _) tok rfl rfl rfl)) ?_
              refine Canon.pure _ _ 8 _ _ rfl (by kernel_rfl) (by kernel_rfl) rfl (.run rfl (P_neq rfl rfl)) ?_
              refine Canon.done _ _ (by kernel_rfl) ?_
              refine thenN ?_
              refine AW.cond (b := _) rfl (fun hc6 => ?_) (fun hc6 => ?_)
              · skip
                exfalso; simp at hc6
              · skip
                refine AW.skip ?_
                refine blkN ?_
                refine thenN ?_
                refine AW.region ?_
                refine AOL.p (P_move (v := .int .i64 _) rfl) rfl ?_
                refine AOL.p (P_add rfl rfl rfl (by constructor <;> omega)) rfl ?_
                refine AOL.p (P_assign (v := .int .i64 _) rfl) rfl ?_
                refine AOL.nil ?_
                refine thenN ?_
                refine ⟨p + 1, ?_, ?_, GS.weaken ⟨rfl, rfl, rfl, trivial⟩ (.refl _)⟩
                · exact hlt
                · omega
            · skip
              refine AW.exit ?_
              refine thenE ?_
              refine thenE ?_
              refine blkHit ?_
              refine thenN ?_
              refine AW.seq ?_
              refine AW.region ?_
              refine AOL.p (P_callf (by kernel_rfl) rfl rfl (c13)) rfl ?_
              refine AOL.p (P_assign (v := .bool _) rfl) rfl ?_
              refine AOL.nil ?_
              refine thenN ?_
              refine AW.ret ?_
              refine ⟨.inr rfl, [.bool _], .cons (.tmp _ _ rfl) <| .nil, .refl _, ?_⟩
              rfl

end Go.Proofs.Ytkkacfnkjiijkaa
