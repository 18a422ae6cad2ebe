/-
  The law LexerGrows, walked. No condition.
-/
import Derived.Test.YtepnadmoflalnaaDoorP6
import Derived.KernelRfl
namespace Go.Proofs.YtepnadmoflalnaaDoor
open Go Go.Aw
set_option linter.unusedVariables false
set_option linter.unusedSimpArgs false

theorem le600 {s : Str} (h : decide (600 < (s.length : Int)) = false) : s.length ≤ 600 := by
  simp at h; omega

set_option maxRecDepth 20000 in
set_option maxHeartbeats 800000 in
theorem c10 (s : Str) (k : Int) : APure Tryd.prog 10 [.str s, .int .i64 k] (.bool true) := by
  refine APure.body (n := 81) tok Tryd.func10 rfl rfl rfl fun H => ?_
  refine AW.seq ?_
  refine AW.region ?_
  refine AOL.p (P_assign (v := .bool _) rfl) rfl ?_
  refine AOL.nil ?_
  refine thenN ?_
  refine AW.seq ?_
  refine AW.seq ?_
  refine AW.region ?_
  refine AOL.p (P_move (v := .str _) rfl) rfl ?_
  refine AOL.p (P_len_str tok rfl rfl rfl rfl) rfl ?_
  refine AOL.p (P_gtr rfl rfl) rfl ?_
  refine AOL.p (P_move (v := .bool _) rfl) rfl ?_
  refine AOL.g (y := .int .i64 _) _ [] rfl (EntL.all trivial) (fun hG => P_move (v := .int .i64 _) rfl) rfl ?_
  refine AOL.g (y := .bool _) _ [(15, _)] rfl (EntL.all ⟨Ent.self _ _, trivial⟩) (fun hG => P_lss rfl rfl) rfl ?_
  refine AOL.p (P_pick_or rfl rfl rfl) rfl ?_
  refine AOL.p (P_move (v := .bool _) rfl) rfl ?_
  refine AOL.g (y := .int .i64 _) _ [] rfl (EntL.all trivial) (fun hG => P_move (v := .int .i64 _) rfl) rfl ?_
  refine AOL.g (y := .str _) _ [] rfl (EntL.all trivial) (fun hG => P_move (v := .str _) rfl) rfl ?_
  refine AOL.g (y := .int .i64 _) _ [(20, _)] rfl (EntL.all ⟨Ent.self _ _, trivial⟩) (fun hG => P_len_str tok rfl rfl rfl rfl) rfl ?_
  refine AOL.g (y := .bool _) _ [(19, _), (21, _)] rfl (EntL.all ⟨Ent.self _ _, Ent.self _ _, trivial⟩) (fun hG => P_geq rfl rfl) rfl ?_
  refine AOL.p (P_pick_or rfl rfl rfl) rfl ?_
  refine AOL.nil ?_
  refine thenN ?_
  refine AW.cond (b := _) rfl (fun hc1 => ?_) (fun hc1 => ?_)
  · skip
    refine AW.seq ?_
    refine AW.region ?_
    refine AOL.p (P_callf (by kernel_rfl) rfl rfl (c12)) rfl ?_
    refine AOL.p (P_assign (v := .bool _) rfl) rfl ?_
    refine AOL.nil ?_
    refine thenN ?_
    refine AW.ret ?_
    refine thenR ?_
    refine ⟨.inr rfl, [.bool _], .cons (.tmp _ _ rfl) <| .nil, .refl _, ?_⟩
    rfl
  · skip
    have hl : s.length ≤ 600 := by simp at hc1; omega
    have hk0 : 0 ≤ k := by simp at hc1; omega
    have hk1 : k < (s.length : Int) := by simp at hc1; omega
    refine (pos_grow hl hk0 hk1).elim fun l h1 => h1.elim fun c hp => ?_
    have a1 := hp.1
    have a2 := hp.2.1
    have a3 := hp.2.2.1
    have a4 := hp.2.2.2.1
    have q1 : (posS s k).1 = l := by rw [hp.2.2.2.2.1]
    have q2 : (posS s k).2.1 = c := by rw [hp.2.2.2.2.1]
    have q3 : (posS s k).2.2 = 0 := by rw [hp.2.2.2.2.1]
    have q0 := hp.2.2.2.2.2
    have q4 : (posS s (k + 1)).2.2 = 0 := by rw [q0]; split <;> rfl
    clear hp h1
    have hd : (((((posS s k).2.2 != 0) || ((posS s (k + 1)).2.2 != 0)) || decide ((posS s k).1 < 1)) || decide ((posS s k).2.1 < 1)) = false := by rw [q1, q2, q3, q4, decide_eq_false (show ¬ l < 1 by omega), decide_eq_false (show ¬ c < 1 by omega)]; rfl
    refine AW.skip ?_
    refine thenN ?_
    refine AW.seq ?_
    refine AW.region ?_
    refine AOL.p (P_move (v := .str _) rfl) rfl ?_
    refine AOL.p (P_move (v := .int .i64 _) rfl) rfl ?_
    refine AOL.p (P_callf (by kernel_rfl) rfl rfl (c16 s (by omega) k)) rfl ?_
    refine AOL.p (P_move (v := .tuple _) rfl) rfl ?_
    refine AOL.p (P_extract (v := .int .i64 _) rfl rfl) rfl ?_
    refine AOL.p (P_extract (v := .int .i64 _) rfl rfl) rfl ?_
    refine AOL.p (P_extract (v := .int .i64 _) rfl rfl) rfl ?_
    refine AOL.p (P_assign (v := .int .i64 _) rfl) rfl ?_
    refine AOL.p (P_assign (v := .int .i64 _) rfl) rfl ?_
    refine AOL.p (P_assign (v := .int .i64 _) rfl) rfl ?_
    refine AOL.nil ?_
    refine thenN ?_
    refine AW.seq ?_
    refine AW.region ?_
    refine AOL.p (P_move (v := .str _) rfl) rfl ?_
    refine AOL.p (P_move (v := .int .i64 _) rfl) rfl ?_
    refine AOL.p (P_add rfl rfl rfl (by constructor <;> omega)) rfl ?_
    refine AOL.p (P_callf (by kernel_rfl) rfl rfl (c16 s (by omega) (k + 1))) rfl ?_
    refine AOL.p (P_move (v := .tuple _) rfl) rfl ?_
    refine AOL.p (P_extract (v := .int .i64 _) rfl rfl) rfl ?_
    refine AOL.p (P_extract (v := .int .i64 _) rfl rfl) rfl ?_
    refine AOL.p (P_extract (v := .int .i64 _) rfl rfl) rfl ?_
    refine AOL.p (P_assign (v := .int .i64 _) rfl) rfl ?_
    refine AOL.p (P_assign (v := .int .i64 _) rfl) rfl ?_
    refine AOL.p (P_assign (v := .int .i64 _) rfl) rfl ?_
    refine AOL.nil ?_
    refine thenN ?_
    refine AW.seq ?_
    refine AW.seq ?_
    refine AW.region ?_
    refine AOL.p (P_move (v := .int .i64 _) rfl) rfl ?_
    refine AOL.p (P_neq rfl rfl) rfl ?_
    refine AOL.p (P_move (v := .bool _) rfl) rfl ?_
    refine AOL.g (y := .int .i64 _) _ [] rfl (EntL.all trivial) (fun hG => P_move (v := .int .i64 _) rfl) rfl ?_
    refine AOL.g (y := .bool _) _ [(43, _)] rfl (EntL.all ⟨Ent.self _ _, trivial⟩) (fun hG => P_neq rfl rfl) rfl ?_
    refine AOL.p (P_pick_or rfl rfl rfl) rfl ?_
    refine AOL.p (P_move (v := .bool _) rfl) rfl ?_
    refine AOL.g (y := .int .i64 _) _ [] rfl (EntL.all trivial) (fun hG => P_move (v := .int .i64 _) rfl) rfl ?_
    refine AOL.g (y := .bool _) _ [(47, _)] rfl (EntL.all ⟨Ent.self _ _, trivial⟩) (fun hG => P_lss rfl rfl) rfl ?_
    refine AOL.p (P_pick_or rfl rfl rfl) rfl ?_
    refine AOL.p (P_move (v := .bool _) rfl) rfl ?_
    refine AOL.g (y := .int .i64 _) _ [] rfl (EntL.all trivial) (fun hG => P_move (v := .int .i64 _) rfl) rfl ?_
    refine AOL.g (y := .bool _) _ [(51, _)] rfl (EntL.all ⟨Ent.self _ _, trivial⟩) (fun hG => P_lss rfl rfl) rfl ?_
    refine AOL.p (P_pick_or rfl rfl rfl) rfl ?_
    refine AOL.nil ?_
    refine thenN ?_
    refine AW.cond (b := _) rfl (fun hc2 => ?_) (fun hc2 => ?_)
    · skip
      exact absurd (hc2.symm.trans hd) (by decide)
    · skip
      refine AW.skip ?_
      refine thenN ?_
      refine AW.seq ?_
      refine AW.seq ?_
      refine AW.region ?_
      refine AOL.p (P_move (v := .str _) rfl) rfl ?_
      refine AOL.p (P_move (v := .int .i64 _) rfl) rfl ?_
      refine AOL.p (P_index_str tok rfl rfl rfl rfl (by omega) (bt_get (i := k.toNat) (by omega))) rfl ?_
      refine AOL.p (P_eql rfl rfl) rfl ?_
      refine AOL.nil ?_
      refine thenN ?_
      refine AW.cond (b := _) rfl (fun hc3 => ?_) (fun hc3 => ?_)
      · skip
        refine AW.seq ?_
        refine AW.region ?_
        refine AOL.p (P_callf (by kernel_rfl) rfl rfl (c12)) rfl ?_
        refine AOL.p (P_move (v := .bool _) rfl) rfl ?_
        refine AOL.g (y := .int .i64 _) _ [] rfl (EntL.all trivial) (fun hG => P_move (v := .int .i64 _) rfl) rfl ?_
        refine AOL.g (y := .int .i64 _) _ [] rfl (EntL.all trivial) (fun hG => P_move (v := .int .i64 _) rfl) rfl ?_
        refine AOL.g (y := .int .i64 _) _ [(61, _)] rfl (EntL.all ⟨Ent.self _ _, trivial⟩) (fun hG => P_add rfl rfl rfl (by constructor <;> omega)) rfl ?_
        refine AOL.g (y := .bool _) _ [(60, _), (62, _)] rfl (EntL.all ⟨Ent.self _ _, Ent.self _ _, trivial⟩) (fun hG => P_eql rfl rfl) rfl ?_
        refine AOL.p (P_pick_and rfl rfl rfl) rfl ?_
        refine AOL.p (P_move (v := .bool _) rfl) rfl ?_
        refine AOL.g (y := .int .i64 _) _ [] rfl (EntL.all trivial) (fun hG => P_move (v := .int .i64 _) rfl) rfl ?_
        refine AOL.g (y := .bool _) _ [(66, _)] rfl (EntL.all ⟨Ent.self _ _, trivial⟩) (fun hG => P_eql rfl rfl) rfl ?_
        refine AOL.p (P_pick_and rfl rfl rfl) rfl ?_
        refine AOL.p (P_assign (v := .bool _) rfl) rfl ?_
        refine AOL.nil ?_
        refine thenN ?_
        refine AW.ret ?_
        refine thenR ?_
        refine ⟨.inr rfl, [.bool _], .cons (.tmp _ _ rfl) <| .nil, .refl _, ?_⟩
        rw [if_pos hc3] at q0
        have z1 : ((posS s (k + 1)).1 == (posS s k).1 + 1) = true := by rw [q0, q1]; simp
        have z2 : ((posS s (k + 1)).2.1 == 1) = true := by rw [q0]; rfl
        simp only [resOf, z1, z2, Bool.and_self]
      · skip
        refine AW.skip ?_
        refine thenN ?_
        refine AW.seq ?_
        refine AW.region ?_
        refine AOL.p (P_callf (by kernel_rfl) rfl rfl (c12)) rfl ?_
        refine AOL.p (P_move (v := .bool _) rfl) rfl ?_
        refine AOL.g (y := .int .i64 _) _ [] rfl (EntL.all trivial) (fun hG => P_move (v := .int .i64 _) rfl) rfl ?_
        refine AOL.g (y := .int .i64 _) _ [] rfl (EntL.all trivial) (fun hG => P_move (v := .int .i64 _) rfl) rfl ?_
        refine AOL.g (y := .bool _) _ [(71, _), (72, _)] rfl (EntL.all ⟨Ent.self _ _, Ent.self _ _, trivial⟩) (fun hG => P_eql rfl rfl) rfl ?_
        refine AOL.p (P_pick_and rfl rfl rfl) rfl ?_
        refine AOL.p (P_move (v := .bool _) rfl) rfl ?_
        refine AOL.g (y := .int .i64 _) _ [] rfl (EntL.all trivial) (fun hG => P_move (v := .int .i64 _) rfl) rfl ?_
        refine AOL.g (y := .int .i64 _) _ [] rfl (EntL.all trivial) (fun hG => P_move (v := .int .i64 _) rfl) rfl ?_
        refine AOL.g (y := .int .i64 _) _ [(77, _)] rfl (EntL.all ⟨Ent.self _ _, trivial⟩) (fun hG => P_add rfl rfl rfl (by constructor <;> omega)) rfl ?_
        refine AOL.g (y := .bool _) _ [(76, _), (78, _)] rfl (EntL.all ⟨Ent.self _ _, Ent.self _ _, trivial⟩) (fun hG => P_eql rfl rfl) rfl ?_
        refine AOL.p (P_pick_and rfl rfl rfl) rfl ?_
        refine AOL.p (P_assign (v := .bool _) rfl) rfl ?_
        refine AOL.nil ?_
        refine thenN ?_
        refine AW.ret ?_
        refine ⟨.inr rfl, [.bool _], .cons (.tmp _ _ rfl) <| .nil, .refl _, ?_⟩
        rw [if_neg (Bool.eq_false_iff.mp hc3)] at q0
        have z1 : ((posS s (k + 1)).1 == (posS s k).1) = true := by rw [q0, q1]; simp
        have z2 : ((posS s (k + 1)).2.1 == (posS s k).2.1 + 1) = true := by rw [q0, q2]; simp
        simp only [resOf, z1, z2, Bool.and_self]

end Go.Proofs.YtepnadmoflalnaaDoor
