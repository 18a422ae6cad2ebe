/-
  The law LexerScans, walked. No condition.
-/
import Derived.Test.YtepnadmoflalnaaDoorP3
import Derived.KernelRfl
namespace Go.Proofs.YtepnadmoflalnaaDoor
open Go Go.Aw
set_option linter.unusedVariables false
set_option linter.unusedSimpArgs false

theorem small_le {s : Str} (h : (!smallS s) = false) : s.length ≤ 1048576 := by
  unfold smallS at h; simp at h; omega
theorem scan_len (s : Str) (hl : s.length ≤ 1048576) : (scanS s).1.length ≤ s.length := by
  have key : ∀ (n i : Nat) (out : List Tok), i ≤ s.length → out.length ≤ i → (scanGo s n i out).1.length ≤ s.length := by
    intro n
    induction n with
    | zero => intro i out h1 h2; simp [scanGo]
    | succ n ih =>
      intro i out h1 h2
      rw [scanGo_succ]
      by_cases hi : i < s.length
      · rw [in_text hi]
        simp only [↓reduceIte]
        have hs := sep_le (s.drop i)
        have hn := next_le (s.drop i) (by rw [List.length_drop]; omega)
        rw [List.length_drop] at hs hn
        have hs2 := hs.2 (by omega)
        split
        · exact ih _ _ (by omega) (by omega)
        · split
          · simp
          · rename_i h3
            have hp := hn.2.2.2.2 (by simpa using h3)
            exact ih _ _ (by omega) (by simp; omega)
      · have e : decide ((i : Int) < (s.length : Int)) = false := by simp only [decide_eq_false_iff_not]; omega
        rw [e]; simp only [Bool.false_eq_true, ↓reduceIte]; omega
  unfold scanS
  split
  · simp
  · exact key _ _ _ (Nat.zero_le _) (Nat.zero_le _)

set_option maxRecDepth 20000 in
set_option maxHeartbeats 800000 in
theorem c3 (s : Str) : APure Tryd.prog 3 [.str s] (.bool true) := by
  refine APure.body (n := 41) tok Tryd.func3 rfl rfl rfl fun H => ?_
  refine AW.seq ?_
  refine AW.region ?_
  refine AOL.p (P_assign (v := .bool _) rfl) rfl ?_
  refine AOL.nil ?_
  refine thenN ?_
  refine AW.seq ?_
  refine AW.seq ?_
  refine AW.region ?_
  refine AOL.p (P_move (v := .str _) rfl) rfl ?_
  refine AOL.p (P_callf (by kernel_rfl) rfl rfl (c11 s)) rfl ?_
  refine AOL.p (P_not rfl) rfl ?_
  refine AOL.nil ?_
  refine thenN ?_
  refine AW.cond (b := _) rfl (fun hc1 => ?_) (fun hc1 => ?_)
  · skip
    refine AW.seq ?_
    refine AW.region ?_
    refine AOL.p (P_callf (by kernel_rfl) rfl rfl (c12)) rfl ?_
    refine AOL.p (P_assign (v := .bool _) rfl) rfl ?_
    refine AOL.nil ?_
    refine thenN ?_
    refine AW.ret ?_
    refine thenR ?_
    refine ⟨.inr rfl, [.bool _], .cons (.tmp _ _ rfl) <| .nil, .refl _, ?_⟩
    rfl
  · skip
    have hl := small_le hc1
    have hsl := scan_len s hl
    refine AW.skip ?_
    refine thenN ?_
    refine AW.seq ?_
    refine AW.region ?_
    refine AOL.p (P_move (v := .str _) rfl) rfl ?_
    refine AOL.p (P_callf (by kernel_rfl) rfl rfl (c13 s hl)) rfl ?_
    refine AOL.p (P_move (v := .tuple _) rfl) rfl ?_
    refine AOL.p (P_extract (v := .sl _ _) rfl rfl) rfl ?_
    refine AOL.p (P_extract (v := .int .i64 _) rfl rfl) rfl ?_
    refine AOL.p (P_extract (v := .int .i64 _) rfl rfl) rfl ?_
    refine AOL.p (P_assign (v := .sl _ _) rfl) rfl ?_
    refine AOL.p (P_assign (v := .int .i64 _) rfl) rfl ?_
    refine AOL.p (P_assign (v := .int .i64 _) rfl) rfl ?_
    refine AOL.nil ?_
    refine thenN ?_
    refine AW.seq ?_
    refine AW.region ?_
    refine AOL.p (P_move (v := .str _) rfl) rfl ?_
    refine AOL.p (P_callf (by kernel_rfl) rfl rfl (c14 s hl)) rfl ?_
    refine AOL.p (P_move (v := .tuple _) rfl) rfl ?_
    refine AOL.p (P_extract (v := .sl _ _) rfl rfl) rfl ?_
    refine AOL.p (P_extract (v := .int .i64 _) rfl rfl) rfl ?_
    refine AOL.p (P_extract (v := .int .i64 _) rfl rfl) rfl ?_
    refine AOL.p (P_assign (v := .sl _ _) rfl) rfl ?_
    refine AOL.p (P_assign (v := .int .i64 _) rfl) rfl ?_
    refine AOL.p (P_assign (v := .int .i64 _) rfl) rfl ?_
    refine AOL.nil ?_
    refine thenN ?_
    refine AW.seq ?_
    refine AW.region ?_
    refine AOL.p (P_callf (by kernel_rfl) rfl rfl (c12)) rfl ?_
    refine AOL.p (P_move (v := .bool _) rfl) rfl ?_
    refine AOL.g (y := .sl _ _) _ [] rfl (EntL.all trivial) (fun hG => P_move (v := .sl _ _) rfl) rfl ?_
    refine AOL.g (y := .sl _ _) _ [] rfl (EntL.all trivial) (fun hG => P_move (v := .sl _ _) rfl) rfl ?_
    refine AOL.g (y := .bool _) _ [(27, _), (28, _)] rfl (EntL.all ⟨Ent.self _ _, Ent.self _ _, trivial⟩) (fun hG => P_callf (by kernel_rfl) rfl rfl (c15 _ _ (by omega))) rfl ?_
    refine AOL.p (P_pick_and rfl rfl rfl) rfl ?_
    refine AOL.p (P_move (v := .bool _) rfl) rfl ?_
    refine AOL.g (y := .int .i64 _) _ [] rfl (EntL.all trivial) (fun hG => P_move (v := .int .i64 _) rfl) rfl ?_
    refine AOL.g (y := .int .i64 _) _ [] rfl (EntL.all trivial) (fun hG => P_move (v := .int .i64 _) rfl) rfl ?_
    refine AOL.g (y := .bool _) _ [(32, _), (33, _)] rfl (EntL.all ⟨Ent.self _ _, Ent.self _ _, trivial⟩) (fun hG => P_eql rfl rfl) rfl ?_
    refine AOL.p (P_pick_and rfl rfl rfl) rfl ?_
    refine AOL.p (P_move (v := .bool _) rfl) rfl ?_
    refine AOL.g (y := .int .i64 _) _ [] rfl (EntL.all trivial) (fun hG => P_move (v := .int .i64 _) rfl) rfl ?_
    refine AOL.g (y := .int .i64 _) _ [] rfl (EntL.all trivial) (fun hG => P_move (v := .int .i64 _) rfl) rfl ?_
    refine AOL.g (y := .bool _) _ [(37, _), (38, _)] rfl (EntL.all ⟨Ent.self _ _, Ent.self _ _, trivial⟩) (fun hG => P_eql rfl rfl) rfl ?_
    refine AOL.p (P_pick_and rfl rfl rfl) rfl ?_
    refine AOL.p (P_assign (v := .bool _) rfl) rfl ?_
    refine AOL.nil ?_
    refine thenN ?_
    refine AW.ret ?_
    refine ⟨.inr rfl, [.bool _], .cons (.tmp _ _ rfl) <| .nil, .refl _, ?_⟩
    have h9 := scan_eq s
    have h8 : sameS (scanS s).1 (scanR s).1 = true := by rw [h9]; simp [sameS]
    have h7 : ((scanS s).2.1 == (scanR s).2.1) = true := by rw [h9]; simp
    have h6 : ((scanS s).2.2 == (scanR s).2.2) = true := by rw [h9]; simp
    simp only [resOf, h8, h7, h6, Bool.and_self]

end Go.Proofs.YtepnadmoflalnaaDoor
