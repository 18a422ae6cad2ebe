/-
  Walks: hexadecimal digits, keywords, positions. No condition.
-/
import Derived.Test.YtabkeeedkhgodaaGreatDoorW2
import Derived.KernelRfl
namespace Go.Proofs.YtabkeeedkhgodaaGreatDoor
open Go Go.Aw
set_option linter.unusedVariables false
set_option linter.unusedSimpArgs false

theorem wrap8_le (x : Int) : 0 ≤ IntKind.u8.wrap x ∧ IntKind.u8.wrap x ≤ 255 := by rw [IntKind.wrap_u8]; omega
theorem wrap64_8 (x : Int) : IntKind.i64.wrap (IntKind.u8.wrap x) = IntKind.u8.wrap x := by
  have := wrap8_le x
  exact IntWalk.i64_in _ (by omega)
theorem dv_le (c : UInt8) : 0 ≤ dvS c ∧ dvS c ≤ 255 := wrap8_le _
theorem ne_len {s : Str} {b : Bool} (h : ((s == []) || b) = false) : 0 < s.length := by
  cases s with
  | nil => simp at h
  | cons a r => simp
theorem numGo_step {s : Str} {k : Nat} {n : Int} (h : k < s.length) (hc : decide (1099511627776 < 10 * n + dvS (bt s k)) = false) : numGo (s.drop k) n = numGo (s.drop (k + 1)) (10 * n + dvS (bt s k)) := by
  rw [drop_bt h, numGo, if_neg (by simp [hc])]
theorem numGo_stop {s : Str} {k : Nat} {n : Int} (h : k < s.length) (hc : decide (1099511627776 < 10 * n + dvS (bt s k)) = true) : numGo (s.drop k) n = (0, 2) := by
  rw [drop_bt h, numGo, if_pos hc]
def keyA (s : Str) : Bool := (s == [97, 108, 108]) || (s == [97, 108, 116]) || (s == [97, 110, 100]) || (s == [98, 111, 111, 108]) || (s == [98, 121]) || (s == [99, 111, 117, 110, 116]) || (s == [102, 97, 108, 115, 101]) || (s == [102, 105, 114, 115, 116]) || (s == [105, 102]) || (s == [105, 110, 116]) || (s == [108, 97, 99, 107, 115]) || (s == [108, 97, 115, 116]) || (s == [109, 97, 116, 99, 104]) || (s == [109, 97, 120])
def keyB (s : Str) : Bool := (s == [109, 105, 110]) || (s == [110, 111, 116]) || (s == [111, 114]) || (s == [112, 108, 117, 115]) || (s == [113, 117, 101, 114, 121]) || (s == [114, 101, 116, 117, 114, 110]) || (s == [115, 101, 113]) || (s == [115, 116, 114, 105, 110, 103]) || (s == [115, 117, 109]) || (s == [116, 105, 109, 101]) || (s == [116, 114, 117, 101]) || (s == [116, 121, 112, 101]) || (s == [119, 104, 101, 114, 101]) || (s == [119, 105, 116, 104, 105, 110])
set_option maxRecDepth 20000 in
set_option maxHeartbeats 400000 in
theorem c22 (s : Str) (hl : s.length ≤ 1048576) : APure Tryz.prog 102 [.str s] (.bool (keyS s)) := by
 refine APure.body (n := 16) tok Tryz.func102 rfl rfl rfl fun H => ?_
 refine AW.seq (AW.region ?_)
 refine AOL.p (P_assign (v := .bool _) rfl) rfl ?_
 refine AOL.nil (thenN ?_)
 refine AW.seq (AW.region ?_)
 refine AOL.p (P_move (v := .str _) rfl) rfl ?_
 refine AOL.p (P_neq_str rfl rfl) rfl ?_
 refine AOL.p (P_move (v := .bool _) rfl) rfl ?_
 refine AOL.g (y := .str _) _ [] rfl (EntL.all trivial) (fun hG => P_move (v := .str _) rfl) rfl ?_
 refine AOL.g (y := .bool _) _ [(6, _)] rfl (EntL.all ⟨Ent.self _ _, trivial⟩) (fun hG => P_callf (by kernel_rfl) rfl rfl (k29 _ _ (by omega))) rfl ?_
 refine AOL.g (y := .bool _) _ [(7, _)] rfl (EntL.all ⟨Ent.self _ _, trivial⟩) (fun hG => P_not rfl) rfl ?_
 refine AOL.p (P_pick_and rfl rfl rfl) rfl ?_
 refine AOL.p (P_move (v := .bool _) rfl) rfl ?_
 refine AOL.g (y := .str _) _ [] rfl (EntL.all trivial) (fun hG => P_move (v := .str _) rfl) rfl ?_
 refine AOL.g (y := .str _) _ [(11, _)] rfl (EntL.all ⟨Ent.self _ _, trivial⟩) (fun hG => P_add_str rfl rfl rfl ((by simp [maxLen]; omega))) rfl ?_
 refine AOL.g (y := .str _) _ [(12, _)] rfl (EntL.all ⟨Ent.self _ _, trivial⟩) (fun hG => P_add_str rfl rfl rfl ((by simp [maxLen]; omega))) rfl ?_
 refine AOL.g (y := .bool _) _ [(13, _)] rfl (EntL.all ⟨Ent.self _ _, trivial⟩) (fun hG => P_callf (by kernel_rfl) rfl rfl (k29 _ _ (by simp [keywords]))) rfl ?_
 refine AOL.p (P_pick_and rfl rfl rfl) rfl ?_
 refine AOL.p (P_assign (v := .bool _) rfl) rfl ?_
 refine AOL.nil (thenN ?_)
 refine AW.ret ?_
 refine ⟨.inr rfl, [.bool _], .cons (.tmp _ _ rfl) <| .nil, .refl _, ?_⟩
 rfl

end Go.Proofs.YtabkeeedkhgodaaGreatDoor
