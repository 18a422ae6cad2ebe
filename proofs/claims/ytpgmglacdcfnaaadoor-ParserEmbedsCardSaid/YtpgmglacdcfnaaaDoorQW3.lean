/-
  Walks: hexadecimal digits, keywords, positions. No condition.
-/
import Derived.Test.YtpgmglacdcfnaaaDoorQW2
import Derived.KernelRfl
namespace Go.Proofs.YtpgmglacdcfnaaaDoor
open Go Go.Aw
set_option linter.unusedVariables false
set_option linter.unusedSimpArgs false

theorem wrap8_le (x : Int) : 0 ≤ IntKind.u8.wrap x ∧ IntKind.u8.wrap x ≤ 255 := by rw [IntKind.wrap_u8]; omega
theorem wrap64_8 (x : Int) : IntKind.i64.wrap (IntKind.u8.wrap x) = IntKind.u8.wrap x := by
  have := wrap8_le x
  exact IntWalk.i64_in _ (by omega)
theorem dv_le (c : UInt8) : 0 ≤ dvS c ∧ dvS c ≤ 255 := wrap8_le _
theorem ne_len {s : Str} {b : Bool} (h : ((s == []) || b) = false) : 0 < s.length := by
  cases s with
  | nil => simp at h
  | cons a r => simp
theorem pos_len {s : Str} (h : (s == []) = false) : 0 < s.length := by
  cases s with
  | nil => simp at h
  | cons a r => simp
theorem count_le (s : Str) (c : UInt8) : Lib.countByte s c ≤ s.length := List.count_le_length
theorem last_le (s p : Str) : -1 ≤ Lib.lastIndex s p ∧ Lib.lastIndex s p ≤ s.length := by
  unfold Lib.lastIndex
  split
  · rcases Lib.lastOcc_spec s p (s.length - p.length + 1) with ⟨h, _⟩ | ⟨i, h1, h2, h3, _⟩
    · rw [h]; omega
    · rw [h2]; omega
  · omega
theorem numGo_step {s : Str} {k : Nat} {n : Int} (h : k < s.length) (hc : decide (1099511627776 < 10 * n + dvS (bt s k)) = false) : numGo (s.drop k) n = numGo (s.drop (k + 1)) (10 * n + dvS (bt s k)) := by
  rw [drop_bt h, numGo, if_neg (by simp [hc])]
theorem numGo_stop {s : Str} {k : Nat} {n : Int} (h : k < s.length) (hc : decide (1099511627776 < 10 * n + dvS (bt s k)) = true) : numGo (s.drop k) n = (0, 2) := by
  rw [drop_bt h, numGo, if_pos hc]
theorem all_next {s : Str} {k : Nat} (h : k < s.length) (hd : (!digitS (bt s k)) = false) (hk : (s.take k).all digitS = true) : (s.take (k + 1)).all digitS = true := by
  rw [List.take_add_one, bt_get h]
  simp only [Bool.not_eq_false'] at hd
  simp [List.all_append, hk, hd]
theorem all_not {s : Str} {k : Nat} (h : k < s.length) (hd : (!digitS (bt s k)) = true) : s.all digitS = false := by
  simp only [Bool.not_eq_true'] at hd
  apply Bool.eq_false_iff.2
  intro ha
  rw [List.all_eq_true] at ha
  have := ha (bt s k) (List.mem_of_getElem? (bt_get h))
  rw [hd] at this; cases this
theorem take_drop_bt {s : Str} {n j : Nat} (h : j < n) (hn : n ≤ s.length) : (s.take n).drop j = bt s j :: (s.take n).drop (j + 1) := by
  have hl : j < (s.take n).length := by rw [List.length_take]; omega
  rw [drop_bt hl]
  congr 1
  simp [bt, List.getD_eq_getElem?_getD, List.getElem?_take, h]
def keyA (s : Str) : Bool := (s == [97, 108, 108]) || (s == [97, 108, 116]) || (s == [97, 110, 100]) || (s == [98, 111, 111, 108]) || (s == [98, 121]) || (s == [99, 111, 117, 110, 116]) || (s == [102, 97, 108, 115, 101]) || (s == [102, 105, 114, 115, 116]) || (s == [105, 102]) || (s == [105, 110, 116]) || (s == [108, 97, 99, 107, 115]) || (s == [108, 97, 115, 116]) || (s == [109, 97, 116, 99, 104]) || (s == [109, 97, 120])
def keyB (s : Str) : Bool := (s == [109, 105, 110]) || (s == [110, 111, 116]) || (s == [111, 114]) || (s == [112, 108, 117, 115]) || (s == [113, 117, 101, 114, 121]) || (s == [114, 101, 116, 117, 114, 110]) || (s == [115, 101, 113]) || (s == [115, 116, 114, 105, 110, 103]) || (s == [115, 117, 109]) || (s == [116, 105, 109, 101]) || (s == [116, 114, 117, 101]) || (s == [116, 121, 112, 101]) || (s == [119, 104, 101, 114, 101]) || (s == [119, 105, 116, 104, 105, 110])
theorem key_AB (s : Str) : keyR s = (keyA s || keyB s) := by simp only [keyR, keyA, keyB, Bool.or_assoc]

set_option maxRecDepth 20000 in
set_option maxHeartbeats 400000 in
theorem c79 (c : UInt8) : APure Tryd.prog 87 [.int .u8 (c.toNat : Int)] (.int .i64 (hexR c)) := by
  refine APure.body (n := 18) tok Tryd.func87 rfl rfl rfl fun H => ?_
  refine AW.seq ?_
  refine AW.region ?_
  refine AOL.p (P_assign (v := .int .i64 _) rfl) rfl ?_
  refine AOL.nil ?_
  refine thenN ?_
  refine AW.seq ?_
  refine AW.seq ?_
  refine AW.region ?_
  refine AOL.p (P_move (v := .int .u8 _) rfl) rfl ?_
  refine AOL.p (P_callf (by kernel_rfl) rfl rfl (c40 _)) rfl ?_
  refine AOL.nil ?_
  refine thenN ?_
  refine AW.cond (b := _) rfl (fun hc1 => ?_) (fun hc1 => ?_)
  · skip
    refine AW.seq ?_
    refine AW.region ?_
    refine AOL.p (P_move (v := .int .u8 _) rfl) rfl ?_
    refine AOL.p (P_subw rfl rfl) rfl ?_
    refine AOL.p (P_conv (m := dvS c) tok rfl rfl rfl rfl rfl (wrap64_8 _)) rfl ?_
    refine AOL.p (P_assign (v := .int .i64 _) rfl) rfl ?_
    refine AOL.nil ?_
    refine thenN ?_
    refine AW.ret ?_
    refine thenR ?_
    refine ⟨.inr rfl, [.int .i64 _], .cons (.tmp _ _ rfl) <| .nil, .refl _, ?_⟩
    simp only [resOf, hexR]
    (first | rw [if_pos hc1] | skip)
    first | done | rfl
  · skip
    refine AW.skip ?_
    refine thenN ?_
    refine AW.seq ?_
    refine AW.seq ?_
    refine AW.region ?_
    refine AOL.p (P_move (v := .int .u8 _) rfl) rfl ?_
    refine AOL.p (P_geq rfl rfl) rfl ?_
    refine AOL.p (P_move (v := .bool _) rfl) rfl ?_
    refine AOL.g (y := .int .u8 _) _ [] rfl (EntL.all trivial) (fun hG => P_move (v := .int .u8 _) rfl) rfl ?_
    refine AOL.g (y := .bool _) _ [(11, _)] rfl (EntL.all ⟨Ent.self _ _, trivial⟩) (fun hG => P_leq rfl rfl) rfl ?_
    refine AOL.p (P_pick_and rfl rfl rfl) rfl ?_
    refine AOL.nil ?_
    refine thenN ?_
    refine AW.cond (b := _) rfl (fun hc2 => ?_) (fun hc2 => ?_)
    · skip
      refine AW.seq ?_
      refine AW.region ?_
      refine AOL.p (P_move (v := .int .u8 _) rfl) rfl ?_
      refine AOL.p (P_subw rfl rfl) rfl ?_
      refine AOL.p (P_conv (m := IntKind.u8.wrap ((c.toNat : Int) - 97)) tok rfl rfl rfl rfl rfl (wrap64_8 _)) rfl ?_
      refine AOL.p (P_add rfl rfl rfl (by have := wrap8_le ((c.toNat : Int) - 97); constructor <;> omega)) rfl ?_
      refine AOL.p (P_assign (v := .int .i64 _) rfl) rfl ?_
      refine AOL.nil ?_
      refine thenN ?_
      refine AW.ret ?_
      refine thenR ?_
      refine ⟨.inr rfl, [.int .i64 _], .cons (.tmp _ _ rfl) <| .nil, .refl _, ?_⟩
      simp only [resOf, hexR]
      (first | rw [if_neg (Bool.eq_false_iff.mp hc1)] | skip); (first | rw [if_pos hc2] | skip)
      first | done | rfl
    · skip
      refine AW.skip ?_
      refine thenN ?_
      refine AW.seq ?_
      refine AW.region ?_
      refine AOL.p (P_assign (v := .int .i64 _) rfl) rfl ?_
      refine AOL.nil ?_
      refine thenN ?_
      refine AW.ret ?_
      refine ⟨.inr rfl, [.int .i64 _], .cons (.tmp _ _ rfl) <| .nil, .refl _, ?_⟩
      simp only [resOf, hexR]
      (first | rw [if_neg (Bool.eq_false_iff.mp hc1)] | skip); (first | rw [if_neg (Bool.eq_false_iff.mp hc2)] | skip)
      first | done | rfl
set_option maxRecDepth 20000 in
set_option maxHeartbeats 400000 in
theorem c22 (s : Str) (hl : s.length ≤ 1048576) : APure Tryd.prog 68 [.str s] (.bool (keyS s)) := by
  refine APure.body (n := 16) tok Tryd.func68 rfl rfl rfl fun H => ?_
  refine AW.seq ?_
  refine AW.region ?_
  refine AOL.p (P_assign (v := .bool _) rfl) rfl ?_
  refine AOL.nil ?_
  refine thenN ?_
  refine AW.seq ?_
  refine AW.region ?_
  refine AOL.p (P_move (v := .str _) rfl) rfl ?_
  refine AOL.p (P_neq_str rfl rfl) rfl ?_
  refine AOL.p (P_move (v := .bool _) rfl) rfl ?_
  refine AOL.g (y := .str _) _ [] rfl (EntL.all trivial) (fun hG => P_move (v := .str _) rfl) rfl ?_
  refine AOL.g (y := .bool _) _ [(6, _)] rfl (EntL.all ⟨Ent.self _ _, trivial⟩) (fun hG => P_callf (by kernel_rfl) rfl rfl (k29 _ _ (by omega))) rfl ?_
  refine AOL.g (y := .bool _) _ [(7, _)] rfl (EntL.all ⟨Ent.self _ _, trivial⟩) (fun hG => P_not rfl) rfl ?_
  refine AOL.p (P_pick_and rfl rfl rfl) rfl ?_
  refine AOL.p (P_move (v := .bool _) rfl) rfl ?_
  refine AOL.g (y := .str _) _ [] rfl (EntL.all trivial) (fun hG => P_move (v := .str _) rfl) rfl ?_
  refine AOL.g (y := .str _) _ [(11, _)] rfl (EntL.all ⟨Ent.self _ _, trivial⟩) (fun hG => P_add_str rfl rfl rfl ((by simp [maxLen]; omega))) rfl ?_
  refine AOL.g (y := .str _) _ [(12, _)] rfl (EntL.all ⟨Ent.self _ _, trivial⟩) (fun hG => P_add_str rfl rfl rfl ((by simp [maxLen]; omega))) rfl ?_
  refine AOL.g (y := .bool _) _ [(13, _)] rfl (EntL.all ⟨Ent.self _ _, trivial⟩) (fun hG => P_callf (by kernel_rfl) rfl rfl (k29 _ _ (by simp [keywords]))) rfl ?_
  refine AOL.p (P_pick_and rfl rfl rfl) rfl ?_
  refine AOL.p (P_assign (v := .bool _) rfl) rfl ?_
  refine AOL.nil ?_
  refine thenN ?_
  refine AW.ret ?_
  refine ⟨.inr rfl, [.bool _], .cons (.tmp _ _ rfl) <| .nil, .refl _, ?_⟩
  rfl

end Go.Proofs.YtpgmglacdcfnaaaDoor
