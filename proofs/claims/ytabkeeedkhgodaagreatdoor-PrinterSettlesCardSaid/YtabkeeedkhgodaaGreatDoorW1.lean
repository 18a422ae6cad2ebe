/-
  Walks: kinds of bytes. No condition.
-/
import Derived.Test.YtabkeeedkhgodaaGreatDoorC
import Derived.KernelRfl
namespace Go.Proofs.YtabkeeedkhgodaaGreatDoor
open Go Go.Aw
set_option linter.unusedVariables false
set_option linter.unusedSimpArgs false

set_option maxRecDepth 20000 in
set_option maxHeartbeats 400000 in
theorem c39 (c : UInt8) : APure Tryz.prog 146 [.int .u8 (c.toNat : Int)] (.bool (digitS c)) := by
 refine APure.body (n := 9) tok Tryz.func146 rfl rfl rfl fun H => ?_
 refine AW.seq (AW.region ?_)
 refine AOL.p (P_assign (v := .bool _) rfl) rfl ?_
 refine AOL.nil (thenN ?_)
 refine AW.seq (AW.region ?_)
 refine AOL.p (P_move (v := .int .u8 _) rfl) rfl ?_
 refine AOL.p (P_geq rfl rfl) rfl ?_
 refine AOL.p (P_move (v := .bool _) rfl) rfl ?_
 refine AOL.g (y := .int .u8 _) _ [] rfl (EntL.all trivial) (fun hG => P_move (v := .int .u8 _) rfl) rfl ?_
 refine AOL.g (y := .bool _) _ [(6, _)] rfl (EntL.all ⟨Ent.self _ _, trivial⟩) (fun hG => P_leq rfl rfl) rfl ?_
 refine AOL.p (P_pick_and rfl rfl rfl) rfl ?_
 refine AOL.p (P_assign (v := .bool _) rfl) rfl ?_
 refine AOL.nil (thenN ?_)
 refine AW.ret ?_
 refine ⟨.inr rfl, [.bool _], .cons (.tmp _ _ rfl) <| .nil, .refl _, ?_⟩
 rfl
set_option maxRecDepth 20000 in
set_option maxHeartbeats 400000 in
theorem c43 (c : UInt8) : APure Tryz.prog 149 [.int .u8 (c.toNat : Int)] (.bool (letterS c)) := by
 refine APure.body (n := 21) tok Tryz.func149 rfl rfl rfl fun H => ?_
 refine AW.seq (AW.region ?_)
 refine AOL.p (P_assign (v := .bool _) rfl) rfl ?_
 refine AOL.nil (thenN ?_)
 refine AW.seq (AW.region ?_)
 refine AOL.p (P_move (v := .int .u8 _) rfl) rfl ?_
 refine AOL.p (P_eql rfl rfl) rfl ?_
 refine AOL.p (P_move (v := .bool _) rfl) rfl ?_
 refine AOL.g (y := .int .u8 _) _ [] rfl (EntL.all trivial) (fun hG => P_move (v := .int .u8 _) rfl) rfl ?_
 refine AOL.g (y := .bool _) _ [(6, _)] rfl (EntL.all ⟨Ent.self _ _, trivial⟩) (fun hG => P_geq rfl rfl) rfl ?_
 refine AOL.g (y := .bool _) _ [(7, _)] rfl (EntL.all ⟨Ent.self _ _, trivial⟩) (fun hG => P_move (v := .bool _) rfl) rfl ?_
 refine AOL.g (y := .int .u8 _) _ [] rfl (EntL.all trivial) (fun hG => P_move (v := .int .u8 _) rfl) rfl ?_
 refine AOL.g (y := .bool _) _ [(9, _)] rfl (EntL.all ⟨Ent.self _ _, trivial⟩) (fun hG => P_leq rfl rfl) rfl ?_
 refine AOL.g (y := .bool _) _ [(8, _), (10, _)] rfl (EntL.all ⟨Ent.self _ _, Ent.suf _ _ _, trivial⟩) (fun hG => P_pick_and rfl rfl rfl) rfl ?_
 refine AOL.p (P_pick_or rfl rfl rfl) rfl ?_
 refine AOL.p (P_move (v := .bool _) rfl) rfl ?_
 refine AOL.g (y := .int .u8 _) _ [] rfl (EntL.all trivial) (fun hG => P_move (v := .int .u8 _) rfl) rfl ?_
 refine AOL.g (y := .bool _) _ [(14, _)] rfl (EntL.all ⟨Ent.self _ _, trivial⟩) (fun hG => P_geq rfl rfl) rfl ?_
 refine AOL.g (y := .bool _) _ [(15, _)] rfl (EntL.all ⟨Ent.self _ _, trivial⟩) (fun hG => P_move (v := .bool _) rfl) rfl ?_
 refine AOL.g (y := .int .u8 _) _ [] rfl (EntL.all trivial) (fun hG => P_move (v := .int .u8 _) rfl) rfl ?_
 refine AOL.g (y := .bool _) _ [(17, _)] rfl (EntL.all ⟨Ent.self _ _, trivial⟩) (fun hG => P_leq rfl rfl) rfl ?_
 refine AOL.g (y := .bool _) _ [(16, _), (18, _)] rfl (EntL.all ⟨Ent.self _ _, Ent.suf _ _ _, trivial⟩) (fun hG => P_pick_and rfl rfl rfl) rfl ?_
 refine AOL.p (P_pick_or rfl rfl rfl) rfl ?_
 refine AOL.p (P_assign (v := .bool _) rfl) rfl ?_
 refine AOL.nil (thenN ?_)
 refine AW.ret ?_
 refine ⟨.inr rfl, [.bool _], .cons (.tmp _ _ rfl) <| .nil, .refl _, ?_⟩
 rfl
set_option maxRecDepth 20000 in
set_option maxHeartbeats 400000 in
theorem c52 (c : UInt8) : APure Tryz.prog 131 [.int .u8 (c.toNat : Int)] (.bool (lineS c)) := by
 refine APure.body (n := 5) tok Tryz.func131 rfl rfl rfl fun H => ?_
 refine AW.seq (AW.region ?_)
 refine AOL.p (P_assign (v := .bool _) rfl) rfl ?_
 refine AOL.nil (thenN ?_)
 refine AW.seq (AW.region ?_)
 refine AOL.p (P_move (v := .int .u8 _) rfl) rfl ?_
 refine AOL.p (P_neq rfl rfl) rfl ?_
 refine AOL.p (P_assign (v := .bool _) rfl) rfl ?_
 refine AOL.nil (thenN ?_)
 refine AW.ret ?_
 refine ⟨.inr rfl, [.bool _], .cons (.tmp _ _ rfl) <| .nil, .refl _, ?_⟩
 rfl
set_option maxRecDepth 20000 in
set_option maxHeartbeats 400000 in
theorem c69 (c : UInt8) : APure Tryz.prog 155 [.int .u8 (c.toNat : Int)] (.bool (wordS c)) := by
 refine APure.body (n := 9) tok Tryz.func155 rfl rfl rfl fun H => ?_
 refine AW.seq (AW.region ?_)
 refine AOL.p (P_assign (v := .bool _) rfl) rfl ?_
 refine AOL.nil (thenN ?_)
 refine AW.seq (AW.region ?_)
 refine AOL.p (P_move (v := .int .u8 _) rfl) rfl ?_
 refine AOL.p (P_callf (by kernel_rfl) rfl rfl (c43 _)) rfl ?_
 refine AOL.p (P_move (v := .bool _) rfl) rfl ?_
 refine AOL.g (y := .int .u8 _) _ [] rfl (EntL.all trivial) (fun hG => P_move (v := .int .u8 _) rfl) rfl ?_
 refine AOL.g (y := .bool _) _ [(6, _)] rfl (EntL.all ⟨Ent.self _ _, trivial⟩) (fun hG => P_callf (by kernel_rfl) rfl rfl (c39 _)) rfl ?_
 refine AOL.p (P_pick_or rfl rfl rfl) rfl ?_
 refine AOL.p (P_assign (v := .bool _) rfl) rfl ?_
 refine AOL.nil (thenN ?_)
 refine AW.ret ?_
 refine ⟨.inr rfl, [.bool _], .cons (.tmp _ _ rfl) <| .nil, .refl _, ?_⟩
 rfl
set_option maxRecDepth 20000 in
set_option maxHeartbeats 400000 in
theorem c42 (c : UInt8) : APure Tryz.prog 148 [.int .u8 (c.toNat : Int)] (.bool (oddS c)) := by
 refine APure.body (n := 11) tok Tryz.func148 rfl rfl rfl fun H => ?_
 refine AW.seq (AW.region ?_)
 refine AOL.p (P_assign (v := .bool _) rfl) rfl ?_
 refine AOL.nil (thenN ?_)
 refine AW.seq (AW.region ?_)
 refine AOL.p (P_move (v := .int .u8 _) rfl) rfl ?_
 refine AOL.p (P_callf (by kernel_rfl) rfl rfl (c43 _)) rfl ?_
 refine AOL.p (P_not rfl) rfl ?_
 refine AOL.p (P_move (v := .bool _) rfl) rfl ?_
 refine AOL.g (y := .int .u8 _) _ [] rfl (EntL.all trivial) (fun hG => P_move (v := .int .u8 _) rfl) rfl ?_
 refine AOL.g (y := .bool _) _ [(7, _)] rfl (EntL.all ⟨Ent.self _ _, trivial⟩) (fun hG => P_callf (by kernel_rfl) rfl rfl (c39 _)) rfl ?_
 refine AOL.g (y := .bool _) _ [(8, _)] rfl (EntL.all ⟨Ent.self _ _, trivial⟩) (fun hG => P_not rfl) rfl ?_
 refine AOL.p (P_pick_and rfl rfl rfl) rfl ?_
 refine AOL.p (P_assign (v := .bool _) rfl) rfl ?_
 refine AOL.nil (thenN ?_)
 refine AW.ret ?_
 refine ⟨.inr rfl, [.bool _], .cons (.tmp _ _ rfl) <| .nil, .refl _, ?_⟩
 rfl
end Go.Proofs.YtabkeeedkhgodaaGreatDoor
