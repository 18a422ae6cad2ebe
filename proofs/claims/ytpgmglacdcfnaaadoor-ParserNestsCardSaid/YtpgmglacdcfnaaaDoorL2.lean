/-
  Walks: the laws and their helpers. No condition.
-/
import Derived.Test.YtpgmglacdcfnaaaDoorL1
import Derived.KernelRfl
namespace Go.Proofs.YtpgmglacdcfnaaaDoor
open Go Go.Aw
set_option linter.unusedVariables false
set_option linter.unusedSimpArgs false

def twoS (op : Int) (a b : Syn) : Syn := ⟨17, [], [], op, [a, b], 0⟩
def refS (v f : Str) : Syn := ⟨14, v, f, 0, [], 0⟩
def conS (n : Int) : Syn := ⟨13, [], w_tint, n, [], 0⟩
def readsS (s : Str) (t : Syn) : Bool := (((pExpr s).2.2 == 0) && ((pExpr s).2.1 == 0)) && sameN (pExpr s).1 t
def failsS' (s : Str) (k : Int) : Bool := ((pPat s).2.2 == 4) && ((pPat s).2.1 == k)
def shortS (s : Str) : Bool := decide ((s.length : Int) ≤ 800)
theorem kids_two (a b : Syn) : [cSyn a, cSyn b] = [a, b].map encS := by rw [List.map_cons, List.map_cons, List.map_nil, encS_eq, encS_eq]

set_option maxRecDepth 20000 in
set_option maxHeartbeats 400000 in
theorem l_short (s : Str) : APure Tryd.prog 14 [.str s] (.bool (shortS s)) := by
  refine APure.body (n := 6) tok Tryd.func14 rfl rfl rfl fun H => ?_
  refine AW.seq ?_
  refine AW.region ?_
  refine AOL.p (P_assign (v := .bool _) rfl) rfl ?_
  refine AOL.nil ?_
  refine thenN ?_
  refine AW.seq ?_
  refine AW.region ?_
  refine AOL.p (P_move (v := .str _) rfl) rfl ?_
  refine AOL.p (P_len_str tok rfl rfl rfl rfl) rfl ?_
  refine AOL.p (P_leq rfl rfl) rfl ?_
  refine AOL.p (P_assign (v := .bool _) rfl) rfl ?_
  refine AOL.nil ?_
  refine thenN ?_
  refine AW.ret ?_
  refine ⟨.inr rfl, [.bool _], .cons (.tmp _ _ rfl) <| .nil, .refl _, ?_⟩
  rfl
set_option maxRecDepth 20000 in
set_option maxHeartbeats 400000 in
theorem l_two (op : Int) (x y : Syn) : APure Tryd.prog 22 [.int .i64 op, .agg (cSyn x), .agg (cSyn y)] (.agg (cSyn (twoS op x y))) := by
  refine APure.body (n := 12) tok Tryd.func22 rfl rfl rfl fun H => ?_
  refine AW.seq ?_
  refine AW.region ?_
  refine AOL.p (P_box (v := .agg _) (cs := [.int .i64 _, .str _, .str _, .int .i64 _, _, .int .i64 _]) rfl rfl rfl) rfl ?_
  refine AOL.p (P_box (v := .agg _) (cs := [.int .i64 _, .str _, .str _, .int .i64 _, _, .int .i64 _]) rfl rfl rfl) rfl ?_
  refine AOL.e (E_alloc (l := [.int .i64 0, .str [], .str [], .int .i64 0, .sl 6 [], .int .i64 0]) (by kernel_rfl)) rfl ?_
  rintro _ _ ⟨b6, rfl, rfl⟩
  refine AOL.nil ?_
  refine thenN ?_
  refine AW.seq ?_
  refine AW.region ?_
  refine AOL.p (P_move (v := .int .i64 _) rfl) rfl ?_
  refine AOL.p (P_load_ptr_agg (l := [.int .i64 _, .str _, .str _, .int .i64 _, _, .int .i64 _]) tok rfl rfl rfl rfl rfl) rfl ?_
  refine AOL.p (P_load_ptr_agg (l := [.int .i64 _, .str _, .str _, .int .i64 _, _, .int .i64 _]) tok rfl rfl rfl rfl rfl) rfl ?_
  refine AOL.p (P_buildSlice (es := [[.int .i64 _, .str _, .str _, .int .i64 _, _, .int .i64 _], [.int .i64 _, .str _, .str _, .int .i64 _, _, .int .i64 _]]) tok rfl rfl rfl rfl rfl rfl rfl rfl rfl) rfl ?_
  refine AOL.p (P_build (l := [.int .i64 _, .str _, .str _, .int .i64 _, _, .int .i64 _]) tok rfl rfl rfl) rfl ?_
  refine AOL.e (E_store (k := 0) (v := .agg _) (cs' := [.int .i64 _, .str _, .str _, .int .i64 _, _, .int .i64 _]) (H2 := _ :: _) tok rfl rfl rfl rfl rfl rfl rfl rfl rfl) rfl ?_
  rintro _ _ ⟨rfl, rfl⟩
  refine AOL.nil ?_
  refine thenN ?_
  refine AW.ret ?_
  refine ⟨.inr rfl, [.agg [.int .i64 _, .str _, .str _, .int .i64 _, _, .int .i64 _]], .cons (.box _ _ _ 0 _ _ _ _ rfl rfl rfl rfl rfl rfl) <| .nil, .cons _ (.refl _), ?_⟩
  exact congrArg (fun l => AV.agg [.int .i64 17, .str [], .str [], .int .i64 op, .sl 6 l, .int .i64 0]) (kids_two x y)
set_option maxRecDepth 20000 in
set_option maxHeartbeats 400000 in
theorem l_field (v f : Str) : APure Tryd.prog 23 [.str v, .str f] (.agg (cSyn (refS v f))) := by
  refine APure.body (n := 8) tok Tryd.func23 rfl rfl rfl fun H => ?_
  refine AW.seq ?_
  refine AW.region ?_
  refine AOL.e (E_alloc (l := [.int .i64 0, .str [], .str [], .int .i64 0, .sl 6 [], .int .i64 0]) (by kernel_rfl)) rfl ?_
  rintro _ _ ⟨b4, rfl, rfl⟩
  refine AOL.nil ?_
  refine thenN ?_
  refine AW.seq ?_
  refine AW.region ?_
  refine AOL.p (P_move (v := .str _) rfl) rfl ?_
  refine AOL.p (P_move (v := .str _) rfl) rfl ?_
  refine AOL.p (P_build (l := [.int .i64 _, .str _, .str _, .int .i64 _, _, .int .i64 _]) tok rfl rfl rfl) rfl ?_
  refine AOL.e (E_store (k := 0) (v := .agg _) (cs' := [.int .i64 _, .str _, .str _, .int .i64 _, _, .int .i64 _]) (H2 := _ :: _) tok rfl rfl rfl rfl rfl rfl rfl rfl rfl) rfl ?_
  rintro _ _ ⟨rfl, rfl⟩
  refine AOL.nil ?_
  refine thenN ?_
  refine AW.ret ?_
  refine ⟨.inr rfl, [.agg [.int .i64 _, .str _, .str _, .int .i64 _, _, .int .i64 _]], .cons (.box _ _ _ 0 _ _ _ _ rfl rfl rfl rfl rfl rfl) <| .nil, .cons _ (.refl _), ?_⟩
  rfl
set_option maxRecDepth 20000 in
set_option maxHeartbeats 400000 in
theorem l_number (n : Int) : APure Tryd.prog 24 [.int .i64 n] (.agg (cSyn (conS n))) := by
  refine APure.body (n := 5) tok Tryd.func24 rfl rfl rfl fun H => ?_
  refine AW.seq ?_
  refine AW.region ?_
  refine AOL.e (E_alloc (l := [.int .i64 0, .str [], .str [], .int .i64 0, .sl 6 [], .int .i64 0]) (by kernel_rfl)) rfl ?_
  rintro _ _ ⟨b2, rfl, rfl⟩
  refine AOL.nil ?_
  refine thenN ?_
  refine AW.seq ?_
  refine AW.region ?_
  refine AOL.p (P_move (v := .int .i64 _) rfl) rfl ?_
  refine AOL.p (P_build (l := [.int .i64 _, .str _, .str _, .int .i64 _, _, .int .i64 _]) tok rfl rfl rfl) rfl ?_
  refine AOL.e (E_store (k := 0) (v := .agg _) (cs' := [.int .i64 _, .str _, .str _, .int .i64 _, _, .int .i64 _]) (H2 := _ :: _) tok rfl rfl rfl rfl rfl rfl rfl rfl rfl) rfl ?_
  rintro _ _ ⟨rfl, rfl⟩
  refine AOL.nil ?_
  refine thenN ?_
  refine AW.ret ?_
  refine ⟨.inr rfl, [.agg [.int .i64 _, .str _, .str _, .int .i64 _, _, .int .i64 _]], .cons (.box _ _ _ 0 _ _ _ _ rfl rfl rfl rfl rfl rfl) <| .nil, .cons _ (.refl _), ?_⟩
  rfl
set_option maxRecDepth 20000 in
set_option maxHeartbeats 400000 in
theorem l_reads (s : Str) (hl : s.length ≤ 100000) (t : Syn) : APure Tryd.prog 21 [.str s, .agg (cSyn t)] (.bool (readsS s t)) := by
  refine APure.body (n := 25) tok Tryd.func21 rfl rfl rfl fun H => ?_
  refine AW.seq ?_
  refine AW.region ?_
  refine AOL.p (P_box (v := .agg _) (cs := [.int .i64 _, .str _, .str _, .int .i64 _, _, .int .i64 _]) rfl rfl rfl) rfl ?_
  refine AOL.p (P_assign (v := .bool _) rfl) rfl ?_
  refine AOL.nil ?_
  refine thenN ?_
  refine AW.seq ?_
  refine AW.region ?_
  refine AOL.p (P_move (v := .str _) rfl) rfl ?_
  refine AOL.p (P_callf (by kernel_rfl) rfl rfl (pp_Expr s hl)) rfl ?_
  refine AOL.p (P_move (v := .tuple _) rfl) rfl ?_
  refine AOL.p (P_extract (v := .agg [.int .i64 _, .str _, .str _, .int .i64 _, _, .int .i64 _]) rfl rfl) rfl ?_
  refine AOL.p (P_extract (v := .int .i64 _) rfl rfl) rfl ?_
  refine AOL.p (P_extract (v := .int .i64 _) rfl rfl) rfl ?_
  refine AOL.e (E_alloc (l := [.int .i64 0, .str [], .str [], .int .i64 0, .sl 6 [], .int .i64 0]) (by kernel_rfl)) rfl ?_
  rintro _ _ ⟨b5, rfl, rfl⟩
  refine AOL.e (E_store (k := 0) (v := .agg _) (cs' := [.int .i64 _, .str _, .str _, .int .i64 _, _, .int .i64 _]) (H2 := _ :: _) tok rfl rfl rfl rfl rfl rfl rfl rfl rfl) rfl ?_
  rintro _ _ ⟨rfl, rfl⟩
  refine AOL.p (P_assign (v := .int .i64 _) rfl) rfl ?_
  refine AOL.p (P_assign (v := .int .i64 _) rfl) rfl ?_
  refine AOL.ghost (GS.freeze (t := 5) 0 rfl rfl) ?_
  refine AOL.nil ?_
  refine thenN ?_
  refine AW.seq ?_
  refine AW.region ?_
  refine AOL.p (P_move (v := .int .i64 _) rfl) rfl ?_
  refine AOL.p (P_eql rfl rfl) rfl ?_
  refine AOL.p (P_move (v := .bool _) rfl) rfl ?_
  refine AOL.g (y := .int .i64 _) _ [] rfl (EntL.all trivial) (fun hG => P_move (v := .int .i64 _) rfl) rfl ?_
  refine AOL.g (y := .bool _) _ [(17, _)] rfl (EntL.all ⟨Ent.self _ _, trivial⟩) (fun hG => P_eql rfl rfl) rfl ?_
  refine AOL.p (P_pick_and rfl rfl rfl) rfl ?_
  refine AOL.p (P_move (v := .bool _) rfl) rfl ?_
  refine AOL.g (y := .agg _) _ [] rfl (EntL.all trivial) (fun hG => P_load_ptr_agg (l := [.int .i64 _, .str _, .str _, .int .i64 _, _, .int .i64 _]) tok rfl rfl rfl rfl rfl) rfl ?_
  refine AOL.g (y := .agg _) _ [] rfl (EntL.all trivial) (fun hG => P_load_ptr_agg (l := [.int .i64 _, .str _, .str _, .int .i64 _, _, .int .i64 _]) tok rfl rfl rfl rfl rfl) rfl ?_
  refine AOL.g (y := .bool _) _ [(21, _), (22, _)] rfl (EntL.all ⟨Ent.self _ _, Ent.self _ _, trivial⟩) (fun hG => P_callf (by kernel_rfl) rfl rfl (r_Same _ _)) rfl ?_
  refine AOL.p (P_pick_and rfl rfl rfl) rfl ?_
  refine AOL.p (P_assign (v := .bool _) rfl) rfl ?_
  refine AOL.nil ?_
  refine thenN ?_
  refine AW.ret ?_
  refine ⟨.inr rfl, [.bool _], .cons (.tmp _ _ rfl) <| .nil, .refl _, ?_⟩
  rfl
set_option maxRecDepth 20000 in
set_option maxHeartbeats 400000 in
theorem l_fails (s : Str) (hl : s.length ≤ 100000) (k : Int) : APure Tryd.prog 25 [.str s, .int .i64 k] (.bool (failsS' s k)) := by
  refine APure.body (n := 21) tok Tryd.func25 rfl rfl rfl fun H => ?_
  refine AW.seq ?_
  refine AW.region ?_
  refine AOL.p (P_assign (v := .bool _) rfl) rfl ?_
  refine AOL.nil ?_
  refine thenN ?_
  refine AW.seq ?_
  refine AW.region ?_
  refine AOL.p (P_move (v := .str _) rfl) rfl ?_
  refine AOL.p (P_callf (by kernel_rfl) rfl rfl (pp_Pattern s hl)) rfl ?_
  refine AOL.p (P_move (v := .tuple _) rfl) rfl ?_
  refine AOL.p (P_extract (v := .agg [.int .i64 _, .str _, .str _, .int .i64 _, _, .int .i64 _]) rfl rfl) rfl ?_
  refine AOL.p (P_extract (v := .int .i64 _) rfl rfl) rfl ?_
  refine AOL.p (P_extract (v := .int .i64 _) rfl rfl) rfl ?_
  refine AOL.e (E_alloc (l := [.int .i64 0, .str [], .str [], .int .i64 0, .sl 6 [], .int .i64 0]) (by kernel_rfl)) rfl ?_
  rintro _ _ ⟨b5, rfl, rfl⟩
  refine AOL.e (E_store (k := 0) (v := .agg _) (cs' := [.int .i64 _, .str _, .str _, .int .i64 _, _, .int .i64 _]) (H2 := _ :: _) tok rfl rfl rfl rfl rfl rfl rfl rfl rfl) rfl ?_
  rintro _ _ ⟨rfl, rfl⟩
  refine AOL.p (P_assign (v := .int .i64 _) rfl) rfl ?_
  refine AOL.p (P_assign (v := .int .i64 _) rfl) rfl ?_
  refine AOL.ghost (GS.freeze (t := 5) 0 rfl rfl) ?_
  refine AOL.nil ?_
  refine thenN ?_
  refine AW.seq ?_
  refine AW.region ?_
  refine AOL.p (P_move (v := .int .i64 _) rfl) rfl ?_
  refine AOL.p (P_eql rfl rfl) rfl ?_
  refine AOL.p (P_move (v := .bool _) rfl) rfl ?_
  refine AOL.g (y := .int .i64 _) _ [] rfl (EntL.all trivial) (fun hG => P_move (v := .int .i64 _) rfl) rfl ?_
  refine AOL.g (y := .int .i64 _) _ [] rfl (EntL.all trivial) (fun hG => P_move (v := .int .i64 _) rfl) rfl ?_
  refine AOL.g (y := .bool _) _ [(17, _), (18, _)] rfl (EntL.all ⟨Ent.self _ _, Ent.self _ _, trivial⟩) (fun hG => P_eql rfl rfl) rfl ?_
  refine AOL.p (P_pick_and rfl rfl rfl) rfl ?_
  refine AOL.p (P_assign (v := .bool _) rfl) rfl ?_
  refine AOL.nil ?_
  refine thenN ?_
  refine AW.ret ?_
  refine ⟨.inr rfl, [.bool _], .cons (.tmp _ _ rfl) <| .nil, .refl _, ?_⟩
  rfl
set_option maxRecDepth 100000 in
theorem aw3 : parseP (queryP EE TT) [113, 117, 101, 114, 121, 32, 113, 32, 109, 97, 116, 99, 104, 32, 65, 32, 97, 32, 114, 101, 116, 117, 114, 110, 32, 49, 59] = (⟨3, [113], [], 0, [⟨4, [], [], 0, [], 0⟩, ⟨5, [65], [97], 0, [], 14⟩, ⟨13, [], w_tint, 1, [], 25⟩], 0⟩, 0, 0) := by kernel_rfl
theorem aw3c : APure Tryd.prog 12 [.str [113, 117, 101, 114, 121, 32, 113, 32, 109, 97, 116, 99, 104, 32, 65, 32, 97, 32, 114, 101, 116, 117, 114, 110, 32, 49, 59]] (.tuple [.agg (cSyn (((⟨3, [113], [], 0, [⟨4, [], [], 0, [], 0⟩, ⟨5, [65], [97], 0, [], 14⟩, ⟨13, [], w_tint, 1, [], 25⟩], 0⟩, 0, 0) : Syn × Int × Int)).1), .int .i64 (((⟨3, [113], [], 0, [⟨4, [], [], 0, [], 0⟩, ⟨5, [65], [97], 0, [], 14⟩, ⟨13, [], w_tint, 1, [], 25⟩], 0⟩, 0, 0) : Syn × Int × Int)).2.1, .int .i64 (((⟨3, [113], [], 0, [⟨4, [], [], 0, [], 0⟩, ⟨5, [65], [97], 0, [], 14⟩, ⟨13, [], w_tint, 1, [], 25⟩], 0⟩, 0, 0) : Syn × Int × Int)).2.2]) := by have h := pp_Query [113, 117, 101, 114, 121, 32, 113, 32, 109, 97, 116, 99, 104, 32, 65, 32, 97, 32, 114, 101, 116, 117, 114, 110, 32, 49, 59] (by decide); rwa [aw3] at h
set_option maxRecDepth 100000 in
set_option maxRecDepth 20000 in
set_option maxHeartbeats 3200000 in
theorem l_awake  : APure Tryd.prog 9 [] (.bool true) := by
  refine APure.body (n := 89) tok Tryd.func9 rfl rfl rfl fun H => ?_
  refine AW.seq ?_
  refine AW.region ?_
  refine AOL.p (P_assign (v := .bool _) rfl) rfl ?_
  refine AOL.nil ?_
  refine thenN ?_
  refine AW.seq ?_
  refine AW.seq ?_
  refine AW.region ?_
  refine AOL.p (P_callf (by kernel_rfl) rfl rfl (l_field _ _)) rfl ?_
  refine AOL.p (P_callf (by kernel_rfl) rfl rfl (l_number _)) rfl ?_
  refine AOL.p (P_callf (by kernel_rfl) rfl rfl (l_two _ _ _)) rfl ?_
  refine AOL.p (P_callf (by kernel_rfl) rfl rfl (l_number _)) rfl ?_
  refine AOL.p (P_callf (by kernel_rfl) rfl rfl (l_two _ _ _)) rfl ?_
  refine AOL.p (P_callf (by kernel_rfl) rfl rfl (l_reads [97, 46, 120, 32, 43, 32, 49, 32, 45, 32, 50] (by decide) _)) rfl ?_
  refine AOL.p (P_not rfl) rfl ?_
  refine AOL.p (P_move (v := .bool _) rfl) rfl ?_
  refine AOL.g (y := .agg _) _ [] rfl (EntL.all trivial) (fun hG => P_callf (by kernel_rfl) rfl rfl (l_number _)) rfl ?_
  refine AOL.g (y := .agg _) _ [] rfl (EntL.all trivial) (fun hG => P_callf (by kernel_rfl) rfl rfl (l_field _ _)) rfl ?_
  refine AOL.g (y := .agg _) _ [(13, _), (14, _)] rfl (EntL.all ⟨Ent.self _ _, Ent.self _ _, trivial⟩) (fun hG => P_callf (by kernel_rfl) rfl rfl (l_two _ _ _)) rfl ?_
  refine AOL.g (y := .bool _) _ [(15, _)] rfl (EntL.all ⟨Ent.self _ _, trivial⟩) (fun hG => P_callf (by kernel_rfl) rfl rfl (l_reads [97, 46, 120, 32, 62, 32, 51] (by decide) _)) rfl ?_
  refine AOL.g (y := .bool _) _ [(16, _)] rfl (EntL.all ⟨Ent.self _ _, trivial⟩) (fun hG => P_not rfl) rfl ?_
  refine AOL.p (P_pick_or rfl rfl rfl) rfl ?_
  refine AOL.nil ?_
  refine thenN ?_
  refine AW.cond (b := _) rfl (fun hc1 => ?_) (fun hc1 => ?_)
  · skip
    exact absurd (hc1.symm.trans (by kernel_rfl : _ = false)) (by decide)
  · skip
    refine AW.skip ?_
    refine thenN ?_
    refine AW.seq ?_
    refine AW.region ?_
    refine AOL.p (P_callf (by kernel_rfl) rfl rfl (l_field _ _)) rfl ?_
    refine AOL.p (P_buildSlice (es := [[.int .i64 _, .str _, .str _, .int .i64 _, _, .int .i64 _]]) tok rfl rfl rfl rfl rfl rfl rfl rfl rfl) rfl ?_
    refine AOL.p (P_build (l := [.int .i64 _, .str _, .str _, .int .i64 _, _, .int .i64 _]) tok rfl rfl rfl) rfl ?_
    refine AOL.e (E_alloc (l := [.int .i64 0, .str [], .str [], .int .i64 0, .sl 6 [], .int .i64 0]) (by kernel_rfl)) rfl ?_
    rintro _ _ ⟨b1, rfl, rfl⟩
    refine AOL.e (E_store (k := 0) (v := .agg _) (cs' := [.int .i64 _, .str _, .str _, .int .i64 _, _, .int .i64 _]) (H2 := _ :: _) tok rfl rfl rfl rfl rfl rfl rfl rfl rfl) rfl ?_
    rintro _ _ ⟨rfl, rfl⟩
    refine AOL.ghost (GS.freeze (t := 1) 0 rfl rfl) ?_
    refine AOL.nil ?_
    refine thenN ?_
    refine AW.seq ?_
    refine AW.seq ?_
    refine AW.region ?_
    refine AOL.p (P_load_ptr_agg (l := [.int .i64 _, .str _, .str _, .int .i64 _, _, .int .i64 _]) tok rfl rfl rfl rfl rfl) rfl ?_
    refine AOL.p (P_build (l := [.int .i64 _, .str _, .str _, .int .i64 _, _, .int .i64 _]) tok rfl rfl rfl) rfl ?_
    refine AOL.p (P_callf (by kernel_rfl) rfl rfl (l_two 10 ⟨18, [], [], 0, [refS [97] [111, 107]], 0⟩ ⟨13, [], w_tbool, 1, [], 0⟩)) rfl ?_
    refine AOL.p (P_callf (by kernel_rfl) rfl rfl (l_reads [110, 111, 116, 32, 97, 46, 111, 107, 32, 97, 110, 100, 32, 116, 114, 117, 101] (by decide) _)) rfl ?_
    refine AOL.p (P_not rfl) rfl ?_
    refine AOL.p (P_move (v := .bool _) rfl) rfl ?_
    refine AOL.g (y := .bool _) _ [] rfl (EntL.all trivial) (fun hG => P_callf (by kernel_rfl) rfl rfl (l_fails [115, 101, 113, 40, 65, 32, 97, 41] (by decide) 7)) rfl ?_
    refine AOL.g (y := .bool _) _ [(28, _)] rfl (EntL.all ⟨Ent.self _ _, trivial⟩) (fun hG => P_not rfl) rfl ?_
    refine AOL.p (P_pick_or rfl rfl rfl) rfl ?_
    refine AOL.p (P_move (v := .bool _) rfl) rfl ?_
    refine AOL.g (y := .bool _) _ [] rfl (EntL.all trivial) (fun hG => P_callf (by kernel_rfl) rfl rfl (l_fails [65, 32, 97, 32, 105, 102] (by decide) 6)) rfl ?_
    refine AOL.g (y := .bool _) _ [(32, _)] rfl (EntL.all ⟨Ent.self _ _, trivial⟩) (fun hG => P_not rfl) rfl ?_
    refine AOL.p (P_pick_or rfl rfl rfl) rfl ?_
    refine AOL.p (P_move (v := .bool _) rfl) rfl ?_
    refine AOL.g (y := .bool _) _ [] rfl (EntL.all trivial) (fun hG => P_callf (by kernel_rfl) rfl rfl (l_fails [65, 32, 105, 102] (by decide) 2)) rfl ?_
    refine AOL.g (y := .bool _) _ [(36, _)] rfl (EntL.all ⟨Ent.self _ _, trivial⟩) (fun hG => P_not rfl) rfl ?_
    refine AOL.p (P_pick_or rfl rfl rfl) rfl ?_
    refine AOL.nil ?_
    refine thenN ?_
    refine AW.cond (b := _) rfl (fun hc2 => ?_) (fun hc2 => ?_)
    · skip
      exact absurd (hc2.symm.trans (by kernel_rfl : _ = false)) (by decide)
    · skip
      refine AW.skip ?_
      refine thenN ?_
      refine AW.seq ?_
      refine AW.region ?_
      refine AOL.p (P_callf (by kernel_rfl) rfl rfl (aw3c)) rfl ?_
      refine AOL.p (P_move (v := .tuple _) rfl) rfl ?_
      refine AOL.p (P_extract (v := .agg [.int .i64 _, .str _, .str _, .int .i64 _, _, .int .i64 _]) rfl rfl) rfl ?_
      refine AOL.p (P_extract (v := .int .i64 _) rfl rfl) rfl ?_
      refine AOL.p (P_extract (v := .int .i64 _) rfl rfl) rfl ?_
      refine AOL.e (E_alloc (l := [.int .i64 0, .str [], .str [], .int .i64 0, .sl 6 [], .int .i64 0]) (by kernel_rfl)) rfl ?_
      rintro _ _ ⟨b2, rfl, rfl⟩
      refine AOL.e (E_store (k := 0) (v := .agg _) (cs' := [.int .i64 _, .str _, .str _, .int .i64 _, _, .int .i64 _]) (H2 := _ :: _) tok rfl rfl rfl rfl rfl rfl rfl rfl rfl) rfl ?_
      rintro _ _ ⟨rfl, rfl⟩
      refine AOL.p (P_assign (v := .int .i64 _) rfl) rfl ?_
      refine AOL.p (P_assign (v := .int .i64 _) rfl) rfl ?_
      refine AOL.ghost (GS.freeze (t := 2) 0 rfl rfl) ?_
      refine AOL.nil ?_
      refine thenN ?_
      refine AW.seq ?_
      refine AW.region ?_
      refine AOL.p (P_move (v := .int .i64 _) rfl) rfl ?_
      refine AOL.p (P_eql rfl rfl) rfl ?_
      refine AOL.p (P_move (v := .bool _) rfl) rfl ?_
      refine AOL.g (y := .ptr _) _ [] rfl (EntL.all trivial) (fun hG => P_fieldAddr_ptr (cs' := [.str _, .str _, .int .i64 _, _, .int .i64 _]) tok rfl rfl rfl rfl rfl rfl) rfl ?_
      refine AOL.g (y := .str _) _ [(47, _)] rfl (EntL.all ⟨Ent.self _ _, trivial⟩) (fun hG => P_load_ptr (c := .str _) tok rfl rfl rfl) rfl ?_
      refine AOL.g (y := .bool _) _ [(48, _)] rfl (EntL.all ⟨Ent.self _ _, trivial⟩) (fun hG => P_eql_str rfl rfl) rfl ?_
      refine AOL.p (P_pick_and rfl rfl rfl) rfl ?_
      refine AOL.p (P_move (v := .bool _) rfl) rfl ?_
      refine AOL.g (y := .ptr _) _ [] rfl (EntL.all trivial) (fun hG => P_fieldAddr_ptr (cs' := [_, .int .i64 _]) tok rfl rfl rfl rfl rfl rfl) rfl ?_
      refine AOL.g (y := .sl _ _) _ [(52, _)] rfl (EntL.all ⟨Ent.self _ _, trivial⟩) (fun hG => P_load_ptr (c := .sl _ _) tok rfl rfl rfl) rfl ?_
      refine AOL.g (y := .int .i64 _) _ [(53, _)] rfl (EntL.all ⟨Ent.self _ _, trivial⟩) (fun hG => P_len_sl tok rfl rfl rfl rfl) rfl ?_
      refine AOL.g (y := .bool _) _ [(54, _)] rfl (EntL.all ⟨Ent.self _ _, trivial⟩) (fun hG => P_eql rfl rfl) rfl ?_
      refine AOL.p (P_pick_and rfl rfl rfl) rfl ?_
      refine AOL.p (P_move (v := .bool _) rfl) rfl ?_
      refine AOL.g (y := .ptr _) _ [] rfl (EntL.all trivial) (fun hG => P_fieldAddr_ptr (cs' := [_, .int .i64 _]) tok rfl rfl rfl rfl rfl rfl) rfl ?_
      refine AOL.g (y := .sl _ _) _ [(58, _)] rfl (EntL.all ⟨Ent.self _ _, trivial⟩) (fun hG => P_load_ptr (c := .sl _ _) tok rfl rfl rfl) rfl ?_
      refine AOL.g (y := .ptr _) _ [(59, _)] rfl (EntL.all ⟨Ent.self _ _, trivial⟩) (fun hG => P_indexAddr (c := [.int .i64 _, .str _, .str _, .int .i64 _, _, .int .i64 _]) tok rfl rfl rfl rfl rfl rfl (by omega) (rfl)) rfl ?_
      refine AOL.g (y := .ptr _) _ [(60, _)] rfl (EntL.all ⟨Ent.self _ _, trivial⟩) (fun hG => P_fieldAddr_ptr (cs' := [.int .i64 _, .str _, .str _, .int .i64 _, _, .int .i64 _]) tok rfl rfl rfl rfl rfl rfl) rfl ?_
      refine AOL.g (y := .int .i64 _) _ [(61, _)] rfl (EntL.all ⟨Ent.self _ _, trivial⟩) (fun hG => P_load_ptr (c := .int .i64 _) tok rfl rfl rfl) rfl ?_
      refine AOL.g (y := .bool _) _ [(62, _)] rfl (EntL.all ⟨Ent.self _ _, trivial⟩) (fun hG => P_eql rfl rfl) rfl ?_
      refine AOL.p (P_pick_and rfl rfl rfl) rfl ?_
      refine AOL.p (P_move (v := .bool _) rfl) rfl ?_
      refine AOL.g (y := .ptr _) _ [] rfl (EntL.all trivial) (fun hG => P_fieldAddr_ptr (cs' := [_, .int .i64 _]) tok rfl rfl rfl rfl rfl rfl) rfl ?_
      refine AOL.g (y := .sl _ _) _ [(66, _)] rfl (EntL.all ⟨Ent.self _ _, trivial⟩) (fun hG => P_load_ptr (c := .sl _ _) tok rfl rfl rfl) rfl ?_
      refine AOL.g (y := .ptr _) _ [(67, _)] rfl (EntL.all ⟨Ent.self _ _, trivial⟩) (fun hG => P_indexAddr (c := [.int .i64 _, .str _, .str _, .int .i64 _, _, .int .i64 _]) tok rfl rfl rfl rfl rfl rfl (by omega) (rfl)) rfl ?_
      refine AOL.g (y := .ptr _) _ [(68, _)] rfl (EntL.all ⟨Ent.self _ _, trivial⟩) (fun hG => P_fieldAddr_ptr (cs' := [.int .i64 _]) tok rfl rfl rfl rfl rfl rfl) rfl ?_
      refine AOL.g (y := .int .i64 _) _ [(69, _)] rfl (EntL.all ⟨Ent.self _ _, trivial⟩) (fun hG => P_load_ptr (c := .int .i64 _) tok rfl rfl rfl) rfl ?_
      refine AOL.g (y := .bool _) _ [(70, _)] rfl (EntL.all ⟨Ent.self _ _, trivial⟩) (fun hG => P_eql rfl rfl) rfl ?_
      refine AOL.p (P_pick_and rfl rfl rfl) rfl ?_
      refine AOL.p (P_move (v := .bool _) rfl) rfl ?_
      refine AOL.g (y := .ptr _) _ [] rfl (EntL.all trivial) (fun hG => P_fieldAddr_ptr (cs' := [_, .int .i64 _]) tok rfl rfl rfl rfl rfl rfl) rfl ?_
      refine AOL.g (y := .sl _ _) _ [(74, _)] rfl (EntL.all ⟨Ent.self _ _, trivial⟩) (fun hG => P_load_ptr (c := .sl _ _) tok rfl rfl rfl) rfl ?_
      refine AOL.g (y := .ptr _) _ [(75, _)] rfl (EntL.all ⟨Ent.self _ _, trivial⟩) (fun hG => P_indexAddr (c := [.int .i64 _, .str _, .str _, .int .i64 _, _, .int .i64 _]) tok rfl rfl rfl rfl rfl rfl (by omega) (rfl)) rfl ?_
      refine AOL.g (y := .ptr _) _ [(76, _)] rfl (EntL.all ⟨Ent.self _ _, trivial⟩) (fun hG => P_fieldAddr_ptr (cs' := [.int .i64 _]) tok rfl rfl rfl rfl rfl rfl) rfl ?_
      refine AOL.g (y := .int .i64 _) _ [(77, _)] rfl (EntL.all ⟨Ent.self _ _, trivial⟩) (fun hG => P_load_ptr (c := .int .i64 _) tok rfl rfl rfl) rfl ?_
      refine AOL.g (y := .bool _) _ [(78, _)] rfl (EntL.all ⟨Ent.self _ _, trivial⟩) (fun hG => P_eql rfl rfl) rfl ?_
      refine AOL.p (P_pick_and rfl rfl rfl) rfl ?_
      refine AOL.p (P_move (v := .bool _) rfl) rfl ?_
      refine AOL.g (y := .ptr _) _ [] rfl (EntL.all trivial) (fun hG => P_fieldAddr_ptr (cs' := [_, .int .i64 _]) tok rfl rfl rfl rfl rfl rfl) rfl ?_
      refine AOL.g (y := .sl _ _) _ [(82, _)] rfl (EntL.all ⟨Ent.self _ _, trivial⟩) (fun hG => P_load_ptr (c := .sl _ _) tok rfl rfl rfl) rfl ?_
      refine AOL.g (y := .ptr _) _ [(83, _)] rfl (EntL.all ⟨Ent.self _ _, trivial⟩) (fun hG => P_indexAddr (c := [.int .i64 _, .str _, .str _, .int .i64 _, _, .int .i64 _]) tok rfl rfl rfl rfl rfl rfl (by omega) (rfl)) rfl ?_
      refine AOL.g (y := .ptr _) _ [(84, _)] rfl (EntL.all ⟨Ent.self _ _, trivial⟩) (fun hG => P_fieldAddr_ptr (cs' := [.int .i64 _]) tok rfl rfl rfl rfl rfl rfl) rfl ?_
      refine AOL.g (y := .int .i64 _) _ [(85, _)] rfl (EntL.all ⟨Ent.self _ _, trivial⟩) (fun hG => P_load_ptr (c := .int .i64 _) tok rfl rfl rfl) rfl ?_
      refine AOL.g (y := .bool _) _ [(86, _)] rfl (EntL.all ⟨Ent.self _ _, trivial⟩) (fun hG => P_eql rfl rfl) rfl ?_
      refine AOL.p (P_pick_and rfl rfl rfl) rfl ?_
      refine AOL.p (P_assign (v := .bool _) rfl) rfl ?_
      refine AOL.nil ?_
      refine thenN ?_
      refine AW.ret ?_
      refine ⟨.inr rfl, [.bool _], .cons (.tmp _ _ rfl) <| .nil, .refl _, ?_⟩
      exact congrArg AV.bool (by kernel_rfl)

end Go.Proofs.YtpgmglacdcfnaaaDoor
