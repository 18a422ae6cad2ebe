/-
  The chapter's examples. No condition.
-/
import Derived.Test.YtabkeeedkhgodaaGreatDoorW13i
import Derived.Test.YtabkeeedkhgodaaGreatDoorV10
import Derived.KernelRfl
namespace Go.Proofs.YtabkeeedkhgodaaGreatDoor
open Go Go.Aw
set_option linter.unusedVariables false
set_option linter.unusedSimpArgs false

set_option maxRecDepth 100000
theorem dig1 {n : Int} (h : 0 ≤ n) (k : n < 10) : Lib.itoa n = [UInt8.ofNat (48 + n.toNat)] := by
  rw [show Lib.itoa n = Lib.decDigits n.toNat from if_neg (by omega), Lib.decDigits, dif_pos (by omega)]
theorem digOne : Lib.itoa 1 = [49] := dig1 (by decide) (by decide)
theorem digTwo : Lib.itoa 2 = [50] := dig1 (by decide) (by decide)
def ex1 : Syn := ⟨17, [], [], 7, [⟨13, [], w_tint, 2, [], 6⟩, ⟨17, [], [], 5, [⟨14, [97], [120], 0, [], 0⟩, ⟨13, [], w_tint, 1, [], 4⟩], 0⟩], 0⟩
def ex2 : Syn := ⟨18, [], [], 0, [⟨17, [], [], 10, [⟨18, [], [], 0, [⟨17, [], [], 9, [⟨14, [97], [120], 0, [], 5⟩, ⟨13, [], w_tint, 1, [], 10⟩], 5⟩], 5⟩, ⟨13, [], w_tbool, 1, [], 16⟩], 5⟩], 0⟩
def ex3 : Syn := ⟨0, [], [], 0, [⟨1, [84], [], 0, [⟨2, [97], [], 0, [], 7⟩], 0⟩, ⟨3, [113], [], 0, [⟨4, [], [], 0, [], 13⟩, ⟨6, [], [], 0, [⟨5, [65], [97], 0, [], 31⟩, ⟨9, [], [], 0, [⟨5, [66], [98], 0, [⟨14, [98], [111, 107], 0, [], 47⟩], 40⟩], 35⟩], 27⟩, ⟨13, [], w_tint, 1, [], 60⟩], 13⟩], 0⟩
def ev0 : Syn := ⟨5, [65], [105, 102], 0, [], 0⟩
theorem ex1_read : parseP EE [97, 46, 120, 43, 49, 62, 50] = (ex1, 0, 0) := by kernel_rfl
theorem ex2_read : parseP EE [110, 111, 116, 32, 40, 97, 46, 120, 33, 61, 49, 32, 97, 110, 100, 32, 116, 114, 117, 101, 41] = (ex2, 0, 0) := by kernel_rfl
theorem ex3_read : parseP (progP EE TT) [116, 121, 112, 101, 32, 84, 123, 97, 58, 105, 110, 116, 125, 113, 117, 101, 114, 121, 32, 113, 32, 109, 97, 116, 99, 104, 32, 115, 101, 113, 40, 65, 32, 97, 44, 112, 108, 117, 115, 40, 66, 32, 98, 32, 105, 102, 32, 98, 46, 111, 107, 41, 41, 114, 101, 116, 117, 114, 110, 32, 49, 59] = (ex3, 0, 0) := by kernel_rfl
theorem ex_few : fewC ex1 = true ∧ fewC ex2 = true ∧ fewC ex3 = true ∧ fewC ev0 = true ∧ fewC ⟨6, [], [], 0, [ev0], 0⟩ = true ∧ fewC ⟨13, [], [102, 108, 111, 97, 116], 0, [], 0⟩ = true := ⟨by kernel_rfl, by kernel_rfl, by kernel_rfl, by kernel_rfl, by kernel_rfl, by kernel_rfl⟩
theorem ex1_text : writeC ex1 = [50, 32, 60, 32, 40, 97, 46, 120, 32, 43, 32, 49, 41] := by simp [ex1, writeC, writeM, nodeT, litT, wrapT, closedC, kidN, operT, kindT, callT, joinC, digOne, digTwo]
theorem ex2_text : writeC ex2 = [110, 111, 116, 32, 40, 40, 110, 111, 116, 32, 40, 97, 46, 120, 32, 61, 61, 32, 49, 41, 41, 32, 97, 110, 100, 32, 116, 114, 117, 101, 41] := by simp [ex2, writeC, writeM, nodeT, litT, wrapT, closedC, kidN, operT, kindT, callT, joinC, digOne, digTwo]
theorem ex3_text : writeC ex3 = [116, 121, 112, 101, 32, 84, 32, 123, 32, 97, 58, 32, 105, 110, 116, 32, 125, 10, 113, 117, 101, 114, 121, 32, 113, 10, 109, 97, 116, 99, 104, 32, 115, 101, 113, 40, 65, 32, 97, 44, 32, 112, 108, 117, 115, 40, 66, 32, 98, 32, 105, 102, 32, 98, 46, 111, 107, 41, 41, 10, 114, 101, 116, 117, 114, 110, 32, 49, 59, 10] := by simp [ex3, writeC, writeM, nodeT, litT, wrapT, closedC, kidN, operT, kindT, callT, joinC, digOne, digTwo]
theorem written_ok {t : Syn} {p : Pl} {w : Str} (h1 : checkC t p = 0) (h2 : decide (64 < (depthC t : Int)) = false) (h3 : writeC t = w) (h4 : decide (65536 < (w.length : Int)) = false) : writtenC t p = (w, 0) := by
  subst h3
  unfold writtenC
  rw [h1]
  exact (ifF (by decide)).trans ((ifF h2).trans (ifF h4))
theorem ex1_w : writtenC ex1 .exps = ([50, 32, 60, 32, 40, 97, 46, 120, 32, 43, 32, 49, 41], 0) := written_ok (by kernel_rfl) (by kernel_rfl) ex1_text (by kernel_rfl)
theorem ex2_w : writtenC ex2 .exps = ([110, 111, 116, 32, 40, 40, 110, 111, 116, 32, 40, 97, 46, 120, 32, 61, 61, 32, 49, 41, 41, 32, 97, 110, 100, 32, 116, 114, 117, 101, 41], 0) := written_ok (by kernel_rfl) (by kernel_rfl) ex2_text (by kernel_rfl)
theorem ex3_w : writtenC ex3 (.only 0) = ([116, 121, 112, 101, 32, 84, 32, 123, 32, 97, 58, 32, 105, 110, 116, 32, 125, 10, 113, 117, 101, 114, 121, 32, 113, 10, 109, 97, 116, 99, 104, 32, 115, 101, 113, 40, 65, 32, 97, 44, 32, 112, 108, 117, 115, 40, 66, 32, 98, 32, 105, 102, 32, 98, 46, 111, 107, 41, 41, 10, 114, 101, 116, 117, 114, 110, 32, 49, 59, 10], 0) := written_ok (by kernel_rfl) (by kernel_rfl) ex3_text (by kernel_rfl)
theorem bad_w : (writtenC ⟨6, [], [], 0, [ev0], 0⟩ .pats).2 = 15 ∧ (writtenC ev0 .pats).2 = 8 ∧ (writtenC ⟨13, [], [102, 108, 111, 97, 116], 0, [], 0⟩ .exps).2 = 1 := ⟨by kernel_rfl, by kernel_rfl, by kernel_rfl⟩
theorem c_ex3 : APure Tryz.prog 17 [.str [116, 121, 112, 101, 32, 84, 123, 97, 58, 105, 110, 116, 125, 113, 117, 101, 114, 121, 32, 113, 32, 109, 97, 116, 99, 104, 32, 115, 101, 113, 40, 65, 32, 97, 44, 112, 108, 117, 115, 40, 66, 32, 98, 32, 105, 102, 32, 98, 46, 111, 107, 41, 41, 114, 101, 116, 117, 114, 110, 32, 49, 59]] (.tuple [.agg (cSyn ex3), .int .i64 0, .int .i64 0]) := by
  have h := pp_Parse [116, 121, 112, 101, 32, 84, 123, 97, 58, 105, 110, 116, 125, 113, 117, 101, 114, 121, 32, 113, 32, 109, 97, 116, 99, 104, 32, 115, 101, 113, 40, 65, 32, 97, 44, 112, 108, 117, 115, 40, 66, 32, 98, 32, 105, 102, 32, 98, 46, 111, 107, 41, 41, 114, 101, 116, 117, 114, 110, 32, 49, 59] (Nat.le_of_ble_eq_true rfl)
  rw [ex3_read] at h
  exact h
theorem c_fmt3 : APure Tryz.prog 18 [.agg (cSyn ex3)] (.tuple [.str [116, 121, 112, 101, 32, 84, 32, 123, 32, 97, 58, 32, 105, 110, 116, 32, 125, 10, 113, 117, 101, 114, 121, 32, 113, 10, 109, 97, 116, 99, 104, 32, 115, 101, 113, 40, 65, 32, 97, 44, 32, 112, 108, 117, 115, 40, 66, 32, 98, 32, 105, 102, 32, 98, 46, 111, 107, 41, 41, 10, 114, 101, 116, 117, 114, 110, 32, 49, 59, 10], .int .i64 0]) := by
  have h := w_Format ex3 ex_few.2.2.1
  rw [ex3_w] at h
  exact h
theorem c_bad1 : APure Tryz.prog 13 [.agg (cSyn ⟨6, [], [], 0, [ev0], 0⟩)] (.tuple [.str (writtenC ⟨6, [], [], 0, [ev0], 0⟩ .pats).1, .int .i64 15]) := by
  have h := w_Pattern ⟨6, [], [], 0, [ev0], 0⟩ ex_few.2.2.2.2.1
  rwa [bad_w.1] at h
theorem c_bad2 : APure Tryz.prog 13 [.agg (cSyn ev0)] (.tuple [.str (writtenC ev0 .pats).1, .int .i64 8]) := by
  have h := w_Pattern ev0 ex_few.2.2.2.1
  rwa [bad_w.2.1] at h
theorem c_bad3 : APure Tryz.prog 15 [.agg (cSyn ⟨13, [], [102, 108, 111, 97, 116], 0, [], 0⟩)] (.tuple [.str (writtenC ⟨13, [], [102, 108, 111, 97, 116], 0, [], 0⟩ .exps).1, .int .i64 1]) := by
  have h := w_Expr ⟨13, [], [102, 108, 111, 97, 116], 0, [], 0⟩ ex_few.2.2.2.2.2
  rwa [bad_w.2.2] at h

set_option maxRecDepth 20000 in
set_option maxHeartbeats 1600000 in
theorem l_writes (s w : Str) (t : Syn) (hs : s.length ≤ 100000) (hp : parseP EE s = (t, 0, 0)) (hf : fewC t = true) (hw : writtenC t .exps = (w, 0)) : APure Tryz.prog 32 [.str s, .str w] (.bool true) := by
 have hpe := pp_Expr s hs
 rw [hp] at hpe
 have hwe := w_Expr t hf
 rw [hw] at hwe
 refine APure.body (n := 32) tok Tryz.func32 rfl rfl rfl fun H => ?_
 refine AW.seq (AW.region ?_)
 refine AOL.p (P_assign (v := .bool _) rfl) rfl ?_
 refine AOL.nil (thenN ?_)
 refine AW.seq (AW.region ?_)
 refine AOL.p (P_move (v := .str _) rfl) rfl ?_
 refine AOL.p (P_callf (by kernel_rfl) rfl rfl (hpe)) rfl ?_
 refine AOL.p (P_move (v := .tuple _) rfl) rfl ?_
 refine AOL.p (P_extract (v := .agg [.int .i64 _, .str _, .str _, .int .i64 _, _, .int .i64 _]) rfl rfl) rfl ?_
 refine AOL.p (P_extract (v := .int .i64 _) rfl rfl) rfl ?_
 refine AOL.p (P_extract (v := .int .i64 _) rfl rfl) rfl ?_
 refine AOL.e (E_alloc (l := [.int .i64 0, .str [], .str [], .int .i64 0, .sl 6 [], .int .i64 0]) (by kernel_rfl)) rfl ?_
 rintro _ _ ⟨b5, rfl, rfl⟩
 refine AOL.e (E_store (k := 0) (v := .agg _) (cs' := [.int .i64 _, .str _, .str _, .int .i64 _, _, .int .i64 _]) (H2 := _ :: _) tok rfl rfl rfl rfl rfl rfl rfl rfl rfl) rfl ?_
 rintro _ _ ⟨rfl, rfl⟩
 refine AOL.p (P_assign (v := .int .i64 _) rfl) rfl ?_
 refine AOL.p (P_assign (v := .int .i64 _) rfl) rfl ?_
 refine AOL.ghost (GS.freeze (t := 5) 0 rfl rfl) ?_
 refine AOL.nil (thenN ?_)
 refine AW.seq (AW.region ?_)
 refine AOL.p (P_load_ptr_agg (l := [.int .i64 _, .str _, .str _, .int .i64 _, _, .int .i64 _]) tok rfl rfl rfl rfl rfl) rfl ?_
 refine AOL.p (P_callf (by kernel_rfl) rfl rfl (hwe)) rfl ?_
 refine AOL.p (P_move (v := .tuple _) rfl) rfl ?_
 refine AOL.p (P_extract (v := .str _) rfl rfl) rfl ?_
 refine AOL.p (P_extract (v := .int .i64 _) rfl rfl) rfl ?_
 refine AOL.p (P_assign (v := .str _) rfl) rfl ?_
 refine AOL.p (P_assign (v := .int .i64 _) rfl) rfl ?_
 refine AOL.nil (thenN ?_)
 refine AW.seq (AW.region ?_)
 refine AOL.p (P_move (v := .int .i64 _) rfl) rfl ?_
 refine AOL.p (P_eql rfl rfl) rfl ?_
 refine AOL.p (P_move (v := .bool _) rfl) rfl ?_
 refine AOL.g (y := .int .i64 _) _ [] rfl (EntL.all trivial) (fun hG => P_move (v := .int .i64 _) rfl) rfl ?_
 refine AOL.g (y := .bool _) _ [(24, _)] rfl (EntL.all ⟨Ent.self _ _, trivial⟩) (fun hG => P_eql rfl rfl) rfl ?_
 refine AOL.p (P_pick_and rfl rfl rfl) rfl ?_
 refine AOL.p (P_move (v := .bool _) rfl) rfl ?_
 refine AOL.g (y := .str _) _ [] rfl (EntL.all trivial) (fun hG => P_move (v := .str _) rfl) rfl ?_
 refine AOL.g (y := .str _) _ [] rfl (EntL.all trivial) (fun hG => P_move (v := .str _) rfl) rfl ?_
 refine AOL.g (y := .bool _) _ [(28, _), (29, _)] rfl (EntL.all ⟨Ent.self _ _, Ent.self _ _, trivial⟩) (fun hG => P_eql_str rfl rfl) rfl ?_
 refine AOL.p (P_pick_and rfl rfl rfl) rfl ?_
 refine AOL.p (P_assign (v := .bool _) rfl) rfl ?_
 refine AOL.nil (thenN ?_)
 refine AW.ret ?_
 refine ⟨.inr rfl, [.bool _], .cons (.tmp _ _ rfl) <| .nil, .refl _, ?_⟩
 show AV.bool (((0 : Int) == 0 && (0 : Int) == 0) && (w == w)) = AV.bool true
 have h9 : (w == w) = true := by simp
 rw [h9]; rfl
set_option maxRecDepth 20000 in
set_option maxHeartbeats 6400000 in
theorem l_awake  : APure Tryz.prog 12 [] (.bool true) := by
 refine APure.body (n := 63) tok Tryz.func12 rfl rfl rfl fun H => ?_
 refine AW.seq (AW.region ?_)
 refine AOL.p (P_assign (v := .bool _) rfl) rfl ?_
 refine AOL.nil (thenN ?_)
 refine AW.seq ?_
 refine AW.seq (AW.region ?_)
 refine AOL.p (P_callf (by kernel_rfl) rfl rfl (l_writes [97, 46, 120, 43, 49, 62, 50] [50, 32, 60, 32, 40, 97, 46, 120, 32, 43, 32, 49, 41] ex1 (by decide) ex1_read ex_few.1 ex1_w)) rfl ?_
 refine AOL.p (P_not rfl) rfl ?_
 refine AOL.p (P_move (v := .bool _) rfl) rfl ?_
 refine AOL.g (y := .bool _) _ [] rfl (EntL.all trivial) (fun hG => P_callf (by kernel_rfl) rfl rfl (l_writes [110, 111, 116, 32, 40, 97, 46, 120, 33, 61, 49, 32, 97, 110, 100, 32, 116, 114, 117, 101, 41] [110, 111, 116, 32, 40, 40, 110, 111, 116, 32, 40, 97, 46, 120, 32, 61, 61, 32, 49, 41, 41, 32, 97, 110, 100, 32, 116, 114, 117, 101, 41] ex2 (by decide) ex2_read ex_few.2.1 ex2_w)) rfl ?_
 refine AOL.g (y := .bool _) _ [(12, _)] rfl (EntL.all ⟨Ent.self _ _, trivial⟩) (fun hG => P_not rfl) rfl ?_
 refine AOL.p (P_pick_or rfl rfl rfl) rfl ?_
 refine AOL.nil (thenN ?_)
 refine AW.cond (b := _) rfl (fun hc1 => ?_) (fun hc1 => ?_)
 ·
  cases hc1
 ·
  refine AW.skip ?_
  refine thenN ?_
  refine AW.seq (AW.region ?_)
  refine AOL.p (P_callf (by kernel_rfl) rfl rfl (c_ex3)) rfl ?_
  refine AOL.p (P_move (v := .tuple _) rfl) rfl ?_
  refine AOL.p (P_extract (v := .agg [.int .i64 _, .str _, .str _, .int .i64 _, _, .int .i64 _]) rfl rfl) rfl ?_
  refine AOL.p (P_extract (v := .int .i64 _) rfl rfl) rfl ?_
  refine AOL.p (P_extract (v := .int .i64 _) rfl rfl) rfl ?_
  refine AOL.e (E_alloc (l := [.int .i64 0, .str [], .str [], .int .i64 0, .sl 6 [], .int .i64 0]) (by kernel_rfl)) rfl ?_
  rintro _ _ ⟨b1, rfl, rfl⟩
  refine AOL.e (E_store (k := 0) (v := .agg _) (cs' := [.int .i64 _, .str _, .str _, .int .i64 _, _, .int .i64 _]) (H2 := _ :: _) tok rfl rfl rfl rfl rfl rfl rfl rfl rfl) rfl ?_
  rintro _ _ ⟨rfl, rfl⟩
  refine AOL.p (P_assign (v := .int .i64 _) rfl) rfl ?_
  refine AOL.p (P_assign (v := .int .i64 _) rfl) rfl ?_
  refine AOL.ghost (GS.freeze (t := 1) 0 rfl rfl) ?_
  refine AOL.nil (thenN ?_)
  refine AW.seq (AW.region ?_)
  refine AOL.p (P_load_ptr_agg (l := [.int .i64 _, .str _, .str _, .int .i64 _, _, .int .i64 _]) tok rfl rfl rfl rfl rfl) rfl ?_
  refine AOL.p (P_callf (by kernel_rfl) rfl rfl (c_fmt3)) rfl ?_
  refine AOL.p (P_move (v := .tuple _) rfl) rfl ?_
  refine AOL.p (P_extract (v := .str _) rfl rfl) rfl ?_
  refine AOL.p (P_extract (v := .int .i64 _) rfl rfl) rfl ?_
  refine AOL.p (P_assign (v := .str _) rfl) rfl ?_
  refine AOL.p (P_assign (v := .int .i64 _) rfl) rfl ?_
  refine AOL.nil (thenN ?_)
  refine AW.seq ?_
  refine AW.seq (AW.region ?_)
  refine AOL.p (P_move (v := .int .i64 _) rfl) rfl ?_
  refine AOL.p (P_neq rfl rfl) rfl ?_
  refine AOL.p (P_move (v := .bool _) rfl) rfl ?_
  refine AOL.g (y := .int .i64 _) _ [] rfl (EntL.all trivial) (fun hG => P_move (v := .int .i64 _) rfl) rfl ?_
  refine AOL.g (y := .bool _) _ [(28, _)] rfl (EntL.all ⟨Ent.self _ _, trivial⟩) (fun hG => P_neq rfl rfl) rfl ?_
  refine AOL.p (P_pick_or rfl rfl rfl) rfl ?_
  refine AOL.p (P_move (v := .bool _) rfl) rfl ?_
  refine AOL.g (y := .str _) _ [] rfl (EntL.all trivial) (fun hG => P_move (v := .str _) rfl) rfl ?_
  refine AOL.g (y := .bool _) _ [(32, _)] rfl (EntL.all ⟨Ent.self _ _, trivial⟩) (fun hG => P_neq_str rfl rfl) rfl ?_
  refine AOL.p (P_pick_or rfl rfl rfl) rfl ?_
  refine AOL.nil (thenN ?_)
  refine AW.cond (b := _) rfl (fun hc2 => ?_) (fun hc2 => ?_)
  ·
   cases hc2
  ·
   refine AW.skip ?_
   refine thenN ?_
   refine AW.seq (AW.region ?_)
   refine AOL.p (P_build (l := [.int .i64 _, .str _, .str _, .int .i64 _, _, .int .i64 _]) tok rfl rfl rfl) rfl ?_
   refine AOL.e (E_alloc (l := [.int .i64 0, .str [], .str [], .int .i64 0, .sl 6 [], .int .i64 0]) (by kernel_rfl)) rfl ?_
   rintro _ _ ⟨b6, rfl, rfl⟩
   refine AOL.e (E_store (k := 0) (v := .agg _) (cs' := [.int .i64 _, .str _, .str _, .int .i64 _, _, .int .i64 _]) (H2 := _ :: _) tok rfl rfl rfl rfl rfl rfl rfl rfl rfl) rfl ?_
   rintro _ _ ⟨rfl, rfl⟩
   refine AOL.ghost (GS.freeze (t := 6) 0 rfl rfl) ?_
   refine AOL.nil (thenN ?_)
   refine AW.seq (AW.region ?_)
   refine AOL.p (P_load_ptr_agg (l := [.int .i64 _, .str _, .str _, .int .i64 _, _, .int .i64 _]) tok rfl rfl rfl rfl rfl) rfl ?_
   refine AOL.p (P_buildSlice (es := [[.int .i64 _, .str _, .str _, .int .i64 _, _, .int .i64 _]]) tok rfl rfl rfl rfl rfl rfl rfl rfl rfl) rfl ?_
   refine AOL.p (P_build (l := [.int .i64 _, .str _, .str _, .int .i64 _, _, .int .i64 _]) tok rfl rfl rfl) rfl ?_
   refine AOL.p (P_callf (by kernel_rfl) rfl rfl (c_bad1)) rfl ?_
   refine AOL.p (P_move (v := .tuple _) rfl) rfl ?_
   refine AOL.p (P_extract (v := .str _) rfl rfl) rfl ?_
   refine AOL.p (P_extract (v := .int .i64 _) rfl rfl) rfl ?_
   refine AOL.p (P_assign (v := .int .i64 _) rfl) rfl ?_
   refine AOL.nil (thenN ?_)
   refine AW.seq (AW.region ?_)
   refine AOL.p (P_load_ptr_agg (l := [.int .i64 _, .str _, .str _, .int .i64 _, _, .int .i64 _]) tok rfl rfl rfl rfl rfl) rfl ?_
   refine AOL.p (P_callf (by kernel_rfl) rfl rfl (c_bad2)) rfl ?_
   refine AOL.p (P_move (v := .tuple _) rfl) rfl ?_
   refine AOL.p (P_extract (v := .str _) rfl rfl) rfl ?_
   refine AOL.p (P_extract (v := .int .i64 _) rfl rfl) rfl ?_
   refine AOL.p (P_assign (v := .int .i64 _) rfl) rfl ?_
   refine AOL.nil (thenN ?_)
   refine AW.seq (AW.region ?_)
   refine AOL.p (P_build (l := [.int .i64 _, .str _, .str _, .int .i64 _, _, .int .i64 _]) tok rfl rfl rfl) rfl ?_
   refine AOL.p (P_callf (by kernel_rfl) rfl rfl (c_bad3)) rfl ?_
   refine AOL.p (P_move (v := .tuple _) rfl) rfl ?_
   refine AOL.p (P_extract (v := .str _) rfl rfl) rfl ?_
   refine AOL.p (P_extract (v := .int .i64 _) rfl rfl) rfl ?_
   refine AOL.p (P_assign (v := .str _) rfl) rfl ?_
   refine AOL.p (P_assign (v := .int .i64 _) rfl) rfl ?_
   refine AOL.nil (thenN ?_)
   refine AW.seq (AW.region ?_)
   refine AOL.p (P_move (v := .int .i64 _) rfl) rfl ?_
   refine AOL.p (P_eql rfl rfl) rfl ?_
   refine AOL.p (P_move (v := .bool _) rfl) rfl ?_
   refine AOL.g (y := .int .i64 _) _ [] rfl (EntL.all trivial) (fun hG => P_move (v := .int .i64 _) rfl) rfl ?_
   refine AOL.g (y := .bool _) _ [(56, _)] rfl (EntL.all ⟨Ent.self _ _, trivial⟩) (fun hG => P_eql rfl rfl) rfl ?_
   refine AOL.p (P_pick_and rfl rfl rfl) rfl ?_
   refine AOL.p (P_move (v := .bool _) rfl) rfl ?_
   refine AOL.g (y := .int .i64 _) _ [] rfl (EntL.all trivial) (fun hG => P_move (v := .int .i64 _) rfl) rfl ?_
   refine AOL.g (y := .bool _) _ [(60, _)] rfl (EntL.all ⟨Ent.self _ _, trivial⟩) (fun hG => P_eql rfl rfl) rfl ?_
   refine AOL.p (P_pick_and rfl rfl rfl) rfl ?_
   refine AOL.p (P_assign (v := .bool _) rfl) rfl ?_
   refine AOL.nil (thenN ?_)
   refine AW.ret ?_
   refine ⟨.inr rfl, [.bool _], .cons (.tmp _ _ rfl) <| .nil, .refl _, ?_⟩
   rfl

end Go.Proofs.YtabkeeedkhgodaaGreatDoor
