/-
  Walks: quotation of the reference, names, numbers, signs. No condition.
-/
import Derived.Test.YtabkeeedkhgodaaGreatDoorW4
import Derived.KernelRfl
namespace Go.Proofs.YtabkeeedkhgodaaGreatDoor
open Go Go.Aw
set_option linter.unusedVariables false
set_option linter.unusedSimpArgs false

theorem sign_get (k : Nat) (h : k < 17) : signCells[k]? = some (.str (signL.getD k [])) := by
  have e : signCells = signL.map AV.str := rfl
  rw [e, List.getElem?_map]
  have h' : k < signL.length := h
  simp [List.getD_eq_getElem?_getD, List.getElem?_eq_getElem h']
theorem sign_step {s : Str} {k : Nat} (h : k < 17) (hc : Lib.hasPrefix s (signL.getD k []) = false) : signGo s (signL.drop k) = signGo s (signL.drop (k + 1)) := by
  have h' : k < signL.length := h
  rw [List.drop_eq_getElem_cons h']
  have e : signL.getD k [] = signL[k] := by simp [List.getD_eq_getElem?_getD, List.getElem?_eq_getElem h']
  rw [e] at hc
  rw [signGo, if_neg (Bool.eq_false_iff.mp hc)]
theorem sign_stop {s : Str} {k : Nat} (h : k < 17) (hc : Lib.hasPrefix s (signL.getD k []) = true) : signGo s (signL.drop k) = foT 3 (signL.getD k []) (signL.getD k []).length := by
  have h' : k < signL.length := h
  rw [List.drop_eq_getElem_cons h']
  have e : signL.getD k [] = signL[k] := by simp [List.getD_eq_getElem?_getD, List.getElem?_eq_getElem h']
  rw [e] at hc ⊢
  rw [signGo, if_pos hc]

set_option maxRecDepth 20000 in
set_option maxHeartbeats 400000 in
theorem c54 (s : Str) (hl : s.length ≤ 1048576) (h0 : 0 < s.length) : APure Tryz.prog 133 [.str s] (.agg (cFo (nameF s))) := by
 refine APure.body (n := 20) tok Tryz.func133 rfl rfl rfl fun H => ?_
 refine AW.seq (AW.region ?_)
 refine AOL.e (E_alloc (l := [.int .i64 0, .str [], .int .i64 0, .int .i64 0, .int .i64 0, .int .i64 0]) (by kernel_rfl)) rfl ?_
 rintro _ _ ⟨b2, rfl, rfl⟩
 refine AOL.nil (thenN ?_)
 refine AW.seq ?_
 refine AW.seq (AW.region ?_)
 refine AOL.p (P_move (v := .str _) rfl) rfl ?_
 refine AOL.p (P_index_str tok rfl rfl rfl rfl (by omega) (bt_get (i := 0) h0)) rfl ?_
 refine AOL.p (P_callf (by kernel_rfl) rfl rfl (c43 _)) rfl ?_
 refine AOL.p (P_not rfl) rfl ?_
 refine AOL.nil (thenN ?_)
 refine AW.cond (b := _) rfl (fun hc1 => ?_) (fun hc1 => ?_)
 ·
  refine AW.seq (AW.region ?_)
  refine AOL.p (P_build (l := [.int .i64 _, .str _, .int .i64 _, .int .i64 _, .int .i64 _, .int .i64 _]) tok rfl rfl rfl) rfl ?_
  refine AOL.e (E_store (k := 0) (v := .agg _) (cs' := [.int .i64 _, .str _, .int .i64 _, .int .i64 _, .int .i64 _, .int .i64 _]) (H2 := _ :: _) tok rfl rfl rfl rfl rfl rfl rfl rfl rfl) rfl ?_
  rintro _ _ ⟨rfl, rfl⟩
  refine AOL.nil (thenN ?_)
  refine AW.ret ?_
  refine thenR ?_
  refine ⟨.inr rfl, [.agg [.int .i64 _, .str _, .int .i64 _, .int .i64 _, .int .i64 _, .int .i64 _]], .cons (.box _ _ _ 0 _ _ _ _ rfl rfl rfl rfl rfl rfl) <| .nil, .cons _ (.refl _), ?_⟩
  simp only [resOf, nameF]
  (first | rw [if_pos hc1] | skip)
  first | done | rfl
 ·
  refine AW.skip ?_
  refine thenN ?_
  refine AW.seq (AW.region ?_)
  refine AOL.p (P_move (v := .str _) rfl) rfl ?_
  refine AOL.p (P_callf (by kernel_rfl) rfl rfl (c38 s hl 155 wordS (by kernel_rfl) c69)) rfl ?_
  refine AOL.p (P_assign (v := .int .i64 _) rfl) rfl ?_
  refine AOL.nil (thenN ?_)
  refine AW.seq ?_
  refine AW.seq (AW.region ?_)
  refine AOL.p (P_move (v := .int .i64 _) rfl) rfl ?_
  refine AOL.p (P_gtr rfl rfl) rfl ?_
  refine AOL.nil (thenN ?_)
  refine AW.cond (b := _) rfl (fun hc2 => ?_) (fun hc2 => ?_)
  ·
   refine AW.seq (AW.region ?_)
   refine AOL.p (P_build (l := [.int .i64 _, .str _, .int .i64 _, .int .i64 _, .int .i64 _, .int .i64 _]) tok rfl rfl rfl) rfl ?_
   refine AOL.e (E_store (k := 0) (v := .agg _) (cs' := [.int .i64 _, .str _, .int .i64 _, .int .i64 _, .int .i64 _, .int .i64 _]) (H2 := _ :: _) tok rfl rfl rfl rfl rfl rfl rfl rfl rfl) rfl ?_
   rintro _ _ ⟨rfl, rfl⟩
   refine AOL.nil (thenN ?_)
   refine AW.ret ?_
   refine thenR ?_
   refine ⟨.inr rfl, [.agg [.int .i64 _, .str _, .int .i64 _, .int .i64 _, .int .i64 _, .int .i64 _]], .cons (.box _ _ _ 0 _ _ _ _ rfl rfl rfl rfl rfl rfl) <| .nil, .cons _ (.refl _), ?_⟩
   simp only [resOf, nameF]
   (first | rw [if_neg (Bool.eq_false_iff.mp hc1)] | skip); (first | rw [if_pos hc2] | skip)
   first | done | rfl
  ·
   refine AW.skip ?_
   refine thenN ?_
   refine AW.seq (AW.region ?_)
   refine AOL.p (P_move (v := .str _) rfl) rfl ?_
   refine AOL.p (P_move (v := .int .i64 _) rfl) rfl ?_
   refine AOL.p (P_slice_str (l := 0) (h := spanS wordS s) tok rfl rfl rfl (rfl) (⟨_, rfl⟩) (Nat.zero_le _) (span_le _ _) (List.drop_zero)) rfl ?_
   refine AOL.p (P_build (l := [.int .i64 _, .str _, .int .i64 _]) tok rfl rfl rfl) rfl ?_
   refine AOL.p (P_move (v := .int .i64 _) rfl) rfl ?_
   refine AOL.p (P_build (l := [.int .i64 _, .str _, .int .i64 _, .int .i64 _, .int .i64 _, .int .i64 _]) tok rfl rfl rfl) rfl ?_
   refine AOL.e (E_store (k := 0) (v := .agg _) (cs' := [.int .i64 _, .str _, .int .i64 _, .int .i64 _, .int .i64 _, .int .i64 _]) (H2 := _ :: _) tok rfl rfl rfl rfl rfl rfl rfl rfl rfl) rfl ?_
   rintro _ _ ⟨rfl, rfl⟩
   refine AOL.nil (thenN ?_)
   refine AW.ret ?_
   refine ⟨.inr rfl, [.agg [.int .i64 _, .str _, .int .i64 _, .int .i64 _, .int .i64 _, .int .i64 _]], .cons (.box _ _ _ 0 _ _ _ _ rfl rfl rfl rfl rfl rfl) <| .nil, .cons _ (.refl _), ?_⟩
   simp only [resOf, nameF]
   (first | rw [if_neg (Bool.eq_false_iff.mp hc1)] | skip); (first | rw [if_neg (Bool.eq_false_iff.mp hc2)] | skip)
   first | done | rfl
set_option maxRecDepth 20000 in
set_option maxHeartbeats 400000 in
theorem c55 (s : Str) (hl : s.length ≤ 1048576) (h0 : 0 < s.length) : APure Tryz.prog 134 [.str s] (.agg (cFo (numberF s))) := by
 refine APure.body (n := 40) tok Tryz.func134 rfl rfl rfl fun H => ?_
 refine AW.seq (AW.region ?_)
 refine AOL.e (E_alloc (l := [.int .i64 0, .str [], .int .i64 0, .int .i64 0, .int .i64 0, .int .i64 0]) (by kernel_rfl)) rfl ?_
 rintro _ _ ⟨b2, rfl, rfl⟩
 refine AOL.nil (thenN ?_)
 refine AW.seq (AW.region ?_)
 refine AOL.p (P_move (v := .str _) rfl) rfl ?_
 refine AOL.p (P_callf (by kernel_rfl) rfl rfl (c38 s hl 146 digitS (by kernel_rfl) c39)) rfl ?_
 refine AOL.p (P_assign (v := .int .i64 _) rfl) rfl ?_
 refine AOL.nil (thenN ?_)
 refine AW.seq ?_
 refine AW.seq (AW.region ?_)
 refine AOL.p (P_move (v := .int .i64 _) rfl) rfl ?_
 refine AOL.p (P_eql rfl rfl) rfl ?_
 refine AOL.nil (thenN ?_)
 refine AW.cond (b := _) rfl (fun hc1 => ?_) (fun hc1 => ?_)
 ·
  refine AW.seq (AW.region ?_)
  refine AOL.p (P_build (l := [.int .i64 _, .str _, .int .i64 _, .int .i64 _, .int .i64 _, .int .i64 _]) tok rfl rfl rfl) rfl ?_
  refine AOL.e (E_store (k := 0) (v := .agg _) (cs' := [.int .i64 _, .str _, .int .i64 _, .int .i64 _, .int .i64 _, .int .i64 _]) (H2 := _ :: _) tok rfl rfl rfl rfl rfl rfl rfl rfl rfl) rfl ?_
  rintro _ _ ⟨rfl, rfl⟩
  refine AOL.nil (thenN ?_)
  refine AW.ret ?_
  refine thenR ?_
  refine ⟨.inr rfl, [.agg [.int .i64 _, .str _, .int .i64 _, .int .i64 _, .int .i64 _, .int .i64 _]], .cons (.box _ _ _ 0 _ _ _ _ rfl rfl rfl rfl rfl rfl) <| .nil, .cons _ (.refl _), ?_⟩
  simp only [resOf, numberF]
  (first | rw [if_pos hc1] | skip)
  first | done | rfl
 ·
  refine AW.skip ?_
  refine thenN ?_
  refine AW.seq ?_
  refine AW.seq (AW.region ?_)
  refine AOL.p (P_move (v := .str _) rfl) rfl ?_
  refine AOL.p (P_move (v := .int .i64 _) rfl) rfl ?_
  refine AOL.p (P_slice_str (l := 0) (h := spanS digitS s) tok rfl rfl rfl (rfl) (⟨_, rfl⟩) (Nat.zero_le _) (span_le _ _) (List.drop_zero)) rfl ?_
  refine AOL.p (P_callf (by kernel_rfl) rfl rfl (c18 (s.take (spanS digitS s)) (by rw [List.length_take]; omega))) rfl ?_
  refine AOL.p (P_move (v := .tuple _) rfl) rfl ?_
  refine AOL.p (P_extract (v := .int .i64 _) rfl rfl) rfl ?_
  refine AOL.p (P_extract (v := .int .i64 _) rfl rfl) rfl ?_
  refine AOL.p (P_assign (v := .int .i64 _) rfl) rfl ?_
  refine AOL.p (P_assign (v := .int .i64 _) rfl) rfl ?_
  refine AOL.nil (thenN ?_)
  refine AW.seq (AW.region ?_)
  refine AOL.p (P_move (v := .int .i64 _) rfl) rfl ?_
  refine AOL.p (P_neq rfl rfl) rfl ?_
  refine AOL.nil (thenN ?_)
  refine AW.cond (b := _) rfl (fun hc2 => ?_) (fun hc2 => ?_)
  ·
   refine AW.seq (AW.region ?_)
   refine AOL.p (P_move (v := .int .i64 _) rfl) rfl ?_
   refine AOL.p (P_build (l := [.int .i64 _, .str _, .int .i64 _, .int .i64 _, .int .i64 _, .int .i64 _]) tok rfl rfl rfl) rfl ?_
   refine AOL.e (E_store (k := 0) (v := .agg _) (cs' := [.int .i64 _, .str _, .int .i64 _, .int .i64 _, .int .i64 _, .int .i64 _]) (H2 := _ :: _) tok rfl rfl rfl rfl rfl rfl rfl rfl rfl) rfl ?_
   rintro _ _ ⟨rfl, rfl⟩
   refine AOL.nil (thenN ?_)
   refine AW.ret ?_
   refine thenR ?_
   refine ⟨.inr rfl, [.agg [.int .i64 _, .str _, .int .i64 _, .int .i64 _, .int .i64 _, .int .i64 _]], .cons (.box _ _ _ 0 _ _ _ _ rfl rfl rfl rfl rfl rfl) <| .nil, .cons _ (.refl _), ?_⟩
   simp only [resOf, numberF]
   (first | rw [if_neg (Bool.eq_false_iff.mp hc1)] | skip); (first | rw [if_pos hc2] | skip)
   first | done | rfl
  ·
   refine AW.skip ?_
   refine thenN ?_
   refine AW.seq ?_
   refine AW.seq (AW.region ?_)
   refine AOL.p (P_move (v := .int .i64 _) rfl) rfl ?_
   refine AOL.p (P_move (v := .str _) rfl) rfl ?_
   refine AOL.p (P_len_str tok rfl rfl rfl rfl) rfl ?_
   refine AOL.p (P_lss rfl rfl) rfl ?_
   refine AOL.p (P_move (v := .bool _) rfl) rfl ?_
   refine AOL.g (y := .str _) _ [] rfl (EntL.all trivial) (fun hG => P_move (v := .str _) rfl) rfl ?_
   refine AOL.g (y := .int .i64 _) _ [] rfl (EntL.all trivial) (fun hG => P_move (v := .int .i64 _) rfl) rfl ?_
   refine AOL.g (y := .int .u8 _) _ [(27, _), (28, _)] rfl (EntL.all ⟨Ent.self _ _, Ent.self _ _, trivial⟩) (fun hG => P_index_str tok rfl rfl rfl rfl (by omega) (bt_get (i := spanS digitS s) (by have h9 := g1 hG; simp at h9; exact h9))) rfl ?_
   refine AOL.g (y := .bool _) _ [(29, _)] rfl (EntL.all ⟨Ent.self _ _, trivial⟩) (fun hG => P_callf (by kernel_rfl) rfl rfl (c43 _)) rfl ?_
   refine AOL.p (P_pick_and rfl rfl rfl) rfl ?_
   refine AOL.nil (thenN ?_)
   refine AW.cond (b := _) rfl (fun hc3 => ?_) (fun hc3 => ?_)
   ·
    refine AW.seq (AW.region ?_)
    refine AOL.p (P_move (v := .int .i64 _) rfl) rfl ?_
    refine AOL.p (P_build (l := [.int .i64 _, .str _, .int .i64 _, .int .i64 _, .int .i64 _, .int .i64 _]) tok rfl rfl rfl) rfl ?_
    refine AOL.e (E_store (k := 0) (v := .agg _) (cs' := [.int .i64 _, .str _, .int .i64 _, .int .i64 _, .int .i64 _, .int .i64 _]) (H2 := _ :: _) tok rfl rfl rfl rfl rfl rfl rfl rfl rfl) rfl ?_
    rintro _ _ ⟨rfl, rfl⟩
    refine AOL.nil (thenN ?_)
    refine AW.ret ?_
    refine thenR ?_
    refine ⟨.inr rfl, [.agg [.int .i64 _, .str _, .int .i64 _, .int .i64 _, .int .i64 _, .int .i64 _]], .cons (.box _ _ _ 0 _ _ _ _ rfl rfl rfl rfl rfl rfl) <| .nil, .cons _ (.refl _), ?_⟩
    simp only [resOf, numberF]
    (first | rw [if_neg (Bool.eq_false_iff.mp hc1)] | skip); (first | rw [if_neg (Bool.eq_false_iff.mp hc2)] | skip); (first | rw [if_pos hc3] | skip)
    first | done | rfl
   ·
    refine AW.skip ?_
    refine thenN ?_
    refine AW.seq (AW.region ?_)
    refine AOL.p (P_move (v := .str _) rfl) rfl ?_
    refine AOL.p (P_move (v := .int .i64 _) rfl) rfl ?_
    refine AOL.p (P_slice_str (l := 0) (h := spanS digitS s) tok rfl rfl rfl (rfl) (⟨_, rfl⟩) (Nat.zero_le _) (span_le _ _) (List.drop_zero)) rfl ?_
    refine AOL.p (P_build (l := [.int .i64 _, .str _, .int .i64 _]) tok rfl rfl rfl) rfl ?_
    refine AOL.p (P_move (v := .int .i64 _) rfl) rfl ?_
    refine AOL.p (P_build (l := [.int .i64 _, .str _, .int .i64 _, .int .i64 _, .int .i64 _, .int .i64 _]) tok rfl rfl rfl) rfl ?_
    refine AOL.e (E_store (k := 0) (v := .agg _) (cs' := [.int .i64 _, .str _, .int .i64 _, .int .i64 _, .int .i64 _, .int .i64 _]) (H2 := _ :: _) tok rfl rfl rfl rfl rfl rfl rfl rfl rfl) rfl ?_
    rintro _ _ ⟨rfl, rfl⟩
    refine AOL.nil (thenN ?_)
    refine AW.ret ?_
    refine ⟨.inr rfl, [.agg [.int .i64 _, .str _, .int .i64 _, .int .i64 _, .int .i64 _, .int .i64 _]], .cons (.box _ _ _ 0 _ _ _ _ rfl rfl rfl rfl rfl rfl) <| .nil, .cons _ (.refl _), ?_⟩
    simp only [resOf, numberF]
    (first | rw [if_neg (Bool.eq_false_iff.mp hc1)] | skip); (first | rw [if_neg (Bool.eq_false_iff.mp hc2)] | skip); (first | rw [if_neg (Bool.eq_false_iff.mp hc3)] | skip)
    first | done | rfl
set_option maxRecDepth 20000 in
set_option maxHeartbeats 400000 in
theorem c57 (s : Str) : APure Tryz.prog 136 [.str s] (.agg (cFo (signF s))) := by
 refine APure.body (n := 19) tok Tryz.func136 rfl rfl rfl fun H => ?_
 refine AW.seq (AW.region ?_)
 refine AOL.e (E_alloc (l := [.int .i64 0, .str [], .int .i64 0, .int .i64 0, .int .i64 0, .int .i64 0]) (by kernel_rfl)) rfl ?_
 rintro _ _ ⟨b2, rfl, rfl⟩
 refine AOL.nil (thenN ?_)
 refine AW.seq ?_
 refine AW.seq (AW.region ?_)
 refine AOL.p (P_load_glob (l := signCells) tok (⟨_, by simp [globals], fun _ h => h⟩) rfl rfl rfl rfl) rfl ?_
 refine AOL.p (P_move (v := .int .i64 _) rfl) rfl ?_
 refine AOL.nil (thenN ?_)
 refine AW.block ?_
 refine AW.loopS (fun (k : Nat) => (⟨[(0, .str s), (2, .val (.pointer (some ⟨b2, 0, none⟩))), (5, .agg signCells), (6, .int .i64 (k : Int))], .box b2 91 [.int .i64 0, .str [], .int .i64 0, .int .i64 0, .int .i64 0, .int .i64 0] :: H, 19⟩ : St)) (fun (k : Nat) => k ≤ 17 ∧ signF s = signGo s (signL.drop k)) (fun (k : Nat) => 17 - k) (0) ?_ (GS.weaken ⟨rfl, rfl, rfl, rfl, trivial⟩ (.refl _)) ?_
 · exact ⟨Nat.zero_le _, rfl⟩
 ·
  rintro k hR
  refine AW.seq (AW.region ?_)
  refine AOL.p (P_lss rfl rfl) rfl ?_
  refine AOL.nil (thenN ?_)
  refine AW.seq ?_
  refine AW.cond (b := _) rfl (fun hc1 => ?_) (fun hc1 => ?_)
  ·
   have hk : k < 17 := by simp at hc1; omega
   refine AW.skip ?_
   refine thenN ?_
   refine AW.seq ?_
   refine AW.block ?_
   refine AW.seq (AW.region ?_)
   refine AOL.p (P_index_agg (c := .str (signL.getD k [])) tok rfl rfl rfl rfl rfl rfl rfl (by omega) (by omega) (sign_get k hk)) rfl ?_
   refine AOL.p (P_assign (v := .str _) rfl) rfl ?_
   refine AOL.nil (thenN ?_)
   refine AW.seq (AW.region ?_)
   refine AOL.p (P_move (v := .str _) rfl) rfl ?_
   refine AOL.p (P_move (v := .str _) rfl) rfl ?_
   refine AOL.p (P_callf (by kernel_rfl) rfl rfl (k28 _ _)) rfl ?_
   refine AOL.nil (thenN ?_)
   refine AW.cond (b := _) rfl (fun hc2 => ?_) (fun hc2 => ?_)
   ·
    refine AW.seq (AW.region ?_)
    refine AOL.p (P_move (v := .str _) rfl) rfl ?_
    refine AOL.p (P_build (l := [.int .i64 _, .str _, .int .i64 _]) tok rfl rfl rfl) rfl ?_
    refine AOL.p (P_move (v := .str _) rfl) rfl ?_
    refine AOL.p (P_len_str tok rfl rfl rfl rfl) rfl ?_
    refine AOL.p (P_build (l := [.int .i64 _, .str _, .int .i64 _, .int .i64 _, .int .i64 _, .int .i64 _]) tok rfl rfl rfl) rfl ?_
    refine AOL.e (E_store (k := 0) (v := .agg _) (cs' := [.int .i64 _, .str _, .int .i64 _, .int .i64 _, .int .i64 _, .int .i64 _]) (H2 := _ :: _) tok rfl rfl rfl rfl rfl rfl rfl rfl rfl) rfl ?_
    rintro _ _ ⟨rfl, rfl⟩
    refine AOL.nil (thenN ?_)
    refine AW.ret ?_
    refine blkR ?_
    refine thenR ?_
    refine thenR ?_
    refine blkR ?_
    refine thenR ?_
    refine ⟨.inr rfl, [.agg [.int .i64 _, .str _, .int .i64 _, .int .i64 _, .int .i64 _, .int .i64 _]], .cons (.box _ _ _ 0 _ _ _ _ rfl rfl rfl rfl rfl rfl) <| .nil, .cons _ (.refl _), ?_⟩
    have h9 := hR.2.trans (sign_stop hk hc2)
    rw [h9]; rfl
   ·
    refine AW.skip ?_
    refine blkN ?_
    refine thenN ?_
    refine AW.region ?_
    refine AOL.p (P_add rfl rfl rfl (by constructor <;> omega)) rfl ?_
    refine AOL.p (P_move (v := .int .i64 _) rfl) rfl ?_
    refine AOL.nil (thenN ?_)
    refine ⟨k + 1, ?_, ?_, GS.weaken ⟨rfl, rfl, rfl, rfl, trivial⟩ (.refl _)⟩
    · exact ⟨hk, hR.2.trans (sign_step hk hc2)⟩
    · omega
  ·
   have hk : k = 17 := by simp at hc1; have := hR.1; omega
   refine AW.exit ?_
   refine thenE ?_
   refine thenE ?_
   refine blkHit ?_
   refine thenN ?_
   refine AW.seq (AW.region ?_)
   refine AOL.p (P_build (l := [.int .i64 _, .str _, .int .i64 _, .int .i64 _, .int .i64 _, .int .i64 _]) tok rfl rfl rfl) rfl ?_
   refine AOL.e (E_store (k := 0) (v := .agg _) (cs' := [.int .i64 _, .str _, .int .i64 _, .int .i64 _, .int .i64 _, .int .i64 _]) (H2 := _ :: _) tok rfl rfl rfl rfl rfl rfl rfl rfl rfl) rfl ?_
   rintro _ _ ⟨rfl, rfl⟩
   refine AOL.nil (thenN ?_)
   refine AW.ret ?_
   refine ⟨.inr rfl, [.agg [.int .i64 _, .str _, .int .i64 _, .int .i64 _, .int .i64 _, .int .i64 _]], .cons (.box _ _ _ 0 _ _ _ _ rfl rfl rfl rfl rfl rfl) <| .nil, .cons _ (.refl _), ?_⟩
   have h9 : signF s = foE 0 4 := by rw [hR.2, hk]; rfl
   rw [h9]; rfl

end Go.Proofs.YtabkeeedkhgodaaGreatDoor
