/-
  Walks: quotation of the reference, names, numbers, signs. No condition.
-/
import Derived.Test.YtpgmglacdcfnaaaDoorW4
import Derived.KernelRfl
namespace Go.Proofs.YtpgmglacdcfnaaaDoor
open Go Go.Aw
set_option linter.unusedVariables false
set_option linter.unusedSimpArgs false

theorem bt_geti {s : Str} {n : Int} {i : Nat} (h : n = (i : Int)) (hi : i < s.length) : s[n.toNat]? = some (bt s i) := by subst h; exact bt_get hi
theorem sign_get (k : Nat) (h : k < 17) : signCells[k]? = some (.str (signL.getD k [])) := by
  have e : signCells = signL.map AV.str := rfl
  rw [e, List.getElem?_map]
  have h' : k < signL.length := h
  simp [List.getD_eq_getElem?_getD, List.getElem?_eq_getElem h']
theorem sign_step {s : Str} {k : Nat} (h : k < 17) (hc : Lib.hasPrefix s (signL.getD k []) = false) : signGo s (signL.drop k) = signGo s (signL.drop (k + 1)) := by
  have h' : k < signL.length := h
  rw [List.drop_eq_getElem_cons h']
  have e : signL.getD k [] = signL[k] := by simp [List.getD_eq_getElem?_getD, List.getElem?_eq_getElem h']
  rw [e] at hc
  rw [signGo, if_neg (Bool.eq_false_iff.mp hc)]
theorem sign_stop {s : Str} {k : Nat} (h : k < 17) (hc : Lib.hasPrefix s (signL.getD k []) = true) : signGo s (signL.drop k) = foT 3 (signL.getD k []) (signL.getD k []).length := by
  have h' : k < signL.length := h
  rw [List.drop_eq_getElem_cons h']
  have e : signL.getD k [] = signL[k] := by simp [List.getD_eq_getElem?_getD, List.getElem?_eq_getElem h']
  rw [e] at hc ⊢
  rw [signGo, if_pos hc]

set_option maxRecDepth 20000 in
set_option maxHeartbeats 400000 in
theorem c25 (s : Str) (hl : s.length ≤ 1048576) : APure Tryd.prog 18 [.str s] (.tuple [.str (quoteR s).1, .int .i64 (quoteR s).2]) := by
  refine APure.body (n := 49) tok Tryd.func18 rfl rfl rfl fun H => ?_
  refine AW.seq ?_
  refine AW.region ?_
  refine AOL.p (P_assign (v := .str _) rfl) rfl ?_
  refine AOL.p (P_assign (v := .int .i64 _) rfl) rfl ?_
  refine AOL.nil ?_
  refine thenN ?_
  refine AW.seq ?_
  refine AW.seq ?_
  refine AW.region ?_
  refine AOL.p (P_move (v := .str _) rfl) rfl ?_
  refine AOL.p (P_len_str tok rfl rfl rfl rfl) rfl ?_
  refine AOL.p (P_gtr rfl rfl) rfl ?_
  refine AOL.nil ?_
  refine thenN ?_
  refine AW.cond (b := _) rfl (fun hc1 => ?_) (fun hc1 => ?_)
  · skip
    refine AW.seq ?_
    refine AW.region ?_
    refine AOL.p (P_assign (v := .str _) rfl) rfl ?_
    refine AOL.p (P_assign (v := .int .i64 _) rfl) rfl ?_
    refine AOL.nil ?_
    refine thenN ?_
    refine AW.ret ?_
    refine thenR ?_
    refine ⟨.inr rfl, [.str _, .int .i64 _], .cons (.tmp _ _ rfl) <| .cons (.tmp _ _ rfl) <| .nil, .refl _, ?_⟩
    simp only [resOf, quoteR]
    (first | rw [if_pos hc1] | skip)
    first | done | rfl
  · skip
    refine AW.skip ?_
    refine thenN ?_
    refine AW.seq ?_
    refine AW.region ?_
    refine AOL.e (E_buildSlice (es := [[.int .u8 _]]) tok rfl rfl rfl rfl rfl rfl rfl rfl rfl) rfl ?_
    rintro _ _ ⟨v10, rfl, rfl⟩
    refine AOL.p (P_assign (v := .row _ _ _) rfl) rfl ?_
    refine AOL.nil ?_
    refine thenN ?_
    refine AW.seq ?_
    refine AW.seq ?_
    refine AW.region ?_
    refine AOL.p (P_assign (v := .int .i64 _) rfl) rfl ?_
    refine AOL.nil ?_
    refine thenN ?_
    refine AW.block ?_
    refine AW.loopS (fun (p : Nat × List (List AV) × Value) => (⟨[(0, .str s), (4, .row p.2.2 1 p.2.1), (5, .int .i64 (p.1 : Int))], .row p.2.2 p.2.1.length 5 1 :: H, 49⟩ : St)) (fun (p : Nat × List (List AV) × Value) => p.1 ≤ s.length ∧ p.2.1 = bcells ([34] ++ quoteGoR (s.take p.1))) (fun (p : Nat × List (List AV) × Value) => s.length - p.1) ((0, _, v10)) ?_ (GS.weaken ⟨rfl, rfl, rfl, trivial⟩ (.refl _)) ?_
    · exact ⟨Nat.zero_le _, rfl⟩
    · rintro p hR
      have hroom := quote_roomR (by simp at hc1; omega) hR.2
      have hsc : ∀ c ∈ p.2.1, scalars c = true := by rw [hR.2]; exact sc_bytes _
      refine AW.seq ?_
      refine AW.seq ?_
      refine AW.region ?_
      refine AOL.p (P_move (v := .int .i64 _) rfl) rfl ?_
      refine AOL.p (P_move (v := .str _) rfl) rfl ?_
      refine AOL.p (P_len_str tok rfl rfl rfl rfl) rfl ?_
      refine AOL.p (P_lss rfl rfl) rfl ?_
      refine AOL.nil ?_
      refine thenN ?_
      refine AW.cond (b := _) rfl (fun hc2 => ?_) (fun hc2 => ?_)
      · skip
        have hk : p.1 < s.length := by simp at hc2; omega
        refine AW.skip ?_
        refine thenN ?_
        refine AW.seq ?_
        refine AW.block ?_
        refine AW.seq ?_
        refine AW.region ?_
        refine AOL.p (P_move (v := .str _) rfl) rfl ?_
        refine AOL.p (P_move (v := .int .i64 _) rfl) rfl ?_
        refine AOL.p (P_index_str tok rfl rfl rfl rfl (by omega) (bt_get (i := p.1) hk)) rfl ?_
        refine AOL.p (P_assign (v := .int .u8 _) rfl) rfl ?_
        refine AOL.nil ?_
        refine thenN ?_
        refine AW.seq ?_
        refine AW.region ?_
        refine AOL.p (P_move (v := .int .u8 _) rfl) rfl ?_
        refine AOL.p (P_callf (by kernel_rfl) rfl rfl (c46 _)) rfl ?_
        refine AOL.nil ?_
        refine thenN ?_
        refine AW.cond (b := _) rfl (fun hc3 => ?_) (fun hc3 => ?_)
        · skip
          refine AW.region ?_
          refine AOL.p (P_move (v := .row _ _ _) rfl) rfl ?_
          refine AOL.p (P_move (v := .int .u8 _) rfl) rfl ?_
          refine AOL.p (P_buildSlice (es := [[.int .u8 _]]) tok rfl rfl rfl rfl rfl rfl rfl rfl rfl) rfl ?_
          refine AOL.e (E_append (k := 0) tok rfl rfl rfl rfl rfl rfl rfl rfl (sc_one rfl) (hsc) (by simp; omega) (by simp [maxLen]; omega)) rfl ?_
          rintro _ _ ⟨v25, rfl, rfl⟩
          refine AOL.p (P_assign (v := .row _ _ _) rfl) rfl ?_
          refine AOL.nil ?_
          refine blkN ?_
          refine thenN ?_
          refine AW.region ?_
          refine AOL.p (P_move (v := .int .i64 _) rfl) rfl ?_
          refine AOL.p (P_add rfl rfl rfl (by constructor <;> omega)) rfl ?_
          refine AOL.p (P_assign (v := .int .i64 _) rfl) rfl ?_
          refine AOL.nil ?_
          refine thenN ?_
          refine ⟨(p.1 + 1, p.2.1 ++ bcells [bt s p.1], v25), ?_, ?_, GS.weaken ⟨rfl, rfl, rfl, trivial⟩ (.refl _)⟩
          · exact ⟨hk, quote_stepR hk hR.2 (by unfold quoteBR; rw [if_pos hc3])⟩
          · simp only; omega
        · skip
          refine AW.seq ?_
          refine AW.region ?_
          refine AOL.p (P_move (v := .int .u8 _) rfl) rfl ?_
          refine AOL.p (P_eql rfl rfl) rfl ?_
          refine AOL.p (P_move (v := .bool _) rfl) rfl ?_
          refine AOL.g (y := .int .u8 _) _ [] rfl (EntL.all trivial) (fun hG => P_move (v := .int .u8 _) rfl) rfl ?_
          refine AOL.g (y := .bool _) _ [(29, _)] rfl (EntL.all ⟨Ent.self _ _, trivial⟩) (fun hG => P_eql rfl rfl) rfl ?_
          refine AOL.p (P_pick_or rfl rfl rfl) rfl ?_
          refine AOL.nil ?_
          refine thenN ?_
          refine AW.cond (b := _) rfl (fun hc4 => ?_) (fun hc4 => ?_)
          · skip
            refine AW.region ?_
            refine AOL.p (P_move (v := .row _ _ _) rfl) rfl ?_
            refine AOL.p (P_move (v := .int .u8 _) rfl) rfl ?_
            refine AOL.p (P_buildSlice (es := [[.int .u8 _], [.int .u8 _]]) tok rfl rfl rfl rfl rfl rfl rfl rfl rfl) rfl ?_
            refine AOL.e (E_append (k := 0) tok rfl rfl rfl rfl rfl rfl rfl rfl (sc_two _ _) (hsc) (by simp; omega) (by simp [maxLen]; omega)) rfl ?_
            rintro _ _ ⟨v35, rfl, rfl⟩
            refine AOL.p (P_assign (v := .row _ _ _) rfl) rfl ?_
            refine AOL.nil ?_
            refine blkN ?_
            refine thenN ?_
            refine AW.region ?_
            refine AOL.p (P_move (v := .int .i64 _) rfl) rfl ?_
            refine AOL.p (P_add rfl rfl rfl (by constructor <;> omega)) rfl ?_
            refine AOL.p (P_assign (v := .int .i64 _) rfl) rfl ?_
            refine AOL.nil ?_
            refine thenN ?_
            refine ⟨(p.1 + 1, p.2.1 ++ bcells [92, bt s p.1], v35), ?_, ?_, GS.weaken ⟨rfl, rfl, rfl, trivial⟩ (.refl _)⟩
            · exact ⟨hk, quote_stepR hk hR.2 (by unfold quoteBR; rw [if_neg (Bool.eq_false_iff.mp hc3), if_pos hc4])⟩
            · simp only; omega
          · skip
            refine AW.draw mixed (fun _ => True) trivial (by kernel_rfl) ?_
            refine Canon.pure _ _ 0 _ _ rfl (by kernel_rfl) (by kernel_rfl) rfl (.run rfl (P_move (v := .row _ _ _) rfl)) ?_
            refine Canon.pure _ _ 1 _ _ rfl (by kernel_rfl) (by kernel_rfl) rfl (.run rfl (P_move (v := .int .u8 _) rfl)) ?_
            refine Canon.pure _ _ 2 _ _ rfl (by kernel_rfl) (by kernel_rfl) rfl (.run rfl (P_quow rfl rfl (by omega))) ?_
            refine Canon.pure _ _ 3 _ _ rfl (by kernel_rfl) (by kernel_rfl) rfl (.run rfl (P_index_str tok rfl rfl rfl rfl ((hex_hi _).1) ((hex_hi _).2))) ?_
            refine Canon.pure _ _ 4 _ _ rfl (by kernel_rfl) (by kernel_rfl) rfl (.run rfl (P_move (v := .int .u8 _) rfl)) ?_
            refine Canon.pure _ _ 5 _ _ rfl (by kernel_rfl) (by kernel_rfl) rfl (.run rfl (P_rem rfl rfl (by omega))) ?_
            refine Canon.pure _ _ 6 _ _ rfl (by kernel_rfl) (by kernel_rfl) rfl (.run rfl (P_index_str tok rfl rfl rfl rfl ((hex_lo _).1) ((hex_lo _).2))) ?_
            refine Canon.pure _ _ 7 _ _ rfl (by kernel_rfl) (by kernel_rfl) rfl (.run rfl (P_buildSlice (es := [[.int .u8 _], [.int .u8 _], [.int .u8 _], [.int .u8 _]]) tok rfl rfl rfl rfl rfl rfl rfl rfl rfl)) ?_
            refine Canon.eff _ _ 8 _ _ rfl (by kernel_rfl) rfl rfl (E_append (k := 0) tok rfl rfl rfl rfl rfl rfl rfl rfl (sc_four _ _ _ _) (hsc) (by simp; omega) (by simp [maxLen]; omega)) (fun _ _ _ => trivial) ?_
            rintro _ _ ⟨v44, rfl, rfl⟩
            refine Canon.pure _ _ 9 _ _ rfl (by kernel_rfl) (by kernel_rfl) rfl (.run rfl (P_assign (v := .row _ _ _) rfl)) ?_
            refine Canon.done _ _ (by kernel_rfl) ?_
            refine blkN ?_
            refine thenN ?_
            refine AW.region ?_
            refine AOL.p (P_move (v := .int .i64 _) rfl) rfl ?_
            refine AOL.p (P_add rfl rfl rfl (by constructor <;> omega)) rfl ?_
            refine AOL.p (P_assign (v := .int .i64 _) rfl) rfl ?_
            refine AOL.nil ?_
            refine thenN ?_
            refine ⟨(p.1 + 1, p.2.1 ++ bcells [92, 120, bt hexD ((bt s p.1).toNat / 16), bt hexD ((bt s p.1).toNat % 16)], v44), ?_, ?_, GS.weaken ⟨rfl, rfl, rfl, trivial⟩ (.refl _)⟩
            · exact ⟨hk, quote_stepR hk hR.2 (by unfold quoteBR; rw [if_neg (Bool.eq_false_iff.mp hc3), if_neg (Bool.eq_false_iff.mp hc4)])⟩
            · simp only; omega
      · skip
        have hk : p.1 = s.length := by simp at hc2; have := hR.1; omega
        have hfin : p.2.1 ++ [[.int .u8 34]] = bcells ([34] ++ quoteGoR s ++ [34]) := by rw [hR.2, hk, List.take_length, bcells_append ([34] ++ quoteGoR s) [34]]; rfl
        have hfl : ([34] ++ quoteGoR s ++ [34]).length ≤ maxLen := by have h1 := quoteGoR_len s; simp at hc1; simp [maxLen]; omega
        refine AW.exit ?_
        refine thenE ?_
        refine thenE ?_
        refine blkHit ?_
        refine thenN ?_
        refine AW.seq ?_
        refine AW.region ?_
        refine AOL.p (P_move (v := .row _ _ _) rfl) rfl ?_
        refine AOL.p (P_buildSlice (es := [[.int .u8 _]]) tok rfl rfl rfl rfl rfl rfl rfl rfl rfl) rfl ?_
        refine AOL.e (E_append (k := 0) tok rfl rfl rfl rfl rfl rfl rfl rfl (sc_one rfl) (hsc) (by simp; omega) (by simp [maxLen]; omega)) rfl ?_
        rintro _ _ ⟨v47, rfl, rfl⟩
        refine AOL.p (P_bytesStr (s := [34] ++ quoteGoR s ++ [34]) tok rfl rfl rfl rfl rfl rfl rfl (hfl) (as_row hfin)) rfl ?_
        refine AOL.p (P_assign (v := .str _) rfl) rfl ?_
        refine AOL.p (P_assign (v := .int .i64 _) rfl) rfl ?_
        refine AOL.nil ?_
        refine thenN ?_
        refine AW.ret ?_
        refine ⟨.inr rfl, [.str _, .int .i64 _], .cons (.tmp _ _ rfl) <| .cons (.tmp _ _ rfl) <| .nil, .cons _ (.refl _), ?_⟩
        simp only [resOf, quoteR]
        (first | rw [if_neg (Bool.eq_false_iff.mp hc1)] | skip); (first | rw [if_neg (Bool.eq_false_iff.mp hc2)] | skip)
        first | done | rfl
set_option maxRecDepth 20000 in
set_option maxHeartbeats 400000 in
theorem c71 (s : Str) (hl : s.length ≤ 1048576) (k : Nat) (hk : k ≤ 1048576) : APure Tryd.prog 73 [.str s, .int .i64 (k : Int)] (.tuple [.int .u8 ((escR s k).1.toNat : Int), .int .i64 (escR s k).2]) := by
  refine APure.body (n := 72) tok Tryd.func73 rfl rfl rfl fun H => ?_
  refine AW.seq ?_
  refine AW.region ?_
  refine AOL.p (P_assign (v := .int .u8 _) rfl) rfl ?_
  refine AOL.p (P_assign (v := .int .i64 _) rfl) rfl ?_
  refine AOL.nil ?_
  refine thenN ?_
  refine AW.seq ?_
  refine AW.seq ?_
  refine AW.region ?_
  refine AOL.p (P_move (v := .int .i64 _) rfl) rfl ?_
  refine AOL.p (P_add rfl rfl rfl (by constructor <;> omega)) rfl ?_
  refine AOL.p (P_move (v := .str _) rfl) rfl ?_
  refine AOL.p (P_len_str tok rfl rfl rfl rfl) rfl ?_
  refine AOL.p (P_geq rfl rfl) rfl ?_
  refine AOL.nil ?_
  refine thenN ?_
  refine AW.cond (b := _) rfl (fun hc1 => ?_) (fun hc1 => ?_)
  · skip
    refine AW.seq ?_
    refine AW.region ?_
    refine AOL.p (P_assign (v := .int .u8 _) rfl) rfl ?_
    refine AOL.p (P_assign (v := .int .i64 _) rfl) rfl ?_
    refine AOL.nil ?_
    refine thenN ?_
    refine AW.ret ?_
    refine thenR ?_
    refine ⟨.inr rfl, [.int .u8 _, .int .i64 _], .cons (.tmp _ _ rfl) <| .cons (.tmp _ _ rfl) <| .nil, .refl _, ?_⟩
    simp only [resOf, escR]
    (first | rw [if_pos hc1] | skip)
    first | done | rfl
  · skip
    refine AW.skip ?_
    refine thenN ?_
    refine AW.seq ?_
    refine AW.seq ?_
    refine AW.region ?_
    refine AOL.p (P_move (v := .str _) rfl) rfl ?_
    refine AOL.p (P_move (v := .int .i64 _) rfl) rfl ?_
    refine AOL.p (P_add rfl rfl rfl (by constructor <;> omega)) rfl ?_
    refine AOL.p (P_index_str tok rfl rfl rfl rfl (by omega) (bt_geti (i := k + 1) (by omega) (by simp at hc1; omega))) rfl ?_
    refine AOL.p (P_eql rfl rfl) rfl ?_
    refine AOL.p (P_move (v := .bool _) rfl) rfl ?_
    refine AOL.g (y := .str _) _ [] rfl (EntL.all trivial) (fun hG => P_move (v := .str _) rfl) rfl ?_
    refine AOL.g (y := .int .i64 _) _ [] rfl (EntL.all trivial) (fun hG => P_move (v := .int .i64 _) rfl) rfl ?_
    refine AOL.g (y := .int .i64 _) _ [(18, _)] rfl (EntL.all ⟨Ent.self _ _, trivial⟩) (fun hG => P_add rfl rfl rfl (by constructor <;> omega)) rfl ?_
    refine AOL.g (y := .int .u8 _) _ [(17, _), (19, _)] rfl (EntL.all ⟨Ent.self _ _, Ent.self _ _, trivial⟩) (fun hG => P_index_str tok rfl rfl rfl rfl (by omega) (bt_geti (i := k + 1) (by omega) (by simp at hc1; omega))) rfl ?_
    refine AOL.g (y := .bool _) _ [(20, _)] rfl (EntL.all ⟨Ent.self _ _, trivial⟩) (fun hG => P_eql rfl rfl) rfl ?_
    refine AOL.p (P_pick_or rfl rfl rfl) rfl ?_
    refine AOL.nil ?_
    refine thenN ?_
    refine AW.cond (b := _) rfl (fun hc2 => ?_) (fun hc2 => ?_)
    · skip
      refine AW.seq ?_
      refine AW.region ?_
      refine AOL.p (P_move (v := .str _) rfl) rfl ?_
      refine AOL.p (P_move (v := .int .i64 _) rfl) rfl ?_
      refine AOL.p (P_add rfl rfl rfl (by constructor <;> omega)) rfl ?_
      refine AOL.p (P_index_str tok rfl rfl rfl rfl (by omega) (bt_geti (i := k + 1) (by omega) (by simp at hc1; omega))) rfl ?_
      refine AOL.p (P_move (v := .int .i64 _) rfl) rfl ?_
      refine AOL.p (P_add rfl rfl rfl (by constructor <;> omega)) rfl ?_
      refine AOL.p (P_assign (v := .int .u8 _) rfl) rfl ?_
      refine AOL.p (P_assign (v := .int .i64 _) rfl) rfl ?_
      refine AOL.nil ?_
      refine thenN ?_
      refine AW.ret ?_
      refine thenR ?_
      refine ⟨.inr rfl, [.int .u8 _, .int .i64 _], .cons (.tmp _ _ rfl) <| .cons (.tmp _ _ rfl) <| .nil, .refl _, ?_⟩
      simp only [resOf, escR]
      (first | rw [if_neg (Bool.eq_false_iff.mp hc1)] | skip); (first | rw [if_pos hc2] | skip)
      first | done | rfl
    · skip
      refine AW.skip ?_
      refine thenN ?_
      refine AW.seq ?_
      refine AW.seq ?_
      refine AW.region ?_
      refine AOL.p (P_move (v := .str _) rfl) rfl ?_
      refine AOL.p (P_move (v := .int .i64 _) rfl) rfl ?_
      refine AOL.p (P_add rfl rfl rfl (by constructor <;> omega)) rfl ?_
      refine AOL.p (P_index_str tok rfl rfl rfl rfl (by omega) (bt_geti (i := k + 1) (by omega) (by simp at hc1; omega))) rfl ?_
      refine AOL.p (P_neq rfl rfl) rfl ?_
      refine AOL.p (P_move (v := .bool _) rfl) rfl ?_
      refine AOL.g (y := .int .i64 _) _ [] rfl (EntL.all trivial) (fun hG => P_move (v := .int .i64 _) rfl) rfl ?_
      refine AOL.g (y := .int .i64 _) _ [(35, _)] rfl (EntL.all ⟨Ent.self _ _, trivial⟩) (fun hG => P_add rfl rfl rfl (by constructor <;> omega)) rfl ?_
      refine AOL.g (y := .str _) _ [] rfl (EntL.all trivial) (fun hG => P_move (v := .str _) rfl) rfl ?_
      refine AOL.g (y := .int .i64 _) _ [(37, _)] rfl (EntL.all ⟨Ent.self _ _, trivial⟩) (fun hG => P_len_str tok rfl rfl rfl rfl) rfl ?_
      refine AOL.g (y := .bool _) _ [(36, _), (38, _)] rfl (EntL.all ⟨Ent.self _ _, Ent.self _ _, trivial⟩) (fun hG => P_geq rfl rfl) rfl ?_
      refine AOL.p (P_pick_or rfl rfl rfl) rfl ?_
      refine AOL.p (P_move (v := .bool _) rfl) rfl ?_
      refine AOL.g (y := .str _) _ [] rfl (EntL.all trivial) (fun hG => P_move (v := .str _) rfl) rfl ?_
      refine AOL.g (y := .int .i64 _) _ [] rfl (EntL.all trivial) (fun hG => P_move (v := .int .i64 _) rfl) rfl ?_
      refine AOL.g (y := .int .i64 _) _ [(43, _)] rfl (EntL.all ⟨Ent.self _ _, trivial⟩) (fun hG => P_add rfl rfl rfl (by constructor <;> omega)) rfl ?_
      refine AOL.g (y := .int .u8 _) _ [(42, _), (44, _)] rfl (EntL.all ⟨Ent.self _ _, Ent.self _ _, trivial⟩) (fun hG => P_index_str tok rfl rfl rfl rfl (by omega) (bt_geti (i := k + 2) (by omega) (by have h9 := g1 hG; simp at h9; omega))) rfl ?_
      refine AOL.g (y := .int .i64 _) _ [(45, _)] rfl (EntL.all ⟨Ent.self _ _, trivial⟩) (fun hG => P_callf (by kernel_rfl) rfl rfl (c79 _)) rfl ?_
      refine AOL.g (y := .bool _) _ [(46, _)] rfl (EntL.all ⟨Ent.self _ _, trivial⟩) (fun hG => P_lss rfl rfl) rfl ?_
      refine AOL.p (P_pick_or rfl rfl rfl) rfl ?_
      refine AOL.p (P_move (v := .bool _) rfl) rfl ?_
      refine AOL.g (y := .str _) _ [] rfl (EntL.all trivial) (fun hG => P_move (v := .str _) rfl) rfl ?_
      refine AOL.g (y := .int .i64 _) _ [] rfl (EntL.all trivial) (fun hG => P_move (v := .int .i64 _) rfl) rfl ?_
      refine AOL.g (y := .int .i64 _) _ [(51, _)] rfl (EntL.all ⟨Ent.self _ _, trivial⟩) (fun hG => P_add rfl rfl rfl (by constructor <;> omega)) rfl ?_
      refine AOL.g (y := .int .u8 _) _ [(50, _), (52, _)] rfl (EntL.all ⟨Ent.self _ _, Ent.self _ _, trivial⟩) (fun hG => P_index_str tok rfl rfl rfl rfl (by omega) (bt_geti (i := k + 3) (by omega) (by have h9 := g1 hG; simp at h9; omega))) rfl ?_
      refine AOL.g (y := .int .i64 _) _ [(53, _)] rfl (EntL.all ⟨Ent.self _ _, trivial⟩) (fun hG => P_callf (by kernel_rfl) rfl rfl (c79 _)) rfl ?_
      refine AOL.g (y := .bool _) _ [(54, _)] rfl (EntL.all ⟨Ent.self _ _, trivial⟩) (fun hG => P_lss rfl rfl) rfl ?_
      refine AOL.p (P_pick_or rfl rfl rfl) rfl ?_
      refine AOL.nil ?_
      refine thenN ?_
      refine AW.cond (b := _) rfl (fun hc3 => ?_) (fun hc3 => ?_)
      · skip
        refine AW.seq ?_
        refine AW.region ?_
        refine AOL.p (P_assign (v := .int .u8 _) rfl) rfl ?_
        refine AOL.p (P_assign (v := .int .i64 _) rfl) rfl ?_
        refine AOL.nil ?_
        refine thenN ?_
        refine AW.ret ?_
        refine thenR ?_
        refine ⟨.inr rfl, [.int .u8 _, .int .i64 _], .cons (.tmp _ _ rfl) <| .cons (.tmp _ _ rfl) <| .nil, .refl _, ?_⟩
        simp only [resOf, escR]
        (first | rw [if_neg (Bool.eq_false_iff.mp hc1)] | skip); (first | rw [if_neg (Bool.eq_false_iff.mp hc2)] | skip); (first | rw [if_pos hc3] | skip)
        first | done | rfl
      · skip
        refine AW.skip ?_
        refine thenN ?_
        refine AW.seq ?_
        have hh1 := hexR_le (bt s (k + 2))
        have hh2 := hexR_le (bt s (k + 3))
        refine AW.draw mixed (fun _ => True) trivial (by kernel_rfl) ?_
        refine Canon.pure _ _ 0 _ _ rfl (by kernel_rfl) (by kernel_rfl) rfl (.run rfl (P_move (v := .str _) rfl)) ?_
        refine Canon.pure _ _ 1 _ _ rfl (by kernel_rfl) (by kernel_rfl) rfl (.run rfl (P_move (v := .int .i64 _) rfl)) ?_
        refine Canon.pure _ _ 2 _ _ rfl (by kernel_rfl) (by kernel_rfl) rfl (.run rfl (P_add rfl rfl rfl (by constructor <;> omega))) ?_
        refine Canon.pure _ _ 3 _ _ rfl (by kernel_rfl) (by kernel_rfl) rfl (.run rfl (P_index_str tok rfl rfl rfl rfl (by omega) (bt_geti (i := k + 2) (by omega) (by simp at hc3; omega)))) ?_
        refine Canon.pure _ _ 4 _ _ rfl (by kernel_rfl) (by kernel_rfl) rfl (.run rfl (P_callf (by kernel_rfl) rfl rfl (c79 _))) ?_
        refine Canon.pure _ _ 5 _ _ rfl (by kernel_rfl) (by kernel_rfl) rfl (.run rfl (P_mul rfl rfl rfl (by constructor <;> omega))) ?_
        refine Canon.pure _ _ 6 _ _ rfl (by kernel_rfl) (by kernel_rfl) rfl (.run rfl (P_move (v := .str _) rfl)) ?_
        refine Canon.pure _ _ 7 _ _ rfl (by kernel_rfl) (by kernel_rfl) rfl (.run rfl (P_move (v := .int .i64 _) rfl)) ?_
        refine Canon.pure _ _ 8 _ _ rfl (by kernel_rfl) (by kernel_rfl) rfl (.run rfl (P_add rfl rfl rfl (by constructor <;> omega))) ?_
        refine Canon.pure _ _ 9 _ _ rfl (by kernel_rfl) (by kernel_rfl) rfl (.run rfl (P_index_str tok rfl rfl rfl rfl (by omega) (bt_geti (i := k + 3) (by omega) (by simp at hc3; omega)))) ?_
        refine Canon.pure _ _ 10 _ _ rfl (by kernel_rfl) (by kernel_rfl) rfl (.run rfl (P_callf (by kernel_rfl) rfl rfl (c79 _))) ?_
        refine Canon.pure _ _ 11 _ _ rfl (by kernel_rfl) (by kernel_rfl) rfl (.run rfl (P_add rfl rfl rfl (by constructor <;> omega))) ?_
        refine Canon.pure _ _ 12 _ _ rfl (by kernel_rfl) (by kernel_rfl) rfl (.run rfl (P_conv (m := ((byteOf (16 * hexR (bt s (k + 2)) + hexR (bt s (k + 3)))).toNat : Int)) tok rfl rfl rfl rfl rfl (byteOf_eq _))) ?_
        refine Canon.pure _ _ 13 _ _ rfl (by kernel_rfl) (by kernel_rfl) rfl (.run rfl (P_move (v := .int .i64 _) rfl)) ?_
        refine Canon.pure _ _ 14 _ _ rfl (by kernel_rfl) (by kernel_rfl) rfl (.run rfl (P_add rfl rfl rfl (by constructor <;> omega))) ?_
        refine Canon.pure _ _ 15 _ _ rfl (by kernel_rfl) (by kernel_rfl) rfl (.run rfl (P_assign (v := .int .u8 _) rfl)) ?_
        refine Canon.pure _ _ 16 _ _ rfl (by kernel_rfl) (by kernel_rfl) rfl (.run rfl (P_assign (v := .int .i64 _) rfl)) ?_
        refine Canon.done _ _ (by kernel_rfl) ?_
        refine thenN ?_
        refine AW.ret ?_
        refine ⟨.inr rfl, [.int .u8 _, .int .i64 _], .cons (.tmp _ _ rfl) <| .cons (.tmp _ _ rfl) <| .nil, .refl _, ?_⟩
        simp only [resOf, escR]
        (first | rw [if_neg (Bool.eq_false_iff.mp hc1)] | skip); (first | rw [if_neg (Bool.eq_false_iff.mp hc2)] | skip); (first | rw [if_neg (Bool.eq_false_iff.mp hc3)] | skip)
        first | done | rfl
set_option maxRecDepth 20000 in
set_option maxHeartbeats 400000 in
theorem c54 (s : Str) (hl : s.length ≤ 1048576) (h0 : 0 < s.length) : APure Tryd.prog 79 [.str s] (.agg (cFo (nameF s))) := by
  refine APure.body (n := 20) tok Tryd.func79 rfl rfl rfl fun H => ?_
  refine AW.seq ?_
  refine AW.region ?_
  refine AOL.e (E_alloc (l := [.int .i64 0, .str [], .int .i64 0, .int .i64 0, .int .i64 0, .int .i64 0]) (by kernel_rfl)) rfl ?_
  rintro _ _ ⟨b2, rfl, rfl⟩
  refine AOL.nil ?_
  refine thenN ?_
  refine AW.seq ?_
  refine AW.seq ?_
  refine AW.region ?_
  refine AOL.p (P_move (v := .str _) rfl) rfl ?_
  refine AOL.p (P_index_str tok rfl rfl rfl rfl (by omega) (bt_get (i := 0) h0)) rfl ?_
  refine AOL.p (P_callf (by kernel_rfl) rfl rfl (c43 _)) rfl ?_
  refine AOL.p (P_not rfl) rfl ?_
  refine AOL.nil ?_
  refine thenN ?_
  refine AW.cond (b := _) rfl (fun hc1 => ?_) (fun hc1 => ?_)
  · skip
    refine AW.seq ?_
    refine AW.region ?_
    refine AOL.p (P_build (l := [.int .i64 _, .str _, .int .i64 _, .int .i64 _, .int .i64 _, .int .i64 _]) tok rfl rfl rfl) rfl ?_
    refine AOL.e (E_store (k := 0) (v := .agg _) (cs' := [.int .i64 _, .str _, .int .i64 _, .int .i64 _, .int .i64 _, .int .i64 _]) (H2 := _ :: _) tok rfl rfl rfl rfl rfl rfl rfl rfl rfl) rfl ?_
    rintro _ _ ⟨rfl, rfl⟩
    refine AOL.nil ?_
    refine thenN ?_
    refine AW.ret ?_
    refine thenR ?_
    refine ⟨.inr rfl, [.agg [.int .i64 _, .str _, .int .i64 _, .int .i64 _, .int .i64 _, .int .i64 _]], .cons (.box _ _ _ 0 _ _ _ _ rfl rfl rfl rfl rfl rfl) <| .nil, .cons _ (.refl _), ?_⟩
    simp only [resOf, nameF]
    (first | rw [if_pos hc1] | skip)
    first | done | rfl
  · skip
    refine AW.skip ?_
    refine thenN ?_
    refine AW.seq ?_
    refine AW.region ?_
    refine AOL.p (P_move (v := .str _) rfl) rfl ?_
    refine AOL.p (P_callf (by kernel_rfl) rfl rfl (c38 s hl 89 wordS (by kernel_rfl) c69)) rfl ?_
    refine AOL.p (P_assign (v := .int .i64 _) rfl) rfl ?_
    refine AOL.nil ?_
    refine thenN ?_
    refine AW.seq ?_
    refine AW.seq ?_
    refine AW.region ?_
    refine AOL.p (P_move (v := .int .i64 _) rfl) rfl ?_
    refine AOL.p (P_gtr rfl rfl) rfl ?_
    refine AOL.nil ?_
    refine thenN ?_
    refine AW.cond (b := _) rfl (fun hc2 => ?_) (fun hc2 => ?_)
    · skip
      refine AW.seq ?_
      refine AW.region ?_
      refine AOL.p (P_build (l := [.int .i64 _, .str _, .int .i64 _, .int .i64 _, .int .i64 _, .int .i64 _]) tok rfl rfl rfl) rfl ?_
      refine AOL.e (E_store (k := 0) (v := .agg _) (cs' := [.int .i64 _, .str _, .int .i64 _, .int .i64 _, .int .i64 _, .int .i64 _]) (H2 := _ :: _) tok rfl rfl rfl rfl rfl rfl rfl rfl rfl) rfl ?_
      rintro _ _ ⟨rfl, rfl⟩
      refine AOL.nil ?_
      refine thenN ?_
      refine AW.ret ?_
      refine thenR ?_
      refine ⟨.inr rfl, [.agg [.int .i64 _, .str _, .int .i64 _, .int .i64 _, .int .i64 _, .int .i64 _]], .cons (.box _ _ _ 0 _ _ _ _ rfl rfl rfl rfl rfl rfl) <| .nil, .cons _ (.refl _), ?_⟩
      simp only [resOf, nameF]
      (first | rw [if_neg (Bool.eq_false_iff.mp hc1)] | skip); (first | rw [if_pos hc2] | skip)
      first | done | rfl
    · skip
      refine AW.skip ?_
      refine thenN ?_
      refine AW.seq ?_
      refine AW.region ?_
      refine AOL.p (P_move (v := .str _) rfl) rfl ?_
      refine AOL.p (P_move (v := .int .i64 _) rfl) rfl ?_
      refine AOL.p (P_slice_str (l := 0) (h := spanS wordS s) tok rfl rfl rfl (rfl) (⟨_, rfl⟩) (Nat.zero_le _) (span_le _ _) (List.drop_zero)) rfl ?_
      refine AOL.p (P_build (l := [.int .i64 _, .str _, .int .i64 _]) tok rfl rfl rfl) rfl ?_
      refine AOL.p (P_move (v := .int .i64 _) rfl) rfl ?_
      refine AOL.p (P_build (l := [.int .i64 _, .str _, .int .i64 _, .int .i64 _, .int .i64 _, .int .i64 _]) tok rfl rfl rfl) rfl ?_
      refine AOL.e (E_store (k := 0) (v := .agg _) (cs' := [.int .i64 _, .str _, .int .i64 _, .int .i64 _, .int .i64 _, .int .i64 _]) (H2 := _ :: _) tok rfl rfl rfl rfl rfl rfl rfl rfl rfl) rfl ?_
      rintro _ _ ⟨rfl, rfl⟩
      refine AOL.nil ?_
      refine thenN ?_
      refine AW.ret ?_
      refine ⟨.inr rfl, [.agg [.int .i64 _, .str _, .int .i64 _, .int .i64 _, .int .i64 _, .int .i64 _]], .cons (.box _ _ _ 0 _ _ _ _ rfl rfl rfl rfl rfl rfl) <| .nil, .cons _ (.refl _), ?_⟩
      simp only [resOf, nameF]
      (first | rw [if_neg (Bool.eq_false_iff.mp hc1)] | skip); (first | rw [if_neg (Bool.eq_false_iff.mp hc2)] | skip)
      first | done | rfl
set_option maxRecDepth 20000 in
set_option maxHeartbeats 400000 in
theorem c55 (s : Str) (hl : s.length ≤ 1048576) (h0 : 0 < s.length) : APure Tryd.prog 80 [.str s] (.agg (cFo (numberF s))) := by
  refine APure.body (n := 40) tok Tryd.func80 rfl rfl rfl fun H => ?_
  refine AW.seq ?_
  refine AW.region ?_
  refine AOL.e (E_alloc (l := [.int .i64 0, .str [], .int .i64 0, .int .i64 0, .int .i64 0, .int .i64 0]) (by kernel_rfl)) rfl ?_
  rintro _ _ ⟨b2, rfl, rfl⟩
  refine AOL.nil ?_
  refine thenN ?_
  refine AW.seq ?_
  refine AW.region ?_
  refine AOL.p (P_move (v := .str _) rfl) rfl ?_
  refine AOL.p (P_callf (by kernel_rfl) rfl rfl (c38 s hl 90 digitS (by kernel_rfl) c39)) rfl ?_
  refine AOL.p (P_assign (v := .int .i64 _) rfl) rfl ?_
  refine AOL.nil ?_
  refine thenN ?_
  refine AW.seq ?_
  refine AW.seq ?_
  refine AW.region ?_
  refine AOL.p (P_move (v := .int .i64 _) rfl) rfl ?_
  refine AOL.p (P_eql rfl rfl) rfl ?_
  refine AOL.nil ?_
  refine thenN ?_
  refine AW.cond (b := _) rfl (fun hc1 => ?_) (fun hc1 => ?_)
  · skip
    refine AW.seq ?_
    refine AW.region ?_
    refine AOL.p (P_build (l := [.int .i64 _, .str _, .int .i64 _, .int .i64 _, .int .i64 _, .int .i64 _]) tok rfl rfl rfl) rfl ?_
    refine AOL.e (E_store (k := 0) (v := .agg _) (cs' := [.int .i64 _, .str _, .int .i64 _, .int .i64 _, .int .i64 _, .int .i64 _]) (H2 := _ :: _) tok rfl rfl rfl rfl rfl rfl rfl rfl rfl) rfl ?_
    rintro _ _ ⟨rfl, rfl⟩
    refine AOL.nil ?_
    refine thenN ?_
    refine AW.ret ?_
    refine thenR ?_
    refine ⟨.inr rfl, [.agg [.int .i64 _, .str _, .int .i64 _, .int .i64 _, .int .i64 _, .int .i64 _]], .cons (.box _ _ _ 0 _ _ _ _ rfl rfl rfl rfl rfl rfl) <| .nil, .cons _ (.refl _), ?_⟩
    simp only [resOf, numberF]
    (first | rw [if_pos hc1] | skip)
    first | done | rfl
  · skip
    refine AW.skip ?_
    refine thenN ?_
    refine AW.seq ?_
    refine AW.seq ?_
    refine AW.region ?_
    refine AOL.p (P_move (v := .str _) rfl) rfl ?_
    refine AOL.p (P_move (v := .int .i64 _) rfl) rfl ?_
    refine AOL.p (P_slice_str (l := 0) (h := spanS digitS s) tok rfl rfl rfl (rfl) (⟨_, rfl⟩) (Nat.zero_le _) (span_le _ _) (List.drop_zero)) rfl ?_
    refine AOL.p (P_callf (by kernel_rfl) rfl rfl (c18 (s.take (spanS digitS s)) (by rw [List.length_take]; omega))) rfl ?_
    refine AOL.p (P_move (v := .tuple _) rfl) rfl ?_
    refine AOL.p (P_extract (v := .int .i64 _) rfl rfl) rfl ?_
    refine AOL.p (P_extract (v := .int .i64 _) rfl rfl) rfl ?_
    refine AOL.p (P_assign (v := .int .i64 _) rfl) rfl ?_
    refine AOL.p (P_assign (v := .int .i64 _) rfl) rfl ?_
    refine AOL.nil ?_
    refine thenN ?_
    refine AW.seq ?_
    refine AW.region ?_
    refine AOL.p (P_move (v := .int .i64 _) rfl) rfl ?_
    refine AOL.p (P_neq rfl rfl) rfl ?_
    refine AOL.nil ?_
    refine thenN ?_
    refine AW.cond (b := _) rfl (fun hc2 => ?_) (fun hc2 => ?_)
    · skip
      refine AW.seq ?_
      refine AW.region ?_
      refine AOL.p (P_move (v := .int .i64 _) rfl) rfl ?_
      refine AOL.p (P_build (l := [.int .i64 _, .str _, .int .i64 _, .int .i64 _, .int .i64 _, .int .i64 _]) tok rfl rfl rfl) rfl ?_
      refine AOL.e (E_store (k := 0) (v := .agg _) (cs' := [.int .i64 _, .str _, .int .i64 _, .int .i64 _, .int .i64 _, .int .i64 _]) (H2 := _ :: _) tok rfl rfl rfl rfl rfl rfl rfl rfl rfl) rfl ?_
      rintro _ _ ⟨rfl, rfl⟩
      refine AOL.nil ?_
      refine thenN ?_
      refine AW.ret ?_
      refine thenR ?_
      refine ⟨.inr rfl, [.agg [.int .i64 _, .str _, .int .i64 _, .int .i64 _, .int .i64 _, .int .i64 _]], .cons (.box _ _ _ 0 _ _ _ _ rfl rfl rfl rfl rfl rfl) <| .nil, .cons _ (.refl _), ?_⟩
      simp only [resOf, numberF]
      (first | rw [if_neg (Bool.eq_false_iff.mp hc1)] | skip); (first | rw [if_pos hc2] | skip)
      first | done | rfl
    · skip
      refine AW.skip ?_
      refine thenN ?_
      refine AW.seq ?_
      refine AW.seq ?_
      refine AW.region ?_
      refine AOL.p (P_move (v := .int .i64 _) rfl) rfl ?_
      refine AOL.p (P_move (v := .str _) rfl) rfl ?_
      refine AOL.p (P_len_str tok rfl rfl rfl rfl) rfl ?_
      refine AOL.p (P_lss rfl rfl) rfl ?_
      refine AOL.p (P_move (v := .bool _) rfl) rfl ?_
      refine AOL.g (y := .str _) _ [] rfl (EntL.all trivial) (fun hG => P_move (v := .str _) rfl) rfl ?_
      refine AOL.g (y := .int .i64 _) _ [] rfl (EntL.all trivial) (fun hG => P_move (v := .int .i64 _) rfl) rfl ?_
      refine AOL.g (y := .int .u8 _) _ [(27, _), (28, _)] rfl (EntL.all ⟨Ent.self _ _, Ent.self _ _, trivial⟩) (fun hG => P_index_str tok rfl rfl rfl rfl (by omega) (bt_get (i := spanS digitS s) (by have h9 := g1 hG; simp at h9; exact h9))) rfl ?_
      refine AOL.g (y := .bool _) _ [(29, _)] rfl (EntL.all ⟨Ent.self _ _, trivial⟩) (fun hG => P_callf (by kernel_rfl) rfl rfl (c43 _)) rfl ?_
      refine AOL.p (P_pick_and rfl rfl rfl) rfl ?_
      refine AOL.nil ?_
      refine thenN ?_
      refine AW.cond (b := _) rfl (fun hc3 => ?_) (fun hc3 => ?_)
      · skip
        refine AW.seq ?_
        refine AW.region ?_
        refine AOL.p (P_move (v := .int .i64 _) rfl) rfl ?_
        refine AOL.p (P_build (l := [.int .i64 _, .str _, .int .i64 _, .int .i64 _, .int .i64 _, .int .i64 _]) tok rfl rfl rfl) rfl ?_
        refine AOL.e (E_store (k := 0) (v := .agg _) (cs' := [.int .i64 _, .str _, .int .i64 _, .int .i64 _, .int .i64 _, .int .i64 _]) (H2 := _ :: _) tok rfl rfl rfl rfl rfl rfl rfl rfl rfl) rfl ?_
        rintro _ _ ⟨rfl, rfl⟩
        refine AOL.nil ?_
        refine thenN ?_
        refine AW.ret ?_
        refine thenR ?_
        refine ⟨.inr rfl, [.agg [.int .i64 _, .str _, .int .i64 _, .int .i64 _, .int .i64 _, .int .i64 _]], .cons (.box _ _ _ 0 _ _ _ _ rfl rfl rfl rfl rfl rfl) <| .nil, .cons _ (.refl _), ?_⟩
        simp only [resOf, numberF]
        (first | rw [if_neg (Bool.eq_false_iff.mp hc1)] | skip); (first | rw [if_neg (Bool.eq_false_iff.mp hc2)] | skip); (first | rw [if_pos hc3] | skip)
        first | done | rfl
      · skip
        refine AW.skip ?_
        refine thenN ?_
        refine AW.seq ?_
        refine AW.region ?_
        refine AOL.p (P_move (v := .str _) rfl) rfl ?_
        refine AOL.p (P_move (v := .int .i64 _) rfl) rfl ?_
        refine AOL.p (P_slice_str (l := 0) (h := spanS digitS s) tok rfl rfl rfl (rfl) (⟨_, rfl⟩) (Nat.zero_le _) (span_le _ _) (List.drop_zero)) rfl ?_
        refine AOL.p (P_build (l := [.int .i64 _, .str _, .int .i64 _]) tok rfl rfl rfl) rfl ?_
        refine AOL.p (P_move (v := .int .i64 _) rfl) rfl ?_
        refine AOL.p (P_build (l := [.int .i64 _, .str _, .int .i64 _, .int .i64 _, .int .i64 _, .int .i64 _]) tok rfl rfl rfl) rfl ?_
        refine AOL.e (E_store (k := 0) (v := .agg _) (cs' := [.int .i64 _, .str _, .int .i64 _, .int .i64 _, .int .i64 _, .int .i64 _]) (H2 := _ :: _) tok rfl rfl rfl rfl rfl rfl rfl rfl rfl) rfl ?_
        rintro _ _ ⟨rfl, rfl⟩
        refine AOL.nil ?_
        refine thenN ?_
        refine AW.ret ?_
        refine ⟨.inr rfl, [.agg [.int .i64 _, .str _, .int .i64 _, .int .i64 _, .int .i64 _, .int .i64 _]], .cons (.box _ _ _ 0 _ _ _ _ rfl rfl rfl rfl rfl rfl) <| .nil, .cons _ (.refl _), ?_⟩
        simp only [resOf, numberF]
        (first | rw [if_neg (Bool.eq_false_iff.mp hc1)] | skip); (first | rw [if_neg (Bool.eq_false_iff.mp hc2)] | skip); (first | rw [if_neg (Bool.eq_false_iff.mp hc3)] | skip)
        first | done | rfl
set_option maxRecDepth 20000 in
set_option maxHeartbeats 400000 in
theorem c57 (s : Str) : APure Tryd.prog 82 [.str s] (.agg (cFo (signF s))) := by
  refine APure.body (n := 19) tok Tryd.func82 rfl rfl rfl fun H => ?_
  refine AW.seq ?_
  refine AW.region ?_
  refine AOL.e (E_alloc (l := [.int .i64 0, .str [], .int .i64 0, .int .i64 0, .int .i64 0, .int .i64 0]) (by kernel_rfl)) rfl ?_
  rintro _ _ ⟨b2, rfl, rfl⟩
  refine AOL.nil ?_
  refine thenN ?_
  refine AW.seq ?_
  refine AW.seq ?_
  refine AW.region ?_
  refine AOL.p (P_load_glob (l := signCells) tok (⟨_, by simp [globals], fun _ h => h⟩) rfl rfl rfl rfl) rfl ?_
  refine AOL.p (P_move (v := .int .i64 _) rfl) rfl ?_
  refine AOL.nil ?_
  refine thenN ?_
  refine AW.block ?_
  refine AW.loopS (fun (k : Nat) => (⟨[(0, .str s), (2, .val (.pointer (some ⟨b2, 0, none⟩))), (5, .agg signCells), (6, .int .i64 (k : Int))], .box b2 87 [.int .i64 0, .str [], .int .i64 0, .int .i64 0, .int .i64 0, .int .i64 0] :: H, 19⟩ : St)) (fun (k : Nat) => k ≤ 17 ∧ signF s = signGo s (signL.drop k)) (fun (k : Nat) => 17 - k) (0) ?_ (GS.weaken ⟨rfl, rfl, rfl, rfl, trivial⟩ (.refl _)) ?_
  · exact ⟨Nat.zero_le _, rfl⟩
  · rintro k hR
    refine AW.seq ?_
    refine AW.region ?_
    refine AOL.p (P_lss rfl rfl) rfl ?_
    refine AOL.nil ?_
    refine thenN ?_
    refine AW.seq ?_
    refine AW.cond (b := _) rfl (fun hc1 => ?_) (fun hc1 => ?_)
    · skip
      have hk : k < 17 := by simp at hc1; omega
      refine AW.skip ?_
      refine thenN ?_
      refine AW.seq ?_
      refine AW.block ?_
      refine AW.seq ?_
      refine AW.region ?_
      refine AOL.p (P_index_agg (c := .str (signL.getD k [])) tok rfl rfl rfl rfl rfl rfl rfl (by omega) (by omega) (sign_get k hk)) rfl ?_
      refine AOL.p (P_assign (v := .str _) rfl) rfl ?_
      refine AOL.nil ?_
      refine thenN ?_
      refine AW.seq ?_
      refine AW.region ?_
      refine AOL.p (P_move (v := .str _) rfl) rfl ?_
      refine AOL.p (P_move (v := .str _) rfl) rfl ?_
      refine AOL.p (P_callf (by kernel_rfl) rfl rfl (k28 _ _)) rfl ?_
      refine AOL.nil ?_
      refine thenN ?_
      refine AW.cond (b := _) rfl (fun hc2 => ?_) (fun hc2 => ?_)
      · skip
        refine AW.seq ?_
        refine AW.region ?_
        refine AOL.p (P_move (v := .str _) rfl) rfl ?_
        refine AOL.p (P_build (l := [.int .i64 _, .str _, .int .i64 _]) tok rfl rfl rfl) rfl ?_
        refine AOL.p (P_move (v := .str _) rfl) rfl ?_
        refine AOL.p (P_len_str tok rfl rfl rfl rfl) rfl ?_
        refine AOL.p (P_build (l := [.int .i64 _, .str _, .int .i64 _, .int .i64 _, .int .i64 _, .int .i64 _]) tok rfl rfl rfl) rfl ?_
        refine AOL.e (E_store (k := 0) (v := .agg _) (cs' := [.int .i64 _, .str _, .int .i64 _, .int .i64 _, .int .i64 _, .int .i64 _]) (H2 := _ :: _) tok rfl rfl rfl rfl rfl rfl rfl rfl rfl) rfl ?_
        rintro _ _ ⟨rfl, rfl⟩
        refine AOL.nil ?_
        refine thenN ?_
        refine AW.ret ?_
        refine blkR ?_
        refine thenR ?_
        refine thenR ?_
        refine blkR ?_
        refine thenR ?_
        refine ⟨.inr rfl, [.agg [.int .i64 _, .str _, .int .i64 _, .int .i64 _, .int .i64 _, .int .i64 _]], .cons (.box _ _ _ 0 _ _ _ _ rfl rfl rfl rfl rfl rfl) <| .nil, .cons _ (.refl _), ?_⟩
        have h9 := hR.2.trans (sign_stop hk hc2)
        rw [h9]; rfl
      · skip
        refine AW.skip ?_
        refine blkN ?_
        refine thenN ?_
        refine AW.region ?_
        refine AOL.p (P_add rfl rfl rfl (by constructor <;> omega)) rfl ?_
        refine AOL.p (P_move (v := .int .i64 _) rfl) rfl ?_
        refine AOL.nil ?_
        refine thenN ?_
        refine ⟨k + 1, ?_, ?_, GS.weaken ⟨rfl, rfl, rfl, rfl, trivial⟩ (.refl _)⟩
        · exact ⟨hk, hR.2.trans (sign_step hk hc2)⟩
        · omega
    · skip
      have hk : k = 17 := by simp at hc1; have := hR.1; omega
      refine AW.exit ?_
      refine thenE ?_
      refine thenE ?_
      refine blkHit ?_
      refine thenN ?_
      refine AW.seq ?_
      refine AW.region ?_
      refine AOL.p (P_build (l := [.int .i64 _, .str _, .int .i64 _, .int .i64 _, .int .i64 _, .int .i64 _]) tok rfl rfl rfl) rfl ?_
      refine AOL.e (E_store (k := 0) (v := .agg _) (cs' := [.int .i64 _, .str _, .int .i64 _, .int .i64 _, .int .i64 _, .int .i64 _]) (H2 := _ :: _) tok rfl rfl rfl rfl rfl rfl rfl rfl rfl) rfl ?_
      rintro _ _ ⟨rfl, rfl⟩
      refine AOL.nil ?_
      refine thenN ?_
      refine AW.ret ?_
      refine ⟨.inr rfl, [.agg [.int .i64 _, .str _, .int .i64 _, .int .i64 _, .int .i64 _, .int .i64 _]], .cons (.box _ _ _ 0 _ _ _ _ rfl rfl rfl rfl rfl rfl) <| .nil, .cons _ (.refl _), ?_⟩
      have h9 : signF s = foE 0 4 := by rw [hR.2, hk]; rfl
      rw [h9]; rfl
set_option maxRecDepth 20000 in
set_option maxHeartbeats 400000 in
theorem c59 (s : Str) (hl : s.length ≤ 1048576) (k : Nat) (hk : k < s.length) : APure Tryd.prog 55 [.str s, .int .i64 (k : Int)] (.int .i64 (signR s k)) := by
  refine APure.body (n := 52) tok Tryd.func55 rfl rfl rfl fun H => ?_
  refine AW.seq ?_
  refine AW.region ?_
  refine AOL.p (P_assign (v := .int .i64 _) rfl) rfl ?_
  refine AOL.nil ?_
  refine thenN ?_
  refine AW.seq ?_
  refine AW.region ?_
  refine AOL.p (P_move (v := .str _) rfl) rfl ?_
  refine AOL.p (P_move (v := .int .i64 _) rfl) rfl ?_
  refine AOL.p (P_index_str tok rfl rfl rfl rfl (by omega) (bt_get (i := k) hk)) rfl ?_
  refine AOL.p (P_assign (v := .int .u8 _) rfl) rfl ?_
  refine AOL.nil ?_
  refine thenN ?_
  refine AW.seq ?_
  refine AW.seq ?_
  refine AW.region ?_
  refine AOL.p (P_move (v := .int .u8 _) rfl) rfl ?_
  refine AOL.p (P_eql rfl rfl) rfl ?_
  refine AOL.p (P_move (v := .bool _) rfl) rfl ?_
  refine AOL.g (y := .int .u8 _) _ [] rfl (EntL.all trivial) (fun hG => P_move (v := .int .u8 _) rfl) rfl ?_
  refine AOL.g (y := .bool _) _ [(12, _)] rfl (EntL.all ⟨Ent.self _ _, trivial⟩) (fun hG => P_eql rfl rfl) rfl ?_
  refine AOL.p (P_pick_or rfl rfl rfl) rfl ?_
  refine AOL.p (P_move (v := .bool _) rfl) rfl ?_
  refine AOL.g (y := .int .u8 _) _ [] rfl (EntL.all trivial) (fun hG => P_move (v := .int .u8 _) rfl) rfl ?_
  refine AOL.g (y := .bool _) _ [(16, _)] rfl (EntL.all ⟨Ent.self _ _, trivial⟩) (fun hG => P_eql rfl rfl) rfl ?_
  refine AOL.p (P_pick_or rfl rfl rfl) rfl ?_
  refine AOL.p (P_move (v := .bool _) rfl) rfl ?_
  refine AOL.g (y := .int .u8 _) _ [] rfl (EntL.all trivial) (fun hG => P_move (v := .int .u8 _) rfl) rfl ?_
  refine AOL.g (y := .bool _) _ [(20, _)] rfl (EntL.all ⟨Ent.self _ _, trivial⟩) (fun hG => P_eql rfl rfl) rfl ?_
  refine AOL.p (P_pick_or rfl rfl rfl) rfl ?_
  refine AOL.p (P_move (v := .bool _) rfl) rfl ?_
  refine AOL.g (y := .int .i64 _) _ [] rfl (EntL.all trivial) (fun hG => P_move (v := .int .i64 _) rfl) rfl ?_
  refine AOL.g (y := .int .i64 _) _ [(24, _)] rfl (EntL.all ⟨Ent.self _ _, trivial⟩) (fun hG => P_add rfl rfl rfl (by constructor <;> omega)) rfl ?_
  refine AOL.g (y := .str _) _ [] rfl (EntL.all trivial) (fun hG => P_move (v := .str _) rfl) rfl ?_
  refine AOL.g (y := .int .i64 _) _ [(26, _)] rfl (EntL.all ⟨Ent.self _ _, trivial⟩) (fun hG => P_len_str tok rfl rfl rfl rfl) rfl ?_
  refine AOL.g (y := .bool _) _ [(25, _), (27, _)] rfl (EntL.all ⟨Ent.self _ _, Ent.self _ _, trivial⟩) (fun hG => P_lss rfl rfl) rfl ?_
  refine AOL.p (P_pick_and rfl rfl rfl) rfl ?_
  refine AOL.p (P_move (v := .bool _) rfl) rfl ?_
  refine AOL.g (y := .str _) _ [] rfl (EntL.all trivial) (fun hG => P_move (v := .str _) rfl) rfl ?_
  refine AOL.g (y := .int .i64 _) _ [] rfl (EntL.all trivial) (fun hG => P_move (v := .int .i64 _) rfl) rfl ?_
  refine AOL.g (y := .int .i64 _) _ [(32, _)] rfl (EntL.all ⟨Ent.self _ _, trivial⟩) (fun hG => P_add rfl rfl rfl (by constructor <;> omega)) rfl ?_
  refine AOL.g (y := .int .u8 _) _ [(31, _), (33, _)] rfl (EntL.all ⟨Ent.self _ _, Ent.self _ _, trivial⟩) (fun hG => P_index_str tok rfl rfl rfl rfl (by omega) (bt_geti (i := k + 1) (by omega) (by have h9 := g1 hG; simp at h9; omega))) rfl ?_
  refine AOL.g (y := .bool _) _ [(34, _)] rfl (EntL.all ⟨Ent.self _ _, trivial⟩) (fun hG => P_eql rfl rfl) rfl ?_
  refine AOL.p (P_pick_and rfl rfl rfl) rfl ?_
  refine AOL.nil ?_
  refine thenN ?_
  refine AW.cond (b := _) rfl (fun hc1 => ?_) (fun hc1 => ?_)
  · skip
    refine AW.seq ?_
    refine AW.region ?_
    refine AOL.p (P_assign (v := .int .i64 _) rfl) rfl ?_
    refine AOL.nil ?_
    refine thenN ?_
    refine AW.ret ?_
    refine thenR ?_
    refine ⟨.inr rfl, [.int .i64 _], .cons (.tmp _ _ rfl) <| .nil, .refl _, ?_⟩
    simp only [resOf, signR]
    rw [if_pos hc1]
  · skip
    refine AW.skip ?_
    refine thenN ?_
    refine AW.seq ?_
    refine AW.seq ?_
    refine AW.region ?_
    refine AOL.p (P_move (v := .int .u8 _) rfl) rfl ?_
    refine AOL.nil ?_
    refine thenN ?_
    refine AW.block ?_
    refine AW.cut (fun (x : Bool) => (⟨[(38, .bool x)], H, 52⟩ : St)) (fun (x : Bool) => x = sign1 (bt s k)) ?_ ?_
    · skip
      refine AW.seq ?_
      refine AW.region ?_
      refine AOL.p (P_eql rfl rfl) rfl ?_
      refine AOL.p (P_assign (v := .bool _) rfl) rfl ?_
      refine AOL.nil ?_
      refine thenN ?_
      refine AW.cond (b := _) rfl (fun hc2 => ?_) (fun hc2 => ?_)
      · skip
        refine AW.skip ?_
        refine thenN ?_
        refine ⟨_, ?_, GS.weaken ⟨rfl, trivial⟩ (.refl _)⟩
        simp [sign1, *]
      · skip
        refine AW.seq ?_
        refine AW.region ?_
        refine AOL.p (P_eql rfl rfl) rfl ?_
        refine AOL.p (P_assign (v := .bool _) rfl) rfl ?_
        refine AOL.nil ?_
        refine thenN ?_
        refine AW.cond (b := _) rfl (fun hc3 => ?_) (fun hc3 => ?_)
        · skip
          refine AW.skip ?_
          refine thenN ?_
          refine ⟨_, ?_, GS.weaken ⟨rfl, trivial⟩ (.refl _)⟩
          simp [sign1, *]
        · skip
          refine AW.seq ?_
          refine AW.region ?_
          refine AOL.p (P_eql rfl rfl) rfl ?_
          refine AOL.p (P_assign (v := .bool _) rfl) rfl ?_
          refine AOL.nil ?_
          refine thenN ?_
          refine AW.cond (b := _) rfl (fun hc4 => ?_) (fun hc4 => ?_)
          · skip
            refine AW.skip ?_
            refine thenN ?_
            refine ⟨_, ?_, GS.weaken ⟨rfl, trivial⟩ (.refl _)⟩
            simp [sign1, *]
          · skip
            refine AW.seq ?_
            refine AW.region ?_
            refine AOL.p (P_eql rfl rfl) rfl ?_
            refine AOL.p (P_assign (v := .bool _) rfl) rfl ?_
            refine AOL.nil ?_
            refine thenN ?_
            refine AW.cond (b := _) rfl (fun hc5 => ?_) (fun hc5 => ?_)
            · skip
              refine AW.skip ?_
              refine thenN ?_
              refine ⟨_, ?_, GS.weaken ⟨rfl, trivial⟩ (.refl _)⟩
              simp [sign1, *]
            · skip
              refine AW.seq ?_
              refine AW.region ?_
              refine AOL.p (P_eql rfl rfl) rfl ?_
              refine AOL.p (P_assign (v := .bool _) rfl) rfl ?_
              refine AOL.nil ?_
              refine thenN ?_
              refine AW.cond (b := _) rfl (fun hc6 => ?_) (fun hc6 => ?_)
              · skip
                refine AW.skip ?_
                refine thenN ?_
                refine ⟨_, ?_, GS.weaken ⟨rfl, trivial⟩ (.refl _)⟩
                simp [sign1, *]
              · skip
                refine AW.seq ?_
                refine AW.region ?_
                refine AOL.p (P_eql rfl rfl) rfl ?_
                refine AOL.p (P_assign (v := .bool _) rfl) rfl ?_
                refine AOL.nil ?_
                refine thenN ?_
                refine AW.cond (b := _) rfl (fun hc7 => ?_) (fun hc7 => ?_)
                · skip
                  refine AW.skip ?_
                  refine thenN ?_
                  refine ⟨_, ?_, GS.weaken ⟨rfl, trivial⟩ (.refl _)⟩
                  simp [sign1, *]
                · skip
                  refine AW.seq ?_
                  refine AW.region ?_
                  refine AOL.p (P_eql rfl rfl) rfl ?_
                  refine AOL.p (P_assign (v := .bool _) rfl) rfl ?_
                  refine AOL.nil ?_
                  refine thenN ?_
                  refine AW.cond (b := _) rfl (fun hc8 => ?_) (fun hc8 => ?_)
                  · skip
                    refine AW.skip ?_
                    refine thenN ?_
                    refine ⟨_, ?_, GS.weaken ⟨rfl, trivial⟩ (.refl _)⟩
                    simp [sign1, *]
                  · skip
                    refine AW.seq ?_
                    refine AW.region ?_
                    refine AOL.p (P_eql rfl rfl) rfl ?_
                    refine AOL.p (P_assign (v := .bool _) rfl) rfl ?_
                    refine AOL.nil ?_
                    refine thenN ?_
                    refine AW.cond (b := _) rfl (fun hc9 => ?_) (fun hc9 => ?_)
                    · skip
                      refine AW.skip ?_
                      refine thenN ?_
                      refine ⟨_, ?_, GS.weaken ⟨rfl, trivial⟩ (.refl _)⟩
                      simp [sign1, *]
                    · skip
                      refine AW.seq ?_
                      refine AW.region ?_
                      refine AOL.p (P_eql rfl rfl) rfl ?_
                      refine AOL.p (P_assign (v := .bool _) rfl) rfl ?_
                      refine AOL.nil ?_
                      refine thenN ?_
                      refine AW.cond (b := _) rfl (fun hc10 => ?_) (fun hc10 => ?_)
                      · skip
                        refine AW.skip ?_
                        refine thenN ?_
                        refine ⟨_, ?_, GS.weaken ⟨rfl, trivial⟩ (.refl _)⟩
                        simp [sign1, *]
                      · skip
                        refine AW.seq ?_
                        refine AW.region ?_
                        refine AOL.p (P_eql rfl rfl) rfl ?_
                        refine AOL.p (P_assign (v := .bool _) rfl) rfl ?_
                        refine AOL.nil ?_
                        refine thenN ?_
                        refine AW.cond (b := _) rfl (fun hc11 => ?_) (fun hc11 => ?_)
                        · skip
                          refine AW.skip ?_
                          refine thenN ?_
                          refine ⟨_, ?_, GS.weaken ⟨rfl, trivial⟩ (.refl _)⟩
                          simp [sign1, *]
                        · skip
                          refine AW.seq ?_
                          refine AW.region ?_
                          refine AOL.p (P_eql rfl rfl) rfl ?_
                          refine AOL.p (P_assign (v := .bool _) rfl) rfl ?_
                          refine AOL.nil ?_
                          refine thenN ?_
                          refine AW.cond (b := _) rfl (fun hc12 => ?_) (fun hc12 => ?_)
                          · skip
                            refine AW.skip ?_
                            refine thenN ?_
                            refine ⟨_, ?_, GS.weaken ⟨rfl, trivial⟩ (.refl _)⟩
                            simp [sign1, *]
                          · skip
                            refine AW.seq ?_
                            refine AW.region ?_
                            refine AOL.p (P_eql rfl rfl) rfl ?_
                            refine AOL.p (P_assign (v := .bool _) rfl) rfl ?_
                            refine AOL.nil ?_
                            refine thenN ?_
                            refine AW.cond (b := _) rfl (fun hc13 => ?_) (fun hc13 => ?_)
                            · skip
                              refine AW.skip ?_
                              refine thenN ?_
                              refine ⟨_, ?_, GS.weaken ⟨rfl, trivial⟩ (.refl _)⟩
                              simp [sign1, *]
                            · skip
                              refine AW.region ?_
                              refine AOL.p (P_eql rfl rfl) rfl ?_
                              refine AOL.p (P_assign (v := .bool _) rfl) rfl ?_
                              refine AOL.nil ?_
                              refine thenN ?_
                              refine ⟨_, ?_, GS.weaken ⟨rfl, trivial⟩ (.refl _)⟩
                              simp [sign1, *]
    · rintro x hA
      refine AW.cond (b := _) rfl (fun hc14 => ?_) (fun hc14 => ?_)
      · skip
        refine AW.seq ?_
        refine AW.region ?_
        refine AOL.p (P_assign (v := .int .i64 _) rfl) rfl ?_
        refine AOL.nil ?_
        refine thenN ?_
        refine AW.ret ?_
        refine blkR ?_
        refine thenR ?_
        refine ⟨.inr rfl, [.int .i64 _], .cons (.tmp _ _ rfl) <| .nil, .refl _, ?_⟩
        subst hA
        simp only [resOf, signR]
        rw [if_neg (Bool.eq_false_iff.mp hc1), if_pos (by assumption)]
      · skip
        refine AW.skip ?_
        refine blkN ?_
        refine thenN ?_
        refine AW.seq ?_
        refine AW.region ?_
        refine AOL.p (P_assign (v := .int .i64 _) rfl) rfl ?_
        refine AOL.nil ?_
        refine thenN ?_
        refine AW.ret ?_
        refine ⟨.inr rfl, [.int .i64 _], .cons (.tmp _ _ rfl) <| .nil, .refl _, ?_⟩
        subst hA
        simp only [resOf, signR]
        rw [if_neg (Bool.eq_false_iff.mp hc1), if_neg (Bool.eq_false_iff.mp (by assumption))]

end Go.Proofs.YtpgmglacdcfnaaaDoor
