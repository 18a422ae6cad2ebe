/-
  Walks: quotation of the reference, names, numbers, signs. No condition.
-/
import Derived.Test.YtabkeeedkhgodaaGreatDoorW4
import Derived.KernelRfl
namespace Go.Proofs.YtabkeeedkhgodaaGreatDoor
open Go Go.Aw
set_option linter.unusedVariables false
set_option linter.unusedSimpArgs false

theorem sign_get (k : Nat) (h : k < 17) : signCells[k]? = some (.str (signL.getD k [])) := by
  have e : signCells = signL.map AV.str := rfl
  rw [e, List.getElem?_map]
  have h' : k < signL.length := h
  simp [List.getD_eq_getElem?_getD, List.getElem?_eq_getElem h']
theorem sign_step {s : Str} {k : Nat} (h : k < 17) (hc : Lib.hasPrefix s (signL.getD k []) = false) : signGo s (signL.drop k) = signGo s (signL.drop (k + 1)) := by
  have h' : k < signL.length := h
  rw [List.drop_eq_getElem_cons h']
  have e : signL.getD k [] = signL[k] := by simp [List.getD_eq_getElem?_getD, List.getElem?_eq_getElem h']
  rw [e] at hc
  rw [signGo, if_neg (Bool.eq_false_iff.mp hc)]
theorem sign_stop {s : Str} {k : Nat} (h : k < 17) (hc : Lib.hasPrefix s (signL.getD k []) = true) : signGo s (signL.drop k) = foT 3 (signL.getD k []) (signL.getD k []).length := by
  have h' : k < signL.length := h
  rw [List.drop_eq_getElem_cons h']
  have e : signL.getD k [] = signL[k] := by simp [List.getD_eq_getElem?_getD, List.getElem?_eq_getElem h']
  rw [e] at hc ⊢
  rw [signGo, if_pos hc]

set_option maxRecDepth 20000 in
set_option maxHeartbeats 400000 in
theorem c25 (s : Str) (hl : s.length ≤ 1048576) : APure Tryz.prog 129 [.str s] (.tuple [.str (quoteR s).1, .int .i64 (quoteR s).2]) := by
 refine APure.body (n := 49) tok Tryz.func129 rfl rfl rfl fun H => ?_
 refine AW.seq (AW.region ?_)
 refine AOL.p (P_assign (v := .str _) rfl) rfl ?_
 refine AOL.p (P_assign (v := .int .i64 _) rfl) rfl ?_
 refine AOL.nil (thenN ?_)
 refine AW.seq ?_
 refine AW.seq (AW.region ?_)
 refine AOL.p (P_move (v := .str _) rfl) rfl ?_
 refine AOL.p (P_len_str tok rfl rfl rfl rfl) rfl ?_
 refine AOL.p (P_gtr rfl rfl) rfl ?_
 refine AOL.nil (thenN ?_)
 refine AW.cond (b := _) rfl (fun hc1 => ?_) (fun hc1 => ?_)
 ·
  refine AW.seq (AW.region ?_)
  refine AOL.p (P_assign (v := .str _) rfl) rfl ?_
  refine AOL.p (P_assign (v := .int .i64 _) rfl) rfl ?_
  refine AOL.nil (thenN ?_)
  refine AW.ret ?_
  refine thenR ?_
  refine ⟨.inr rfl, [.str _, .int .i64 _], .cons (.tmp _ _ rfl) <| .cons (.tmp _ _ rfl) <| .nil, .refl _, ?_⟩
  simp only [resOf, quoteR]
  (first | rw [if_pos hc1] | skip)
  first | done | rfl
 ·
  refine AW.skip ?_
  refine thenN ?_
  refine AW.seq (AW.region ?_)
  refine AOL.e (E_buildSlice (es := [[.int .u8 _]]) tok rfl rfl rfl rfl rfl rfl rfl rfl rfl) rfl ?_
  rintro _ _ ⟨v10, rfl, rfl⟩
  refine AOL.p (P_assign (v := .row _ _ _) rfl) rfl ?_
  refine AOL.nil (thenN ?_)
  refine AW.seq ?_
  refine AW.seq (AW.region ?_)
  refine AOL.p (P_assign (v := .int .i64 _) rfl) rfl ?_
  refine AOL.nil (thenN ?_)
  refine AW.block ?_
  refine AW.loopS (fun (p : Nat × List (List AV) × Value) => (⟨[(0, .str s), (4, .row p.2.2 1 p.2.1), (5, .int .i64 (p.1 : Int))], .row p.2.2 p.2.1.length 5 1 :: H, 49⟩ : St)) (fun (p : Nat × List (List AV) × Value) => p.1 ≤ s.length ∧ p.2.1 = bcells ([34] ++ quoteGoR (s.take p.1))) (fun (p : Nat × List (List AV) × Value) => s.length - p.1) ((0, _, v10)) ?_ (GS.weaken ⟨rfl, rfl, rfl, trivial⟩ (.refl _)) ?_
  · exact ⟨Nat.zero_le _, rfl⟩
  ·
   rintro p hR
   have hroom := quote_roomR (by simp at hc1; omega) hR.2
   have hsc : ∀ c ∈ p.2.1, scalars c = true := by rw [hR.2]; exact sc_bytes _
   refine AW.seq ?_
   refine AW.seq (AW.region ?_)
   refine AOL.p (P_move (v := .int .i64 _) rfl) rfl ?_
   refine AOL.p (P_move (v := .str _) rfl) rfl ?_
   refine AOL.p (P_len_str tok rfl rfl rfl rfl) rfl ?_
   refine AOL.p (P_lss rfl rfl) rfl ?_
   refine AOL.nil (thenN ?_)
   refine AW.cond (b := _) rfl (fun hc2 => ?_) (fun hc2 => ?_)
   ·
    have hk : p.1 < s.length := by simp at hc2; omega
    refine AW.skip ?_
    refine thenN ?_
    refine AW.seq ?_
    refine AW.block ?_
    refine AW.seq (AW.region ?_)
    refine AOL.p (P_move (v := .str _) rfl) rfl ?_
    refine AOL.p (P_move (v := .int .i64 _) rfl) rfl ?_
    refine AOL.p (P_index_str tok rfl rfl rfl rfl (by omega) (bt_get (i := p.1) hk)) rfl ?_
    refine AOL.p (P_assign (v := .int .u8 _) rfl) rfl ?_
    refine AOL.nil (thenN ?_)
    refine AW.seq (AW.region ?_)
    refine AOL.p (P_move (v := .int .u8 _) rfl) rfl ?_
    refine AOL.p (P_callf (by kernel_rfl) rfl rfl (c46 _)) rfl ?_
    refine AOL.nil (thenN ?_)
    refine AW.cond (b := _) rfl (fun hc3 => ?_) (fun hc3 => ?_)
    ·
     refine AW.region ?_
     refine AOL.p (P_move (v := .row _ _ _) rfl) rfl ?_
     refine AOL.p (P_move (v := .int .u8 _) rfl) rfl ?_
     refine AOL.p (P_buildSlice (es := [[.int .u8 _]]) tok rfl rfl rfl rfl rfl rfl rfl rfl rfl) rfl ?_
     refine AOL.e (E_append (k := 0) tok rfl rfl rfl rfl rfl rfl rfl rfl (sc_one rfl) (hsc) (by simp; omega) (by simp [maxLen]; omega)) rfl ?_
     rintro _ _ ⟨v25, rfl, rfl⟩
     refine AOL.p (P_assign (v := .row _ _ _) rfl) rfl ?_
     refine AOL.nil ?_
     refine blkN ?_
     refine thenN ?_
     refine AW.region ?_
     refine AOL.p (P_move (v := .int .i64 _) rfl) rfl ?_
     refine AOL.p (P_add rfl rfl rfl (by constructor <;> omega)) rfl ?_
     refine AOL.p (P_assign (v := .int .i64 _) rfl) rfl ?_
     refine AOL.nil (thenN ?_)
     refine ⟨(p.1 + 1, p.2.1 ++ bcells [bt s p.1], v25), ?_, ?_, GS.weaken ⟨rfl, rfl, rfl, trivial⟩ (.refl _)⟩
     · exact ⟨hk, quote_stepR hk hR.2 (by unfold quoteBR; rw [if_pos hc3])⟩
     · simp only; omega
    ·
     refine AW.seq (AW.region ?_)
     refine AOL.p (P_move (v := .int .u8 _) rfl) rfl ?_
     refine AOL.p (P_eql rfl rfl) rfl ?_
     refine AOL.p (P_move (v := .bool _) rfl) rfl ?_
     refine AOL.g (y := .int .u8 _) _ [] rfl (EntL.all trivial) (fun hG => P_move (v := .int .u8 _) rfl) rfl ?_
     refine AOL.g (y := .bool _) _ [(29, _)] rfl (EntL.all ⟨Ent.self _ _, trivial⟩) (fun hG => P_eql rfl rfl) rfl ?_
     refine AOL.p (P_pick_or rfl rfl rfl) rfl ?_
     refine AOL.nil (thenN ?_)
     refine AW.cond (b := _) rfl (fun hc4 => ?_) (fun hc4 => ?_)
     ·
      refine AW.region ?_
      refine AOL.p (P_move (v := .row _ _ _) rfl) rfl ?_
      refine AOL.p (P_move (v := .int .u8 _) rfl) rfl ?_
      refine AOL.p (P_buildSlice (es := [[.int .u8 _], [.int .u8 _]]) tok rfl rfl rfl rfl rfl rfl rfl rfl rfl) rfl ?_
      refine AOL.e (E_append (k := 0) tok rfl rfl rfl rfl rfl rfl rfl rfl (sc_two _ _) (hsc) (by simp; omega) (by simp [maxLen]; omega)) rfl ?_
      rintro _ _ ⟨v35, rfl, rfl⟩
      refine AOL.p (P_assign (v := .row _ _ _) rfl) rfl ?_
      refine AOL.nil ?_
      refine blkN ?_
      refine thenN ?_
      refine AW.region ?_
      refine AOL.p (P_move (v := .int .i64 _) rfl) rfl ?_
      refine AOL.p (P_add rfl rfl rfl (by constructor <;> omega)) rfl ?_
      refine AOL.p (P_assign (v := .int .i64 _) rfl) rfl ?_
      refine AOL.nil (thenN ?_)
      refine ⟨(p.1 + 1, p.2.1 ++ bcells [92, bt s p.1], v35), ?_, ?_, GS.weaken ⟨rfl, rfl, rfl, trivial⟩ (.refl _)⟩
      · exact ⟨hk, quote_stepR hk hR.2 (by unfold quoteBR; rw [if_neg (Bool.eq_false_iff.mp hc3), if_pos hc4])⟩
      · simp only; omega
     ·
      refine AW.draw mixed (fun _ => True) trivial (by kernel_rfl) ?_
      refine Canon.pure _ _ 0 _ _ rfl (by kernel_rfl) (by kernel_rfl) rfl (.run rfl (P_move (v := .row _ _ _) rfl)) ?_
      refine Canon.pure _ _ 1 _ _ rfl (by kernel_rfl) (by kernel_rfl) rfl (.run rfl (P_move (v := .int .u8 _) rfl)) ?_
      refine Canon.pure _ _ 2 _ _ rfl (by kernel_rfl) (by kernel_rfl) rfl (.run rfl (P_quow rfl rfl (by omega))) ?_
      refine Canon.pure _ _ 3 _ _ rfl (by kernel_rfl) (by kernel_rfl) rfl (.run rfl (P_index_str tok rfl rfl rfl rfl ((hex_hi _).1) ((hex_hi _).2))) ?_
      refine Canon.pure _ _ 4 _ _ rfl (by kernel_rfl) (by kernel_rfl) rfl (.run rfl (P_move (v := .int .u8 _) rfl)) ?_
      refine Canon.pure _ _ 5 _ _ rfl (by kernel_rfl) (by kernel_rfl) rfl (.run rfl (P_rem rfl rfl (by omega))) ?_
      refine Canon.pure _ _ 6 _ _ rfl (by kernel_rfl) (by kernel_rfl) rfl (.run rfl (P_index_str tok rfl rfl rfl rfl ((hex_lo _).1) ((hex_lo _).2))) ?_
      refine Canon.pure _ _ 7 _ _ rfl (by kernel_rfl) (by kernel_rfl) rfl (.run rfl (P_buildSlice (es := [[.int .u8 _], [.int .u8 _], [.int .u8 _], [.int .u8 _]]) tok rfl rfl rfl rfl rfl rfl rfl rfl rfl)) ?_
      refine Canon.eff _ _ 8 _ _ rfl (by kernel_rfl) rfl rfl (E_append (k := 0) tok rfl rfl rfl rfl rfl rfl rfl rfl (sc_four _ _ _ _) (hsc) (by simp; omega) (by simp [maxLen]; omega)) (fun _ _ _ => trivial) ?_
      rintro _ _ ⟨v44, rfl, rfl⟩
      refine Canon.pure _ _ 9 _ _ rfl (by kernel_rfl) (by kernel_rfl) rfl (.run rfl (P_assign (v := .row _ _ _) rfl)) ?_
      refine Canon.done _ _ (by kernel_rfl) ?_
      refine blkN ?_
      refine thenN ?_
      refine AW.region ?_
      refine AOL.p (P_move (v := .int .i64 _) rfl) rfl ?_
      refine AOL.p (P_add rfl rfl rfl (by constructor <;> omega)) rfl ?_
      refine AOL.p (P_assign (v := .int .i64 _) rfl) rfl ?_
      refine AOL.nil (thenN ?_)
      refine ⟨(p.1 + 1, p.2.1 ++ bcells [92, 120, bt hexD ((bt s p.1).toNat / 16), bt hexD ((bt s p.1).toNat % 16)], v44), ?_, ?_, GS.weaken ⟨rfl, rfl, rfl, trivial⟩ (.refl _)⟩
      · exact ⟨hk, quote_stepR hk hR.2 (by unfold quoteBR; rw [if_neg (Bool.eq_false_iff.mp hc3), if_neg (Bool.eq_false_iff.mp hc4)])⟩
      · simp only; omega
   ·
    have hk : p.1 = s.length := by simp at hc2; have := hR.1; omega
    have hfin : p.2.1 ++ [[.int .u8 34]] = bcells ([34] ++ quoteGoR s ++ [34]) := by rw [hR.2, hk, List.take_length, bcells_append ([34] ++ quoteGoR s) [34]]; rfl
    have hfl : ([34] ++ quoteGoR s ++ [34]).length ≤ maxLen := by have h1 := quoteGoR_len s; simp at hc1; simp [maxLen]; omega
    refine AW.exit ?_
    refine thenE ?_
    refine thenE ?_
    refine blkHit ?_
    refine thenN ?_
    refine AW.seq (AW.region ?_)
    refine AOL.p (P_move (v := .row _ _ _) rfl) rfl ?_
    refine AOL.p (P_buildSlice (es := [[.int .u8 _]]) tok rfl rfl rfl rfl rfl rfl rfl rfl rfl) rfl ?_
    refine AOL.e (E_append (k := 0) tok rfl rfl rfl rfl rfl rfl rfl rfl (sc_one rfl) (hsc) (by simp; omega) (by simp [maxLen]; omega)) rfl ?_
    rintro _ _ ⟨v47, rfl, rfl⟩
    refine AOL.p (P_bytesStr (s := [34] ++ quoteGoR s ++ [34]) tok rfl rfl rfl rfl rfl rfl rfl (hfl) (as_row hfin)) rfl ?_
    refine AOL.p (P_assign (v := .str _) rfl) rfl ?_
    refine AOL.p (P_assign (v := .int .i64 _) rfl) rfl ?_
    refine AOL.nil (thenN ?_)
    refine AW.ret ?_
    refine ⟨.inr rfl, [.str _, .int .i64 _], .cons (.tmp _ _ rfl) <| .cons (.tmp _ _ rfl) <| .nil, .cons _ (.refl _), ?_⟩
    simp only [resOf, quoteR]
    (first | rw [if_neg (Bool.eq_false_iff.mp hc1)] | skip); (first | rw [if_neg (Bool.eq_false_iff.mp hc2)] | skip)
    first | done | rfl
set_option maxRecDepth 20000 in
set_option maxHeartbeats 400000 in
theorem c54 (s : Str) (hl : s.length ≤ 1048576) (h0 : 0 < s.length) : APure Tryz.prog 133 [.str s] (.agg (cFo (nameF s))) := by
 refine APure.body (n := 20) tok Tryz.func133 rfl rfl rfl fun H => ?_
 refine AW.seq (AW.region ?_)
 refine AOL.e (E_alloc (l := [.int .i64 0, .str [], .int .i64 0, .int .i64 0, .int .i64 0, .int .i64 0]) (by kernel_rfl)) rfl ?_
 rintro _ _ ⟨b2, rfl, rfl⟩
 refine AOL.nil (thenN ?_)
 refine AW.seq ?_
 refine AW.seq (AW.region ?_)
 refine AOL.p (P_move (v := .str _) rfl) rfl ?_
 refine AOL.p (P_index_str tok rfl rfl rfl rfl (by omega) (bt_get (i := 0) h0)) rfl ?_
 refine AOL.p (P_callf (by kernel_rfl) rfl rfl (c43 _)) rfl ?_
 refine AOL.p (P_not rfl) rfl ?_
 refine AOL.nil (thenN ?_)
 refine AW.cond (b := _) rfl (fun hc1 => ?_) (fun hc1 => ?_)
 ·
  refine AW.seq (AW.region ?_)
  refine AOL.p (P_build (l := [.int .i64 _, .str _, .int .i64 _, .int .i64 _, .int .i64 _, .int .i64 _]) tok rfl rfl rfl) rfl ?_
  refine AOL.e (E_store (k := 0) (v := .agg _) (cs' := [.int .i64 _, .str _, .int .i64 _, .int .i64 _, .int .i64 _, .int .i64 _]) (H2 := _ :: _) tok rfl rfl rfl rfl rfl rfl rfl rfl rfl) rfl ?_
  rintro _ _ ⟨rfl, rfl⟩
  refine AOL.nil (thenN ?_)
  refine AW.ret ?_
  refine thenR ?_
  refine ⟨.inr rfl, [.agg [.int .i64 _, .str _, .int .i64 _, .int .i64 _, .int .i64 _, .int .i64 _]], .cons (.box _ _ _ 0 _ _ _ _ rfl rfl rfl rfl rfl rfl) <| .nil, .cons _ (.refl _), ?_⟩
  simp only [resOf, nameF]
  (first | rw [if_pos hc1] | skip)
  first | done | rfl
 ·
  refine AW.skip ?_
  refine thenN ?_
  refine AW.seq (AW.region ?_)
  refine AOL.p (P_move (v := .str _) rfl) rfl ?_
  refine AOL.p (P_callf (by kernel_rfl) rfl rfl (c38 s hl 155 wordS (by kernel_rfl) c69)) rfl ?_
  refine AOL.p (P_assign (v := .int .i64 _) rfl) rfl ?_
  refine AOL.nil (thenN ?_)
  refine AW.seq ?_
  refine AW.seq (AW.region ?_)
  refine AOL.p (P_move (v := .int .i64 _) rfl) rfl ?_
  refine AOL.p (P_gtr rfl rfl) rfl ?_
  refine AOL.nil (thenN ?_)
  refine AW.cond (b := _) rfl (fun hc2 => ?_) (fun hc2 => ?_)
  ·
   refine AW.seq (AW.region ?_)
   refine AOL.p (P_build (l := [.int .i64 _, .str _, .int .i64 _, .int .i64 _, .int .i64 _, .int .i64 _]) tok rfl rfl rfl) rfl ?_
   refine AOL.e (E_store (k := 0) (v := .agg _) (cs' := [.int .i64 _, .str _, .int .i64 _, .int .i64 _, .int .i64 _, .int .i64 _]) (H2 := _ :: _) tok rfl rfl rfl rfl rfl rfl rfl rfl rfl) rfl ?_
   rintro _ _ ⟨rfl, rfl⟩
   refine AOL.nil (thenN ?_)
   refine AW.ret ?_
   refine thenR ?_
   refine ⟨.inr rfl, [.agg [.int .i64 _, .str _, .int .i64 _, .int .i64 _, .int .i64 _, .int .i64 _]], .cons (.box _ _ _ 0 _ _ _ _ rfl rfl rfl rfl rfl rfl) <| .nil, .cons _ (.refl _), ?_⟩
   simp only [resOf, nameF]
   (first | rw [if_neg (Bool.eq_false_iff.mp hc1)] | skip); (first | rw [if_pos hc2] | skip)
   first | done | rfl
  ·
   refine AW.skip ?_
   refine thenN ?_
   refine AW.seq (AW.region ?_)
   refine AOL.p (P_move (v := .str _) rfl) rfl ?_
   refine AOL.p (P_move (v := .int .i64 _) rfl) rfl ?_
   refine AOL.p (P_slice_str (l := 0) (h := spanS wordS s) tok rfl rfl rfl (rfl) (⟨_, rfl⟩) (Nat.zero_le _) (span_le _ _) (List.drop_zero)) rfl ?_
   refine AOL.p (P_build (l := [.int .i64 _, .str _, .int .i64 _]) tok rfl rfl rfl) rfl ?_
   refine AOL.p (P_move (v := .int .i64 _) rfl) rfl ?_
   refine AOL.p (P_build (l := [.int .i64 _, .str _, .int .i64 _, .int .i64 _, .int .i64 _, .int .i64 _]) tok rfl rfl rfl) rfl ?_
   refine AOL.e (E_store (k := 0) (v := .agg _) (cs' := [.int .i64 _, .str _, .int .i64 _, .int .i64 _, .int .i64 _, .int .i64 _]) (H2 := _ :: _) tok rfl rfl rfl rfl rfl rfl rfl rfl rfl) rfl ?_
   rintro _ _ ⟨rfl, rfl⟩
   refine AOL.nil (thenN ?_)
   refine AW.ret ?_
   refine ⟨.inr rfl, [.agg [.int .i64 _, .str _, .int .i64 _, .int .i64 _, .int .i64 _, .int .i64 _]], .cons (.box _ _ _ 0 _ _ _ _ rfl rfl rfl rfl rfl rfl) <| .nil, .cons _ (.refl _), ?_⟩
   simp only [resOf, nameF]
   (first | rw [if_neg (Bool.eq_false_iff.mp hc1)] | skip); (first | rw [if_neg (Bool.eq_false_iff.mp hc2)] | skip)
   first | done | rfl
set_option maxRecDepth 20000 in
set_option maxHeartbeats 400000 in
theorem c55 (s : Str) (hl : s.length ≤ 1048576) (h0 : 0 < s.length) : APure Tryz.prog 134 [.str s] (.agg (cFo (numberF s))) := by
 refine APure.body (n := 40) tok Tryz.func134 rfl rfl rfl fun H => ?_
 refine AW.seq (AW.region ?_)
 refine AOL.e (E_alloc (l := [.int .i64 0, .str [], .int .i64 0, .int .i64 0, .int .i64 0, .int .i64 0]) (by kernel_rfl)) rfl ?_
 rintro _ _ ⟨b2, rfl, rfl⟩
 refine AOL.nil (thenN ?_)
 refine AW.seq (AW.region ?_)
 refine AOL.p (P_move (v := .str _) rfl) rfl ?_
 refine AOL.p (P_callf (by kernel_rfl) rfl rfl (c38 s hl 146 digitS (by kernel_rfl) c39)) rfl ?_
 refine AOL.p (P_assign (v := .int .i64 _) rfl) rfl ?_
 refine AOL.nil (thenN ?_)
 refine AW.seq ?_
 refine AW.seq (AW.region ?_)
 refine AOL.p (P_move (v := .int .i64 _) rfl) rfl ?_
 refine AOL.p (P_eql rfl rfl) rfl ?_
 refine AOL.nil (thenN ?_)
 refine AW.cond (b := _) rfl (fun hc1 => ?_) (fun hc1 => ?_)
 ·
  refine AW.seq (AW.region ?_)
  refine AOL.p (P_build (l := [.int .i64 _, .str _, .int .i64 _, .int .i64 _, .int .i64 _, .int .i64 _]) tok rfl rfl rfl) rfl ?_
  refine AOL.e (E_store (k := 0) (v := .agg _) (cs' := [.int .i64 _, .str _, .int .i64 _, .int .i64 _, .int .i64 _, .int .i64 _]) (H2 := _ :: _) tok rfl rfl rfl rfl rfl rfl rfl rfl rfl) rfl ?_
  rintro _ _ ⟨rfl, rfl⟩
  refine AOL.nil (thenN ?_)
  refine AW.ret ?_
  refine thenR ?_
  refine ⟨.inr rfl, [.agg [.int .i64 _, .str _, .int .i64 _, .int .i64 _, .int .i64 _, .int .i64 _]], .cons (.box _ _ _ 0 _ _ _ _ rfl rfl rfl rfl rfl rfl) <| .nil, .cons _ (.refl _), ?_⟩
  simp only [resOf, numberF]
  (first | rw [if_pos hc1] | skip)
  first | done | rfl
 ·
  refine AW.skip ?_
  refine thenN ?_
  refine AW.seq ?_
  refine AW.seq (AW.region ?_)
  refine AOL.p (P_move (v := .str _) rfl) rfl ?_
  refine AOL.p (P_move (v := .int .i64 _) rfl) rfl ?_
  refine AOL.p (P_slice_str (l := 0) (h := spanS digitS s) tok rfl rfl rfl (rfl) (⟨_, rfl⟩) (Nat.zero_le _) (span_le _ _) (List.drop_zero)) rfl ?_
  refine AOL.p (P_callf (by kernel_rfl) rfl rfl (c18 (s.take (spanS digitS s)) (by rw [List.length_take]; omega))) rfl ?_
  refine AOL.p (P_move (v := .tuple _) rfl) rfl ?_
  refine AOL.p (P_extract (v := .int .i64 _) rfl rfl) rfl ?_
  refine AOL.p (P_extract (v := .int .i64 _) rfl rfl) rfl ?_
  refine AOL.p (P_assign (v := .int .i64 _) rfl) rfl ?_
  refine AOL.p (P_assign (v := .int .i64 _) rfl) rfl ?_
  refine AOL.nil (thenN ?_)
  refine AW.seq (AW.region ?_)
  refine AOL.p (P_move (v := .int .i64 _) rfl) rfl ?_
  refine AOL.p (P_neq rfl rfl) rfl ?_
  refine AOL.nil (thenN ?_)
  refine AW.cond (b := _) rfl (fun hc2 => ?_) (fun hc2 => ?_)
  ·
   refine AW.seq (AW.region ?_)
   refine AOL.p (P_move (v := .int .i64 _) rfl) rfl ?_
   refine AOL.p (P_build (l := [.int .i64 _, .str _, .int .i64 _, .int .i64 _, .int .i64 _, .int .i64 _]) tok rfl rfl rfl) rfl ?_
   refine AOL.e (E_store (k := 0) (v := .agg _) (cs' := [.int .i64 _, .str _, .int .i64 _, .int .i64 _, .int .i64 _, .int .i64 _]) (H2 := _ :: _) tok rfl rfl rfl rfl rfl rfl rfl rfl rfl) rfl ?_
   rintro _ _ ⟨rfl, rfl⟩
   refine AOL.nil (thenN ?_)
   refine AW.ret ?_
   refine thenR ?_
   refine ⟨.inr rfl, [.agg [.int .i64 _, .str _, .int .i64 _, .int .i64 _, .int .i64 _, .int .i64 _]], .cons (.box _ _ _ 0 _ _ _ _ rfl rfl rfl rfl rfl rfl) <| .nil, .cons _ (.refl _), ?_⟩
   simp only [resOf, numberF]
   (first | rw [if_neg (Bool.eq_false_iff.mp hc1)] | skip); (first | rw [if_pos hc2] | skip)
   first | done | rfl
  ·
   refine AW.skip ?_
   refine thenN ?_
   refine AW.seq ?_
   refine AW.seq (AW.region ?_)
   refine AOL.p (P_move (v := .int .i64 _) rfl) rfl ?_
   refine AOL.p (P_move (v := .str _) rfl) rfl ?_
   refine AOL.p (P_len_str tok rfl rfl rfl rfl) rfl ?_
   refine AOL.p (P_lss rfl rfl) rfl ?_
   refine AOL.p (P_move (v := .bool _) rfl) rfl ?_
   refine AOL.g (y := .str _) _ [] rfl (EntL.all trivial) (fun hG => P_move (v := .str _) rfl) rfl ?_
   refine AOL.g (y := .int .i64 _) _ [] rfl (EntL.all trivial) (fun hG => P_move (v := .int .i64 _) rfl) rfl ?_
   refine AOL.g (y := .int .u8 _) _ [(27, _), (28, _)] rfl (EntL.all ⟨Ent.self _ _, Ent.self _ _, trivial⟩) (fun hG => P_index_str tok rfl rfl rfl rfl (by omega) (bt_get (i := spanS digitS s) (by have h9 := g1 hG; simp at h9; exact h9))) rfl ?_
   refine AOL.g (y := .bool _) _ [(29, _)] rfl (EntL.all ⟨Ent.self _ _, trivial⟩) (fun hG => P_callf (by kernel_rfl) rfl rfl (c43 _)) rfl ?_
   refine AOL.p (P_pick_and rfl rfl rfl) rfl ?_
   refine AOL.nil (thenN ?_)
   refine AW.cond (b := _) rfl (fun hc3 => ?_) (fun hc3 => ?_)
   ·
    refine AW.seq (AW.region ?_)
    refine AOL.p (P_move (v := .int .i64 _) rfl) rfl ?_
    refine AOL.p (P_build (l := [.int .i64 _, .str _, .int .i64 _, .int .i64 _, .int .i64 _, .int .i64 _]) tok rfl rfl rfl) rfl ?_
    refine AOL.e (E_store (k := 0) (v := .agg _) (cs' := [.int .i64 _, .str _, .int .i64 _, .int .i64 _, .int .i64 _, .int .i64 _]) (H2 := _ :: _) tok rfl rfl rfl rfl rfl rfl rfl rfl rfl) rfl ?_
    rintro _ _ ⟨rfl, rfl⟩
    refine AOL.nil (thenN ?_)
    refine AW.ret ?_
    refine thenR ?_
    refine ⟨.inr rfl, [.agg [.int .i64 _, .str _, .int .i64 _, .int .i64 _, .int .i64 _, .int .i64 _]], .cons (.box _ _ _ 0 _ _ _ _ rfl rfl rfl rfl rfl rfl) <| .nil, .cons _ (.refl _), ?_⟩
    simp only [resOf, numberF]
    (first | rw [if_neg (Bool.eq_false_iff.mp hc1)] | skip); (first | rw [if_neg (Bool.eq_false_iff.mp hc2)] | skip); (first | rw [if_pos hc3] | skip)
    first | done | rfl
   ·
    refine AW.skip ?_
    refine thenN ?_
    refine AW.seq (AW.region ?_)
    refine AOL.p (P_move (v := .str _) rfl) rfl ?_
    refine AOL.p (P_move (v := .int .i64 _) rfl) rfl ?_
    refine AOL.p (P_slice_str (l := 0) (h := spanS digitS s) tok rfl rfl rfl (rfl) (⟨_, rfl⟩) (Nat.zero_le _) (span_le _ _) (List.drop_zero)) rfl ?_
    refine AOL.p (P_build (l := [.int .i64 _, .str _, .int .i64 _]) tok rfl rfl rfl) rfl ?_
    refine AOL.p (P_move (v := .int .i64 _) rfl) rfl ?_
    refine AOL.p (P_build (l := [.int .i64 _, .str _, .int .i64 _, .int .i64 _, .int .i64 _, .int .i64 _]) tok rfl rfl rfl) rfl ?_
    refine AOL.e (E_store (k := 0) (v := .agg _) (cs' := [.int .i64 _, .str _, .int .i64 _, .int .i64 _, .int .i64 _, .int .i64 _]) (H2 := _ :: _) tok rfl rfl rfl rfl rfl rfl rfl rfl rfl) rfl ?_
    rintro _ _ ⟨rfl, rfl⟩
    refine AOL.nil (thenN ?_)
    refine AW.ret ?_
    refine ⟨.inr rfl, [.agg [.int .i64 _, .str _, .int .i64 _, .int .i64 _, .int .i64 _, .int .i64 _]], .cons (.box _ _ _ 0 _ _ _ _ rfl rfl rfl rfl rfl rfl) <| .nil, .cons _ (.refl _), ?_⟩
    simp only [resOf, numberF]
    (first | rw [if_neg (Bool.eq_false_iff.mp hc1)] | skip); (first | rw [if_neg (Bool.eq_false_iff.mp hc2)] | skip); (first | rw [if_neg (Bool.eq_false_iff.mp hc3)] | skip)
    first | done | rfl
set_option maxRecDepth 20000 in
set_option maxHeartbeats 400000 in
theorem c57 (s : Str) : APure Tryz.prog 136 [.str s] (.agg (cFo (signF s))) := by
 refine APure.body (n := 19) tok Tryz.func136 rfl rfl rfl fun H => ?_
 refine AW.seq (AW.region ?_)
 refine AOL.e (E_alloc (l := [.int .i64 0, .str [], .int .i64 0, .int .i64 0, .int .i64 0, .int .i64 0]) (by kernel_rfl)) rfl ?_
 rintro _ _ ⟨b2, rfl, rfl⟩
 refine AOL.nil (thenN ?_)
 refine AW.seq ?_
 refine AW.seq (AW.region ?_)
 refine AOL.p (P_load_glob (l := signCells) tok (⟨_, by simp [globals], fun _ h => h⟩) rfl rfl rfl rfl) rfl ?_
 refine AOL.p (P_move (v := .int .i64 _) rfl) rfl ?_
 refine AOL.nil (thenN ?_)
 refine AW.block ?_
 refine AW.loopS (fun (k : Nat) => (⟨[(0, .str s), (2, .val (.pointer (some ⟨b2, 0, none⟩))), (5, .agg signCells), (6, .int .i64 (k : Int))], .box b2 91 [.int .i64 0, .str [], .int .i64 0, .int .i64 0, .int .i64 0, .int .i64 0] :: H, 19⟩ : St)) (fun (k : Nat) => k ≤ 17 ∧ signF s = signGo s (signL.drop k)) (fun (k : Nat) => 17 - k) (0) ?_ (GS.weaken ⟨rfl, rfl, rfl, rfl, trivial⟩ (.refl _)) ?_
 · exact ⟨Nat.zero_le _, rfl⟩
 ·
  rintro k hR
  refine AW.seq (AW.region ?_)
  refine AOL.p (P_lss rfl rfl) rfl ?_
  refine AOL.nil (thenN ?_)
  refine AW.seq ?_
  refine AW.cond (b := _) rfl (fun hc1 => ?_) (fun hc1 => ?_)
  ·
   have hk : k < 17 := by simp at hc1; omega
   refine AW.skip ?_
   refine thenN ?_
   refine AW.seq ?_
   refine AW.block ?_
   refine AW.seq (AW.region ?_)
   refine AOL.p (P_index_agg (c := .str (signL.getD k [])) tok rfl rfl rfl rfl rfl rfl rfl (by omega) (by omega) (sign_get k hk)) rfl ?_
   refine AOL.p (P_assign (v := .str _) rfl) rfl ?_
   refine AOL.nil (thenN ?_)
   refine AW.seq (AW.region ?_)
   refine AOL.p (P_move (v := .str _) rfl) rfl ?_
   refine AOL.p (P_move (v := .str _) rfl) rfl ?_
   refine AOL.p (P_callf (by kernel_rfl) rfl rfl (k28 _ _)) rfl ?_
   refine AOL.nil (thenN ?_)
   refine AW.cond (b := _) rfl (fun hc2 => ?_) (fun hc2 => ?_)
   ·
    refine AW.seq (AW.region ?_)
    refine AOL.p (P_move (v := .str _) rfl) rfl ?_
    refine AOL.p (P_build (l := [.int .i64 _, .str _, .int .i64 _]) tok rfl rfl rfl) rfl ?_
    refine AOL.p (P_move (v := .str _) rfl) rfl ?_
    refine AOL.p (P_len_str tok rfl rfl rfl rfl) rfl ?_
    refine AOL.p (P_build (l := [.int .i64 _, .str _, .int .i64 _, .int .i64 _, .int .i64 _, .int .i64 _]) tok rfl rfl rfl) rfl ?_
    refine AOL.e (E_store (k := 0) (v := .agg _) (cs' := [.int .i64 _, .str _, .int .i64 _, .int .i64 _, .int .i64 _, .int .i64 _]) (H2 := _ :: _) tok rfl rfl rfl rfl rfl rfl rfl rfl rfl) rfl ?_
    rintro _ _ ⟨rfl, rfl⟩
    refine AOL.nil (thenN ?_)
    refine AW.ret ?_
    refine blkR ?_
    refine thenR ?_
    refine thenR ?_
    refine blkR ?_
    refine thenR ?_
    refine ⟨.inr rfl, [.agg [.int .i64 _, .str _, .int .i64 _, .int .i64 _, .int .i64 _, .int .i64 _]], .cons (.box _ _ _ 0 _ _ _ _ rfl rfl rfl rfl rfl rfl) <| .nil, .cons _ (.refl _), ?_⟩
    have h9 := hR.2.trans (sign_stop hk hc2)
    rw [h9]; rfl
   ·
    refine AW.skip ?_
    refine blkN ?_
    refine thenN ?_
    refine AW.region ?_
    refine AOL.p (P_add rfl rfl rfl (by constructor <;> omega)) rfl ?_
    refine AOL.p (P_move (v := .int .i64 _) rfl) rfl ?_
    refine AOL.nil (thenN ?_)
    refine ⟨k + 1, ?_, ?_, GS.weaken ⟨rfl, rfl, rfl, rfl, trivial⟩ (.refl _)⟩
    · exact ⟨hk, hR.2.trans (sign_step hk hc2)⟩
    · omega
  ·
   have hk : k = 17 := by simp at hc1; have := hR.1; omega
   refine AW.exit ?_
   refine thenE ?_
   refine thenE ?_
   refine blkHit ?_
   refine thenN ?_
   refine AW.seq (AW.region ?_)
   refine AOL.p (P_build (l := [.int .i64 _, .str _, .int .i64 _, .int .i64 _, .int .i64 _, .int .i64 _]) tok rfl rfl rfl) rfl ?_
   refine AOL.e (E_store (k := 0) (v := .agg _) (cs' := [.int .i64 _, .str _, .int .i64 _, .int .i64 _, .int .i64 _, .int .i64 _]) (H2 := _ :: _) tok rfl rfl rfl rfl rfl rfl rfl rfl rfl) rfl ?_
   rintro _ _ ⟨rfl, rfl⟩
   refine AOL.nil (thenN ?_)
   refine AW.ret ?_
   refine ⟨.inr rfl, [.agg [.int .i64 _, .str _, .int .i64 _, .int .i64 _, .int .i64 _, .int .i64 _]], .cons (.box _ _ _ 0 _ _ _ _ rfl rfl rfl rfl rfl rfl) <| .nil, .cons _ (.refl _), ?_⟩
   have h9 : signF s = foE 0 4 := by rw [hR.2, hk]; rfl
   rw [h9]; rfl

end Go.Proofs.YtabkeeedkhgodaaGreatDoor
