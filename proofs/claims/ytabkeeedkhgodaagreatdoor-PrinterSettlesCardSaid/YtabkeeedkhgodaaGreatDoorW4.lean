/-
  Walks: numbers, names, quotation. No condition.
-/
import Derived.Test.YtabkeeedkhgodaaGreatDoorW3
import Derived.KernelRfl
namespace Go.Proofs.YtabkeeedkhgodaaGreatDoor
open Go Go.Aw
set_option linter.unusedVariables false
set_option linter.unusedSimpArgs false

theorem numS_unfold {s : Str} (h : ((s == []) || decide ((spanS digitS s : Int) < (s.length : Int))) = false) : numS s = numGo s 0 := by unfold numS; rw [if_neg (Bool.eq_false_iff.mp h)]
theorem quoteGo_len : ∀ s : Str, (quoteGo s).length ≤ 4 * s.length
  | [] => Nat.le_refl _
  | c :: r => by
    have := quoteGo_len r
    have h : (quoteB c).length ≤ 4 := by unfold quoteB; split <;> (try split) <;> simp
    simp only [quoteGo, List.length_append, List.length_cons]; omega
theorem quoteGo_app : ∀ a b : Str, quoteGo (a ++ b) = quoteGo a ++ quoteGo b
  | [], b => rfl
  | c :: r, b => by simp [quoteGo, quoteGo_app r b]
theorem take_bt {s : Str} {k : Nat} (h : k < s.length) : s.take (k + 1) = s.take k ++ [bt s k] := by rw [List.take_add_one, bt_get h]; rfl
theorem quote_step {s : Str} {k : Nat} {es : List (List AV)} {x : Str} (h : k < s.length) (he : es = bcells ([34] ++ quoteGo (s.take k))) (hx : quoteB (bt s k) = x) : es ++ bcells x = bcells ([34] ++ quoteGo (s.take (k + 1))) := by
  rw [he, take_bt h, quoteGo_app, ← bcells_append]
  simp [quoteGo, hx]
theorem quote_room {s : Str} {k : Nat} {es : List (List AV)} (hl : s.length ≤ 64) (he : es = bcells ([34] ++ quoteGo (s.take k))) : es.length ≤ 257 := by
  have := quoteGo_len (s.take k)
  rw [he, bcells_length]; rw [List.length_take] at this; simp; omega
theorem nat8 (c : UInt8) : c.toNat ≤ 255 := by have := c.toNat_lt; omega
theorem hex_hi (c : UInt8) : 0 ≤ IntKind.u8.wrap ((c.toNat : Int).tdiv 16) ∧ hexD[(IntKind.u8.wrap ((c.toNat : Int).tdiv 16)).toNat]? = some (bt hexD (c.toNat / 16)) := by
  have h := nat8 c
  have e : IntKind.u8.wrap ((c.toNat : Int).tdiv 16) = ((c.toNat / 16 : Nat) : Int) := by
    rw [IntWalk.u8_quo _ _ (by omega)]; omega
  rw [e]
  refine ⟨by omega, ?_⟩
  rw [Int.toNat_natCast]
  exact bt_get (by show c.toNat / 16 < 16; omega)
theorem hex_lo (c : UInt8) : 0 ≤ (c.toNat : Int).tmod 16 ∧ hexD[((c.toNat : Int).tmod 16).toNat]? = some (bt hexD (c.toNat % 16)) := by
  have e : (c.toNat : Int).tmod 16 = ((c.toNat % 16 : Nat) : Int) := by
    rw [Int.tmod_eq_emod_of_nonneg (by omega)]; omega
  rw [e]
  refine ⟨by omega, ?_⟩
  rw [Int.toNat_natCast]
  exact bt_get (by show c.toNat % 16 < 16; omega)
theorem byteOf_eq (n : Int) : IntKind.u8.wrap n = ((byteOf n).toNat : Int) := by
  have h := wrap8_le n
  unfold byteOf
  rw [UInt8.toNat_ofNat_of_lt' (by show _ < 256; omega)]
  omega
theorem idxB_le : ∀ (s : Str) (c : UInt8), -1 ≤ Lib.indexByte s c ∧ Lib.indexByte s c < s.length
  | [], c => ⟨by unfold Lib.indexByte; decide, by unfold Lib.indexByte; decide⟩
  | a :: r, c => by
    have := idxB_le r c
    unfold Lib.indexByte
    simp only [List.length_cons, beq_iff_eq]
    split
    · omega
    · split <;> omega
theorem hexI_le (c : UInt8) : -1 ≤ hexI c ∧ hexI c < 16 := idxB_le hexD c
theorem sc_two (a b : Int) : ∀ c ∈ [[AV.int .u8 a], [AV.int .u8 b]], scalars c = true := by simp [scalars, scalar]
theorem sc_four (a b c d : Int) : ∀ x ∈ [[AV.int .u8 a], [AV.int .u8 b], [AV.int .u8 c], [AV.int .u8 d]], scalars x = true := by simp [scalars, scalar]

set_option maxRecDepth 20000 in
set_option maxHeartbeats 400000 in
theorem c18 (s : Str) (hl : s.length ≤ 1048576) : APure Tryz.prog 156 [.str s] (.tuple [.int .i64 (numS s).1, .int .i64 (numS s).2]) := by
 refine APure.body (n := 33) tok Tryz.func156 rfl rfl rfl fun H => ?_
 refine AW.seq (AW.region ?_)
 refine AOL.p (P_assign (v := .int .i64 _) rfl) rfl ?_
 refine AOL.p (P_assign (v := .int .i64 _) rfl) rfl ?_
 refine AOL.nil (thenN ?_)
 refine AW.seq ?_
 refine AW.seq (AW.region ?_)
 refine AOL.p (P_move (v := .str _) rfl) rfl ?_
 refine AOL.p (P_eql_str rfl rfl) rfl ?_
 refine AOL.p (P_move (v := .bool _) rfl) rfl ?_
 refine AOL.g (y := .str _) _ [] rfl (EntL.all trivial) (fun hG => P_move (v := .str _) rfl) rfl ?_
 refine AOL.g (y := .int .i64 _) _ [(10, _)] rfl (EntL.all ⟨Ent.self _ _, trivial⟩) (fun hG => P_callf (by kernel_rfl) rfl rfl (c38 s hl 146 digitS (by kernel_rfl) c39)) rfl ?_
 refine AOL.g (y := .str _) _ [] rfl (EntL.all trivial) (fun hG => P_move (v := .str _) rfl) rfl ?_
 refine AOL.g (y := .int .i64 _) _ [(12, _)] rfl (EntL.all ⟨Ent.self _ _, trivial⟩) (fun hG => P_len_str tok rfl rfl rfl rfl) rfl ?_
 refine AOL.g (y := .bool _) _ [(11, _), (13, _)] rfl (EntL.all ⟨Ent.self _ _, Ent.self _ _, trivial⟩) (fun hG => P_lss rfl rfl) rfl ?_
 refine AOL.p (P_pick_or rfl rfl rfl) rfl ?_
 refine AOL.nil (thenN ?_)
 refine AW.cond (b := _) rfl (fun hc1 => ?_) (fun hc1 => ?_)
 ·
  refine AW.seq (AW.region ?_)
  refine AOL.p (P_assign (v := .int .i64 _) rfl) rfl ?_
  refine AOL.p (P_assign (v := .int .i64 _) rfl) rfl ?_
  refine AOL.nil (thenN ?_)
  refine AW.ret ?_
  refine thenR ?_
  refine ⟨.inr rfl, [.int .i64 _, .int .i64 _], .cons (.tmp _ _ rfl) <| .cons (.tmp _ _ rfl) <| .nil, .refl _, ?_⟩
  simp only [resOf, numS]
  (first | rw [if_pos hc1] | skip)
  first | done | rfl
 ·
  have hn := numS_unfold hc1
  refine AW.skip ?_
  refine thenN ?_
  refine AW.seq (AW.region ?_)
  refine AOL.p (P_assign (v := .int .i64 _) rfl) rfl ?_
  refine AOL.nil (thenN ?_)
  refine AW.seq ?_
  refine AW.seq (AW.region ?_)
  refine AOL.p (P_move (v := .str _) rfl) rfl ?_
  refine AOL.p (P_strBytes tok rfl rfl rfl rfl rfl rfl rfl) rfl ?_
  refine AOL.p (P_len_sl (n := s.length) tok rfl rfl rfl (by simp)) rfl ?_
  refine AOL.p (P_move (v := .int .i64 _) rfl) rfl ?_
  refine AOL.nil (thenN ?_)
  refine AW.block ?_
  refine AW.loopS (fun (p : Nat × Int) => (⟨[(17, .sl 1 (bcells s)), (18, .int .i64 (s.length : Int)), (4, .int .i64 p.2), (19, .int .i64 (p.1 : Int))], H, 33⟩ : St)) (fun (p : Nat × Int) => p.1 ≤ s.length ∧ (0 ≤ p.2 ∧ p.2 ≤ 1099511627776) ∧ numGo s 0 = numGo (s.drop p.1) p.2) (fun (p : Nat × Int) => s.length - p.1) ((0, 0)) ?_ (GS.weaken ⟨rfl, rfl, rfl, rfl, trivial⟩ (.refl _)) ?_
  · exact ⟨Nat.zero_le _, ⟨by decide, by decide⟩, rfl⟩
  ·
   rintro p hR
   have hb := hR.2.1
   have hdv := dv_le (bt s p.1)
   refine AW.seq (AW.region ?_)
   refine AOL.p (P_lss rfl rfl) rfl ?_
   refine AOL.nil (thenN ?_)
   refine AW.seq ?_
   refine AW.cond (b := _) rfl (fun hc2 => ?_) (fun hc2 => ?_)
   ·
    have hk : p.1 < s.length := by simp at hc2; omega
    refine AW.skip ?_
    refine thenN ?_
    refine AW.seq ?_
    refine AW.block ?_
    refine AW.seq (AW.region ?_)
    refine AOL.p (P_indexAddr (c := [.int .u8 _]) tok rfl rfl rfl rfl rfl rfl (by omega) (bc_get (k := p.1) hk)) rfl ?_
    refine AOL.p (P_load_ptr (c := .int .u8 _) tok rfl rfl rfl) rfl ?_
    refine AOL.p (P_assign (v := .int .u8 _) rfl) rfl ?_
    refine AOL.nil (thenN ?_)
    refine AW.seq (AW.region ?_)
    refine AOL.p (P_move (v := .int .i64 _) rfl) rfl ?_
    refine AOL.p (P_mul rfl rfl rfl (by constructor <;> omega)) rfl ?_
    refine AOL.p (P_move (v := .int .u8 _) rfl) rfl ?_
    refine AOL.p (P_subw rfl rfl) rfl ?_
    refine AOL.p (P_conv (m := dvS (bt s p.1)) tok rfl rfl rfl rfl rfl (wrap64_8 _)) rfl ?_
    refine AOL.p (P_add rfl rfl rfl (by constructor <;> omega)) rfl ?_
    refine AOL.p (P_assign (v := .int .i64 _) rfl) rfl ?_
    refine AOL.nil (thenN ?_)
    refine AW.seq (AW.region ?_)
    refine AOL.p (P_move (v := .int .i64 _) rfl) rfl ?_
    refine AOL.p (P_gtr rfl rfl) rfl ?_
    refine AOL.nil (thenN ?_)
    refine AW.cond (b := _) rfl (fun hc3 => ?_) (fun hc3 => ?_)
    ·
     refine AW.seq (AW.region ?_)
     refine AOL.p (P_assign (v := .int .i64 _) rfl) rfl ?_
     refine AOL.p (P_assign (v := .int .i64 _) rfl) rfl ?_
     refine AOL.nil (thenN ?_)
     refine AW.ret ?_
     refine blkR ?_
     refine thenR ?_
     refine thenR ?_
     refine blkR ?_
     refine thenR ?_
     refine ⟨.inr rfl, [.int .i64 _, .int .i64 _], .cons (.tmp _ _ rfl) <| .cons (.tmp _ _ rfl) <| .nil, .refl _, ?_⟩
     rw [hn, hR.2.2, numGo_stop hk hc3]; first | done | rfl
    ·
     refine AW.skip ?_
     refine blkN ?_
     refine thenN ?_
     refine AW.region ?_
     refine AOL.p (P_add rfl rfl rfl (by constructor <;> omega)) rfl ?_
     refine AOL.p (P_move (v := .int .i64 _) rfl) rfl ?_
     refine AOL.nil (thenN ?_)
     refine ⟨(p.1 + 1, 10 * p.2 + dvS (bt s p.1)), ?_, ?_, GS.weaken ⟨rfl, rfl, rfl, rfl, trivial⟩ (.refl _)⟩
     · exact ⟨hk, ⟨by simp only; omega, by simp only [decide_eq_false_iff_not] at hc3; simp only; omega⟩, hR.2.2.trans (numGo_step hk hc3)⟩
     · simp only; omega
   ·
    have hk : s.length ≤ p.1 := by simp at hc2; omega
    refine AW.exit ?_
    refine thenE ?_
    refine thenE ?_
    refine blkHit ?_
    refine thenN ?_
    refine AW.seq (AW.region ?_)
    refine AOL.p (P_move (v := .int .i64 _) rfl) rfl ?_
    refine AOL.p (P_assign (v := .int .i64 _) rfl) rfl ?_
    refine AOL.p (P_assign (v := .int .i64 _) rfl) rfl ?_
    refine AOL.nil (thenN ?_)
    refine AW.ret ?_
    refine ⟨.inr rfl, [.int .i64 _, .int .i64 _], .cons (.tmp _ _ rfl) <| .cons (.tmp _ _ rfl) <| .nil, .refl _, ?_⟩
    have h9 : numS s = (p.2, 0) := by rw [hn, hR.2.2, List.drop_eq_nil_of_le hk]; rfl
    rw [h9]; rfl
set_option maxRecDepth 20000 in
set_option maxHeartbeats 400000 in
theorem c20 (s : Str) (hl : s.length ≤ 1048576) : APure Tryz.prog 116 [.str s] (.int .i64 (nameS s)) := by
 refine APure.body (n := 22) tok Tryz.func116 rfl rfl rfl fun H => ?_
 refine AW.seq (AW.region ?_)
 refine AOL.p (P_assign (v := .int .i64 _) rfl) rfl ?_
 refine AOL.nil (thenN ?_)
 refine AW.seq ?_
 refine AW.seq (AW.region ?_)
 refine AOL.p (P_move (v := .str _) rfl) rfl ?_
 refine AOL.p (P_eql_str rfl rfl) rfl ?_
 refine AOL.p (P_move (v := .bool _) rfl) rfl ?_
 refine AOL.g (y := .str _) _ [] rfl (EntL.all trivial) (fun hG => P_move (v := .str _) rfl) rfl ?_
 refine AOL.g (y := .int .i64 _) _ [(6, _)] rfl (EntL.all ⟨Ent.self _ _, trivial⟩) (fun hG => P_len_str tok rfl rfl rfl rfl) rfl ?_
 refine AOL.g (y := .bool _) _ [(7, _)] rfl (EntL.all ⟨Ent.self _ _, trivial⟩) (fun hG => P_gtr rfl rfl) rfl ?_
 refine AOL.p (P_pick_or rfl rfl rfl) rfl ?_
 refine AOL.p (P_move (v := .bool _) rfl) rfl ?_
 refine AOL.g (y := .str _) _ [] rfl (EntL.all trivial) (fun hG => P_move (v := .str _) rfl) rfl ?_
 refine AOL.g (y := .int .u8 _) _ [(11, _)] rfl (EntL.all ⟨Ent.self _ _, trivial⟩) (fun hG => P_index_str tok rfl rfl rfl rfl (by omega) (bt_get (i := 0) (ne_len (g1 hG)))) rfl ?_
 refine AOL.g (y := .bool _) _ [(12, _)] rfl (EntL.all ⟨Ent.self _ _, trivial⟩) (fun hG => P_callf (by kernel_rfl) rfl rfl (c39 _)) rfl ?_
 refine AOL.p (P_pick_or rfl rfl rfl) rfl ?_
 refine AOL.p (P_move (v := .bool _) rfl) rfl ?_
 refine AOL.g (y := .str _) _ [] rfl (EntL.all trivial) (fun hG => P_move (v := .str _) rfl) rfl ?_
 refine AOL.g (y := .bool _) _ [(16, _)] rfl (EntL.all ⟨Ent.self _ _, trivial⟩) (fun hG => P_callf (by kernel_rfl) rfl rfl (c22 s hl)) rfl ?_
 refine AOL.p (P_pick_or rfl rfl rfl) rfl ?_
 refine AOL.nil (thenN ?_)
 refine AW.cond (b := _) rfl (fun hc1 => ?_) (fun hc1 => ?_)
 ·
  refine AW.seq (AW.region ?_)
  refine AOL.p (P_assign (v := .int .i64 _) rfl) rfl ?_
  refine AOL.nil (thenN ?_)
  refine AW.ret ?_
  refine thenR ?_
  refine ⟨.inr rfl, [.int .i64 _], .cons (.tmp _ _ rfl) <| .nil, .refl _, ?_⟩
  simp only [resOf, nameS]
  (first | rw [if_pos hc1] | skip)
  first | done | rfl
 ·
  refine AW.skip ?_
  refine thenN ?_
  refine AW.seq ?_
  refine AW.seq (AW.region ?_)
  refine AOL.p (P_move (v := .str _) rfl) rfl ?_
  refine AOL.p (P_strBytes tok rfl rfl rfl rfl rfl rfl rfl) rfl ?_
  refine AOL.p (P_callf (by kernel_rfl) rfl rfl (c41 s hl 148 oddS (by kernel_rfl) c42)) rfl ?_
  refine AOL.nil (thenN ?_)
  refine AW.cond (b := _) rfl (fun hc2 => ?_) (fun hc2 => ?_)
  ·
   refine AW.seq (AW.region ?_)
   refine AOL.p (P_assign (v := .int .i64 _) rfl) rfl ?_
   refine AOL.nil (thenN ?_)
   refine AW.ret ?_
   refine thenR ?_
   refine ⟨.inr rfl, [.int .i64 _], .cons (.tmp _ _ rfl) <| .nil, .refl _, ?_⟩
   simp only [resOf, nameS]
   (first | rw [if_neg (Bool.eq_false_iff.mp hc1)] | skip); (first | rw [if_pos hc2] | skip)
   first | done | rfl
  ·
   refine AW.skip ?_
   refine thenN ?_
   refine AW.seq (AW.region ?_)
   refine AOL.p (P_assign (v := .int .i64 _) rfl) rfl ?_
   refine AOL.nil (thenN ?_)
   refine AW.ret ?_
   refine ⟨.inr rfl, [.int .i64 _], .cons (.tmp _ _ rfl) <| .nil, .refl _, ?_⟩
   simp only [resOf, nameS]
   (first | rw [if_neg (Bool.eq_false_iff.mp hc1)] | skip); (first | rw [if_neg (Bool.eq_false_iff.mp hc2)] | skip)
   first | done | rfl
set_option maxRecDepth 20000 in
set_option maxHeartbeats 400000 in
theorem c24 (s : Str) (hl : s.length ≤ 1048576) : APure Tryz.prog 125 [.str s] (.tuple [.str (quoteS s).1, .int .i64 (quoteS s).2]) := by
 refine APure.body (n := 54) tok Tryz.func125 rfl rfl rfl fun H => ?_
 refine AW.seq (AW.region ?_)
 refine AOL.p (P_assign (v := .str _) rfl) rfl ?_
 refine AOL.p (P_assign (v := .int .i64 _) rfl) rfl ?_
 refine AOL.nil (thenN ?_)
 refine AW.seq ?_
 refine AW.seq (AW.region ?_)
 refine AOL.p (P_move (v := .str _) rfl) rfl ?_
 refine AOL.p (P_len_str tok rfl rfl rfl rfl) rfl ?_
 refine AOL.p (P_gtr rfl rfl) rfl ?_
 refine AOL.nil (thenN ?_)
 refine AW.cond (b := _) rfl (fun hc1 => ?_) (fun hc1 => ?_)
 ·
  refine AW.seq (AW.region ?_)
  refine AOL.p (P_assign (v := .str _) rfl) rfl ?_
  refine AOL.p (P_assign (v := .int .i64 _) rfl) rfl ?_
  refine AOL.nil (thenN ?_)
  refine AW.ret ?_
  refine thenR ?_
  refine ⟨.inr rfl, [.str _, .int .i64 _], .cons (.tmp _ _ rfl) <| .cons (.tmp _ _ rfl) <| .nil, .refl _, ?_⟩
  simp only [resOf, quoteS]
  (first | rw [if_pos hc1] | skip)
  first | done | rfl
 ·
  refine AW.skip ?_
  refine thenN ?_
  refine AW.seq (AW.region ?_)
  refine AOL.e (E_buildSlice (es := [[.int .u8 _]]) tok rfl rfl rfl rfl rfl rfl rfl rfl rfl) rfl ?_
  rintro _ _ ⟨v10, rfl, rfl⟩
  refine AOL.p (P_assign (v := .row _ _ _) rfl) rfl ?_
  refine AOL.nil (thenN ?_)
  refine AW.seq ?_
  refine AW.seq (AW.region ?_)
  refine AOL.p (P_move (v := .str _) rfl) rfl ?_
  refine AOL.p (P_strBytes tok rfl rfl rfl rfl rfl rfl rfl) rfl ?_
  refine AOL.p (P_len_sl (n := s.length) tok rfl rfl rfl (by simp)) rfl ?_
  refine AOL.p (P_move (v := .int .i64 _) rfl) rfl ?_
  refine AOL.nil (thenN ?_)
  refine AW.block ?_
  refine AW.loopS (fun (p : Nat × List (List AV) × Value) => (⟨[(4, .row p.2.2 1 p.2.1), (12, .sl 1 (bcells s)), (13, .int .i64 (s.length : Int)), (14, .int .i64 (p.1 : Int))], .row p.2.2 p.2.1.length 5 1 :: H, 54⟩ : St)) (fun (p : Nat × List (List AV) × Value) => p.1 ≤ s.length ∧ p.2.1 = bcells ([34] ++ quoteGo (s.take p.1))) (fun (p : Nat × List (List AV) × Value) => s.length - p.1) ((0, _, v10)) ?_ (GS.weaken ⟨rfl, rfl, rfl, rfl, trivial⟩ (.refl _)) ?_
  · exact ⟨Nat.zero_le _, rfl⟩
  ·
   rintro p hR
   have hroom := quote_room (by simp at hc1; omega) hR.2
   have hsc : ∀ c ∈ p.2.1, scalars c = true := by rw [hR.2]; exact sc_bytes _
   refine AW.seq (AW.region ?_)
   refine AOL.p (P_lss rfl rfl) rfl ?_
   refine AOL.nil (thenN ?_)
   refine AW.seq ?_
   refine AW.cond (b := _) rfl (fun hc2 => ?_) (fun hc2 => ?_)
   ·
    have hk : p.1 < s.length := by simp at hc2; omega
    refine AW.skip ?_
    refine thenN ?_
    refine AW.seq ?_
    refine AW.block ?_
    refine AW.seq (AW.region ?_)
    refine AOL.p (P_indexAddr (c := [.int .u8 _]) tok rfl rfl rfl rfl rfl rfl (by omega) (bc_get (k := p.1) hk)) rfl ?_
    refine AOL.p (P_load_ptr (c := .int .u8 _) tok rfl rfl rfl) rfl ?_
    refine AOL.p (P_assign (v := .int .u8 _) rfl) rfl ?_
    refine AOL.nil (thenN ?_)
    refine AW.block ?_
    refine AW.seq (AW.region ?_)
    refine AOL.p (P_move (v := .int .u8 _) rfl) rfl ?_
    refine AOL.p (P_eql rfl rfl) rfl ?_
    refine AOL.p (P_move (v := .bool _) rfl) rfl ?_
    refine AOL.g (y := .int .u8 _) _ [] rfl (EntL.all trivial) (fun hG => P_move (v := .int .u8 _) rfl) rfl ?_
    refine AOL.g (y := .bool _) _ [(26, _)] rfl (EntL.all ⟨Ent.self _ _, trivial⟩) (fun hG => P_eql rfl rfl) rfl ?_
    refine AOL.p (P_pick_or rfl rfl rfl) rfl ?_
    refine AOL.p (P_assign (v := .bool _) rfl) rfl ?_
    refine AOL.nil (thenN ?_)
    refine AW.cond (b := _) rfl (fun hc3 => ?_) (fun hc3 => ?_)
    ·
     refine AW.region ?_
     refine AOL.p (P_move (v := .row _ _ _) rfl) rfl ?_
     refine AOL.p (P_move (v := .int .u8 _) rfl) rfl ?_
     refine AOL.p (P_buildSlice (es := [[.int .u8 _], [.int .u8 _]]) tok rfl rfl rfl rfl rfl rfl rfl rfl rfl) rfl ?_
     refine AOL.e (E_append (k := 0) tok rfl rfl rfl rfl rfl rfl rfl rfl (sc_two _ _) (hsc) (by simp; omega) (by simp [maxLen]; omega)) rfl ?_
     rintro _ _ ⟨v32, rfl, rfl⟩
     refine AOL.p (P_assign (v := .row _ _ _) rfl) rfl ?_
     refine AOL.nil ?_
     refine blkN ?_
     refine blkN ?_
     refine thenN ?_
     refine AW.region ?_
     refine AOL.p (P_add rfl rfl rfl (by constructor <;> omega)) rfl ?_
     refine AOL.p (P_move (v := .int .i64 _) rfl) rfl ?_
     refine AOL.nil (thenN ?_)
     refine ⟨(p.1 + 1, p.2.1 ++ bcells [92, bt s p.1], v32), ?_, ?_, GS.weaken ⟨rfl, rfl, rfl, rfl, trivial⟩ (.refl _)⟩
     · exact ⟨hk, quote_step hk hR.2 (by unfold quoteB; rw [if_pos hc3])⟩
     · simp only; omega
    ·
     refine AW.seq (AW.region ?_)
     refine AOL.p (P_move (v := .int .u8 _) rfl) rfl ?_
     refine AOL.p (P_lss rfl rfl) rfl ?_
     refine AOL.p (P_move (v := .bool _) rfl) rfl ?_
     refine AOL.g (y := .int .u8 _) _ [] rfl (EntL.all trivial) (fun hG => P_move (v := .int .u8 _) rfl) rfl ?_
     refine AOL.g (y := .bool _) _ [(37, _)] rfl (EntL.all ⟨Ent.self _ _, trivial⟩) (fun hG => P_gtr rfl rfl) rfl ?_
     refine AOL.p (P_pick_or rfl rfl rfl) rfl ?_
     refine AOL.p (P_assign (v := .bool _) rfl) rfl ?_
     refine AOL.nil (thenN ?_)
     refine AW.cond (b := _) rfl (fun hc4 => ?_) (fun hc4 => ?_)
     ·
      refine AW.draw mixed (fun _ => True) trivial (by kernel_rfl) ?_
      refine Canon.pure _ _ 0 _ _ rfl (by kernel_rfl) (by kernel_rfl) rfl (.run rfl (P_move (v := .row _ _ _) rfl)) ?_
      refine Canon.pure _ _ 1 _ _ rfl (by kernel_rfl) (by kernel_rfl) rfl (.run rfl (P_move (v := .int .u8 _) rfl)) ?_
      refine Canon.pure _ _ 2 _ _ rfl (by kernel_rfl) (by kernel_rfl) rfl (.run rfl (P_quow rfl rfl (by omega))) ?_
      refine Canon.pure _ _ 3 _ _ rfl (by kernel_rfl) (by kernel_rfl) rfl (.run rfl (P_index_str tok rfl rfl rfl rfl ((hex_hi _).1) ((hex_hi _).2))) ?_
      refine Canon.pure _ _ 4 _ _ rfl (by kernel_rfl) (by kernel_rfl) rfl (.run rfl (P_move (v := .int .u8 _) rfl)) ?_
      refine Canon.pure _ _ 5 _ _ rfl (by kernel_rfl) (by kernel_rfl) rfl (.run rfl (P_rem rfl rfl (by omega))) ?_
      refine Canon.pure _ _ 6 _ _ rfl (by kernel_rfl) (by kernel_rfl) rfl (.run rfl (P_index_str tok rfl rfl rfl rfl ((hex_lo _).1) ((hex_lo _).2))) ?_
      refine Canon.pure _ _ 7 _ _ rfl (by kernel_rfl) (by kernel_rfl) rfl (.run rfl (P_buildSlice (es := [[.int .u8 _], [.int .u8 _], [.int .u8 _], [.int .u8 _]]) tok rfl rfl rfl rfl rfl rfl rfl rfl rfl)) ?_
      refine Canon.eff _ _ 8 _ _ rfl (by kernel_rfl) rfl rfl (E_append (k := 0) tok rfl rfl rfl rfl rfl rfl rfl rfl (sc_four _ _ _ _) (hsc) (by simp; omega) (by simp [maxLen]; omega)) (fun _ _ _ => trivial) ?_
      rintro _ _ ⟨v48, rfl, rfl⟩
      refine Canon.pure _ _ 9 _ _ rfl (by kernel_rfl) (by kernel_rfl) rfl (.run rfl (P_assign (v := .row _ _ _) rfl)) ?_
      refine Canon.done _ _ (by kernel_rfl) ?_
      refine blkN ?_
      refine blkN ?_
      refine thenN ?_
      refine AW.region ?_
      refine AOL.p (P_add rfl rfl rfl (by constructor <;> omega)) rfl ?_
      refine AOL.p (P_move (v := .int .i64 _) rfl) rfl ?_
      refine AOL.nil (thenN ?_)
      refine ⟨(p.1 + 1, p.2.1 ++ bcells [92, 120, bt hexD ((bt s p.1).toNat / 16), bt hexD ((bt s p.1).toNat % 16)], v48), ?_, ?_, GS.weaken ⟨rfl, rfl, rfl, rfl, trivial⟩ (.refl _)⟩
      · exact ⟨hk, quote_step hk hR.2 (by unfold quoteB; rw [if_neg (Bool.eq_false_iff.mp hc3), if_pos hc4])⟩
      · simp only; omega
     ·
      refine AW.region ?_
      refine AOL.p (P_move (v := .row _ _ _) rfl) rfl ?_
      refine AOL.p (P_move (v := .int .u8 _) rfl) rfl ?_
      refine AOL.p (P_buildSlice (es := [[.int .u8 _]]) tok rfl rfl rfl rfl rfl rfl rfl rfl rfl) rfl ?_
      refine AOL.e (E_append (k := 0) tok rfl rfl rfl rfl rfl rfl rfl rfl (sc_one rfl) (hsc) (by simp; omega) (by simp [maxLen]; omega)) rfl ?_
      rintro _ _ ⟨v21, rfl, rfl⟩
      refine AOL.p (P_assign (v := .row _ _ _) rfl) rfl ?_
      refine AOL.nil ?_
      refine blkN ?_
      refine blkN ?_
      refine thenN ?_
      refine AW.region ?_
      refine AOL.p (P_add rfl rfl rfl (by constructor <;> omega)) rfl ?_
      refine AOL.p (P_move (v := .int .i64 _) rfl) rfl ?_
      refine AOL.nil (thenN ?_)
      refine ⟨(p.1 + 1, p.2.1 ++ bcells [bt s p.1], v21), ?_, ?_, GS.weaken ⟨rfl, rfl, rfl, rfl, trivial⟩ (.refl _)⟩
      · exact ⟨hk, quote_step hk hR.2 (by unfold quoteB; rw [if_neg (Bool.eq_false_iff.mp hc3), if_neg (Bool.eq_false_iff.mp hc4)])⟩
      · simp only; omega
   ·
    have hk : p.1 = s.length := by simp at hc2; have := hR.1; omega
    have hfin : p.2.1 ++ [[.int .u8 34]] = bcells ([34] ++ quoteGo s ++ [34]) := by rw [hR.2, hk, List.take_length, bcells_append ([34] ++ quoteGo s) [34]]; rfl
    have hfl : ([34] ++ quoteGo s ++ [34]).length ≤ maxLen := by have h1 := quoteGo_len s; simp at hc1; simp [maxLen]; omega
    refine AW.exit ?_
    refine thenE ?_
    refine thenE ?_
    refine blkHit ?_
    refine thenN ?_
    refine AW.seq (AW.region ?_)
    refine AOL.p (P_move (v := .row _ _ _) rfl) rfl ?_
    refine AOL.p (P_buildSlice (es := [[.int .u8 _]]) tok rfl rfl rfl rfl rfl rfl rfl rfl rfl) rfl ?_
    refine AOL.e (E_append (k := 0) tok rfl rfl rfl rfl rfl rfl rfl rfl (sc_one rfl) (hsc) (by simp; omega) (by simp [maxLen]; omega)) rfl ?_
    rintro _ _ ⟨v52, rfl, rfl⟩
    refine AOL.p (P_bytesStr (s := [34] ++ quoteGo s ++ [34]) tok rfl rfl rfl rfl rfl rfl rfl (hfl) (as_row hfin)) rfl ?_
    refine AOL.p (P_assign (v := .str _) rfl) rfl ?_
    refine AOL.p (P_assign (v := .int .i64 _) rfl) rfl ?_
    refine AOL.nil (thenN ?_)
    refine AW.ret ?_
    refine ⟨.inr rfl, [.str _, .int .i64 _], .cons (.tmp _ _ rfl) <| .cons (.tmp _ _ rfl) <| .nil, .cons _ (.refl _), ?_⟩
    simp only [resOf, quoteS]
    (first | rw [if_neg (Bool.eq_false_iff.mp hc1)] | skip); (first | rw [if_neg (Bool.eq_false_iff.mp hc2)] | skip)
    first | done | rfl
set_option maxRecDepth 20000 in
set_option maxHeartbeats 400000 in
theorem c70 (s : Str) (hl : s.length ≤ 1048576) : APure Tryz.prog 157 [.str s] (.tuple [.int .u8 ((escS s).1.toNat : Int), .int .i64 (escS s).2]) := by
 refine APure.body (n := 48) tok Tryz.func157 rfl rfl rfl fun H => ?_
 refine AW.seq (AW.region ?_)
 refine AOL.p (P_assign (v := .int .u8 _) rfl) rfl ?_
 refine AOL.p (P_assign (v := .int .i64 _) rfl) rfl ?_
 refine AOL.nil (thenN ?_)
 refine AW.seq ?_
 refine AW.block ?_
 refine AW.seq (AW.region ?_)
 refine AOL.p (P_move (v := .str _) rfl) rfl ?_
 refine AOL.p (P_len_str tok rfl rfl rfl rfl) rfl ?_
 refine AOL.p (P_geq rfl rfl) rfl ?_
 refine AOL.p (P_move (v := .bool _) rfl) rfl ?_
 refine AOL.g (y := .str _) _ [] rfl (EntL.all trivial) (fun hG => P_move (v := .str _) rfl) rfl ?_
 refine AOL.g (y := .int .u8 _) _ [(11, _)] rfl (EntL.all ⟨Ent.self _ _, trivial⟩) (fun hG => P_index_str tok rfl rfl rfl rfl (by omega) (bt_get (i := 1) (by have h9 := g1 hG; simp at h9; omega))) rfl ?_
 refine AOL.g (y := .bool _) _ [(12, _)] rfl (EntL.all ⟨Ent.self _ _, trivial⟩) (fun hG => P_eql rfl rfl) rfl ?_
 refine AOL.g (y := .bool _) _ [(13, _)] rfl (EntL.all ⟨Ent.self _ _, trivial⟩) (fun hG => P_move (v := .bool _) rfl) rfl ?_
 refine AOL.g (y := .str _) _ [] rfl (EntL.all trivial) (fun hG => P_move (v := .str _) rfl) rfl ?_
 refine AOL.g (y := .int .u8 _) _ [(15, _)] rfl (EntL.all ⟨Ent.self _ _, trivial⟩) (fun hG => P_index_str tok rfl rfl rfl rfl (by omega) (bt_get (i := 1) (by have h9 := g1 hG; simp at h9; omega))) rfl ?_
 refine AOL.g (y := .bool _) _ [(16, _)] rfl (EntL.all ⟨Ent.self _ _, trivial⟩) (fun hG => P_eql rfl rfl) rfl ?_
 refine AOL.g (y := .bool _) _ [(14, _), (17, _)] rfl (EntL.all ⟨Ent.self _ _, Ent.suf _ _ _, trivial⟩) (fun hG => P_pick_or rfl rfl rfl) rfl ?_
 refine AOL.p (P_pick_and rfl rfl rfl) rfl ?_
 refine AOL.p (P_assign (v := .bool _) rfl) rfl ?_
 refine AOL.nil (thenN ?_)
 refine AW.cond (b := _) rfl (fun hc1 => ?_) (fun hc1 => ?_)
 ·
  refine AW.seq (AW.region ?_)
  refine AOL.p (P_move (v := .str _) rfl) rfl ?_
  refine AOL.p (P_index_str tok rfl rfl rfl rfl (by omega) (bt_get (i := 1) (by simp at hc1; omega))) rfl ?_
  refine AOL.p (P_assign (v := .int .u8 _) rfl) rfl ?_
  refine AOL.p (P_assign (v := .int .i64 _) rfl) rfl ?_
  refine AOL.nil (thenN ?_)
  refine AW.ret ?_
  refine blkR ?_
  refine thenR ?_
  refine ⟨.inr rfl, [.int .u8 _, .int .i64 _], .cons (.tmp _ _ rfl) <| .cons (.tmp _ _ rfl) <| .nil, .refl _, ?_⟩
  simp only [resOf, escS]
  (first | rw [if_pos hc1] | skip)
  first | done | rfl
 ·
  refine AW.seq (AW.region ?_)
  refine AOL.p (P_move (v := .str _) rfl) rfl ?_
  refine AOL.p (P_len_str tok rfl rfl rfl rfl) rfl ?_
  refine AOL.p (P_geq rfl rfl) rfl ?_
  refine AOL.p (P_move (v := .bool _) rfl) rfl ?_
  refine AOL.g (y := .str _) _ [] rfl (EntL.all trivial) (fun hG => P_move (v := .str _) rfl) rfl ?_
  refine AOL.g (y := .int .u8 _) _ [(27, _)] rfl (EntL.all ⟨Ent.self _ _, trivial⟩) (fun hG => P_index_str tok rfl rfl rfl rfl (by omega) (bt_get (i := 1) (by have h9 := g1 hG; simp at h9; omega))) rfl ?_
  refine AOL.g (y := .bool _) _ [(28, _)] rfl (EntL.all ⟨Ent.self _ _, trivial⟩) (fun hG => P_eql rfl rfl) rfl ?_
  refine AOL.p (P_pick_and rfl rfl rfl) rfl ?_
  refine AOL.p (P_assign (v := .bool _) rfl) rfl ?_
  refine AOL.nil (thenN ?_)
  refine AW.cond (b := _) rfl (fun hc2 => ?_) (fun hc2 => ?_)
  ·
   refine AW.seq ?_
   refine AW.draw mixed (fun _ => True) trivial (by kernel_rfl) ?_
   refine Canon.pure _ _ 0 _ _ rfl (by kernel_rfl) (by kernel_rfl) rfl (.run rfl (P_move (v := .str _) rfl)) ?_
   refine Canon.pure _ _ 1 _ _ rfl (by kernel_rfl) (by kernel_rfl) rfl (.run rfl (P_index_str tok rfl rfl rfl rfl (by omega) (bt_get (i := 2) (by simp at hc2; omega)))) ?_
   refine Canon.pure _ _ 2 _ _ rfl (by kernel_rfl) (by kernel_rfl) rfl (.run rfl (P_callf (by kernel_rfl) rfl rfl (k53 hexD _))) ?_
   refine Canon.pure _ _ 3 _ _ rfl (by kernel_rfl) (by kernel_rfl) rfl (.run rfl (P_move (v := .str _) rfl)) ?_
   refine Canon.pure _ _ 4 _ _ rfl (by kernel_rfl) (by kernel_rfl) rfl (.run rfl (P_index_str tok rfl rfl rfl rfl (by omega) (bt_get (i := 3) (by simp at hc2; omega)))) ?_
   refine Canon.pure _ _ 5 _ _ rfl (by kernel_rfl) (by kernel_rfl) rfl (.run rfl (P_callf (by kernel_rfl) rfl rfl (k53 hexD _))) ?_
   refine Canon.pure _ _ 6 _ _ rfl (by kernel_rfl) (by kernel_rfl) rfl (.run rfl (P_assign (v := .int .i64 _) rfl)) ?_
   refine Canon.pure _ _ 7 _ _ rfl (by kernel_rfl) (by kernel_rfl) rfl (.run rfl (P_assign (v := .int .i64 _) rfl)) ?_
   refine Canon.done _ _ (by kernel_rfl) ?_
   refine thenN ?_
   refine AW.seq (AW.region ?_)
   refine AOL.p (P_move (v := .int .i64 _) rfl) rfl ?_
   refine AOL.p (P_geq rfl rfl) rfl ?_
   refine AOL.p (P_move (v := .bool _) rfl) rfl ?_
   refine AOL.g (y := .int .i64 _) _ [] rfl (EntL.all trivial) (fun hG => P_move (v := .int .i64 _) rfl) rfl ?_
   refine AOL.g (y := .bool _) _ [(40, _)] rfl (EntL.all ⟨Ent.self _ _, trivial⟩) (fun hG => P_geq rfl rfl) rfl ?_
   refine AOL.p (P_pick_and rfl rfl rfl) rfl ?_
   refine AOL.nil (thenN ?_)
   refine AW.cond (b := _) rfl (fun hc3 => ?_) (fun hc3 => ?_)
   ·
    refine AW.seq ?_
    have hh1 := hexI_le (bt s 2)
    have hh2 := hexI_le (bt s 3)
    unfold hexI at hh1 hh2
    refine AW.region ?_
    refine AOL.p (P_move (v := .int .i64 _) rfl) rfl ?_
    refine AOL.p (P_mul rfl rfl rfl (by constructor <;> omega)) rfl ?_
    refine AOL.p (P_move (v := .int .i64 _) rfl) rfl ?_
    refine AOL.p (P_add rfl rfl rfl (by constructor <;> omega)) rfl ?_
    refine AOL.p (P_conv (m := ((byteOf (16 * hexI (bt s 2) + hexI (bt s 3))).toNat : Int)) tok rfl rfl rfl rfl rfl (byteOf_eq _)) rfl ?_
    refine AOL.p (P_assign (v := .int .u8 _) rfl) rfl ?_
    refine AOL.p (P_assign (v := .int .i64 _) rfl) rfl ?_
    refine AOL.nil (thenN ?_)
    refine AW.ret ?_
    refine blkR ?_
    refine thenR ?_
    refine ⟨.inr rfl, [.int .u8 _, .int .i64 _], .cons (.tmp _ _ rfl) <| .cons (.tmp _ _ rfl) <| .nil, .refl _, ?_⟩
    simp only [resOf, escS]
    (first | rw [if_neg (Bool.eq_false_iff.mp hc1)] | skip); (first | rw [if_pos hc2] | skip); (first | rw [if_pos hc3] | skip)
    first | done | rfl
   ·
    refine AW.skip ?_
    refine blkN ?_
    refine thenN ?_
    refine AW.seq (AW.region ?_)
    refine AOL.p (P_assign (v := .int .u8 _) rfl) rfl ?_
    refine AOL.p (P_assign (v := .int .i64 _) rfl) rfl ?_
    refine AOL.nil (thenN ?_)
    refine AW.ret ?_
    refine ⟨.inr rfl, [.int .u8 _, .int .i64 _], .cons (.tmp _ _ rfl) <| .cons (.tmp _ _ rfl) <| .nil, .refl _, ?_⟩
    simp only [resOf, escS]
    (first | rw [if_neg (Bool.eq_false_iff.mp hc1)] | skip); (first | rw [if_pos hc2] | skip); (first | rw [if_neg (Bool.eq_false_iff.mp hc3)] | skip)
    first | done | rfl
  ·
   refine AW.skip ?_
   refine blkN ?_
   refine thenN ?_
   refine AW.seq (AW.region ?_)
   refine AOL.p (P_assign (v := .int .u8 _) rfl) rfl ?_
   refine AOL.p (P_assign (v := .int .i64 _) rfl) rfl ?_
   refine AOL.nil (thenN ?_)
   refine AW.ret ?_
   refine ⟨.inr rfl, [.int .u8 _, .int .i64 _], .cons (.tmp _ _ rfl) <| .cons (.tmp _ _ rfl) <| .nil, .refl _, ?_⟩
   simp only [resOf, escS]
   (first | rw [if_neg (Bool.eq_false_iff.mp hc1)] | skip); (first | rw [if_neg (Bool.eq_false_iff.mp hc2)] | skip)
   first | done | rfl

end Go.Proofs.YtabkeeedkhgodaaGreatDoor
