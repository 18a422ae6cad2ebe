/-
  Walks: spans, the first place of a kind of bytes. No condition.
-/
import Derived.Test.YtabkeeedkhgodaaGreatDoorW1
import Derived.KernelRfl
namespace Go.Proofs.YtabkeeedkhgodaaGreatDoor
open Go Go.Aw
set_option linter.unusedVariables false
set_option linter.unusedSimpArgs false

theorem g1 {b w : Bool} {G : List (Bool × Bool)} (h : allG ((b, w) :: G)) : b = w := h _ (List.mem_cons_self ..)
theorem drop_bt {s : Str} {k : Nat} (h : k < s.length) : s.drop k = bt s k :: s.drop (k + 1) := by
  rw [List.drop_eq_getElem_cons h]
  have : bt s k = s[k] := by simp [bt, List.getD_eq_getElem?_getD, List.getElem?_eq_getElem h]
  rw [this]
theorem span_step {p : UInt8 → Bool} {s : Str} {k : Nat} (h : (decide ((k : Int) < (s.length : Int)) && p (bt s k)) = true) : k < s.length ∧ spanS p (s.drop k) = spanS p (s.drop (k + 1)) + 1 := by
  simp only [Bool.and_eq_true, decide_eq_true_eq] at h
  have hk : k < s.length := by omega
  refine ⟨hk, ?_⟩
  rw [drop_bt hk, spanS, if_pos h.2]
theorem span_stop {p : UInt8 → Bool} {s : Str} {k : Nat} (h : (decide ((k : Int) < (s.length : Int)) && p (bt s k)) = false) : spanS p (s.drop k) = 0 := by
  by_cases hk : k < s.length
  · have h2 : p (bt s k) = false := by
      have : decide ((k : Int) < (s.length : Int)) = true := by simp; omega
      cases hq : p (bt s k) with
      | false => rfl
      | true => rw [this, hq] at h; cases h
    rw [drop_bt hk, spanS, if_neg (by simp [h2])]
  · rw [List.drop_eq_nil_of_le (by omega)]; rfl
theorem span_le (p : UInt8 → Bool) : ∀ s : Str, spanS p s ≤ s.length
  | [] => Nat.le_refl _
  | c :: r => by
    unfold spanS
    split
    · have := span_le p r; simp; omega
    · simp
theorem bc_get {s : Str} {k : Nat} (h : k < s.length) : (bcells s)[k]? = some [.int .u8 ((bt s k).toNat : Int)] := by
  simp only [bcells, List.getElem?_map, bt_get h]; rfl
theorem idx_hit {p : UInt8 → Bool} {s : Str} {k : Nat} (h : k < s.length) (hp : p (bt s k) = true) : idxS p (s.drop k) = 0 := by rw [drop_bt h, idxS, if_pos hp]
theorem idx_step {p : UInt8 → Bool} {s : Str} {k : Nat} (h : k < s.length) (hp : p (bt s k) = false) : idxS p (s.drop k) = if idxS p (s.drop (k + 1)) = -1 then -1 else idxS p (s.drop (k + 1)) + 1 := by rw [drop_bt h, idxS, if_neg (by simp [hp])]
theorem idx_ge (p : UInt8 → Bool) : ∀ s : Str, -1 ≤ idxS p s
  | [] => Int.le_refl _
  | c :: r => by
    have := idx_ge p r
    unfold idxS; split
    · decide
    · split <;> omega
theorem idx_zero (p : UInt8 → Bool) (s : Str) : idxS p s = if idxS p (s.drop 0) = -1 then -1 else ((0 : Nat) : Int) + idxS p (s.drop 0) := by
  have := idx_ge p s
  rw [List.drop_zero]
  split <;> simp_all
theorem idx_next {p : UInt8 → Bool} {s : Str} {k : Nat} (h : k < s.length) (hp : p (bt s k) = false) (h2 : idxS p s = if idxS p (s.drop k) = -1 then -1 else (k : Int) + idxS p (s.drop k)) :
    idxS p s = if idxS p (s.drop (k + 1)) = -1 then -1 else ((k + 1 : Nat) : Int) + idxS p (s.drop (k + 1)) := by
  rw [idx_step h hp] at h2
  rw [h2]
  have := idx_ge p (s.drop (k + 1))
  by_cases h3 : idxS p (s.drop (k + 1)) = -1
  · rw [if_pos h3, if_pos rfl, if_pos h3]
  · rw [if_neg h3, if_neg h3, if_neg (by omega)]; omega

set_option maxRecDepth 20000 in
set_option maxHeartbeats 400000 in
theorem c38 (s : Str) (hl : s.length ≤ 1048576) (f : Nat) (p : UInt8 → Bool) (hf : fnB Tryz.prog f = true) (hp : ∀ c, APure Tryz.prog f [.int .u8 (c.toNat : Int)] (.bool (p c))) : APure Tryz.prog 130 [.str s, .fn (.func f) [] []] (.int .i64 (spanS p s : Int)) := by
 refine APure.body (n := 20) tok Tryz.func130 rfl rfl rfl fun H => ?_
 refine AW.seq (AW.region ?_)
 refine AOL.p (P_assign (v := .int .i64 _) rfl) rfl ?_
 refine AOL.nil (thenN ?_)
 refine AW.seq (AW.region ?_)
 refine AOL.p (P_assign (v := .int .i64 _) rfl) rfl ?_
 refine AOL.nil (thenN ?_)
 refine AW.seq ?_
 refine AW.block ?_
 refine AW.loopS (fun (k : Nat) => (⟨[(0, .str s), (1, .fn (.func f) [] []), (5, .int .i64 (k : Int))], H, 20⟩ : St)) (fun (k : Nat) => k ≤ s.length ∧ spanS p s = k + spanS p (s.drop k)) (fun (k : Nat) => s.length - k) (0) ?_ (GS.weaken ⟨rfl, rfl, rfl, trivial⟩ (.refl _)) ?_
 · exact ⟨Nat.zero_le _, by simp⟩
 ·
  rintro k hR
  refine AW.seq ?_
  refine AW.seq (AW.region ?_)
  refine AOL.p (P_move (v := .int .i64 _) rfl) rfl ?_
  refine AOL.p (P_move (v := .str _) rfl) rfl ?_
  refine AOL.p (P_len_str tok rfl rfl rfl rfl) rfl ?_
  refine AOL.p (P_lss rfl rfl) rfl ?_
  refine AOL.p (P_move (v := .bool _) rfl) rfl ?_
  refine AOL.g (y := .fn _ _ _) _ [] rfl (EntL.all trivial) (fun hG => P_move (v := .fn _ _ _) rfl) rfl ?_
  refine AOL.g (y := .str _) _ [] rfl (EntL.all trivial) (fun hG => P_move (v := .str _) rfl) rfl ?_
  refine AOL.g (y := .int .i64 _) _ [] rfl (EntL.all trivial) (fun hG => P_move (v := .int .i64 _) rfl) rfl ?_
  refine AOL.g (y := .int .u8 _) _ [(12, _), (13, _)] rfl (EntL.all ⟨Ent.self _ _, Ent.self _ _, trivial⟩) (fun hG => P_index_str tok rfl rfl rfl rfl (by omega) (bt_get (i := k) (by have h9 := g1 hG; simp at h9; exact h9))) rfl ?_
  refine AOL.g (y := .bool _) _ [(14, _), (11, _)] rfl (EntL.all ⟨Ent.self _ _, Ent.self _ _, trivial⟩) (fun hG => P_call hf rfl rfl rfl (hp _)) rfl ?_
  refine AOL.p (P_pick_and rfl rfl rfl) rfl ?_
  refine AOL.nil (thenN ?_)
  refine AW.cond (b := _) rfl (fun hc1 => ?_) (fun hc1 => ?_)
  ·
   have hst := span_step hc1
   refine AW.skip ?_
   refine thenN ?_
   refine AW.block ?_
   refine AW.region ?_
   refine AOL.p (P_move (v := .int .i64 _) rfl) rfl ?_
   refine AOL.p (P_add rfl rfl rfl (by constructor <;> omega)) rfl ?_
   refine AOL.p (P_assign (v := .int .i64 _) rfl) rfl ?_
   refine AOL.nil ?_
   refine blkN ?_
   refine thenN ?_
   refine ⟨k + 1, ?_, ?_, GS.weaken ⟨rfl, rfl, rfl, trivial⟩ (.refl _)⟩
   · exact ⟨hst.1, by rw [hR.2, hst.2]; omega⟩
   · have := hst.1; omega
  ·
   have hst := span_stop hc1
   refine AW.exit ?_
   refine thenE ?_
   refine thenE ?_
   refine blkHit ?_
   refine thenN ?_
   refine AW.seq (AW.region ?_)
   refine AOL.p (P_move (v := .int .i64 _) rfl) rfl ?_
   refine AOL.p (P_assign (v := .int .i64 _) rfl) rfl ?_
   refine AOL.nil (thenN ?_)
   refine AW.ret ?_
   refine ⟨.inr rfl, [.int .i64 _], .cons (.tmp _ _ rfl) <| .nil, .refl _, ?_⟩
   have h2 := hR.2
   rw [hst] at h2
   rw [h2]; first | done | rfl
set_option maxRecDepth 20000 in
set_option maxHeartbeats 400000 in
theorem c64 (s : Str) (hl : s.length ≤ 1048576) (f : Nat) (p : UInt8 → Bool) (hf : fnB Tryz.prog f = true) (hp : ∀ c, APure Tryz.prog f [.int .u8 (c.toNat : Int)] (.bool (p c))) : APure Tryz.prog 166 [.sl 1 (bcells s), .fn (.func f) [] []] (.int .i64 (idxS p s)) := by
 refine APure.body (n := 19) tok Tryz.func166 rfl rfl rfl fun H => ?_
 refine AW.seq (AW.region ?_)
 refine AOL.p (P_assign (v := .int .i64 _) rfl) rfl ?_
 refine AOL.nil (thenN ?_)
 refine AW.seq ?_
 refine AW.seq (AW.region ?_)
 refine AOL.p (P_move (v := .sl _ _) rfl) rfl ?_
 refine AOL.p (P_len_sl (n := s.length) tok rfl rfl rfl (by simp)) rfl ?_
 refine AOL.p (P_move (v := .int .i64 _) rfl) rfl ?_
 refine AOL.nil (thenN ?_)
 refine AW.block ?_
 refine AW.loopS (fun (k : Nat) => (⟨[(0, .sl 1 (bcells s)), (1, .fn (.func f) [] []), (7, .int .i64 (s.length : Int)), (8, .int .i64 (k : Int))], H, 19⟩ : St)) (fun (k : Nat) => k ≤ s.length ∧ idxS p s = if idxS p (s.drop k) = -1 then -1 else (k : Int) + idxS p (s.drop k)) (fun (k : Nat) => s.length - k) (0) ?_ (GS.weaken ⟨rfl, rfl, rfl, rfl, trivial⟩ (.refl _)) ?_
 · exact ⟨Nat.zero_le _, idx_zero p s⟩
 ·
  rintro k hR
  refine AW.seq (AW.region ?_)
  refine AOL.p (P_lss rfl rfl) rfl ?_
  refine AOL.nil (thenN ?_)
  refine AW.seq ?_
  refine AW.cond (b := _) rfl (fun hc1 => ?_) (fun hc1 => ?_)
  ·
   have hk : k < s.length := by simp at hc1; omega
   refine AW.skip ?_
   refine thenN ?_
   refine AW.seq ?_
   refine AW.block ?_
   refine AW.seq (AW.region ?_)
   refine AOL.p (P_move (v := .int .i64 _) rfl) rfl ?_
   refine AOL.p (P_assign (v := .int .i64 _) rfl) rfl ?_
   refine AOL.nil (thenN ?_)
   refine AW.seq (AW.region ?_)
   refine AOL.p (P_move (v := .fn _ _ _) rfl) rfl ?_
   refine AOL.p (P_move (v := .sl _ _) rfl) rfl ?_
   refine AOL.p (P_move (v := .int .i64 _) rfl) rfl ?_
   refine AOL.p (P_indexAddr (c := [.int .u8 _]) tok rfl rfl rfl rfl rfl rfl (by omega) (bc_get (k := k) hk)) rfl ?_
   refine AOL.p (P_load_ptr (c := .int .u8 _) tok rfl rfl rfl) rfl ?_
   refine AOL.p (P_call hf rfl rfl rfl (hp _)) rfl ?_
   refine AOL.nil (thenN ?_)
   refine AW.cond (b := _) rfl (fun hc2 => ?_) (fun hc2 => ?_)
   ·
    refine AW.seq (AW.region ?_)
    refine AOL.p (P_move (v := .int .i64 _) rfl) rfl ?_
    refine AOL.p (P_assign (v := .int .i64 _) rfl) rfl ?_
    refine AOL.nil (thenN ?_)
    refine AW.ret ?_
    refine blkR ?_
    refine thenR ?_
    refine thenR ?_
    refine blkR ?_
    refine thenR ?_
    refine ⟨.inr rfl, [.int .i64 _], .cons (.tmp _ _ rfl) <| .nil, .refl _, ?_⟩
    have h2 := hR.2
    rw [idx_hit hk hc2, if_neg (by decide)] at h2
    rw [h2, Int.add_zero]; first | done | rfl
   ·
    refine AW.skip ?_
    refine blkN ?_
    refine thenN ?_
    refine AW.region ?_
    refine AOL.p (P_add rfl rfl rfl (by constructor <;> omega)) rfl ?_
    refine AOL.p (P_move (v := .int .i64 _) rfl) rfl ?_
    refine AOL.nil (thenN ?_)
    refine ⟨k + 1, ?_, ?_, GS.weaken ⟨rfl, rfl, rfl, rfl, trivial⟩ (.refl _)⟩
    · exact ⟨hk, idx_next hk hc2 hR.2⟩
    · omega
  ·
   have hk : s.length ≤ k := by simp at hc1; omega
   refine AW.exit ?_
   refine thenE ?_
   refine thenE ?_
   refine blkHit ?_
   refine thenN ?_
   refine AW.seq (AW.region ?_)
   refine AOL.p (P_assign (v := .int .i64 _) rfl) rfl ?_
   refine AOL.nil (thenN ?_)
   refine AW.ret ?_
   refine ⟨.inr rfl, [.int .i64 _], .cons (.tmp _ _ rfl) <| .nil, .refl _, ?_⟩
   have h2 := hR.2
   rw [List.drop_eq_nil_of_le hk] at h2
   rw [h2]; first | done | rfl
set_option maxRecDepth 20000 in
set_option maxHeartbeats 400000 in
theorem c41 (s : Str) (hl : s.length ≤ 1048576) (f : Nat) (p : UInt8 → Bool) (hf : fnB Tryz.prog f = true) (hp : ∀ c, APure Tryz.prog f [.int .u8 (c.toNat : Int)] (.bool (p c))) : APure Tryz.prog 147 [.sl 1 (bcells s), .fn (.func f) [] []] (.bool (decide (0 ≤ idxS p s))) := by
 refine APure.body (n := 9) tok Tryz.func147 rfl rfl rfl fun H => ?_
 refine AW.seq (AW.region ?_)
 refine AOL.p (P_assign (v := .bool _) rfl) rfl ?_
 refine AOL.nil (thenN ?_)
 refine AW.seq (AW.region ?_)
 refine AOL.p (P_move (v := .sl _ _) rfl) rfl ?_
 refine AOL.p (P_move (v := .fn _ _ _) rfl) rfl ?_
 refine AOL.p (P_callf (by kernel_rfl) rfl rfl (c64 s hl f p hf hp)) rfl ?_
 refine AOL.p (P_geq rfl rfl) rfl ?_
 refine AOL.p (P_assign (v := .bool _) rfl) rfl ?_
 refine AOL.nil (thenN ?_)
 refine AW.ret ?_
 refine ⟨.inr rfl, [.bool _], .cons (.tmp _ _ rfl) <| .nil, .refl _, ?_⟩
 rfl
set_option maxRecDepth 20000 in
set_option maxHeartbeats 400000 in
theorem c32 (s : Str) (hl : s.length ≤ 1048576) (h0 : 0 < s.length) : APure Tryz.prog 99 [.str s] (.int .i64 (sepS s)) := by
 refine APure.body (n := 14) tok Tryz.func99 rfl rfl rfl fun H => ?_
 refine AW.seq (AW.region ?_)
 refine AOL.p (P_assign (v := .int .i64 _) rfl) rfl ?_
 refine AOL.nil (thenN ?_)
 refine AW.seq ?_
 refine AW.block ?_
 refine AW.seq (AW.region ?_)
 refine AOL.p (P_move (v := .str _) rfl) rfl ?_
 refine AOL.p (P_index_str tok rfl rfl rfl rfl (by omega) (bt_get (i := 0) h0)) rfl ?_
 refine AOL.p (P_eql rfl rfl) rfl ?_
 refine AOL.p (P_assign (v := .bool _) rfl) rfl ?_
 refine AOL.nil (thenN ?_)
 refine AW.cond (b := _) rfl (fun hc1 => ?_) (fun hc1 => ?_)
 ·
  refine AW.seq (AW.region ?_)
  refine AOL.p (P_move (v := .str _) rfl) rfl ?_
  refine AOL.p (P_callf (by kernel_rfl) rfl rfl (c38 s hl 131 lineS (by kernel_rfl) c52)) rfl ?_
  refine AOL.p (P_assign (v := .int .i64 _) rfl) rfl ?_
  refine AOL.nil (thenN ?_)
  refine AW.ret ?_
  refine blkR ?_
  refine thenR ?_
  refine ⟨.inr rfl, [.int .i64 _], .cons (.tmp _ _ rfl) <| .nil, .refl _, ?_⟩
  simp only [resOf, sepS]
  (first | rw [if_pos hc1] | skip)
  first | done | rfl
 ·
  refine AW.seq (AW.region ?_)
  refine AOL.p (P_move (v := .str _) rfl) rfl ?_
  refine AOL.p (P_index_str tok rfl rfl rfl rfl (by omega) (bt_get (i := 0) h0)) rfl ?_
  refine AOL.p (P_callf (by kernel_rfl) rfl rfl (k53 [32, 9, 13, 10] _)) rfl ?_
  refine AOL.p (P_geq rfl rfl) rfl ?_
  refine AOL.p (P_assign (v := .bool _) rfl) rfl ?_
  refine AOL.nil (thenN ?_)
  refine AW.cond (b := _) rfl (fun hc2 => ?_) (fun hc2 => ?_)
  ·
   refine AW.seq (AW.region ?_)
   refine AOL.p (P_assign (v := .int .i64 _) rfl) rfl ?_
   refine AOL.nil (thenN ?_)
   refine AW.ret ?_
   refine blkR ?_
   refine thenR ?_
   refine ⟨.inr rfl, [.int .i64 _], .cons (.tmp _ _ rfl) <| .nil, .refl _, ?_⟩
   simp only [resOf, sepS]
   (first | rw [if_neg (Bool.eq_false_iff.mp hc1)] | skip); (first | rw [if_pos hc2] | skip)
   first | done | rfl
  ·
   refine AW.skip ?_
   refine blkN ?_
   refine thenN ?_
   refine AW.seq (AW.region ?_)
   refine AOL.p (P_assign (v := .int .i64 _) rfl) rfl ?_
   refine AOL.nil (thenN ?_)
   refine AW.ret ?_
   refine ⟨.inr rfl, [.int .i64 _], .cons (.tmp _ _ rfl) <| .nil, .refl _, ?_⟩
   simp only [resOf, sepS]
   (first | rw [if_neg (Bool.eq_false_iff.mp hc1)] | skip); (first | rw [if_neg (Bool.eq_false_iff.mp hc2)] | skip)
   first | done | rfl

end Go.Proofs.YtabkeeedkhgodaaGreatDoor
