/-
  Walks of layer 3: names. No condition.
-/
import Derived.Test.YtfpbgdjloccdbaaW1
import Derived.KernelRfl
namespace Go.Proofs.Ytfpbgdjloccdbaa
open Go Go.Aw
set_option linter.unusedVariables false
set_option linter.unusedSimpArgs false

theorem head_at {s : List UInt8} (h : s.length ≠ 0) : s[(0 : Int).toNat]? = some (s.headD 0) := by
  cases s with
  | nil => exact absurd rfl h
  | cons a r => rfl
theorem guard_len {s : List UInt8} {x : Bool} (h : allG [((((s.length : Nat) : Int) == 0 || x), false)]) : s.length ≠ 0 := by
  have h1 := h _ (List.mem_singleton.2 rfl)
  intro h0
  simp [h0] at h1
theorem byte_at {s : List UInt8} {k : Nat} {c : UInt8} (h : s[k]? = some c) : s[((k : Nat) : Int).toNat]? = some c := h
theorem name_no {s : List UInt8} (h : s.length = 0 ∨ 24 < s.length ∨ digS ((s.headD 0).toNat) = true) : nameS s = false := by
  unfold nameS
  rcases h with h | h | h
  · have e : (s.length == 0) = true := by simp [h]
    rw [e]; rfl
  · have e : decide (s.length ≤ 24) = false := by simp; omega
    rw [e, Bool.and_false, Bool.false_and, Bool.false_and]
  · rw [h, Bool.not_true, Bool.and_false, Bool.false_and]
theorem name_yes {s : List UInt8} (h : s.length ≠ 0 ∧ s.length ≤ 24 ∧ digS ((s.headD 0).toNat) = false) (ha : s.all chS = true) : nameS s = true := by
  unfold nameS
  have e1 : (s.length == 0) = false := by rw [beq_eq_false_iff_ne]; exact h.1
  have e2 : decide (s.length ≤ 24) = true := by simp; exact h.2.1
  rw [e1, e2, h.2.2, ha]; rfl
theorem name_nolet {s : List UInt8} (h : letS ((s.headD 0).toNat) = false) : nameS s = false := by
  cases s with
  | nil => rfl
  | cons a r =>
    have h1 : letS a.toNat = false := h
    cases hd : digS a.toNat with
    | true => exact name_no (.inr (.inr hd))
    | false =>
      unfold nameS
      have : (a :: r).all chS = false := by rw [List.all_cons]; unfold chS; rw [h1, hd]; rfl
      rw [this, Bool.and_false]
theorem name_bad {s : List UInt8} {c : UInt8} (hm : c ∈ s) (h : chS c = false) : s.all chS = false := by
  rw [Bool.eq_false_iff]; intro ha; rw [List.all_eq_true.1 ha c hm] at h; cases h
theorem all_take_get {s : List UInt8} {k : Nat} {c : UInt8} (hc : s[k]? = some c) (h : (s.take k).all chS = true) (hx : chS c = true) : (s.take (k + 1)).all chS = true := by
  rw [take_get hc, List.all_append, h]; simp [hx]
theorem let_dig {b : UInt8} (h : letS b.toNat = true) : digS b.toNat = false := by
  simp [letS, digS] at h ⊢; omega
theorem names_take {l : List Fi} {k : Nat} {a : Fi} (h : l[k]? = some a) : (l.take (k + 1)).map (·.name) = (l.take k).map (·.name) ++ [a.name] := by rw [take_get h]; simp
theorem tnames_take {l : List Sc} {k : Nat} {a : Sc} (h : l[k]? = some a) : (l.take (k + 1)).map (·.name) = (l.take k).map (·.name) ++ [a.name] := by rw [take_get h]; simp

set_option maxRecDepth 20000 in
set_option maxHeartbeats 400000 in
theorem c111 (n : Int) : APure Try.prog 96 [.int .u8 n] (.bool (digS n)) := by
  refine APure.body (n := 9) tok Try.func96 rfl rfl rfl fun H => ?_
  refine AW.seq ?_
  refine AW.region ?_
  refine AOL.p (P_assign (v := .bool _) rfl) rfl ?_
  refine AOL.nil ?_
  refine thenN ?_
  refine AW.seq ?_
  refine AW.region ?_
  refine AOL.p (P_move (v := .int .u8 _) rfl) rfl ?_
  refine AOL.p (P_geq rfl rfl) rfl ?_
  refine AOL.p (P_move (v := .bool _) rfl) rfl ?_
  refine AOL.g (y := .int .u8 _) _ [] rfl (EntL.all trivial) (fun hG => P_move (v := .int .u8 _) rfl) rfl ?_
  refine AOL.g (y := .bool _) _ [(6, _)] rfl (EntL.all ⟨Ent.self _ _, trivial⟩) (fun hG => P_leq rfl rfl) rfl ?_
  refine AOL.p (P_pick_and rfl rfl rfl) rfl ?_
  refine AOL.p (P_assign (v := .bool _) rfl) rfl ?_
  refine AOL.nil ?_
  refine thenN ?_
  refine AW.ret ?_
  refine ⟨.inr rfl, [.bool _], .cons (.tmp _ _ rfl) <| .nil, .refl _, ?_⟩
  rfl
set_option maxRecDepth 20000 in
set_option maxHeartbeats 400000 in
theorem c112 (n : Int) : APure Try.prog 97 [.int .u8 n] (.bool (letS n)) := by
  refine APure.body (n := 21) tok Try.func97 rfl rfl rfl fun H => ?_
  refine AW.seq ?_
  refine AW.region ?_
  refine AOL.p (P_assign (v := .bool _) rfl) rfl ?_
  refine AOL.nil ?_
  refine thenN ?_
  refine AW.seq ?_
  refine AW.region ?_
  refine AOL.p (P_move (v := .int .u8 _) rfl) rfl ?_
  refine AOL.p (P_eql rfl rfl) rfl ?_
  refine AOL.p (P_move (v := .bool _) rfl) rfl ?_
  refine AOL.g (y := .int .u8 _) _ [] rfl (EntL.all trivial) (fun hG => P_move (v := .int .u8 _) rfl) rfl ?_
  refine AOL.g (y := .bool _) _ [(6, _)] rfl (EntL.all ⟨Ent.self _ _, trivial⟩) (fun hG => P_geq rfl rfl) rfl ?_
  refine AOL.g (y := .bool _) _ [(7, _)] rfl (EntL.all ⟨Ent.self _ _, trivial⟩) (fun hG => P_move (v := .bool _) rfl) rfl ?_
  refine AOL.g (y := .int .u8 _) _ [] rfl (EntL.all trivial) (fun hG => P_move (v := .int .u8 _) rfl) rfl ?_
  refine AOL.g (y := .bool _) _ [(9, _)] rfl (EntL.all ⟨Ent.self _ _, trivial⟩) (fun hG => P_leq rfl rfl) rfl ?_
  refine AOL.g (y := .bool _) _ [(8, _), (10, _)] rfl (EntL.all ⟨Ent.self _ _, Ent.suf _ _ _, trivial⟩) (fun hG => P_pick_and rfl rfl rfl) rfl ?_
  refine AOL.p (P_pick_or rfl rfl rfl) rfl ?_
  refine AOL.p (P_move (v := .bool _) rfl) rfl ?_
  refine AOL.g (y := .int .u8 _) _ [] rfl (EntL.all trivial) (fun hG => P_move (v := .int .u8 _) rfl) rfl ?_
  refine AOL.g (y := .bool _) _ [(14, _)] rfl (EntL.all ⟨Ent.self _ _, trivial⟩) (fun hG => P_geq rfl rfl) rfl ?_
  refine AOL.g (y := .bool _) _ [(15, _)] rfl (EntL.all ⟨Ent.self _ _, trivial⟩) (fun hG => P_move (v := .bool _) rfl) rfl ?_
  refine AOL.g (y := .int .u8 _) _ [] rfl (EntL.all trivial) (fun hG => P_move (v := .int .u8 _) rfl) rfl ?_
  refine AOL.g (y := .bool _) _ [(17, _)] rfl (EntL.all ⟨Ent.self _ _, trivial⟩) (fun hG => P_leq rfl rfl) rfl ?_
  refine AOL.g (y := .bool _) _ [(16, _), (18, _)] rfl (EntL.all ⟨Ent.self _ _, Ent.suf _ _ _, trivial⟩) (fun hG => P_pick_and rfl rfl rfl) rfl ?_
  refine AOL.p (P_pick_or rfl rfl rfl) rfl ?_
  refine AOL.p (P_assign (v := .bool _) rfl) rfl ?_
  refine AOL.nil ?_
  refine thenN ?_
  refine AW.ret ?_
  refine ⟨.inr rfl, [.bool _], .cons (.tmp _ _ rfl) <| .nil, .refl _, ?_⟩
  rfl
set_option maxRecDepth 20000 in
set_option maxHeartbeats 400000 in
theorem c113 (n : Int) : APure Try.prog 71 [.int .u8 n] (.bool (letS n)) := by
  refine APure.body (n := 21) tok Try.func71 rfl rfl rfl fun H => ?_
  refine AW.seq ?_
  refine AW.region ?_
  refine AOL.p (P_assign (v := .bool _) rfl) rfl ?_
  refine AOL.nil ?_
  refine thenN ?_
  refine AW.seq ?_
  refine AW.region ?_
  refine AOL.p (P_move (v := .int .u8 _) rfl) rfl ?_
  refine AOL.p (P_geq rfl rfl) rfl ?_
  refine AOL.p (P_move (v := .bool _) rfl) rfl ?_
  refine AOL.g (y := .int .u8 _) _ [] rfl (EntL.all trivial) (fun hG => P_move (v := .int .u8 _) rfl) rfl ?_
  refine AOL.g (y := .bool _) _ [(6, _)] rfl (EntL.all ⟨Ent.self _ _, trivial⟩) (fun hG => P_leq rfl rfl) rfl ?_
  refine AOL.p (P_pick_and rfl rfl rfl) rfl ?_
  refine AOL.p (P_move (v := .bool _) rfl) rfl ?_
  refine AOL.g (y := .int .u8 _) _ [] rfl (EntL.all trivial) (fun hG => P_move (v := .int .u8 _) rfl) rfl ?_
  refine AOL.g (y := .bool _) _ [(10, _)] rfl (EntL.all ⟨Ent.self _ _, trivial⟩) (fun hG => P_geq rfl rfl) rfl ?_
  refine AOL.g (y := .bool _) _ [(11, _)] rfl (EntL.all ⟨Ent.self _ _, trivial⟩) (fun hG => P_move (v := .bool _) rfl) rfl ?_
  refine AOL.g (y := .int .u8 _) _ [] rfl (EntL.all trivial) (fun hG => P_move (v := .int .u8 _) rfl) rfl ?_
  refine AOL.g (y := .bool _) _ [(13, _)] rfl (EntL.all ⟨Ent.self _ _, trivial⟩) (fun hG => P_leq rfl rfl) rfl ?_
  refine AOL.g (y := .bool _) _ [(12, _), (14, _)] rfl (EntL.all ⟨Ent.self _ _, Ent.suf _ _ _, trivial⟩) (fun hG => P_pick_and rfl rfl rfl) rfl ?_
  refine AOL.p (P_pick_or rfl rfl rfl) rfl ?_
  refine AOL.p (P_move (v := .bool _) rfl) rfl ?_
  refine AOL.g (y := .int .u8 _) _ [] rfl (EntL.all trivial) (fun hG => P_move (v := .int .u8 _) rfl) rfl ?_
  refine AOL.g (y := .bool _) _ [(18, _)] rfl (EntL.all ⟨Ent.self _ _, trivial⟩) (fun hG => P_eql rfl rfl) rfl ?_
  refine AOL.p (P_pick_or rfl rfl rfl) rfl ?_
  refine AOL.p (P_assign (v := .bool _) rfl) rfl ?_
  refine AOL.nil ?_
  refine thenN ?_
  refine AW.ret ?_
  refine ⟨.inr rfl, [.bool _], .cons (.tmp _ _ rfl) <| .nil, .refl _, ?_⟩
  simp only [resOf, letS, AV.bool.injEq]; cases h1 : (n == 95) <;> simp
set_option maxRecDepth 20000 in
set_option maxHeartbeats 400000 in
theorem c102 (s : List UInt8) (hs : s.length ≤ 1048576) : APure Try.prog 92 [.str s] (.bool (nameS s)) := by
  refine APure.body (n := 35) tok Try.func92 rfl rfl rfl fun H => ?_
  refine AW.seq ?_
  refine AW.region ?_
  refine AOL.p (P_assign (v := .bool _) rfl) rfl ?_
  refine AOL.nil ?_
  refine thenN ?_
  refine AW.seq ?_
  refine AW.seq ?_
  refine AW.region ?_
  refine AOL.p (P_move (v := .str _) rfl) rfl ?_
  refine AOL.p (P_len_str (n := s.length) tok rfl rfl rfl (rfl)) rfl ?_
  refine AOL.p (P_eql rfl rfl) rfl ?_
  refine AOL.p (P_move (v := .bool _) rfl) rfl ?_
  refine AOL.g (y := .str _) _ [] rfl (EntL.all trivial) (fun hG => P_move (v := .str _) rfl) rfl ?_
  refine AOL.g (y := .int .i64 _) _ [(8, _)] rfl (EntL.all ⟨Ent.self _ _, trivial⟩) (fun hG => P_len_str (n := s.length) tok rfl rfl rfl (rfl)) rfl ?_
  refine AOL.g (y := .bool _) _ [(9, _)] rfl (EntL.all ⟨Ent.self _ _, trivial⟩) (fun hG => P_gtr rfl rfl) rfl ?_
  refine AOL.p (P_pick_or rfl rfl rfl) rfl ?_
  refine AOL.p (P_move (v := .bool _) rfl) rfl ?_
  refine AOL.g (y := .str _) _ [] rfl (EntL.all trivial) (fun hG => P_move (v := .str _) rfl) rfl ?_
  refine AOL.g (y := .int .u8 _) _ [(13, _)] rfl (EntL.all ⟨Ent.self _ _, trivial⟩) (fun hG => P_index_str tok rfl rfl rfl rfl (by decide) (head_at (guard_len hG))) rfl ?_
  refine AOL.g (y := .bool _) _ [(14, _)] rfl (EntL.all ⟨Ent.self _ _, trivial⟩) (fun hG => P_callf (by kernel_rfl) rfl rfl (c111 _)) rfl ?_
  refine AOL.p (P_pick_or rfl rfl rfl) rfl ?_
  refine AOL.nil ?_
  refine thenN ?_
  refine AW.cond (b := _) rfl (fun hc1 => ?_) (fun hc1 => ?_)
  · skip
    refine AW.seq ?_
    refine AW.region ?_
    refine AOL.p (P_assign (v := .bool _) rfl) rfl ?_
    refine AOL.nil ?_
    refine thenN ?_
    refine AW.ret ?_
    refine thenR ?_
    refine ⟨.inr rfl, [.bool _], .cons (.tmp _ _ rfl) <| .nil, .refl _, ?_⟩
    simp only [resOf, AV.bool.injEq]
    simp only [Bool.or_eq_true, decide_eq_true_eq, beq_iff_eq] at hc1
    rcases hc1 with (h1 | h1) | h1
    · exact (name_no (.inl (by omega))).symm
    · exact (name_no (.inr (.inl (by omega)))).symm
    · exact (name_no (.inr (.inr h1))).symm
  · skip
    have hn1 : s.length ≠ 0 ∧ s.length ≤ 24 ∧ digS ((s.headD 0).toNat) = false := by
          simp only [Bool.or_eq_false_iff, decide_eq_false_iff_not, beq_eq_false_iff_ne] at hc1
          exact ⟨by omega, by omega, hc1.2⟩
    refine AW.skip ?_
    refine thenN ?_
    refine AW.seq ?_
    refine AW.seq ?_
    refine AW.region ?_
    refine AOL.p (P_move (v := .str _) rfl) rfl ?_
    refine AOL.p (P_len_str (n := s.length) tok rfl rfl rfl (rfl)) rfl ?_
    refine AOL.p (P_move (v := .int .i64 _) rfl) rfl ?_
    refine AOL.nil ?_
    refine thenN ?_
    refine AW.block ?_
    refine AW.loopS (fun (p : Nat) => (⟨[(0, .str s), (18, .int .i64 s.length), (19, .int .i64 (p : Int))], H, 35⟩ : St)) (fun (p : Nat) => p ≤ s.length ∧ (s.take p).all chS = true) (fun (p : Nat) => s.length - p) (0) ?_ (GS.weaken ⟨rfl, rfl, rfl, trivial⟩ (.refl _)) ?_
    · exact ⟨Nat.zero_le _, by simp⟩
    · rintro p hR
      refine AW.seq ?_
      refine AW.region ?_
      refine AOL.p (P_lss rfl rfl) rfl ?_
      refine AOL.nil ?_
      refine thenN ?_
      refine AW.seq ?_
      refine AW.cond (b := _) rfl (fun hc2 => ?_) (fun hc2 => ?_)
      · skip
        obtain ⟨c, hc⟩ := get_lt hc2
        have hlt := get_lt' hc
        have hm := List.mem_of_getElem? hc
        refine AW.skip ?_
        refine thenN ?_
        refine AW.seq ?_
        refine AW.block ?_
        refine AW.seq ?_
        refine AW.region ?_
        refine AOL.p (P_move (v := .int .i64 _) rfl) rfl ?_
        refine AOL.p (P_assign (v := .int .i64 _) rfl) rfl ?_
        refine AOL.nil ?_
        refine thenN ?_
        refine AW.seq ?_
        refine AW.region ?_
        refine AOL.p (P_move (v := .str _) rfl) rfl ?_
        refine AOL.p (P_move (v := .int .i64 _) rfl) rfl ?_
        refine AOL.p (P_index_str tok rfl rfl rfl rfl (by omega) (byte_at hc)) rfl ?_
        refine AOL.p (P_callf (by kernel_rfl) rfl rfl (c112 _)) rfl ?_
        refine AOL.p (P_not rfl) rfl ?_
        refine AOL.p (P_move (v := .bool _) rfl) rfl ?_
        refine AOL.g (y := .str _) _ [] rfl (EntL.all trivial) (fun hG => P_move (v := .str _) rfl) rfl ?_
        refine AOL.g (y := .int .i64 _) _ [] rfl (EntL.all trivial) (fun hG => P_move (v := .int .i64 _) rfl) rfl ?_
        refine AOL.g (y := .int .u8 _) _ [(28, _), (29, _)] rfl (EntL.all ⟨Ent.self _ _, Ent.self _ _, trivial⟩) (fun hG => P_index_str tok rfl rfl rfl rfl (by omega) (byte_at hc)) rfl ?_
        refine AOL.g (y := .bool _) _ [(30, _)] rfl (EntL.all ⟨Ent.self _ _, trivial⟩) (fun hG => P_callf (by kernel_rfl) rfl rfl (c111 _)) rfl ?_
        refine AOL.g (y := .bool _) _ [(31, _)] rfl (EntL.all ⟨Ent.self _ _, trivial⟩) (fun hG => P_not rfl) rfl ?_
        refine AOL.p (P_pick_and rfl rfl rfl) rfl ?_
        refine AOL.nil ?_
        refine thenN ?_
        refine AW.cond (b := _) rfl (fun hc3 => ?_) (fun hc3 => ?_)
        · skip
          have hch : chS c = false := by
                unfold chS; cases hl : letS c.toNat <;> cases hd : digS c.toNat <;> simp_all
          refine AW.seq ?_
          refine AW.region ?_
          refine AOL.p (P_assign (v := .bool _) rfl) rfl ?_
          refine AOL.nil ?_
          refine thenN ?_
          refine AW.ret ?_
          refine blkR ?_
          refine thenR ?_
          refine thenR ?_
          refine blkR ?_
          refine thenR ?_
          refine ⟨.inr rfl, [.bool _], .cons (.tmp _ _ rfl) <| .nil, .refl _, ?_⟩
          simp only [resOf, AV.bool.injEq]
          symm
          unfold nameS
          rw [name_bad hm hch, Bool.and_false]
        · skip
          have hch : chS c = true := by
                unfold chS; cases hl : letS c.toNat <;> cases hd : digS c.toNat <;> simp_all
          refine AW.skip ?_
          refine blkN ?_
          refine thenN ?_
          refine AW.region ?_
          refine AOL.p (P_add rfl rfl rfl (by constructor <;> omega)) rfl ?_
          refine AOL.p (P_move (v := .int .i64 _) rfl) rfl ?_
          refine AOL.nil ?_
          refine thenN ?_
          refine ⟨p + 1, ?_, ?_, GS.weaken ⟨rfl, rfl, rfl, trivial⟩ (.refl _)⟩
          · exact ⟨hlt, all_take_get hc hR.2 hch⟩
          · omega
      · skip
        have hte := take_end hc2
        refine AW.exit ?_
        refine thenE ?_
        refine thenE ?_
        refine blkHit ?_
        refine thenN ?_
        refine AW.seq ?_
        refine AW.region ?_
        refine AOL.p (P_assign (v := .bool _) rfl) rfl ?_
        refine AOL.nil ?_
        refine thenN ?_
        refine AW.ret ?_
        refine ⟨.inr rfl, [.bool _], .cons (.tmp _ _ rfl) <| .nil, .refl _, ?_⟩
        simp only [resOf, AV.bool.injEq]
        exact (name_yes hn1 (by rw [← hte]; exact hR.2)).symm
set_option maxRecDepth 20000 in
set_option maxHeartbeats 400000 in
theorem c104 (s : List UInt8) (hs : s.length ≤ 1048576) : APure Try.prog 52 [.str s] (.bool (nameS s)) := by
  refine APure.body (n := 41) tok Try.func52 rfl rfl rfl fun H => ?_
  refine AW.seq ?_
  refine AW.region ?_
  refine AOL.p (P_assign (v := .bool _) rfl) rfl ?_
  refine AOL.nil ?_
  refine thenN ?_
  refine AW.seq ?_
  refine AW.seq ?_
  refine AW.region ?_
  refine AOL.p (P_move (v := .str _) rfl) rfl ?_
  refine AOL.p (P_len_str (n := s.length) tok rfl rfl rfl (rfl)) rfl ?_
  refine AOL.p (P_eql rfl rfl) rfl ?_
  refine AOL.p (P_move (v := .bool _) rfl) rfl ?_
  refine AOL.g (y := .str _) _ [] rfl (EntL.all trivial) (fun hG => P_move (v := .str _) rfl) rfl ?_
  refine AOL.g (y := .int .i64 _) _ [(8, _)] rfl (EntL.all ⟨Ent.self _ _, trivial⟩) (fun hG => P_len_str (n := s.length) tok rfl rfl rfl (rfl)) rfl ?_
  refine AOL.g (y := .bool _) _ [(9, _)] rfl (EntL.all ⟨Ent.self _ _, trivial⟩) (fun hG => P_gtr rfl rfl) rfl ?_
  refine AOL.p (P_pick_or rfl rfl rfl) rfl ?_
  refine AOL.p (P_move (v := .bool _) rfl) rfl ?_
  refine AOL.g (y := .str _) _ [] rfl (EntL.all trivial) (fun hG => P_move (v := .str _) rfl) rfl ?_
  refine AOL.g (y := .int .u8 _) _ [(13, _)] rfl (EntL.all ⟨Ent.self _ _, trivial⟩) (fun hG => P_index_str tok rfl rfl rfl rfl (by decide) (head_at (guard_len hG))) rfl ?_
  refine AOL.g (y := .bool _) _ [(14, _)] rfl (EntL.all ⟨Ent.self _ _, trivial⟩) (fun hG => P_callf (by kernel_rfl) rfl rfl (c113 _)) rfl ?_
  refine AOL.g (y := .bool _) _ [(15, _)] rfl (EntL.all ⟨Ent.self _ _, trivial⟩) (fun hG => P_not rfl) rfl ?_
  refine AOL.p (P_pick_or rfl rfl rfl) rfl ?_
  refine AOL.nil ?_
  refine thenN ?_
  refine AW.cond (b := _) rfl (fun hc1 => ?_) (fun hc1 => ?_)
  · skip
    refine AW.seq ?_
    refine AW.region ?_
    refine AOL.p (P_assign (v := .bool _) rfl) rfl ?_
    refine AOL.nil ?_
    refine thenN ?_
    refine AW.ret ?_
    refine thenR ?_
    refine ⟨.inr rfl, [.bool _], .cons (.tmp _ _ rfl) <| .nil, .refl _, ?_⟩
    simp only [resOf, AV.bool.injEq]
    simp only [Bool.or_eq_true, decide_eq_true_eq, beq_iff_eq, Bool.not_eq_true'] at hc1
    rcases hc1 with (h1 | h1) | h1
    · exact (name_no (.inl (by omega))).symm
    · exact (name_no (.inr (.inl (by omega)))).symm
    · exact (name_nolet h1).symm
  · skip
    have hn1 : s.length ≠ 0 ∧ s.length ≤ 24 ∧ letS ((s.headD 0).toNat) = true := by
          simp only [Bool.or_eq_false_iff, decide_eq_false_iff_not, beq_eq_false_iff_ne, Bool.not_eq_false'] at hc1
          exact ⟨by omega, by omega, hc1.2⟩
    refine AW.skip ?_
    refine thenN ?_
    refine AW.seq ?_
    refine AW.seq ?_
    refine AW.region ?_
    refine AOL.p (P_assign (v := .int .i64 _) rfl) rfl ?_
    refine AOL.nil ?_
    refine thenN ?_
    refine AW.block ?_
    refine AW.loopS (fun (p : Nat) => (⟨[(0, .str s), (3, .int .i64 (p : Int))], H, 41⟩ : St)) (fun (p : Nat) => p ≤ s.length ∧ (s.take p).all chS = true) (fun (p : Nat) => s.length - p) (0) ?_ (GS.weaken ⟨rfl, rfl, trivial⟩ (.refl _)) ?_
    · exact ⟨Nat.zero_le _, by simp⟩
    · rintro p hR
      refine AW.seq ?_
      refine AW.seq ?_
      refine AW.region ?_
      refine AOL.p (P_move (v := .int .i64 _) rfl) rfl ?_
      refine AOL.p (P_move (v := .str _) rfl) rfl ?_
      refine AOL.p (P_len_str (n := s.length) tok rfl rfl rfl (rfl)) rfl ?_
      refine AOL.p (P_lss rfl rfl) rfl ?_
      refine AOL.nil ?_
      refine thenN ?_
      refine AW.cond (b := _) rfl (fun hc2 => ?_) (fun hc2 => ?_)
      · skip
        obtain ⟨c, hc⟩ := get_lt hc2
        have hlt := get_lt' hc
        have hm := List.mem_of_getElem? hc
        refine AW.skip ?_
        refine thenN ?_
        refine AW.seq ?_
        refine AW.block ?_
        refine AW.seq ?_
        refine AW.region ?_
        refine AOL.p (P_move (v := .str _) rfl) rfl ?_
        refine AOL.p (P_move (v := .int .i64 _) rfl) rfl ?_
        refine AOL.p (P_index_str tok rfl rfl rfl rfl (by omega) (byte_at hc)) rfl ?_
        refine AOL.p (P_callf (by kernel_rfl) rfl rfl (c113 _)) rfl ?_
        refine AOL.p (P_not rfl) rfl ?_
        refine AOL.p (P_move (v := .bool _) rfl) rfl ?_
        refine AOL.g (y := .str _) _ [] rfl (EntL.all trivial) (fun hG => P_move (v := .str _) rfl) rfl ?_
        refine AOL.g (y := .int .i64 _) _ [] rfl (EntL.all trivial) (fun hG => P_move (v := .int .i64 _) rfl) rfl ?_
        refine AOL.g (y := .int .u8 _) _ [(30, _), (31, _)] rfl (EntL.all ⟨Ent.self _ _, Ent.self _ _, trivial⟩) (fun hG => P_index_str tok rfl rfl rfl rfl (by omega) (byte_at hc)) rfl ?_
        refine AOL.g (y := .bool _) _ [(32, _)] rfl (EntL.all ⟨Ent.self _ _, trivial⟩) (fun hG => P_lss rfl rfl) rfl ?_
        refine AOL.g (y := .bool _) _ [(33, _)] rfl (EntL.all ⟨Ent.self _ _, trivial⟩) (fun hG => P_move (v := .bool _) rfl) rfl ?_
        refine AOL.g (y := .str _) _ [] rfl (EntL.all trivial) (fun hG => P_move (v := .str _) rfl) rfl ?_
        refine AOL.g (y := .int .i64 _) _ [] rfl (EntL.all trivial) (fun hG => P_move (v := .int .i64 _) rfl) rfl ?_
        refine AOL.g (y := .int .u8 _) _ [(35, _), (36, _)] rfl (EntL.all ⟨Ent.self _ _, Ent.self _ _, trivial⟩) (fun hG => P_index_str tok rfl rfl rfl rfl (by omega) (byte_at hc)) rfl ?_
        refine AOL.g (y := .bool _) _ [(37, _)] rfl (EntL.all ⟨Ent.self _ _, trivial⟩) (fun hG => P_gtr rfl rfl) rfl ?_
        refine AOL.g (y := .bool _) _ [(34, _), (38, _)] rfl (EntL.all ⟨Ent.self _ _, Ent.suf _ _ _, trivial⟩) (fun hG => P_pick_or rfl rfl rfl) rfl ?_
        refine AOL.p (P_pick_and rfl rfl rfl) rfl ?_
        refine AOL.nil ?_
        refine thenN ?_
        refine AW.cond (b := _) rfl (fun hc3 => ?_) (fun hc3 => ?_)
        · skip
          have hch : chS c = false := by
                unfold chS digS; cases hl : letS c.toNat <;> simp_all <;> omega
          refine AW.seq ?_
          refine AW.region ?_
          refine AOL.p (P_assign (v := .bool _) rfl) rfl ?_
          refine AOL.nil ?_
          refine thenN ?_
          refine AW.ret ?_
          refine blkR ?_
          refine thenR ?_
          refine thenR ?_
          refine blkR ?_
          refine thenR ?_
          refine ⟨.inr rfl, [.bool _], .cons (.tmp _ _ rfl) <| .nil, .refl _, ?_⟩
          simp only [resOf, AV.bool.injEq]
          symm
          unfold nameS
          rw [name_bad hm hch, Bool.and_false]
        · skip
          have hch : chS c = true := by
                unfold chS digS; cases hl : letS c.toNat <;> simp_all <;> omega
          refine AW.skip ?_
          refine blkN ?_
          refine thenN ?_
          refine AW.region ?_
          refine AOL.p (P_move (v := .int .i64 _) rfl) rfl ?_
          refine AOL.p (P_add rfl rfl rfl (by constructor <;> omega)) rfl ?_
          refine AOL.p (P_assign (v := .int .i64 _) rfl) rfl ?_
          refine AOL.nil ?_
          refine thenN ?_
          refine ⟨p + 1, ?_, ?_, GS.weaken ⟨rfl, rfl, trivial⟩ (.refl _)⟩
          · exact ⟨hlt, all_take_get hc hR.2 hch⟩
          · omega
      · skip
        have hte := take_end hc2
        refine AW.exit ?_
        refine thenE ?_
        refine thenE ?_
        refine blkHit ?_
        refine thenN ?_
        refine AW.seq ?_
        refine AW.region ?_
        refine AOL.p (P_assign (v := .bool _) rfl) rfl ?_
        refine AOL.nil ?_
        refine thenN ?_
        refine AW.ret ?_
        refine ⟨.inr rfl, [.bool _], .cons (.tmp _ _ rfl) <| .nil, .refl _, ?_⟩
        simp only [resOf, AV.bool.injEq]
        exact (name_yes ⟨hn1.1, hn1.2.1, let_dig hn1.2.2⟩ (by rw [← hte]; exact hR.2)).symm
set_option maxRecDepth 20000 in
set_option maxHeartbeats 400000 in
theorem c103 (s : List UInt8) (hs : s.length ≤ 1048576) : APure Try.prog 93 [.str s] (.bool (fnameS s)) := by
  refine APure.body (n := 9) tok Try.func93 rfl rfl rfl fun H => ?_
  refine AW.seq ?_
  refine AW.region ?_
  refine AOL.p (P_assign (v := .bool _) rfl) rfl ?_
  refine AOL.nil ?_
  refine thenN ?_
  refine AW.seq ?_
  refine AW.region ?_
  refine AOL.p (P_move (v := .str _) rfl) rfl ?_
  refine AOL.p (P_callf (by kernel_rfl) rfl rfl (c102 s hs)) rfl ?_
  refine AOL.p (P_move (v := .bool _) rfl) rfl ?_
  refine AOL.g (y := .str _) _ [] rfl (EntL.all trivial) (fun hG => P_move (v := .str _) rfl) rfl ?_
  refine AOL.g (y := .bool _) _ [(6, _)] rfl (EntL.all ⟨Ent.self _ _, trivial⟩) (fun hG => P_neq_str rfl rfl) rfl ?_
  refine AOL.p (P_pick_and rfl rfl rfl) rfl ?_
  refine AOL.p (P_assign (v := .bool _) rfl) rfl ?_
  refine AOL.nil ?_
  refine thenN ?_
  refine AW.ret ?_
  refine ⟨.inr rfl, [.bool _], .cons (.tmp _ _ rfl) <| .nil, .refl _, ?_⟩
  rfl

end Go.Proofs.Ytfpbgdjloccdbaa
