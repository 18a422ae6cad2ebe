/-
  Walks: the next token of the reference. No condition.
-/
import Derived.Test.YtpgmglacdcfnaaaDoorW7
import Derived.KernelRfl
namespace Go.Proofs.YtpgmglacdcfnaaaDoor
open Go Go.Aw
set_option linter.unusedVariables false
set_option linter.unusedSimpArgs false

theorem signR_le {s : Str} {k : Nat} (hk : k < s.length) : 0 ≤ signR s k ∧ (k : Int) + signR s k ≤ s.length := by
  unfold signR
  split
  · rename_i h; simp at h; omega
  · split <;> omega
theorem litGoR_le (s : Str) (k : Nat) : ∀ (n i : Nat) (b : Str), (litGoR s k n i b).2.2 = 0 → (i : Int) < (litGoR s k n i b).2.1 ∧ (litGoR s k n i b).2.1 ≤ s.length
  | 0, i, b, h => by simp [litGoR] at h
  | n + 1, i, b, h => by
    unfold litGoR at h ⊢
    split at h
    · simp at h
    · rename_i h1; simp at h1
      rw [if_neg (by simpa using h1)]
      split at h
      · rename_i h2
        rw [if_pos h2]
        split at h
        · simp at h
        · rename_i h3; rw [if_neg h3]; simp; omega
      · rename_i h2
        rw [if_neg h2]
        split at h
        · rename_i h3
          rw [if_pos h3]
          have := litGoR_le s k n _ _ h
          omega
        · rename_i h3
          rw [if_neg h3]
          split at h
          · simp at h
          · rename_i h4
            rw [if_neg h4]
            have h5 := escR_le s i
            have := litGoR_le s k n _ _ h
            simp at h4
            omega
theorem span_pos {p : UInt8 → Bool} {s : Str} {k : Nat} (hk : k < s.length) (h : p (bt s k) = true) : 0 < spanS p (s.drop k) := by rw [drop_bt hk, spanS, if_pos h]; omega
theorem wordR_le (s : Str) {k : Nat} (hk : k ≤ s.length) : k ≤ wordR s k ∧ wordR s k ≤ s.length := by
  have := span_le wordS (s.drop k)
  rw [List.length_drop] at this
  unfold wordR; omega
theorem digitsR_le (s : Str) {k : Nat} (hk : k ≤ s.length) : k ≤ digitsR s k ∧ digitsR s k ≤ s.length := by
  have := span_le digitS (s.drop k)
  rw [List.length_drop] at this
  unfold digitsR; omega
theorem tokenR_le {s : Str} {k : Nat} (hk : k < s.length) (h : (tokenR s k).2.2 = 0) : (k : Int) < (tokenR s k).2.1 ∧ (tokenR s k).2.1 ≤ s.length := by
  unfold tokenR at h ⊢
  have hw := wordR_le s (Nat.le_of_lt hk)
  have hd := digitsR_le s (Nat.le_of_lt hk)
  split at h
  · rename_i h1
    rw [if_pos h1]
    have := span_pos (p := wordS) hk (by unfold wordS; rw [h1]; rfl)
    split at h
    · simp at h
    · rename_i h2; rw [if_neg h2]; simp; unfold wordR at *; omega
  · rename_i h1
    rw [if_neg h1]
    split at h
    · rename_i h2
      rw [if_pos h2]
      have := span_pos (p := digitS) hk h2
      split at h
      · rename_i h3; simp at h3; simp at h; exact absurd h h3
      · rename_i h3
        rw [if_neg h3]
        split at h
        · simp at h
        · rename_i h4; rw [if_neg h4]; simp; unfold digitsR at *; omega
    · rename_i h2
      rw [if_neg h2]
      split at h
      · rename_i h3
        rw [if_pos h3]
        split at h
        · rename_i h4; simp at h4; simp at h; exact absurd h h4
        · rename_i h4
          rw [if_neg h4]
          have h5 : (litR s k).2.2 = 0 := by simpa using h4
          have := litGoR_le s k _ _ _ h5
          simp only
          unfold litR; omega
      · rename_i h3
        rw [if_neg h3]
        split at h
        · simp at h
        · rename_i h4
          rw [if_neg h4]
          have := signR_le hk
          simp at h4
          simp only; omega
def cTokR (r : Tok × Int × Int) : AV := .tuple [.agg (cTok r.1), .int .i64 r.2.1, .int .i64 r.2.2]

set_option maxRecDepth 20000 in
set_option maxHeartbeats 1600000 in
theorem c35 (s : Str) (hl : s.length ≤ 1048576) (k : Nat) (hk : k < s.length) : APure Tryd.prog 32 [.str s, .int .i64 (k : Int)] (cTokR (tokenR s k)) := by
  have hw := wordR_le s (Nat.le_of_lt hk)
  have hd := digitsR_le s (Nat.le_of_lt hk)
  have hsg := signR_le hk
  have hsg2 : (k : Int) + signR s k = ((k + (signR s k).toNat : Nat) : Int) := by omega
  refine APure.body (n := 126) tok Tryd.func32 rfl rfl rfl fun H => ?_
  refine AW.seq ?_
  refine AW.region ?_
  refine AOL.e (E_alloc (l := [.int .i64 0, .str [], .int .i64 0]) (by kernel_rfl)) rfl ?_
  rintro _ _ ⟨b4, rfl, rfl⟩
  refine AOL.p (P_assign (v := .int .i64 _) rfl) rfl ?_
  refine AOL.p (P_assign (v := .int .i64 _) rfl) rfl ?_
  refine AOL.nil ?_
  refine thenN ?_
  refine AW.seq ?_
  refine AW.region ?_
  refine AOL.p (P_move (v := .str _) rfl) rfl ?_
  refine AOL.p (P_move (v := .int .i64 _) rfl) rfl ?_
  refine AOL.p (P_index_str tok rfl rfl rfl rfl (by omega) (bt_get (i := k) hk)) rfl ?_
  refine AOL.p (P_assign (v := .int .u8 _) rfl) rfl ?_
  refine AOL.nil ?_
  refine thenN ?_
  refine AW.seq ?_
  refine AW.region ?_
  refine AOL.p (P_move (v := .int .i64 _) rfl) rfl ?_
  refine AOL.p (P_build (l := [.int .i64 _, .str _, .int .i64 _]) tok rfl rfl rfl) rfl ?_
  refine AOL.e (E_alloc (l := [.int .i64 0, .str [], .int .i64 0]) (by kernel_rfl)) rfl ?_
  rintro _ _ ⟨b8, rfl, rfl⟩
  refine AOL.e (E_store (k := 0) (v := .agg _) (cs' := [.int .i64 _, .str _, .int .i64 _]) (H2 := _ :: _ :: _) tok rfl rfl rfl rfl rfl rfl rfl rfl rfl) rfl ?_
  rintro _ _ ⟨rfl, rfl⟩
  refine AOL.nil ?_
  refine thenN ?_
  refine AW.seq ?_
  refine AW.seq ?_
  refine AW.region ?_
  refine AOL.p (P_move (v := .int .u8 _) rfl) rfl ?_
  refine AOL.p (P_callf (by kernel_rfl) rfl rfl (c44 _)) rfl ?_
  refine AOL.nil ?_
  refine thenN ?_
  refine AW.cond (b := _) rfl (fun hc1 => ?_) (fun hc1 => ?_)
  · skip
    refine AW.seq ?_
    refine AW.region ?_
    refine AOL.p (P_move (v := .str _) rfl) rfl ?_
    refine AOL.p (P_move (v := .int .i64 _) rfl) rfl ?_
    refine AOL.p (P_callf (by kernel_rfl) rfl rfl (c45 s hl k)) rfl ?_
    refine AOL.p (P_assign (v := .int .i64 _) rfl) rfl ?_
    refine AOL.nil ?_
    refine thenN ?_
    refine AW.seq ?_
    refine AW.seq ?_
    refine AW.region ?_
    refine AOL.p (P_move (v := .int .i64 _) rfl) rfl ?_
    refine AOL.p (P_move (v := .int .i64 _) rfl) rfl ?_
    refine AOL.p (P_sub rfl rfl rfl (by constructor <;> omega)) rfl ?_
    refine AOL.p (P_gtr rfl rfl) rfl ?_
    refine AOL.nil ?_
    refine thenN ?_
    refine AW.cond (b := _) rfl (fun hc2 => ?_) (fun hc2 => ?_)
    · skip
      refine AW.seq ?_
      refine AW.region ?_
      refine AOL.p (P_build (l := [.int .i64 _, .str _, .int .i64 _]) tok rfl rfl rfl) rfl ?_
      refine AOL.p (P_move (v := .int .i64 _) rfl) rfl ?_
      refine AOL.e (E_store (k := 1) (v := .agg _) (cs' := [.int .i64 _, .str _, .int .i64 _]) (H2 := _ :: _ :: _) tok rfl rfl rfl rfl rfl rfl rfl rfl rfl) rfl ?_
      rintro _ _ ⟨rfl, rfl⟩
      refine AOL.p (P_assign (v := .int .i64 _) rfl) rfl ?_
      refine AOL.p (P_assign (v := .int .i64 _) rfl) rfl ?_
      refine AOL.nil ?_
      refine thenN ?_
      refine AW.ret ?_
      refine thenR ?_
      refine thenR ?_
      refine ⟨.inr rfl, [.agg [.int .i64 _, .str _, .int .i64 _], .int .i64 _, .int .i64 _], .cons (.box _ _ _ 1 _ _ _ _ rfl rfl rfl rfl rfl rfl) <| .cons (.tmp _ _ rfl) <| .cons (.tmp _ _ rfl) <| .nil, .cons _ (.cons _ (.refl _)), ?_⟩
      have h9 : tokenR s k = (tokZ, (k : Int), 8) := by
        unfold tokenR
        rw [if_pos hc1, if_pos hc2]
      rw [h9]; rfl
    · skip
      refine AW.skip ?_
      refine thenN ?_
      refine AW.seq ?_
      refine AW.region ?_
      refine AOL.p (P_move (v := .str _) rfl) rfl ?_
      refine AOL.p (P_move (v := .int .i64 _) rfl) rfl ?_
      refine AOL.p (P_move (v := .int .i64 _) rfl) rfl ?_
      refine AOL.p (P_slice_str (l := k) (h := wordR s k) tok rfl rfl rfl (⟨_, rfl⟩) (⟨_, rfl⟩) (hw.1) (hw.2) (rfl)) rfl ?_
      refine AOL.p (P_fieldAddr_val tok rfl rfl rfl rfl rfl rfl) rfl ?_
      refine AOL.e (E_store (k := 0) (v := .str _) (cs' := [.int .i64 _, .str _, .int .i64 _]) (H2 := _ :: _ :: _) tok rfl rfl rfl rfl rfl rfl rfl rfl rfl) rfl ?_
      rintro _ _ ⟨rfl, rfl⟩
      refine AOL.nil ?_
      refine thenN ?_
      refine AW.seq ?_
      refine AW.region ?_
      refine AOL.pk (P_load_box_agg (k := 0) (l := [.int .i64 _, .str _, .int .i64 _]) tok rfl rfl rfl rfl rfl) rfl rfl ?_
      refine AOL.p (P_move (v := .int .i64 _) rfl) rfl ?_
      refine AOL.e (E_store (k := 1) (v := .agg _) (cs' := [.int .i64 _, .str _, .int .i64 _]) (H2 := _ :: _ :: _) tok rfl rfl rfl rfl rfl rfl rfl rfl rfl) rfl ?_
      rintro _ _ ⟨rfl, rfl⟩
      refine AOL.p (P_assign (v := .int .i64 _) rfl) rfl ?_
      refine AOL.p (P_assign (v := .int .i64 _) rfl) rfl ?_
      refine AOL.nil ?_
      refine thenN ?_
      refine AW.ret ?_
      refine thenR ?_
      refine ⟨.inr rfl, [.agg [.int .i64 _, .str _, .int .i64 _], .int .i64 _, .int .i64 _], .cons (.box _ _ _ 1 _ _ _ _ rfl rfl rfl rfl rfl rfl) <| .cons (.tmp _ _ rfl) <| .cons (.tmp _ _ rfl) <| .nil, .cons _ (.cons _ (.refl _)), ?_⟩
      have h9 : tokenR s k = (⟨0, (s.take (wordR s k)).drop k, k⟩, (wordR s k : Int), 0) := by
        unfold tokenR
        rw [if_pos hc1, if_neg (Bool.eq_false_iff.mp hc2)]
      rw [h9]; rfl
  · skip
    refine AW.skip ?_
    refine thenN ?_
    refine AW.seq ?_
    refine AW.seq ?_
    refine AW.region ?_
    refine AOL.p (P_move (v := .int .u8 _) rfl) rfl ?_
    refine AOL.p (P_callf (by kernel_rfl) rfl rfl (c40 _)) rfl ?_
    refine AOL.nil ?_
    refine thenN ?_
    refine AW.cond (b := _) rfl (fun hc3 => ?_) (fun hc3 => ?_)
    · skip
      refine AW.seq ?_
      refine AW.region ?_
      refine AOL.p (P_move (v := .int .i64 _) rfl) rfl ?_
      refine AOL.p (P_assign (v := .int .i64 _) rfl) rfl ?_
      refine AOL.nil ?_
      refine thenN ?_
      refine AW.seq ?_
      refine AW.block ?_
      refine AW.loopS (fun (p : Nat) => (⟨[(0, .str s), (1, .int .i64 (k : Int)), (4, .val (.pointer (some ⟨b4, 0, none⟩))), (8, .val (.pointer (some ⟨b8, 0, none⟩))), (10, .int .i64 (p : Int))], .box b8 37 [.int .i64 0, .str [], .int .i64 k] :: .box b4 37 [.int .i64 0, .str [], .int .i64 0] :: H, 126⟩ : St)) (fun (p : Nat) => k ≤ p ∧ digitsR s k = p + spanS digitS (s.drop p)) (fun (p : Nat) => s.length - p) (k) ?_ (GS.weaken ⟨rfl, rfl, rfl, rfl, rfl, trivial⟩ (.refl _)) ?_
      · exact ⟨Nat.le_refl _, rfl⟩
      · rintro p hR
        refine AW.seq ?_
        refine AW.seq ?_
        refine AW.region ?_
        refine AOL.p (P_move (v := .int .i64 _) rfl) rfl ?_
        refine AOL.p (P_move (v := .str _) rfl) rfl ?_
        refine AOL.p (P_len_str tok rfl rfl rfl rfl) rfl ?_
        refine AOL.p (P_lss rfl rfl) rfl ?_
        refine AOL.p (P_move (v := .bool _) rfl) rfl ?_
        refine AOL.g (y := .str _) _ [] rfl (EntL.all trivial) (fun hG => P_move (v := .str _) rfl) rfl ?_
        refine AOL.g (y := .int .i64 _) _ [] rfl (EntL.all trivial) (fun hG => P_move (v := .int .i64 _) rfl) rfl ?_
        refine AOL.g (y := .int .u8 _) _ [(48, _), (49, _)] rfl (EntL.all ⟨Ent.self _ _, Ent.self _ _, trivial⟩) (fun hG => P_index_str tok rfl rfl rfl rfl (by omega) (bt_get (i := p) (by have h9 := g1 hG; simp at h9; exact h9))) rfl ?_
        refine AOL.g (y := .bool _) _ [(50, _)] rfl (EntL.all ⟨Ent.self _ _, trivial⟩) (fun hG => P_callf (by kernel_rfl) rfl rfl (c40 _)) rfl ?_
        refine AOL.p (P_pick_and rfl rfl rfl) rfl ?_
        refine AOL.nil ?_
        refine thenN ?_
        refine AW.cond (b := _) rfl (fun hc4 => ?_) (fun hc4 => ?_)
        · skip
          have hst := span_step hc4
          have hp := hst.1
          refine AW.skip ?_
          refine thenN ?_
          refine AW.block ?_
          refine AW.region ?_
          refine AOL.p (P_move (v := .int .i64 _) rfl) rfl ?_
          refine AOL.p (P_add rfl rfl rfl (by constructor <;> omega)) rfl ?_
          refine AOL.p (P_assign (v := .int .i64 _) rfl) rfl ?_
          refine AOL.nil ?_
          refine blkN ?_
          refine thenN ?_
          refine ⟨p + 1, ?_, ?_, GS.weaken ⟨rfl, rfl, rfl, rfl, rfl, trivial⟩ (.refl _)⟩
          · exact ⟨by have := hR.1; omega, by have h2 := hR.2; have h3 := hst.2; omega⟩
          · omega
        · skip
          have hst := span_stop hc4
          have hj : digitsR s k = p := by have h2 := hR.2; omega
          have hp : p ≤ s.length := by omega
          refine AW.exit ?_
          refine thenE ?_
          refine thenE ?_
          refine blkHit ?_
          refine thenN ?_
          refine AW.seq ?_
          refine AW.seq ?_
          refine AW.region ?_
          refine AOL.p (P_move (v := .str _) rfl) rfl ?_
          refine AOL.p (P_move (v := .int .i64 _) rfl) rfl ?_
          refine AOL.p (P_move (v := .int .i64 _) rfl) rfl ?_
          refine AOL.p (P_slice_str (l := k) (h := p) tok rfl rfl rfl (⟨_, rfl⟩) (⟨_, rfl⟩) (hR.1) (hp) (rfl)) rfl ?_
          refine AOL.p (P_callf (by kernel_rfl) rfl rfl (c19 ((s.take p).drop k) (by rw [List.length_drop, List.length_take]; omega))) rfl ?_
          refine AOL.p (P_move (v := .tuple _) rfl) rfl ?_
          refine AOL.p (P_extract (v := .int .i64 _) rfl rfl) rfl ?_
          refine AOL.p (P_extract (v := .int .i64 _) rfl rfl) rfl ?_
          refine AOL.p (P_assign (v := .int .i64 _) rfl) rfl ?_
          refine AOL.p (P_assign (v := .int .i64 _) rfl) rfl ?_
          refine AOL.nil ?_
          refine thenN ?_
          refine AW.seq ?_
          refine AW.region ?_
          refine AOL.p (P_move (v := .int .i64 _) rfl) rfl ?_
          refine AOL.p (P_neq rfl rfl) rfl ?_
          refine AOL.nil ?_
          refine thenN ?_
          refine AW.cond (b := _) rfl (fun hc5 => ?_) (fun hc5 => ?_)
          · skip
            refine AW.seq ?_
            refine AW.region ?_
            refine AOL.p (P_build (l := [.int .i64 _, .str _, .int .i64 _]) tok rfl rfl rfl) rfl ?_
            refine AOL.p (P_move (v := .int .i64 _) rfl) rfl ?_
            refine AOL.p (P_move (v := .int .i64 _) rfl) rfl ?_
            refine AOL.e (E_store (k := 1) (v := .agg _) (cs' := [.int .i64 _, .str _, .int .i64 _]) (H2 := _ :: _ :: _) tok rfl rfl rfl rfl rfl rfl rfl rfl rfl) rfl ?_
            rintro _ _ ⟨rfl, rfl⟩
            refine AOL.p (P_assign (v := .int .i64 _) rfl) rfl ?_
            refine AOL.p (P_assign (v := .int .i64 _) rfl) rfl ?_
            refine AOL.nil ?_
            refine thenN ?_
            refine AW.ret ?_
            refine thenR ?_
            refine thenR ?_
            refine ⟨.inr rfl, [.agg [.int .i64 _, .str _, .int .i64 _], .int .i64 _, .int .i64 _], .cons (.box _ _ _ 1 _ _ _ _ rfl rfl rfl rfl rfl rfl) <| .cons (.tmp _ _ rfl) <| .cons (.tmp _ _ rfl) <| .nil, .cons _ (.cons _ (.refl _)), ?_⟩
            have h9 : tokenR s k = (tokZ, (k : Int), (numR ((s.take p).drop k)).2) := by
              unfold tokenR
              rw [hj, if_neg (Bool.eq_false_iff.mp hc1), if_pos hc3, if_pos hc5]
            rw [h9]; rfl
          · skip
            refine AW.skip ?_
            refine thenN ?_
            refine AW.seq ?_
            refine AW.seq ?_
            refine AW.region ?_
            refine AOL.p (P_move (v := .int .i64 _) rfl) rfl ?_
            refine AOL.p (P_move (v := .str _) rfl) rfl ?_
            refine AOL.p (P_len_str tok rfl rfl rfl rfl) rfl ?_
            refine AOL.p (P_lss rfl rfl) rfl ?_
            refine AOL.p (P_move (v := .bool _) rfl) rfl ?_
            refine AOL.g (y := .str _) _ [] rfl (EntL.all trivial) (fun hG => P_move (v := .str _) rfl) rfl ?_
            refine AOL.g (y := .int .i64 _) _ [] rfl (EntL.all trivial) (fun hG => P_move (v := .int .i64 _) rfl) rfl ?_
            refine AOL.g (y := .int .u8 _) _ [(73, _), (74, _)] rfl (EntL.all ⟨Ent.self _ _, Ent.self _ _, trivial⟩) (fun hG => P_index_str tok rfl rfl rfl rfl (by omega) (bt_get (i := p) (by have h9 := g1 hG; simp at h9; exact h9))) rfl ?_
            refine AOL.g (y := .bool _) _ [(75, _)] rfl (EntL.all ⟨Ent.self _ _, trivial⟩) (fun hG => P_callf (by kernel_rfl) rfl rfl (c44 _)) rfl ?_
            refine AOL.p (P_pick_and rfl rfl rfl) rfl ?_
            refine AOL.nil ?_
            refine thenN ?_
            refine AW.cond (b := _) rfl (fun hc6 => ?_) (fun hc6 => ?_)
            · skip
              refine AW.seq ?_
              refine AW.region ?_
              refine AOL.p (P_build (l := [.int .i64 _, .str _, .int .i64 _]) tok rfl rfl rfl) rfl ?_
              refine AOL.p (P_move (v := .int .i64 _) rfl) rfl ?_
              refine AOL.e (E_store (k := 1) (v := .agg _) (cs' := [.int .i64 _, .str _, .int .i64 _]) (H2 := _ :: _ :: _) tok rfl rfl rfl rfl rfl rfl rfl rfl rfl) rfl ?_
              rintro _ _ ⟨rfl, rfl⟩
              refine AOL.p (P_assign (v := .int .i64 _) rfl) rfl ?_
              refine AOL.p (P_assign (v := .int .i64 _) rfl) rfl ?_
              refine AOL.nil ?_
              refine thenN ?_
              refine AW.ret ?_
              refine thenR ?_
              refine thenR ?_
              refine ⟨.inr rfl, [.agg [.int .i64 _, .str _, .int .i64 _], .int .i64 _, .int .i64 _], .cons (.box _ _ _ 1 _ _ _ _ rfl rfl rfl rfl rfl rfl) <| .cons (.tmp _ _ rfl) <| .cons (.tmp _ _ rfl) <| .nil, .cons _ (.cons _ (.refl _)), ?_⟩
              have h9 : tokenR s k = (tokZ, (p : Int), 4) := by
                unfold tokenR
                rw [hj, if_neg (Bool.eq_false_iff.mp hc1), if_pos hc3, if_neg (Bool.eq_false_iff.mp hc5), if_pos hc6]
              rw [h9]; rfl
            · skip
              refine AW.skip ?_
              refine thenN ?_
              refine AW.seq ?_
              refine AW.draw mixed (fun _ => True) trivial (by kernel_rfl) ?_
              refine Canon.pure _ _ 0 _ _ rfl (by kernel_rfl) (by kernel_rfl) rfl (.run rfl (P_move (v := .str _) rfl)) ?_
              refine Canon.pure _ _ 1 _ _ rfl (by kernel_rfl) (by kernel_rfl) rfl (.run rfl (P_move (v := .int .i64 _) rfl)) ?_
              refine Canon.pure _ _ 2 _ _ rfl (by kernel_rfl) (by kernel_rfl) rfl (.run rfl (P_move (v := .int .i64 _) rfl)) ?_
              refine Canon.pure _ _ 3 _ _ rfl (by kernel_rfl) (by kernel_rfl) rfl (.run rfl (P_slice_str (l := k) (h := p) tok rfl rfl rfl (⟨_, rfl⟩) (⟨_, rfl⟩) (hR.1) (hp) (rfl))) ?_
              refine Canon.pure _ _ 4 _ _ rfl (by kernel_rfl) (by kernel_rfl) rfl (.run rfl (P_fieldAddr_val tok rfl rfl rfl rfl rfl rfl)) ?_
              refine Canon.eff _ _ 5 _ _ rfl (by kernel_rfl) rfl rfl (E_store (k := 0) (v := .int .i64 _) (cs' := [.int .i64 _, .str _, .int .i64 _]) (H2 := _ :: _ :: _) tok rfl rfl rfl rfl rfl rfl rfl rfl rfl) (fun _ _ _ => trivial) ?_
              rintro _ _ ⟨rfl, rfl⟩
              refine Canon.pure _ _ 6 _ _ rfl (by kernel_rfl) (by kernel_rfl) rfl (.run rfl (P_fieldAddr_val tok rfl rfl rfl rfl rfl rfl)) ?_
              refine Canon.eff _ _ 7 _ _ rfl (by kernel_rfl) rfl rfl (E_store (k := 0) (v := .str _) (cs' := [.int .i64 _, .str _, .int .i64 _]) (H2 := _ :: _ :: _) tok rfl rfl rfl rfl rfl rfl rfl rfl rfl) (fun _ _ _ => trivial) ?_
              rintro _ _ ⟨rfl, rfl⟩
              refine Canon.done _ _ (by kernel_rfl) ?_
              refine thenN ?_
              refine AW.seq ?_
              refine AW.region ?_
              refine AOL.pk (P_load_box_agg (k := 0) (l := [.int .i64 _, .str _, .int .i64 _]) tok rfl rfl rfl rfl rfl) rfl rfl ?_
              refine AOL.p (P_move (v := .int .i64 _) rfl) rfl ?_
              refine AOL.e (E_store (k := 1) (v := .agg _) (cs' := [.int .i64 _, .str _, .int .i64 _]) (H2 := _ :: _ :: _) tok rfl rfl rfl rfl rfl rfl rfl rfl rfl) rfl ?_
              rintro _ _ ⟨rfl, rfl⟩
              refine AOL.p (P_assign (v := .int .i64 _) rfl) rfl ?_
              refine AOL.p (P_assign (v := .int .i64 _) rfl) rfl ?_
              refine AOL.nil ?_
              refine thenN ?_
              refine AW.ret ?_
              refine thenR ?_
              refine ⟨.inr rfl, [.agg [.int .i64 _, .str _, .int .i64 _], .int .i64 _, .int .i64 _], .cons (.box _ _ _ 1 _ _ _ _ rfl rfl rfl rfl rfl rfl) <| .cons (.tmp _ _ rfl) <| .cons (.tmp _ _ rfl) <| .nil, .cons _ (.cons _ (.refl _)), ?_⟩
              have h9 : tokenR s k = (⟨1, (s.take p).drop k, k⟩, (p : Int), 0) := by
                unfold tokenR
                rw [hj, if_neg (Bool.eq_false_iff.mp hc1), if_pos hc3, if_neg (Bool.eq_false_iff.mp hc5), if_neg (Bool.eq_false_iff.mp hc6)]
              rw [h9]; rfl
    · skip
      refine AW.skip ?_
      refine thenN ?_
      refine AW.seq ?_
      refine AW.seq ?_
      refine AW.region ?_
      refine AOL.p (P_move (v := .int .u8 _) rfl) rfl ?_
      refine AOL.p (P_eql rfl rfl) rfl ?_
      refine AOL.nil ?_
      refine thenN ?_
      refine AW.cond (b := _) rfl (fun hc7 => ?_) (fun hc7 => ?_)
      · skip
        refine AW.seq ?_
        refine AW.region ?_
        refine AOL.p (P_move (v := .str _) rfl) rfl ?_
        refine AOL.p (P_move (v := .int .i64 _) rfl) rfl ?_
        refine AOL.p (P_callf (by kernel_rfl) rfl rfl (c58 s hl k hk)) rfl ?_
        refine AOL.p (P_move (v := .tuple _) rfl) rfl ?_
        refine AOL.p (P_extract (v := .str _) rfl rfl) rfl ?_
        refine AOL.p (P_extract (v := .int .i64 _) rfl rfl) rfl ?_
        refine AOL.p (P_extract (v := .int .i64 _) rfl rfl) rfl ?_
        refine AOL.p (P_assign (v := .str _) rfl) rfl ?_
        refine AOL.p (P_assign (v := .int .i64 _) rfl) rfl ?_
        refine AOL.p (P_assign (v := .int .i64 _) rfl) rfl ?_
        refine AOL.nil ?_
        refine thenN ?_
        refine AW.seq ?_
        refine AW.seq ?_
        refine AW.region ?_
        refine AOL.p (P_move (v := .int .i64 _) rfl) rfl ?_
        refine AOL.p (P_neq rfl rfl) rfl ?_
        refine AOL.nil ?_
        refine thenN ?_
        refine AW.cond (b := _) rfl (fun hc8 => ?_) (fun hc8 => ?_)
        · skip
          refine AW.seq ?_
          refine AW.region ?_
          refine AOL.p (P_build (l := [.int .i64 _, .str _, .int .i64 _]) tok rfl rfl rfl) rfl ?_
          refine AOL.p (P_move (v := .int .i64 _) rfl) rfl ?_
          refine AOL.p (P_move (v := .int .i64 _) rfl) rfl ?_
          refine AOL.e (E_store (k := 1) (v := .agg _) (cs' := [.int .i64 _, .str _, .int .i64 _]) (H2 := _ :: _ :: _) tok rfl rfl rfl rfl rfl rfl rfl rfl rfl) rfl ?_
          rintro _ _ ⟨rfl, rfl⟩
          refine AOL.p (P_assign (v := .int .i64 _) rfl) rfl ?_
          refine AOL.p (P_assign (v := .int .i64 _) rfl) rfl ?_
          refine AOL.nil ?_
          refine thenN ?_
          refine AW.ret ?_
          refine thenR ?_
          refine thenR ?_
          refine ⟨.inr rfl, [.agg [.int .i64 _, .str _, .int .i64 _], .int .i64 _, .int .i64 _], .cons (.box _ _ _ 1 _ _ _ _ rfl rfl rfl rfl rfl rfl) <| .cons (.tmp _ _ rfl) <| .cons (.tmp _ _ rfl) <| .nil, .cons _ (.cons _ (.refl _)), ?_⟩
          have h9 : tokenR s k = (tokZ, (litR s k).2.1, (litR s k).2.2) := by
            unfold tokenR
            rw [if_neg (Bool.eq_false_iff.mp hc1), if_neg (Bool.eq_false_iff.mp hc3), if_pos hc7, if_pos hc8]
          rw [h9]; rfl
        · skip
          refine AW.skip ?_
          refine thenN ?_
          refine AW.seq ?_
          refine AW.region ?_
          refine AOL.p (P_move (v := .str _) rfl) rfl ?_
          refine AOL.p (P_fieldAddr_val tok rfl rfl rfl rfl rfl rfl) rfl ?_
          refine AOL.e (E_store (k := 0) (v := .int .i64 _) (cs' := [.int .i64 _, .str _, .int .i64 _]) (H2 := _ :: _ :: _) tok rfl rfl rfl rfl rfl rfl rfl rfl rfl) rfl ?_
          rintro _ _ ⟨rfl, rfl⟩
          refine AOL.p (P_fieldAddr_val tok rfl rfl rfl rfl rfl rfl) rfl ?_
          refine AOL.e (E_store (k := 0) (v := .str _) (cs' := [.int .i64 _, .str _, .int .i64 _]) (H2 := _ :: _ :: _) tok rfl rfl rfl rfl rfl rfl rfl rfl rfl) rfl ?_
          rintro _ _ ⟨rfl, rfl⟩
          refine AOL.nil ?_
          refine thenN ?_
          refine AW.seq ?_
          refine AW.region ?_
          refine AOL.pk (P_load_box_agg (k := 0) (l := [.int .i64 _, .str _, .int .i64 _]) tok rfl rfl rfl rfl rfl) rfl rfl ?_
          refine AOL.p (P_move (v := .int .i64 _) rfl) rfl ?_
          refine AOL.e (E_store (k := 1) (v := .agg _) (cs' := [.int .i64 _, .str _, .int .i64 _]) (H2 := _ :: _ :: _) tok rfl rfl rfl rfl rfl rfl rfl rfl rfl) rfl ?_
          rintro _ _ ⟨rfl, rfl⟩
          refine AOL.p (P_assign (v := .int .i64 _) rfl) rfl ?_
          refine AOL.p (P_assign (v := .int .i64 _) rfl) rfl ?_
          refine AOL.nil ?_
          refine thenN ?_
          refine AW.ret ?_
          refine thenR ?_
          refine ⟨.inr rfl, [.agg [.int .i64 _, .str _, .int .i64 _], .int .i64 _, .int .i64 _], .cons (.box _ _ _ 1 _ _ _ _ rfl rfl rfl rfl rfl rfl) <| .cons (.tmp _ _ rfl) <| .cons (.tmp _ _ rfl) <| .nil, .cons _ (.cons _ (.refl _)), ?_⟩
          have h9 : tokenR s k = (⟨2, (litR s k).1, k⟩, (litR s k).2.1, 0) := by
            unfold tokenR
            rw [if_neg (Bool.eq_false_iff.mp hc1), if_neg (Bool.eq_false_iff.mp hc3), if_pos hc7, if_neg (Bool.eq_false_iff.mp hc8)]
          rw [h9]; rfl
      · skip
        refine AW.skip ?_
        refine thenN ?_
        refine AW.seq ?_
        refine AW.region ?_
        refine AOL.p (P_move (v := .str _) rfl) rfl ?_
        refine AOL.p (P_move (v := .int .i64 _) rfl) rfl ?_
        refine AOL.p (P_callf (by kernel_rfl) rfl rfl (c59 s hl k hk)) rfl ?_
        refine AOL.p (P_assign (v := .int .i64 _) rfl) rfl ?_
        refine AOL.nil ?_
        refine thenN ?_
        refine AW.seq ?_
        refine AW.seq ?_
        refine AW.region ?_
        refine AOL.p (P_move (v := .int .i64 _) rfl) rfl ?_
        refine AOL.p (P_eql rfl rfl) rfl ?_
        refine AOL.nil ?_
        refine thenN ?_
        refine AW.cond (b := _) rfl (fun hc9 => ?_) (fun hc9 => ?_)
        · skip
          refine AW.seq ?_
          refine AW.region ?_
          refine AOL.p (P_build (l := [.int .i64 _, .str _, .int .i64 _]) tok rfl rfl rfl) rfl ?_
          refine AOL.p (P_move (v := .int .i64 _) rfl) rfl ?_
          refine AOL.e (E_store (k := 1) (v := .agg _) (cs' := [.int .i64 _, .str _, .int .i64 _]) (H2 := _ :: _ :: _) tok rfl rfl rfl rfl rfl rfl rfl rfl rfl) rfl ?_
          rintro _ _ ⟨rfl, rfl⟩
          refine AOL.p (P_assign (v := .int .i64 _) rfl) rfl ?_
          refine AOL.p (P_assign (v := .int .i64 _) rfl) rfl ?_
          refine AOL.nil ?_
          refine thenN ?_
          refine AW.ret ?_
          refine thenR ?_
          refine ⟨.inr rfl, [.agg [.int .i64 _, .str _, .int .i64 _], .int .i64 _, .int .i64 _], .cons (.box _ _ _ 1 _ _ _ _ rfl rfl rfl rfl rfl rfl) <| .cons (.tmp _ _ rfl) <| .cons (.tmp _ _ rfl) <| .nil, .cons _ (.cons _ (.refl _)), ?_⟩
          have h9 : tokenR s k = (tokZ, (k : Int), 4) := by
            unfold tokenR
            rw [if_neg (Bool.eq_false_iff.mp hc1), if_neg (Bool.eq_false_iff.mp hc3), if_neg (Bool.eq_false_iff.mp hc7), if_pos hc9]
          rw [h9]; rfl
        · skip
          refine AW.skip ?_
          refine thenN ?_
          refine AW.seq ?_
          refine AW.draw mixed (fun _ => True) trivial (by kernel_rfl) ?_
          refine Canon.pure _ _ 0 _ _ rfl (by kernel_rfl) (by kernel_rfl) rfl (.run rfl (P_move (v := .str _) rfl)) ?_
          refine Canon.pure _ _ 1 _ _ rfl (by kernel_rfl) (by kernel_rfl) rfl (.run rfl (P_move (v := .int .i64 _) rfl)) ?_
          refine Canon.pure _ _ 2 _ _ rfl (by kernel_rfl) (by kernel_rfl) rfl (.run rfl (P_move (v := .int .i64 _) rfl)) ?_
          refine Canon.pure _ _ 3 _ _ rfl (by kernel_rfl) (by kernel_rfl) rfl (.run rfl (P_move (v := .int .i64 _) rfl)) ?_
          refine Canon.pure _ _ 4 _ _ rfl (by kernel_rfl) (by kernel_rfl) rfl (.run rfl (P_add rfl rfl rfl (by constructor <;> omega))) ?_
          refine Canon.pure _ _ 5 _ _ rfl (by kernel_rfl) (by kernel_rfl) rfl (.run rfl (P_slice_str (l := k) (h := k + (signR s k).toNat) tok rfl rfl rfl (⟨_, rfl⟩) (⟨.i64, congrArg (AV.int .i64) hsg2⟩) (by omega) (by omega) (rfl))) ?_
          refine Canon.pure _ _ 6 _ _ rfl (by kernel_rfl) (by kernel_rfl) rfl (.run rfl (P_fieldAddr_val tok rfl rfl rfl rfl rfl rfl)) ?_
          refine Canon.eff _ _ 7 _ _ rfl (by kernel_rfl) rfl rfl (E_store (k := 0) (v := .int .i64 _) (cs' := [.int .i64 _, .str _, .int .i64 _]) (H2 := _ :: _ :: _) tok rfl rfl rfl rfl rfl rfl rfl rfl rfl) (fun _ _ _ => trivial) ?_
          rintro _ _ ⟨rfl, rfl⟩
          refine Canon.pure _ _ 8 _ _ rfl (by kernel_rfl) (by kernel_rfl) rfl (.run rfl (P_fieldAddr_val tok rfl rfl rfl rfl rfl rfl)) ?_
          refine Canon.eff _ _ 9 _ _ rfl (by kernel_rfl) rfl rfl (E_store (k := 0) (v := .str _) (cs' := [.int .i64 _, .str _, .int .i64 _]) (H2 := _ :: _ :: _) tok rfl rfl rfl rfl rfl rfl rfl rfl rfl) (fun _ _ _ => trivial) ?_
          rintro _ _ ⟨rfl, rfl⟩
          refine Canon.done _ _ (by kernel_rfl) ?_
          refine thenN ?_
          refine AW.seq ?_
          refine AW.region ?_
          refine AOL.pk (P_load_box_agg (k := 0) (l := [.int .i64 _, .str _, .int .i64 _]) tok rfl rfl rfl rfl rfl) rfl rfl ?_
          refine AOL.p (P_move (v := .int .i64 _) rfl) rfl ?_
          refine AOL.p (P_move (v := .int .i64 _) rfl) rfl ?_
          refine AOL.p (P_add rfl rfl rfl (by constructor <;> omega)) rfl ?_
          refine AOL.e (E_store (k := 1) (v := .agg _) (cs' := [.int .i64 _, .str _, .int .i64 _]) (H2 := _ :: _ :: _) tok rfl rfl rfl rfl rfl rfl rfl rfl rfl) rfl ?_
          rintro _ _ ⟨rfl, rfl⟩
          refine AOL.p (P_assign (v := .int .i64 _) rfl) rfl ?_
          refine AOL.p (P_assign (v := .int .i64 _) rfl) rfl ?_
          refine AOL.nil ?_
          refine thenN ?_
          refine AW.ret ?_
          refine ⟨.inr rfl, [.agg [.int .i64 _, .str _, .int .i64 _], .int .i64 _, .int .i64 _], .cons (.box _ _ _ 1 _ _ _ _ rfl rfl rfl rfl rfl rfl) <| .cons (.tmp _ _ rfl) <| .cons (.tmp _ _ rfl) <| .nil, .cons _ (.cons _ (.refl _)), ?_⟩
          have h9 : tokenR s k = (⟨3, (s.take (k + (signR s k).toNat)).drop k, k⟩, (k : Int) + signR s k, 0) := by
            unfold tokenR
            rw [if_neg (Bool.eq_false_iff.mp hc1), if_neg (Bool.eq_false_iff.mp hc3), if_neg (Bool.eq_false_iff.mp hc7), if_neg (Bool.eq_false_iff.mp hc9)]
          rw [h9]; rfl

end Go.Proofs.YtpgmglacdcfnaaaDoor
