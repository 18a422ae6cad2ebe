/-
  Walks: string literals, the next token. No condition.
-/
import Derived.Test.YtabkeeedkhgodaaGreatDoorW5
import Derived.KernelRfl
namespace Go.Proofs.YtabkeeedkhgodaaGreatDoor
open Go Go.Aw
set_option linter.unusedVariables false
set_option linter.unusedSimpArgs false

theorem litGo_eq {s : Str} {n i : Nat} {b : Str} (h : 0 < n) : litGo s n i b =
    if decide ((i : Int) < (s.length : Int)) then
      if (((bt s i).toNat : Int) == 34) then
        if decide (64 < (b.length : Int)) then foE 0 13 else foT 2 b ((i : Int) + 1)
      else if (((bt s i).toNat : Int) == 92) then
        if ((escS (s.drop i)).2 == 0) then foE i 4 else litGo s (n - 1) (i + (escS (s.drop i)).2.toNat) (b ++ [(escS (s.drop i)).1])
      else if (decide (((bt s i).toNat : Int) < 32) || decide (126 < ((bt s i).toNat : Int))) then foE i 4
      else litGo s (n - 1) (i + 1) (b ++ [bt s i])
    else foE s.length 4 := by
  cases n with
  | zero => omega
  | succ n => rfl
theorem esc_le (t : Str) : 0 ≤ (escS t).2 ∧ (escS t).2 ≤ t.length := by
  unfold escS
  split
  · rename_i h; simp at h; simp; omega
  · split
    · rename_i h; simp at h
      split <;> simp; omega
    · simp
theorem bcells_one (b : Str) (c : UInt8) : bcells (b ++ [c]) = bcells b ++ [[AV.int .u8 (c.toNat : Int)]] := bcells_append b [c]
theorem row_next {es : List (List AV)} {b : Str} (h : es = bcells b) (c : UInt8) : es ++ [[AV.int .u8 (c.toNat : Int)]] = bcells (b ++ [c]) := by rw [h, bcells_one]
theorem len_next {b : Str} {n m : Nat} (h : b.length ≤ n) (hm : n < m) (c : UInt8) : (b ++ [c]).length ≤ m := by simp; omega
/-- The recognizers in their order. -/
def recL : List (List AV) := [[.fn (.func 133) [] []], [.fn (.func 134) [] []], [.fn (.func 135) [] []]]
def recF : Nat → Str → Fo
  | 0, s => nameF s
  | 1, s => numberF s
  | _, s => litF s
theorem rec_get (k : Nat) (h : k < 3) : recL[k]? = some [.fn (.func (133 + k)) [] []] := by
  match k, h with
  | 0, _ => rfl
  | 1, _ => rfl
  | 2, _ => rfl
set_option maxRecDepth 100000 in
theorem rec_fn (k : Nat) (h : k < 3) : fnB Tryz.prog (133 + k) = true := by
  match k, h with
  | 0, _ => exact (by kernel_rfl : fnB Tryz.prog 133 = true)
  | 1, _ => exact (by kernel_rfl : fnB Tryz.prog 134 = true)
  | 2, _ => exact (by kernel_rfl : fnB Tryz.prog 135 = true)
theorem next_hit {s : Str} {k : Nat} (h : k < 3) (hk : ∀ j, j < k → hitF (recF j s) = false) (hc : hitF (recF k s) = true) : nextF s = recF k s := by
  unfold nextF
  match k, h with
  | 0, _ => rw [if_pos (show hitF (nameF s) = true from hc)]; rfl
  | 1, _ => rw [if_neg (Bool.eq_false_iff.mp (show hitF (nameF s) = false from hk 0 (by omega))), if_pos (show hitF (numberF s) = true from hc)]; rfl
  | 2, _ => rw [if_neg (Bool.eq_false_iff.mp (show hitF (nameF s) = false from hk 0 (by omega))), if_neg (Bool.eq_false_iff.mp (show hitF (numberF s) = false from hk 1 (by omega))), if_pos (show hitF (litF s) = true from hc)]; rfl
theorem next_none {s : Str} (hk : ∀ j, j < 3 → hitF (recF j s) = false) : nextF s = signF s := by
  unfold nextF
  rw [if_neg (Bool.eq_false_iff.mp (show hitF (nameF s) = false from hk 0 (by omega))), if_neg (Bool.eq_false_iff.mp (show hitF (numberF s) = false from hk 1 (by omega))), if_neg (Bool.eq_false_iff.mp (show hitF (litF s) = false from hk 2 (by omega)))]

set_option maxRecDepth 20000 in
set_option maxHeartbeats 800000 in
theorem c56 (s : Str) (hl : s.length ≤ 1048576) (h0 : 0 < s.length) : APure Tryz.prog 135 [.str s] (.agg (cFo (litF s))) := by
 refine APure.body (n := 71) tok Tryz.func135 rfl rfl rfl fun H => ?_
 refine AW.seq (AW.region ?_)
 refine AOL.e (E_alloc (l := [.int .i64 0, .str [], .int .i64 0, .int .i64 0, .int .i64 0, .int .i64 0]) (by kernel_rfl)) rfl ?_
 rintro _ _ ⟨b2, rfl, rfl⟩
 refine AOL.nil (thenN ?_)
 refine AW.seq ?_
 refine AW.seq (AW.region ?_)
 refine AOL.p (P_move (v := .str _) rfl) rfl ?_
 refine AOL.p (P_index_str tok rfl rfl rfl rfl (by omega) (bt_get (i := 0) h0)) rfl ?_
 refine AOL.p (P_neq rfl rfl) rfl ?_
 refine AOL.nil (thenN ?_)
 refine AW.cond (b := _) rfl (fun hc1 => ?_) (fun hc1 => ?_)
 ·
  refine AW.seq (AW.region ?_)
  refine AOL.p (P_build (l := [.int .i64 _, .str _, .int .i64 _, .int .i64 _, .int .i64 _, .int .i64 _]) tok rfl rfl rfl) rfl ?_
  refine AOL.e (E_store (k := 0) (v := .agg _) (cs' := [.int .i64 _, .str _, .int .i64 _, .int .i64 _, .int .i64 _, .int .i64 _]) (H2 := _ :: _) tok rfl rfl rfl rfl rfl rfl rfl rfl rfl) rfl ?_
  rintro _ _ ⟨rfl, rfl⟩
  refine AOL.nil (thenN ?_)
  refine AW.ret ?_
  refine thenR ?_
  refine ⟨.inr rfl, [.agg [.int .i64 _, .str _, .int .i64 _, .int .i64 _, .int .i64 _, .int .i64 _]], .cons (.box _ _ _ 0 _ _ _ _ rfl rfl rfl rfl rfl rfl) <| .nil, .cons _ (.refl _), ?_⟩
  simp only [resOf, litF]
  (first | rw [if_pos hc1] | skip)
  first | done | rfl
 ·
  refine AW.skip ?_
  refine thenN ?_
  refine AW.seq (AW.region ?_)
  refine AOL.p (P_assign (v := .val _) rfl) rfl ?_
  refine AOL.ghost (GS.row (t := 3) 5 1 rfl) ?_
  refine AOL.nil (thenN ?_)
  refine AW.seq ?_
  refine AW.seq (AW.region ?_)
  refine AOL.p (P_assign (v := .int .i64 _) rfl) rfl ?_
  refine AOL.nil (thenN ?_)
  refine AW.block ?_
  refine AW.loopS (fun (p : Nat × Nat × Str × List (List AV) × Value) => (⟨[(0, .str s), (2, .val (.pointer (some ⟨b2, 0, none⟩))), (3, .row p.2.2.2.2 1 p.2.2.2.1), (4, .int .i64 (p.2.1 : Int))], .row p.2.2.2.2 p.2.2.2.1.length 5 1 :: .box b2 91 [.int .i64 0, .str [], .int .i64 0, .int .i64 0, .int .i64 0, .int .i64 0] :: H, 71⟩ : St)) (fun (p : Nat × Nat × Str × List (List AV) × Value) => p.2.1 ≤ s.length ∧ s.length < p.1 + p.2.1 ∧ p.2.2.2.1 = bcells p.2.2.1 ∧ p.2.2.1.length ≤ p.2.1 ∧ litGo s (s.length + 1) 1 [] = litGo s p.1 p.2.1 p.2.2.1) (fun (p : Nat × Nat × Str × List (List AV) × Value) => p.1) ((s.length + 1, 1, [], [], .slice none 0 0)) ?_ (GS.weaken ⟨rfl, rfl, rfl, rfl, trivial⟩ (.refl _)) ?_
  · exact ⟨h0, by simp only; omega, rfl, Nat.zero_le _, rfl⟩
  ·
   rintro p hR
   have hle : p.2.1 ≤ s.length := hR.1
   have hfu : s.length < p.1 + p.2.1 := hR.2.1
   have hes : p.2.2.2.1 = bcells p.2.2.1 := hR.2.2.1
   have hbl : p.2.2.1.length ≤ p.2.1 := hR.2.2.2.1
   have hn : 0 < p.1 := by omega
   have hsc : ∀ c ∈ p.2.2.2.1, scalars c = true := by rw [hes]; exact sc_bytes _
   have hel : p.2.2.2.1.length ≤ s.length := by rw [hes, bcells_length]; omega
   refine AW.seq ?_
   refine AW.seq (AW.region ?_)
   refine AOL.p (P_move (v := .int .i64 _) rfl) rfl ?_
   refine AOL.p (P_move (v := .str _) rfl) rfl ?_
   refine AOL.p (P_len_str tok rfl rfl rfl rfl) rfl ?_
   refine AOL.p (P_lss rfl rfl) rfl ?_
   refine AOL.nil (thenN ?_)
   refine AW.cond (b := _) rfl (fun hc2 => ?_) (fun hc2 => ?_)
   ·
    have hi : p.2.1 < s.length := by simp at hc2; omega
    have hel2 := esc_le (s.drop p.2.1)
    rw [List.length_drop] at hel2
    refine AW.skip ?_
    refine thenN ?_
    refine AW.block ?_
    refine AW.seq (AW.region ?_)
    refine AOL.p (P_move (v := .str _) rfl) rfl ?_
    refine AOL.p (P_move (v := .int .i64 _) rfl) rfl ?_
    refine AOL.p (P_index_str tok rfl rfl rfl rfl (by omega) (bt_get (i := p.2.1) hi)) rfl ?_
    refine AOL.p (P_assign (v := .int .u8 _) rfl) rfl ?_
    refine AOL.nil (thenN ?_)
    refine AW.block ?_
    refine AW.seq (AW.region ?_)
    refine AOL.p (P_move (v := .int .u8 _) rfl) rfl ?_
    refine AOL.p (P_eql rfl rfl) rfl ?_
    refine AOL.p (P_assign (v := .bool _) rfl) rfl ?_
    refine AOL.nil (thenN ?_)
    refine AW.cond (b := _) rfl (fun hc3 => ?_) (fun hc3 => ?_)
    ·
     refine AW.seq ?_
     refine AW.seq (AW.region ?_)
     refine AOL.p (P_move (v := .row _ _ _) rfl) rfl ?_
     refine AOL.p (P_len_row (n := p.2.2.1.length) tok rfl rfl rfl (by rw [hes, bcells_length])) rfl ?_
     refine AOL.p (P_gtr rfl rfl) rfl ?_
     refine AOL.nil (thenN ?_)
     refine AW.cond (b := _) rfl (fun hc4 => ?_) (fun hc4 => ?_)
     ·
      refine AW.seq (AW.region ?_)
      refine AOL.p (P_build (l := [.int .i64 _, .str _, .int .i64 _, .int .i64 _, .int .i64 _, .int .i64 _]) tok rfl rfl rfl) rfl ?_
      refine AOL.e (E_store (k := 1) (v := .agg _) (cs' := [.int .i64 _, .str _, .int .i64 _, .int .i64 _, .int .i64 _, .int .i64 _]) (H2 := _ :: _ :: _) tok rfl rfl rfl rfl rfl rfl rfl rfl rfl) rfl ?_
      rintro _ _ ⟨rfl, rfl⟩
      refine AOL.nil (thenN ?_)
      refine AW.ret ?_
      refine thenR ?_
      refine blkR ?_
      refine blkR ?_
      refine thenR ?_
      refine blkR ?_
      refine thenR ?_
      refine ⟨.inr rfl, [.agg [.int .i64 _, .str _, .int .i64 _, .int .i64 _, .int .i64 _, .int .i64 _]], .cons (.box _ _ _ 1 _ _ _ _ rfl rfl rfl rfl rfl rfl) <| .nil, .cons _ (.cons _ (.refl _)), ?_⟩
      have h9 : litF s = foE 0 13 := by
       unfold litF
       rw [if_neg (Bool.eq_false_iff.mp hc1), hR.2.2.2.2, litGo_eq hn, if_pos hc2, if_pos hc3, if_pos hc4]
      rw [h9]; first | done | rfl
     ·
      refine AW.skip ?_
      refine thenN ?_
      refine AW.seq (AW.region ?_)
      refine AOL.p (P_move (v := .row _ _ _) rfl) rfl ?_
      refine AOL.p (P_bytesStr (s := p.2.2.1) tok rfl rfl rfl rfl rfl rfl rfl (by simp [maxLen]; omega) (as_row hes)) rfl ?_
      refine AOL.p (P_build (l := [.int .i64 _, .str _, .int .i64 _]) tok rfl rfl rfl) rfl ?_
      refine AOL.p (P_move (v := .int .i64 _) rfl) rfl ?_
      refine AOL.p (P_add rfl rfl rfl (by constructor <;> omega)) rfl ?_
      refine AOL.p (P_build (l := [.int .i64 _, .str _, .int .i64 _, .int .i64 _, .int .i64 _, .int .i64 _]) tok rfl rfl rfl) rfl ?_
      refine AOL.e (E_store (k := 1) (v := .agg _) (cs' := [.int .i64 _, .str _, .int .i64 _, .int .i64 _, .int .i64 _, .int .i64 _]) (H2 := _ :: _ :: _) tok rfl rfl rfl rfl rfl rfl rfl rfl rfl) rfl ?_
      rintro _ _ ⟨rfl, rfl⟩
      refine AOL.nil (thenN ?_)
      refine AW.ret ?_
      refine blkR ?_
      refine blkR ?_
      refine thenR ?_
      refine blkR ?_
      refine thenR ?_
      refine ⟨.inr rfl, [.agg [.int .i64 _, .str _, .int .i64 _, .int .i64 _, .int .i64 _, .int .i64 _]], .cons (.box _ _ _ 1 _ _ _ _ rfl rfl rfl rfl rfl rfl) <| .nil, .cons _ (.cons _ (.refl _)), ?_⟩
      have h9 : litF s = foT 2 p.2.2.1 ((p.2.1 : Int) + 1) := by
       unfold litF
       rw [if_neg (Bool.eq_false_iff.mp hc1), hR.2.2.2.2, litGo_eq hn, if_pos hc2, if_pos hc3, if_neg (Bool.eq_false_iff.mp hc4)]
      rw [h9]; first | done | rfl
    ·
     refine AW.seq (AW.region ?_)
     refine AOL.p (P_move (v := .int .u8 _) rfl) rfl ?_
     refine AOL.p (P_eql rfl rfl) rfl ?_
     refine AOL.p (P_assign (v := .bool _) rfl) rfl ?_
     refine AOL.nil (thenN ?_)
     refine AW.cond (b := _) rfl (fun hc5 => ?_) (fun hc5 => ?_)
     ·
      refine AW.seq (AW.region ?_)
      refine AOL.p (P_move (v := .str _) rfl) rfl ?_
      refine AOL.p (P_move (v := .int .i64 _) rfl) rfl ?_
      refine AOL.p (P_slice_str (l := p.2.1) (h := s.length) tok rfl rfl rfl (⟨_, rfl⟩) (rfl) (hle) (Nat.le_refl _) (congrArg (List.drop _) List.take_length)) rfl ?_
      refine AOL.p (P_callf (by kernel_rfl) rfl rfl (c70 (s.drop p.2.1) (by rw [List.length_drop]; omega))) rfl ?_
      refine AOL.p (P_move (v := .tuple _) rfl) rfl ?_
      refine AOL.p (P_extract (v := .int .u8 _) rfl rfl) rfl ?_
      refine AOL.p (P_extract (v := .int .i64 _) rfl rfl) rfl ?_
      refine AOL.p (P_assign (v := .int .u8 _) rfl) rfl ?_
      refine AOL.p (P_assign (v := .int .i64 _) rfl) rfl ?_
      refine AOL.nil (thenN ?_)
      refine AW.seq ?_
      refine AW.seq (AW.region ?_)
      refine AOL.p (P_move (v := .int .i64 _) rfl) rfl ?_
      refine AOL.p (P_eql rfl rfl) rfl ?_
      refine AOL.nil (thenN ?_)
      refine AW.cond (b := _) rfl (fun hc6 => ?_) (fun hc6 => ?_)
      ·
       refine AW.seq (AW.region ?_)
       refine AOL.p (P_move (v := .int .i64 _) rfl) rfl ?_
       refine AOL.p (P_build (l := [.int .i64 _, .str _, .int .i64 _, .int .i64 _, .int .i64 _, .int .i64 _]) tok rfl rfl rfl) rfl ?_
       refine AOL.e (E_store (k := 1) (v := .agg _) (cs' := [.int .i64 _, .str _, .int .i64 _, .int .i64 _, .int .i64 _, .int .i64 _]) (H2 := _ :: _ :: _) tok rfl rfl rfl rfl rfl rfl rfl rfl rfl) rfl ?_
       rintro _ _ ⟨rfl, rfl⟩
       refine AOL.nil (thenN ?_)
       refine AW.ret ?_
       refine thenR ?_
       refine blkR ?_
       refine blkR ?_
       refine thenR ?_
       refine blkR ?_
       refine thenR ?_
       refine ⟨.inr rfl, [.agg [.int .i64 _, .str _, .int .i64 _, .int .i64 _, .int .i64 _, .int .i64 _]], .cons (.box _ _ _ 1 _ _ _ _ rfl rfl rfl rfl rfl rfl) <| .nil, .cons _ (.cons _ (.refl _)), ?_⟩
       have h9 : litF s = foE p.2.1 4 := by
        unfold litF
        rw [if_neg (Bool.eq_false_iff.mp hc1), hR.2.2.2.2, litGo_eq hn, if_pos hc2, if_neg (Bool.eq_false_iff.mp hc3), if_pos hc5, if_pos hc6]
       rw [h9]; first | done | rfl
      ·
       have hne : (escS (s.drop p.2.1)).2 ≠ 0 := by simpa using hc6
       refine AW.skip ?_
       refine thenN ?_
       refine AW.seq (AW.region ?_)
       refine AOL.p (P_move (v := .row _ _ _) rfl) rfl ?_
       refine AOL.p (P_move (v := .int .u8 _) rfl) rfl ?_
       refine AOL.p (P_buildSlice (es := [[.int .u8 _]]) tok rfl rfl rfl rfl rfl rfl rfl rfl rfl) rfl ?_
       refine AOL.e (E_append (k := 0) tok rfl rfl rfl rfl rfl rfl rfl rfl (sc_one rfl) (hsc) (by simp; omega) (by simp [maxLen]; omega)) rfl ?_
       rintro _ _ ⟨v55, rfl, rfl⟩
       refine AOL.p (P_assign (v := .row _ _ _) rfl) rfl ?_
       refine AOL.nil (thenN ?_)
       refine AW.region ?_
       refine AOL.p (P_move (v := .int .i64 _) rfl) rfl ?_
       refine AOL.p (P_move (v := .int .i64 _) rfl) rfl ?_
       refine AOL.p (P_add rfl rfl rfl (by constructor <;> omega)) rfl ?_
       refine AOL.p (P_assign (v := .int .i64 _) rfl) rfl ?_
       refine AOL.nil ?_
       refine blkN ?_
       refine blkN ?_
       refine thenN ?_
       refine ⟨(p.1 - 1, p.2.1 + (escS (s.drop p.2.1)).2.toNat, p.2.2.1 ++ [(escS (s.drop p.2.1)).1], p.2.2.2.1 ++ [[.int .u8 ((escS (s.drop p.2.1)).1.toNat : Int)]], v55), ?_, ?_, GS.weaken ⟨rfl, rfl, rfl, congrArg (AV.int .i64) (by simp only; omega), trivial⟩ (.refl _)⟩
       · exact ⟨by simp only; omega, by simp only; omega, row_next hes _, len_next hbl (by simp only; omega) _, hR.2.2.2.2.trans (by rw [litGo_eq hn, if_pos hc2, if_neg (Bool.eq_false_iff.mp hc3), if_pos hc5, if_neg (Bool.eq_false_iff.mp hc6)])⟩
       · simp only; omega
     ·
      refine AW.seq (AW.region ?_)
      refine AOL.p (P_move (v := .int .u8 _) rfl) rfl ?_
      refine AOL.p (P_lss rfl rfl) rfl ?_
      refine AOL.p (P_move (v := .bool _) rfl) rfl ?_
      refine AOL.g (y := .int .u8 _) _ [] rfl (EntL.all trivial) (fun hG => P_move (v := .int .u8 _) rfl) rfl ?_
      refine AOL.g (y := .bool _) _ [(63, _)] rfl (EntL.all ⟨Ent.self _ _, trivial⟩) (fun hG => P_gtr rfl rfl) rfl ?_
      refine AOL.p (P_pick_or rfl rfl rfl) rfl ?_
      refine AOL.p (P_assign (v := .bool _) rfl) rfl ?_
      refine AOL.nil (thenN ?_)
      refine AW.cond (b := _) rfl (fun hc7 => ?_) (fun hc7 => ?_)
      ·
       refine AW.seq (AW.region ?_)
       refine AOL.p (P_move (v := .int .i64 _) rfl) rfl ?_
       refine AOL.p (P_build (l := [.int .i64 _, .str _, .int .i64 _, .int .i64 _, .int .i64 _, .int .i64 _]) tok rfl rfl rfl) rfl ?_
       refine AOL.e (E_store (k := 1) (v := .agg _) (cs' := [.int .i64 _, .str _, .int .i64 _, .int .i64 _, .int .i64 _, .int .i64 _]) (H2 := _ :: _ :: _) tok rfl rfl rfl rfl rfl rfl rfl rfl rfl) rfl ?_
       rintro _ _ ⟨rfl, rfl⟩
       refine AOL.nil (thenN ?_)
       refine AW.ret ?_
       refine blkR ?_
       refine blkR ?_
       refine thenR ?_
       refine blkR ?_
       refine thenR ?_
       refine ⟨.inr rfl, [.agg [.int .i64 _, .str _, .int .i64 _, .int .i64 _, .int .i64 _, .int .i64 _]], .cons (.box _ _ _ 1 _ _ _ _ rfl rfl rfl rfl rfl rfl) <| .nil, .cons _ (.cons _ (.refl _)), ?_⟩
       have h9 : litF s = foE p.2.1 4 := by
        unfold litF
        rw [if_neg (Bool.eq_false_iff.mp hc1), hR.2.2.2.2, litGo_eq hn, if_pos hc2, if_neg (Bool.eq_false_iff.mp hc3), if_neg (Bool.eq_false_iff.mp hc5), if_pos hc7]
       rw [h9]; first | done | rfl
      ·
       refine AW.seq (AW.region ?_)
       refine AOL.p (P_move (v := .row _ _ _) rfl) rfl ?_
       refine AOL.p (P_move (v := .int .u8 _) rfl) rfl ?_
       refine AOL.p (P_buildSlice (es := [[.int .u8 _]]) tok rfl rfl rfl rfl rfl rfl rfl rfl rfl) rfl ?_
       refine AOL.e (E_append (k := 0) tok rfl rfl rfl rfl rfl rfl rfl rfl (sc_one rfl) (hsc) (by simp; omega) (by simp [maxLen]; omega)) rfl ?_
       rintro _ _ ⟨v22, rfl, rfl⟩
       refine AOL.p (P_assign (v := .row _ _ _) rfl) rfl ?_
       refine AOL.nil (thenN ?_)
       refine AW.region ?_
       refine AOL.p (P_move (v := .int .i64 _) rfl) rfl ?_
       refine AOL.p (P_add rfl rfl rfl (by constructor <;> omega)) rfl ?_
       refine AOL.p (P_assign (v := .int .i64 _) rfl) rfl ?_
       refine AOL.nil ?_
       refine blkN ?_
       refine blkN ?_
       refine thenN ?_
       refine ⟨(p.1 - 1, p.2.1 + 1, p.2.2.1 ++ [bt s p.2.1], p.2.2.2.1 ++ [[.int .u8 ((bt s p.2.1).toNat : Int)]], v22), ?_, ?_, GS.weaken ⟨rfl, rfl, rfl, rfl, trivial⟩ (.refl _)⟩
       · exact ⟨by simp only; omega, by simp only; omega, row_next hes _, len_next hbl (by simp only; omega) _, hR.2.2.2.2.trans (by rw [litGo_eq hn, if_pos hc2, if_neg (Bool.eq_false_iff.mp hc3), if_neg (Bool.eq_false_iff.mp hc5), if_neg (Bool.eq_false_iff.mp hc7)])⟩
       · simp only; omega
   ·
    refine AW.exit ?_
    refine thenE ?_
    refine thenE ?_
    refine blkHit ?_
    refine thenN ?_
    refine AW.seq (AW.region ?_)
    refine AOL.p (P_move (v := .str _) rfl) rfl ?_
    refine AOL.p (P_len_str tok rfl rfl rfl rfl) rfl ?_
    refine AOL.p (P_build (l := [.int .i64 _, .str _, .int .i64 _, .int .i64 _, .int .i64 _, .int .i64 _]) tok rfl rfl rfl) rfl ?_
    refine AOL.e (E_store (k := 1) (v := .agg _) (cs' := [.int .i64 _, .str _, .int .i64 _, .int .i64 _, .int .i64 _, .int .i64 _]) (H2 := _ :: _ :: _) tok rfl rfl rfl rfl rfl rfl rfl rfl rfl) rfl ?_
    rintro _ _ ⟨rfl, rfl⟩
    refine AOL.nil (thenN ?_)
    refine AW.ret ?_
    refine ⟨.inr rfl, [.agg [.int .i64 _, .str _, .int .i64 _, .int .i64 _, .int .i64 _, .int .i64 _]], .cons (.box _ _ _ 1 _ _ _ _ rfl rfl rfl rfl rfl rfl) <| .nil, .cons _ (.cons _ (.refl _)), ?_⟩
    have h9 : litF s = foE s.length 4 := by
     unfold litF
     rw [if_neg (Bool.eq_false_iff.mp hc1), hR.2.2.2.2, litGo_eq hn, if_neg (Bool.eq_false_iff.mp hc2)]
    rw [h9]; first | done | rfl
theorem rec_call (s : Str) (hl : s.length ≤ 1048576) (h0 : 0 < s.length) (k : Nat) (h : k < 3) : APure Tryz.prog (133 + k) [.str s] (.agg (cFo (recF k s))) := by
  match k, h with
  | 0, _ => exact c54 s hl h0
  | 1, _ => exact c55 s hl h0
  | 2, _ => exact c56 s hl h0

set_option maxRecDepth 20000 in
set_option maxHeartbeats 800000 in
theorem c33 (s : Str) (hl : s.length ≤ 1048576) (h0 : 0 < s.length) : APure Tryz.prog 100 [.str s] (.agg (cFo (nextF s))) := by
 refine APure.body (n := 27) tok Tryz.func100 rfl rfl rfl fun H => ?_
 refine AW.seq (AW.region ?_)
 refine AOL.e (E_alloc (l := [.int .i64 0, .str [], .int .i64 0, .int .i64 0, .int .i64 0, .int .i64 0]) (by kernel_rfl)) rfl ?_
 rintro _ _ ⟨b2, rfl, rfl⟩
 refine AOL.nil (thenN ?_)
 refine AW.seq ?_
 refine AW.seq (AW.region ?_)
 refine AOL.p (P_buildSlice (es := [[_], [_], [_]]) tok rfl rfl rfl rfl rfl rfl rfl rfl rfl) rfl ?_
 refine AOL.p (P_len_sl tok rfl rfl rfl rfl) rfl ?_
 refine AOL.p (P_move (v := .int .i64 _) rfl) rfl ?_
 refine AOL.nil (thenN ?_)
 refine AW.block ?_
 refine AW.loopS (fun (k : Nat) => (⟨[(0, .str s), (2, .val (.pointer (some ⟨b2, 0, none⟩))), (6, .sl 1 recL), (7, .int .i64 3), (8, .int .i64 (k : Int))], .box b2 91 [.int .i64 0, .str [], .int .i64 0, .int .i64 0, .int .i64 0, .int .i64 0] :: H, 27⟩ : St)) (fun (k : Nat) => k ≤ 3 ∧ ∀ j, j < k → hitF (recF j s) = false) (fun (k : Nat) => 3 - k) (0) ?_ (GS.weaken ⟨rfl, rfl, rfl, rfl, rfl, trivial⟩ (.refl _)) ?_
 · exact ⟨Nat.zero_le _, fun j hj => absurd hj (Nat.not_lt_zero _)⟩
 ·
  rintro k hR
  refine AW.seq (AW.region ?_)
  refine AOL.p (P_lss rfl rfl) rfl ?_
  refine AOL.nil (thenN ?_)
  refine AW.seq ?_
  refine AW.cond (b := _) rfl (fun hc1 => ?_) (fun hc1 => ?_)
  ·
   have hk : k < 3 := by simp at hc1; omega
   refine AW.skip ?_
   refine thenN ?_
   refine AW.seq ?_
   refine AW.block ?_
   refine AW.seq (AW.region ?_)
   refine AOL.p (P_indexAddr (c := [.fn (.func (133 + k)) [] []]) tok rfl rfl rfl rfl rfl rfl (by omega) (rec_get k hk)) rfl ?_
   refine AOL.p (P_load_ptr (c := .fn _ _ _) tok rfl rfl rfl) rfl ?_
   refine AOL.p (P_assign (v := .fn _ _ _) rfl) rfl ?_
   refine AOL.nil (thenN ?_)
   refine AW.seq (AW.region ?_)
   refine AOL.p (P_move (v := .fn _ _ _) rfl) rfl ?_
   refine AOL.p (P_move (v := .str _) rfl) rfl ?_
   refine AOL.p (P_call (rec_fn k hk) rfl rfl rfl (rec_call s hl h0 k hk)) rfl ?_
   refine AOL.e (E_alloc (l := [.int .i64 0, .str [], .int .i64 0, .int .i64 0, .int .i64 0, .int .i64 0]) (by kernel_rfl)) rfl ?_
   rintro _ _ ⟨b5, rfl, rfl⟩
   refine AOL.e (E_store (k := 0) (v := .agg _) (cs' := [.int .i64 _, .str _, .int .i64 _, .int .i64 _, .int .i64 _, .int .i64 _]) (H2 := _ :: _ :: _) tok rfl rfl rfl rfl rfl rfl rfl rfl rfl) rfl ?_
   rintro _ _ ⟨rfl, rfl⟩
   refine AOL.ghost (GS.freeze (t := 5) 0 rfl rfl) ?_
   refine AOL.nil (thenN ?_)
   refine AW.seq (AW.region ?_)
   refine AOL.p (P_fieldAddr_ptr (cs' := [.int .i64 _, .int .i64 _, .int .i64 _]) tok rfl rfl rfl rfl rfl rfl) rfl ?_
   refine AOL.p (P_load_ptr (c := .int .i64 _) tok rfl rfl rfl) rfl ?_
   refine AOL.p (P_gtr rfl rfl) rfl ?_
   refine AOL.p (P_move (v := .bool _) rfl) rfl ?_
   refine AOL.g (y := .ptr _) _ [] rfl (EntL.all trivial) (fun hG => P_fieldAddr_ptr (cs' := [.int .i64 _]) tok rfl rfl rfl rfl rfl rfl) rfl ?_
   refine AOL.g (y := .int .i64 _) _ [(19, _)] rfl (EntL.all ⟨Ent.self _ _, trivial⟩) (fun hG => P_load_ptr (c := .int .i64 _) tok rfl rfl rfl) rfl ?_
   refine AOL.g (y := .bool _) _ [(20, _)] rfl (EntL.all ⟨Ent.self _ _, trivial⟩) (fun hG => P_neq rfl rfl) rfl ?_
   refine AOL.p (P_pick_or rfl rfl rfl) rfl ?_
   refine AOL.nil (thenN ?_)
   refine AW.cond (b := _) rfl (fun hc2 => ?_) (fun hc2 => ?_)
   ·
    refine AW.seq (AW.region ?_)
    refine AOL.p (P_load_ptr_agg (l := [.int .i64 _, .str _, .int .i64 _, .int .i64 _, .int .i64 _, .int .i64 _]) tok rfl rfl rfl rfl rfl) rfl ?_
    refine AOL.e (E_store (k := 0) (v := .agg _) (cs' := [.int .i64 _, .str _, .int .i64 _, .int .i64 _, .int .i64 _, .int .i64 _]) (H2 := _ :: _) tok rfl rfl rfl rfl rfl rfl rfl rfl rfl) rfl ?_
    rintro _ _ ⟨rfl, rfl⟩
    refine AOL.nil (thenN ?_)
    refine AW.ret ?_
    refine blkR ?_
    refine thenR ?_
    refine thenR ?_
    refine blkR ?_
    refine thenR ?_
    refine ⟨.inr rfl, [.agg [.int .i64 _, .str _, .int .i64 _, .int .i64 _, .int .i64 _, .int .i64 _]], .cons (.box _ _ _ 0 _ _ _ _ rfl rfl rfl rfl rfl rfl) <| .nil, .cons _ (.refl _), ?_⟩
    rw [next_hit hk hR.2 hc2]; first | done | rfl
   ·
    refine AW.skip ?_
    refine blkN ?_
    refine thenN ?_
    refine AW.region ?_
    refine AOL.p (P_add rfl rfl rfl (by constructor <;> omega)) rfl ?_
    refine AOL.p (P_move (v := .int .i64 _) rfl) rfl ?_
    refine AOL.nil (thenN ?_)
    refine ⟨k + 1, ?_, ?_, GS.weaken ⟨rfl, rfl, rfl, rfl, rfl, trivial⟩ (.refl _)⟩
    · exact ⟨hk, fun j hj => by rcases Nat.lt_succ_iff_lt_or_eq.1 hj with h | rfl; exact hR.2 j h; exact hc2⟩
    · omega
  ·
   have hk : k = 3 := by simp at hc1; have := hR.1; omega
   refine AW.exit ?_
   refine thenE ?_
   refine thenE ?_
   refine blkHit ?_
   refine thenN ?_
   refine AW.seq (AW.region ?_)
   refine AOL.p (P_move (v := .str _) rfl) rfl ?_
   refine AOL.p (P_callf (by kernel_rfl) rfl rfl (c57 s)) rfl ?_
   refine AOL.e (E_store (k := 0) (v := .agg _) (cs' := [.int .i64 _, .str _, .int .i64 _, .int .i64 _, .int .i64 _, .int .i64 _]) (H2 := _ :: _) tok rfl rfl rfl rfl rfl rfl rfl rfl rfl) rfl ?_
   rintro _ _ ⟨rfl, rfl⟩
   refine AOL.nil (thenN ?_)
   refine AW.ret ?_
   refine ⟨.inr rfl, [.agg [.int .i64 _, .str _, .int .i64 _, .int .i64 _, .int .i64 _, .int .i64 _]], .cons (.box _ _ _ 0 _ _ _ _ rfl rfl rfl rfl rfl rfl) <| .nil, .cons _ (.refl _), ?_⟩
   have h9 : nextF s = signF s := by subst hk; exact next_none hR.2
   rw [h9]; first | done | rfl

end Go.Proofs.YtabkeeedkhgodaaGreatDoor
