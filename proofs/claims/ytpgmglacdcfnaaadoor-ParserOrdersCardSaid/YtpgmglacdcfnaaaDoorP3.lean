/-
  The plain law, its third part: all tokens. No program in sight. No condition.
-/
import Derived.Test.YtpgmglacdcfnaaaDoorP2
namespace Go.Proofs.YtpgmglacdcfnaaaDoor
open Go Go.Aw
set_option linter.unusedVariables false
set_option linter.unusedSimpArgs false

theorem scanGo_succ {s : Str} {n i : Nat} {out : List Tok} : scanGo s (n + 1) i out =
    if decide ((i : Int) < (s.length : Int)) then
      if decide (0 < sepS (s.drop i)) then scanGo s n (i + (sepS (s.drop i)).toNat) out
      else if ((nextF (s.drop i)).err != 0) then (([], (i : Int) + (nextF (s.drop i)).pos, (nextF (s.drop i)).err) : List Tok × Int × Int)
      else scanGo s n (i + (nextF (s.drop i)).bytes.toNat) (out ++ [⟨(nextF (s.drop i)).tok.kind, (nextF (s.drop i)).tok.text, i⟩])
    else (out, 0, 0) := rfl
theorem scanGoR_succ {s : Str} {n i : Nat} {c : Bool} {out : List Tok} : scanGoR s (n + 1) i c out =
    if decide ((i : Int) < (s.length : Int)) then
      if ((c || spaceR (bt s i)) || (((bt s i).toNat : Int) == 35)) then scanGoR s n (i + 1) ((c || (((bt s i).toNat : Int) == 35)) && (((bt s i).toNat : Int) != 10)) out
      else if ((tokenR s i).2.2 != 0) then (([], (tokenR s i).2.1, (tokenR s i).2.2) : List Tok × Int × Int)
      else scanGoR s n (tokenR s i).2.1.toNat false (out ++ [(tokenR s i).1])
    else (out, 0, 0) := rfl
theorem space_eq (c : UInt8) : decide (0 ≤ Lib.indexByte [32, 9, 13, 10] c) = spaceR c := by
  have := u8_all (p := fun c => decide (0 ≤ Lib.indexByte [32, 9, 13, 10] c) == spaceR c) (by kernel_rfl) c
  exact eq_of_beq this
theorem in_text {s : Str} {i : Nat} (h : i < s.length) : decide ((i : Int) < (s.length : Int)) = true := by simp only [decide_eq_true_eq]; omega
/-- Inside a comment. -/
theorem comment_step {s : Str} {m i : Nat} {out : List Tok} (h : i < s.length) (hl : lineS (bt s i) = true) : scanGoR s (m + 1) i true out = scanGoR s m (i + 1) true out := by
  have e : (((bt s i).toNat : Int) != 10) = true := hl
  rw [scanGoR_succ, in_text h, e]
  simp
theorem comment_skip {s : Str} : ∀ (k m i : Nat) (out : List Tok), k ≤ spanS lineS (s.drop i) → scanGoR s (m + k) i true out = scanGoR s m (i + k) true out
  | 0, m, i, out, _ => rfl
  | k + 1, m, i, out, h => by
    have hi : i < s.length := by
      refine Nat.lt_of_not_le fun hge => ?_
      rw [List.drop_eq_nil_of_le hge] at h
      simp [spanS] at h
    rw [drop_bt hi, spanS] at h
    by_cases hl : lineS (bt s i) = true
    · rw [if_pos hl] at h
      rw [← Nat.add_assoc, comment_step hi hl, comment_skip k m (i + 1) out (by omega)]
      congr 1
      omega
    · rw [if_neg hl] at h; omega
theorem comment_end {s : Str} {m i : Nat} {out : List Tok} (h : spanS lineS (s.drop i) = 0) : scanGoR s (m + 1) i true out = scanGoR s (m + 1) i false out := by
  by_cases hi : i < s.length
  · have hl : ¬ lineS (bt s i) = true := by
      intro hl
      rw [drop_bt hi, spanS, if_pos hl] at h
      omega
    have e : (((bt s i).toNat : Int) != 10) = false := Bool.eq_false_iff.mpr hl
    have e2 : spaceR (bt s i) = true := by
      have : (((bt s i).toNat : Int) == 10) = true := by simpa [bne] using e
      unfold spaceR; rw [this]; simp
    rw [scanGoR_succ, scanGoR_succ, in_text hi, e, e2]
    simp
  · have e : decide ((i : Int) < (s.length : Int)) = false := by simp only [decide_eq_false_iff_not]; omega
    rw [scanGoR_succ, scanGoR_succ, e]; rfl
theorem span_skip (p : UInt8 → Bool) : ∀ t : Str, spanS p (t.drop (spanS p t)) = 0
  | [] => rfl
  | c :: r => by
    by_cases h : p c = true
    · rw [spanS, if_pos h, List.drop_succ_cons]; exact span_skip p r
    · rw [spanS, if_neg h]
      simp only [List.drop_zero]
      rw [spanS, if_neg h]
/-- A comment is passed over. -/
theorem comment_rel {s : Str} {m i : Nat} {out : List Tok} (hi : i < s.length) (hc : (((bt s i).toNat : Int) == 35) = true) (hm : s.length < m + i) :
    scanGoR s m i false out = scanGoR s (m - spanS lineS (s.drop i)) (i + spanS lineS (s.drop i)) false out := by
  have hl : lineS (bt s i) = true := by
    have := u8_all (p := fun c => decide (((c.toNat : Int) == 35) = true → lineS c = true)) (by kernel_rfl) (bt s i)
    exact (of_decide_eq_true this) hc
  have hs : spanS lineS (s.drop i) = spanS lineS (s.drop (i + 1)) + 1 := by rw [drop_bt hi, spanS, if_pos hl]
  have hle := span_le lineS (s.drop i)
  rw [List.length_drop] at hle
  have hz := span_skip lineS (s.drop i)
  rw [List.drop_drop] at hz
  generalize hq : spanS lineS (s.drop i) = q at hs hle hz ⊢
  obtain ⟨r, rfl⟩ : ∃ r, m = r + 1 + (q - 1) + 1 := ⟨m - q - 1, by omega⟩
  have e : (((bt s i).toNat : Int) != 10) = true := hl
  have h1 : scanGoR s (r + 1 + (q - 1) + 1) i false out = scanGoR s (r + 1 + (q - 1)) (i + 1) true out := by
    rw [scanGoR_succ, in_text hi, e, hc]; simp
  rw [h1, comment_skip (q - 1) (r + 1) (i + 1) out (by omega)]
  have e2 : i + 1 + (q - 1) = i + q := by omega
  have e3 : r + 1 + (q - 1) + 1 - q = r + 1 := by omega
  rw [e2, e3]
  exact comment_end hz
theorem scan_rel {s : Str} : ∀ (n m i : Nat) (out : List Tok), i ≤ s.length → s.length < n + i → s.length < m + i → scanGo s n i out = scanGoR s m i false out
  | 0, m, i, out, h1, h2, h3 => by omega
  | n + 1, m, i, out, h1, h2, h3 => by
    obtain ⟨m', rfl⟩ : ∃ m', m = m' + 1 := ⟨m - 1, by omega⟩
    by_cases hi : i < s.length
    · rw [scanGo_succ, in_text hi]
      simp only [↓reduceIte]
      have hb : bt (s.drop i) 0 = bt s i := by rw [bt_drop]; rfl
      cases hc : (((bt s i).toNat : Int) == 35) with
      | true =>
        have hsep : sepS (s.drop i) = (spanS lineS (s.drop i) : Int) := by unfold sepS; rw [hb, hc]; rfl
        have hpos : 0 < spanS lineS (s.drop i) := by
          have := u8_all (p := fun c => decide (((c.toNat : Int) == 35) = true → lineS c = true)) (by kernel_rfl) (bt s i)
          exact span_pos hi ((of_decide_eq_true this) hc)
        have hle := span_le lineS (s.drop i)
        rw [List.length_drop] at hle
        rw [hsep, comment_rel hi hc h3]
        have e : decide ((0 : Int) < (spanS lineS (s.drop i) : Int)) = true := by simp only [decide_eq_true_eq]; omega
        rw [e]
        simp only [↓reduceIte, Int.toNat_natCast]
        exact scan_rel n _ _ _ (by omega) (by omega) (by omega)
      | false =>
        cases hsp : spaceR (bt s i) with
        | true =>
          have hsep : sepS (s.drop i) = 1 := by
            unfold sepS; rw [hb, hc, space_eq, hsp]; rfl
          rw [hsep, scanGoR_succ, in_text hi, hc, hsp]
          simp only [Bool.or_true, Bool.or_false, Bool.false_or, Bool.false_and, ↓reduceIte]
          exact scan_rel n m' (i + 1) out (by omega) (by omega) (by omega)
        | false =>
          have hsep : sepS (s.drop i) = 0 := by
            unfold sepS; rw [hb, hc, space_eq, hsp]; rfl
          rw [hsep, scanGoR_succ, in_text hi, hc, hsp]
          have e0 : decide ((0 : Int) < 0) = false := by decide
          rw [e0]
          simp only [Bool.or_false, Bool.false_eq_true, ↓reduceIte]
          have hlt := next_le (s.drop i) (by rw [List.length_drop]; omega)
          rw [List.length_drop] at hlt
          rcases token_rel hi with ⟨k1, k2, k3⟩ | ⟨k1, k2⟩
          · have e1 : ((nextF (s.drop i)).err != 0) = false := by rw [k1]; rfl
            rw [k3, e1]
            simp only [bne_self_eq_false, Bool.false_eq_true, ↓reduceIte]
            have e2 : ((i : Int) + (nextF (s.drop i)).bytes).toNat = i + (nextF (s.drop i)).bytes.toNat := by omega
            rw [e2]
            exact scan_rel n m' _ _ (by omega) (by omega) (by omega)
          · have e1 : ((nextF (s.drop i)).err != 0) = true := by simpa using k1
            have e2 : ((tokenR s i).2.2 != 0) = true := by rw [k2]; exact e1
            rw [e1, e2, k2]; rfl
    · have e : decide ((i : Int) < (s.length : Int)) = false := by simp only [decide_eq_false_iff_not]; omega
      rw [scanGo_succ, scanGoR_succ, e]; rfl
theorem scan_eq (s : Str) : scanS s = scanR s := by
  unfold scanS scanR
  rw [scan_rel (s.length + 1) (s.length + 1) 0 [] (Nat.zero_le _) (by omega) (by omega)]
end Go.Proofs.YtpgmglacdcfnaaaDoor
