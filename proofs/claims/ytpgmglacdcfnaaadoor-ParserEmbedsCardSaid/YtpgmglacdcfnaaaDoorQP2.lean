/-
  The plain law, its second part: signs, the next token, all tokens. No program in sight. No condition.
-/
import Derived.Test.YtpgmglacdcfnaaaDoorQP1
namespace Go.Proofs.YtpgmglacdcfnaaaDoor
open Go Go.Aw
set_option linter.unusedVariables false
set_option linter.unusedSimpArgs false

/-! Signs. -/
def okSign : Str → Bool
  | [_] => true
  | [_, b] => b == 61
  | _ => false
def signHit (c : UInt8) (two : Bool) : Str → Bool
  | [a] => a == c
  | [a, _] => a == c && two
  | _ => false
theorem signGo_hit (c : UInt8) (r : Str) : ∀ l : List Str, l.all okSign = true → signGo (c :: r) l = match l.find? (signHit c (Lib.hasPrefix r [61])) with | none => foE 0 4 | some x => foT 3 x x.length
  | [], _ => rfl
  | x :: l, h => by
    simp only [List.all_cons, Bool.and_eq_true] at h
    have e : Lib.hasPrefix (c :: r) x = signHit c (Lib.hasPrefix r [61]) x := by
      match x, h.1 with
      | [a], _ => simp [Lib.hasPrefix, signHit, List.isPrefixOf]
      | [a, b], h => 
        have : b = 61 := by simpa [okSign] using h
        subst this
        simp [Lib.hasPrefix, signHit, List.isPrefixOf]
    rw [signGo, e, List.find?_cons]
    cases signHit c (Lib.hasPrefix r [61]) x with
    | true => rfl
    | false => simpa using signGo_hit c r l h.2
def signV (c : UInt8) (two : Bool) : Option Str := signL.find? (signHit c two)
def signN (c : UInt8) (two : Bool) : Int := if sign2 c && two then 2 else if sign1 c then 1 else 0
theorem signV_N (c : UInt8) (two : Bool) : (signV c two = none ∧ signN c two = 0) ∨ (two = true ∧ signV c two = some [c, 61] ∧ signN c two = 2) ∨ (signV c two = some [c] ∧ signN c two = 1) := by
  cases two with
  | true =>
    have := u8_all (p := fun c => decide ((signV c true = none ∧ signN c true = 0) ∨ (true = true ∧ signV c true = some [c, 61] ∧ signN c true = 2) ∨ (signV c true = some [c] ∧ signN c true = 1))) (by kernel_rfl) c
    exact of_decide_eq_true this
  | false =>
    have := u8_all (p := fun c => decide ((signV c false = none ∧ signN c false = 0) ∨ (false = true ∧ signV c false = some [c, 61] ∧ signN c false = 2) ∨ (signV c false = some [c] ∧ signN c false = 1))) (by kernel_rfl) c
    exact of_decide_eq_true this
theorem sign_rel {s : Str} {i : Nat} (hi : i < s.length) : (signR s i = 0 ∧ signF (s.drop i) = foE 0 4) ∨ (0 < signR s i ∧ signF (s.drop i) = foT 3 ((s.drop i).take (signR s i).toNat) (signR s i)) := by
  have ht : (decide ((i : Int) + 1 < (s.length : Int)) && (((bt s (i + 1)).toNat : Int) == 61)) = Lib.hasPrefix (s.drop (i + 1)) [61] := by
    by_cases h : i + 1 < s.length
    · have e1 : decide ((i : Int) + 1 < (s.length : Int)) = true := by simp only [decide_eq_true_eq]; omega
      rw [e1, drop_bt h, Bool.true_and]
      have := u8_all (p := fun c => decide (((c.toNat : Int) == 61) = ((61 : UInt8) == c))) (by kernel_rfl) (bt s (i + 1))
      rw [of_decide_eq_true this]
      simp [Lib.hasPrefix, List.isPrefixOf]
    · have e1 : decide ((i : Int) + 1 < (s.length : Int)) = false := by simp only [decide_eq_false_iff_not]; omega
      rw [e1, List.drop_eq_nil_of_le (by omega)]; rfl
  have hR : signR s i = signN (bt s i) (Lib.hasPrefix (s.drop (i + 1)) [61]) := by
    unfold signR signN
    rw [Bool.and_assoc, ht]
  have hF : signF (s.drop i) = match signV (bt s i) (Lib.hasPrefix (s.drop (i + 1)) [61]) with | none => foE 0 4 | some x => foT 3 x x.length := by
    unfold signF
    rw [drop_bt hi]
    exact signGo_hit _ _ signL (by decide)
  rw [hR, hF]
  rcases signV_N (bt s i) (Lib.hasPrefix (s.drop (i + 1)) [61]) with ⟨h1, h2⟩ | ⟨h0, h1, h2⟩ | ⟨h1, h2⟩
  · rw [h1, h2]; exact .inl ⟨rfl, rfl⟩
  · rw [h1, h2]
    refine .inr ⟨by decide, ?_⟩
    have : ∃ r, s.drop (i + 1) = 61 :: r := by
      cases hr : s.drop (i + 1) with
      | nil => rw [hr] at h0; cases h0
      | cons a r =>
        rw [hr] at h0
        have h5 : ((61 : UInt8) == a) = true := by simpa [Lib.hasPrefix, List.isPrefixOf] using h0
        exact ⟨r, by rw [← eq_of_beq h5]⟩
    obtain ⟨r, hr⟩ := this
    rw [drop_bt hi, hr]; rfl
  · rw [h1, h2]
    refine .inr ⟨by decide, ?_⟩
    rw [drop_bt hi]; rfl

/-! Numbers. -/
theorem span_lt : ∀ s : Str, (spanS digitS s < s.length) ↔ s.all digitS = false
  | [] => by simp [spanS]
  | c :: r => by
    have ih := span_lt r
    by_cases hd : digitS c = true
    · have e1 : spanS digitS (c :: r) = spanS digitS r + 1 := by rw [spanS, if_pos hd]
      have e2 : (c :: r).all digitS = r.all digitS := by rw [List.all_cons, hd, Bool.true_and]
      rw [e1, e2, ← ih, List.length_cons]; omega
    · have e1 : spanS digitS (c :: r) = 0 := by rw [spanS, if_neg hd]
      have e2 : (c :: r).all digitS = false := by rw [List.all_cons, Bool.eq_false_iff.mpr hd, Bool.false_and]
      rw [e1, e2]; simp
theorem num_eq (s : Str) : numR s = numS s := by
  unfold numR numS
  have h2 : decide ((spanS digitS s : Int) < (s.length : Int)) = !(s.all digitS) := by
    rw [Bool.eq_iff_iff, decide_eq_true_eq, Bool.not_eq_true', ← span_lt]; omega
  rw [h2]
  cases (s == []) with
  | true => rfl
  | false => cases s.all digitS <;> rfl

/-! The next token. -/
def TRel (i : Nat) (f : Fo) (r : Tok × Int × Int) : Prop :=
  (f.err = 0 ∧ 0 < f.bytes ∧ r = (⟨f.tok.kind, f.tok.text, i⟩, (i : Int) + f.bytes, 0)) ∨ (f.err ≠ 0 ∧ r.2 = ((i : Int) + f.pos, f.err))
theorem hit_err {pos e : Int} (h : e ≠ 0) : hitF (foE pos e) = true := by
  unfold hitF foE
  simp [h]
theorem hit_tok {k : Int} {t : Str} {n : Int} (h : 0 < n) : hitF (foT k t n) = true := by
  unfold hitF foT
  simp [h]
theorem quote_byte {c : UInt8} : ((c.toNat : Int) == 34) = true → letterS c = false ∧ digitS c = false := by
  have := u8_all (p := fun c => decide (((c.toNat : Int) == 34) = true → letterS c = false ∧ digitS c = false)) (by kernel_rfl) c
  exact of_decide_eq_true this
theorem token_rel {s : Str} {i : Nat} (hi : i < s.length) : TRel i (nextF (s.drop i)) (tokenR s i) := by
  have hb : bt (s.drop i) 0 = bt s i := by rw [bt_drop]; rfl
  have hl : (s.drop i).length = s.length - i := List.length_drop ..
  unfold nextF tokenR
  cases h1 : letterS (bt s i) with
  | true =>
    have hn : nameF (s.drop i) = if decide (24 < (spanS wordS (s.drop i) : Int)) then foE 0 8 else foT 0 ((s.drop i).take (spanS wordS (s.drop i))) (spanS wordS (s.drop i)) := by
      unfold nameF; rw [hb, h1]; rfl
    have hp := span_pos (p := wordS) hi (by unfold wordS; rw [h1]; rfl)
    have hw : wordR s i = i + spanS wordS (s.drop i) := rfl
    rw [if_pos rfl, hn, hw, take_drop_eq]
    have e : decide (24 < (((i + spanS wordS (s.drop i) : Nat) : Int) - (i : Int))) = decide (24 < (spanS wordS (s.drop i) : Int)) := by
      have : ((i + spanS wordS (s.drop i) : Nat) : Int) - (i : Int) = (spanS wordS (s.drop i) : Int) := by omega
      rw [this]
    rw [e]
    cases decide (24 < (spanS wordS (s.drop i) : Int)) with
    | true =>
      simp only [↓reduceIte]
      rw [if_pos (hit_err (by decide))]
      exact .inr ⟨by decide, by simp [foE]⟩
    | false =>
      simp only [Bool.false_eq_true, ↓reduceIte]
      rw [if_pos (hit_tok (by omega))]
      exact .inl ⟨rfl, by show (0 : Int) < (spanS wordS (s.drop i) : Int); omega, by simp [foT]⟩
  | false =>
    have hn : nameF (s.drop i) = foZ := by unfold nameF; rw [hb, h1]; rfl
    have hz : hitF foZ = false := rfl
    rw [hn, hz]
    simp only [Bool.false_eq_true, ↓reduceIte]
    cases h2 : digitS (bt s i) with
    | true =>
      have hp := span_pos (p := digitS) hi h2
      have hd : digitsR s i = i + spanS digitS (s.drop i) := rfl
      have hle := span_le digitS (s.drop i)
      simp only [↓reduceIte]
      rw [hd, take_drop_eq, num_eq, ← bt_drop]
      unfold numberF
      have e0 : ((spanS digitS (s.drop i) : Int) == 0) = false := by simp only [beq_eq_false_iff_ne]; omega
      have e1 : decide ((spanS digitS (s.drop i) : Int) < ((s.drop i).length : Int)) = decide (((i + spanS digitS (s.drop i) : Nat) : Int) < (s.length : Int)) := by
        rw [hl]
        have : ((spanS digitS (s.drop i) : Int) < ((s.length - i : Nat) : Int)) ↔ (((i + spanS digitS (s.drop i) : Nat) : Int) < (s.length : Int)) := by omega
        exact decide_eq_decide.2 this
      rw [e0, e1]
      simp only [Bool.false_eq_true, ↓reduceIte]
      cases h3 : ((numS ((s.drop i).take (spanS digitS (s.drop i)))).2 != 0) with
      | true =>
        simp only [↓reduceIte]
        have hne : (numS ((s.drop i).take (spanS digitS (s.drop i)))).2 ≠ 0 := by simpa using h3
        rw [if_pos (hit_err hne)]
        exact .inr ⟨hne, by simp [foE]⟩
      | false =>
        simp only [Bool.false_eq_true, ↓reduceIte]
        cases h4 : (decide (((i + spanS digitS (s.drop i) : Nat) : Int) < (s.length : Int)) && letterS (bt (s.drop i) (spanS digitS (s.drop i)))) with
        | true =>
          simp only [↓reduceIte]
          rw [if_pos (hit_err (by decide))]
          exact .inr ⟨show (4 : Int) ≠ 0 by decide, by simp [foE]⟩
        | false =>
          simp only [Bool.false_eq_true, ↓reduceIte]
          rw [if_pos (hit_tok (by omega))]
          exact .inl ⟨rfl, by show (0 : Int) < (spanS digitS (s.drop i) : Int); omega, by simp [foT]⟩
    | false =>
      have hnum : numberF (s.drop i) = foZ := by
        unfold numberF
        have : spanS digitS (s.drop i) = 0 := by rw [drop_bt hi, spanS, if_neg (by rw [h2]; decide)]
        rw [this]; rfl
      rw [hnum, hz]
      simp only [Bool.false_eq_true, ↓reduceIte]
      unfold litF
      rw [hb]
      cases h3 : (((bt s i).toNat : Int) == 34) with
      | true =>
        have e : (((bt s i).toNat : Int) != 34) = false := by simp only [bne, h3]; rfl
        rw [e]
        simp only [Bool.false_eq_true, ↓reduceIte]
        have hr := lit_rel hi ((s.drop i).length + 1) (s.length + 1) 1 [] (by rw [hl]; omega) (by omega) (by omega)
        have hR : litR s i = litGoR s i (s.length + 1) (i + 1) [] := rfl
        rw [hR]
        generalize litGo (s.drop i) ((s.drop i).length + 1) 1 [] = f at hr
        generalize litGoR s i (s.length + 1) (i + 1) [] = r at hr
        unfold LRel at hr
        by_cases hz2 : f.err = 0
        · rw [if_pos hz2] at hr
          obtain ⟨k1, k2, rfl⟩ := hr
          have hh : hitF f = true := by unfold hitF; simp [k2]
          rw [hh]
          simp only [bne_self_eq_false, Bool.false_eq_true, ↓reduceIte]
          exact .inl ⟨hz2, k2, by rw [k1]⟩
        · rw [if_neg hz2] at hr
          have hh : hitF f = true := by unfold hitF; simp [hz2]
          rw [hh]
          have h5 : (r.2.2 != 0) = true := by rw [hr]; simpa using hz2
          rw [h5]
          simp only [↓reduceIte]
          exact .inr ⟨hz2, hr⟩
      | false =>
        have e : (((bt s i).toNat : Int) != 34) = true := by simp only [bne, h3]; rfl
        rw [e]
        simp only [Bool.false_eq_true, ↓reduceIte]
        rw [hz]
        simp only [Bool.false_eq_true, ↓reduceIte]
        rcases sign_rel hi with ⟨k1, k2⟩ | ⟨k1, k2⟩
        · rw [k1, k2]
          exact .inr ⟨by decide, by simp [foE]⟩
        · have e2 : (signR s i == 0) = false := by simp only [beq_eq_false_iff_ne]; omega
          rw [e2, k2]
          simp only [Bool.false_eq_true, ↓reduceIte]
          rw [take_drop_eq]
          exact .inl ⟨rfl, k1, rfl⟩
end Go.Proofs.YtpgmglacdcfnaaaDoor
