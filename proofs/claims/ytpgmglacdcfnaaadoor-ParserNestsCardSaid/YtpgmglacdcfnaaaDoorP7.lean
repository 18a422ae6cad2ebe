/-
  The plain laws of where tokens stand, of texts put together, and of texts of tokens. No program in sight. No condition.
-/
import Derived.Test.YtpgmglacdcfnaaaDoorP5
namespace Go.Proofs.YtpgmglacdcfnaaaDoor
open Go Go.Aw
set_option linter.unusedVariables false
set_option linter.unusedSimpArgs false

/-! What the next token is, by its first byte. -/
theorem next_word {u : Str} (h : letterS (bt u 0) = true) (h0 : 0 < u.length) : nextF u = if decide (24 < (spanS wordS u : Int)) then foE 0 8 else foT 0 (u.take (spanS wordS u)) (spanS wordS u) := by
  have hp : 0 < spanS wordS u := by
    have := span_pos (p := wordS) (s := u) (k := 0) h0 (by unfold wordS; rw [h]; rfl)
    simpa using this
  have hn : nameF u = if decide (24 < (spanS wordS u : Int)) then foE 0 8 else foT 0 (u.take (spanS wordS u)) (spanS wordS u) := by unfold nameF; rw [h]; rfl
  have hh : hitF (nameF u) = true := by
    rw [hn]
    split
    · exact hit_err (by decide)
    · exact hit_tok (by omega)
  unfold nextF
  rw [hh, hn]; rfl
theorem name_none {u : Str} (h : letterS (bt u 0) = false) : nameF u = foZ := by unfold nameF; rw [h]; rfl
theorem next_num {u : Str} (h1 : letterS (bt u 0) = false) (h : digitS (bt u 0) = true) (h0 : 0 < u.length) : nextF u =
    if ((numS (u.take (spanS digitS u))).2 != 0) then foE 0 (numS (u.take (spanS digitS u))).2
    else if (decide ((spanS digitS u : Int) < (u.length : Int)) && letterS (bt u (spanS digitS u))) then foE (spanS digitS u) 4
    else foT 1 (u.take (spanS digitS u)) (spanS digitS u) := by
  have hp : 0 < spanS digitS u := by
    have := span_pos (p := digitS) (s := u) (k := 0) h0 h
    simpa using this
  have hn : numberF u = if ((numS (u.take (spanS digitS u))).2 != 0) then foE 0 (numS (u.take (spanS digitS u))).2
    else if (decide ((spanS digitS u : Int) < (u.length : Int)) && letterS (bt u (spanS digitS u))) then foE (spanS digitS u) 4
    else foT 1 (u.take (spanS digitS u)) (spanS digitS u) := by
    unfold numberF
    have e : ((spanS digitS u : Int) == 0) = false := by rw [beq_eq_false_iff_ne]; omega
    rw [e]; rfl
  have hh : hitF (numberF u) = true := by
    rw [hn]
    split
    · rename_i h; exact hit_err (by simpa using h)
    · split
      · exact hit_err (by decide)
      · exact hit_tok (by omega)
  unfold nextF
  rw [name_none h1, hh, hn]; rfl
theorem num_none {u : Str} (h : digitS (bt u 0) = false) (h0 : 0 < u.length) : numberF u = foZ := by
  unfold numberF
  have : spanS digitS u = 0 := by
    obtain ⟨c, r, rfl⟩ : ∃ c r, u = c :: r := by cases u with | nil => cases h0 | cons c r => exact ⟨c, r, rfl⟩
    rw [spanS, if_neg (by rw [show digitS c = false from h]; decide)]
  rw [this]; rfl
theorem next_lit {u : Str} (h : (((bt u 0).toNat : Int) == 34) = true) (h0 : 0 < u.length) : nextF u = if hitF (litGo u (u.length + 1) 1 []) then litGo u (u.length + 1) 1 [] else signF u := by
  have hq := quote_byte h
  have hl : litF u = litGo u (u.length + 1) 1 [] := by
    unfold litF
    have e : (((bt u 0).toNat : Int) != 34) = false := by simp only [bne, h]; rfl
    rw [e]; rfl
  unfold nextF
  rw [name_none hq.1, num_none hq.2 h0, hl]; rfl
theorem next_sign {u : Str} (h1 : letterS (bt u 0) = false) (h2 : digitS (bt u 0) = false) (h3 : (((bt u 0).toNat : Int) == 34) = false) (h0 : 0 < u.length) : nextF u = signF u := by
  have hl : litF u = foZ := by
    unfold litF
    have e : (((bt u 0).toNat : Int) != 34) = true := by simp only [bne, h3]; rfl
    rw [e]; rfl
  unfold nextF
  rw [name_none h1, num_none h2 h0, hl]; rfl

/-! What stands behind a token does not matter, if it does not go on. -/
def Sepd (w : Str) : Prop := ∀ c r, w = c :: r → wordS c = false ∧ c ≠ 61
theorem Sepd.nil : Sepd [] := fun _ _ h => by cases h
theorem Sepd.cons {c : UInt8} {r : Str} (h : wordS c = false) (h2 : c ≠ 61) : Sepd (c :: r) := fun _ _ e => by
  rw [← (List.cons.inj e).1]; exact ⟨h, h2⟩
theorem span_left {p : UInt8 → Bool} {w : Str} (hw : ∀ c r, w = c :: r → p c = false) : ∀ u : Str, spanS p (u ++ w) = spanS p u
  | [] => by
    cases w with
    | nil => rfl
    | cons c r =>
      show (if p c then spanS p r + 1 else 0) = 0
      rw [hw c r rfl]; rfl
  | c :: r => by
    rw [List.cons_append, spanS, spanS, span_left hw r]
theorem word_no {c : UInt8} (h : wordS c = false) : letterS c = false ∧ digitS c = false := by
  unfold wordS at h; rw [Bool.or_eq_false_iff] at h; exact h
theorem bt_right {u w : Str} : bt (u ++ w) u.length = bt w 0 := by
  simp only [bt, List.getD_eq_getElem?_getD]; rw [List.getElem?_append_right (Nat.le_refl _), Nat.sub_self]
theorem take_left' {u w : Str} {n : Nat} (h : n ≤ u.length) : (u ++ w).take n = u.take n := List.take_append_of_le_length h
theorem lit_left {u w : Str} : ∀ (n m i : Nat) (b : Str), (litGo u n i b).err = 0 → n ≤ m → litGo (u ++ w) m i b = litGo u n i b
  | 0, m, i, b, h, _ => by simp [litGo, foE] at h
  | n + 1, m, i, b, h, hm => by
    obtain ⟨m, rfl⟩ : ∃ m', m = m' + 1 := ⟨m - 1, by omega⟩
    rw [litGo_succ] at h ⊢
    rw [litGo_succ]
    by_cases hi : i < u.length
    · have e1 : decide ((i : Int) < (u.length : Int)) = true := decide_eq_true (by omega)
      have e2 : decide ((i : Int) < ((u ++ w).length : Int)) = true := decide_eq_true (by rw [List.length_append]; omega)
      rw [e1] at h ⊢
      rw [e2, bt_left hi]
      simp only [↓reduceIte] at h ⊢
      cases h34 : (((bt u i).toNat : Int) == 34) with
      | true => rfl
      | false =>
        rw [h34] at h
        simp only [Bool.false_eq_true, ↓reduceIte] at h ⊢
        cases h92 : (((bt u i).toNat : Int) == 92) with
        | true =>
          rw [h92] at h
          simp only [↓reduceIte] at h ⊢
          rw [List.drop_append_of_le_length (by omega)]
          by_cases he : (escS (u.drop i)).2 = 0
          · rw [he] at h; exact absurd h (by simp [foE])
          · rw [escS_left he]
            have e3 : ((escS (u.drop i)).2 == 0) = false := by rw [beq_eq_false_iff_ne]; exact he
            rw [e3] at h ⊢
            simp only [Bool.false_eq_true, ↓reduceIte] at h ⊢
            exact lit_left n m _ _ h (by omega)
        | false =>
          rw [h92] at h
          simp only [Bool.false_eq_true, ↓reduceIte] at h ⊢
          cases hr : (decide (((bt u i).toNat : Int) < 32) || decide (126 < ((bt u i).toNat : Int))) with
          | true => rw [hr] at h; exact absurd h (by simp [foE])
          | false =>
            rw [hr] at h
            simp only [Bool.false_eq_true, ↓reduceIte] at h ⊢
            exact lit_left n m _ _ h (by omega)
    · have e1 : decide ((i : Int) < (u.length : Int)) = false := decide_eq_false (by omega)
      rw [e1] at h
      exact absurd h (by simp [foE])
theorem signF_cons (c : UInt8) (r : Str) : signF (c :: r) = match signV c (Lib.hasPrefix r [61]) with | none => foE 0 4 | some x => foT 3 x x.length := signGo_hit c r signL (by decide)
theorem prefix_left {r w : Str} (hw : Sepd w) : Lib.hasPrefix (r ++ w) [61] = Lib.hasPrefix r [61] := by
  cases r with
  | nil =>
    cases w with
    | nil => rfl
    | cons c w =>
      have h := (hw c w rfl).2
      show ((61 : UInt8) == c && ([] : Str).isPrefixOf w) = false
      have e : ((61 : UInt8) == c) = false := by rw [beq_eq_false_iff_ne]; exact fun e => h e.symm
      rw [e]; rfl
  | cons c r => simp [Lib.hasPrefix, List.isPrefixOf]
/-- Locality. -/
theorem next_left {u w : Str} (hw : Sepd w) (h0 : 0 < u.length) (he : (nextF u).err = 0) : nextF (u ++ w) = nextF u := by
  have h0' : 0 < (u ++ w).length := by rw [List.length_append]; omega
  have hb : bt (u ++ w) 0 = bt u 0 := bt_left h0
  have sw : spanS wordS (u ++ w) = spanS wordS u := span_left (fun c r e => (hw c r e).1) u
  have sd : spanS digitS (u ++ w) = spanS digitS u := span_left (fun c r e => (word_no (hw c r e).1).2) u
  cases h1 : letterS (bt u 0) with
  | true => rw [next_word h1 h0, next_word (by rw [hb]; exact h1) h0', sw, take_left' (span_le _ _)]
  | false =>
    cases h2 : digitS (bt u 0) with
    | true =>
      rw [next_num h1 h2 h0] at he ⊢
      rw [next_num (by rw [hb]; exact h1) (by rw [hb]; exact h2) h0', sd, take_left' (span_le _ _)]
      have e : (decide ((spanS digitS u : Int) < ((u ++ w).length : Int)) && letterS (bt (u ++ w) (spanS digitS u))) = (decide ((spanS digitS u : Int) < (u.length : Int)) && letterS (bt u (spanS digitS u))) := by
        have hle := span_le digitS u
        by_cases hs : spanS digitS u < u.length
        · have e1 : decide ((spanS digitS u : Int) < ((u ++ w).length : Int)) = true := decide_eq_true (by rw [List.length_append]; omega)
          have e2 : decide ((spanS digitS u : Int) < (u.length : Int)) = true := decide_eq_true (by omega)
          rw [e1, e2, bt_left hs]
        · have hs2 : spanS digitS u = u.length := by omega
          have e2 : decide ((u.length : Int) < (u.length : Int)) = false := decide_eq_false (by omega)
          rw [hs2, e2, bt_right, Bool.false_and]
          cases w with
          | nil => rw [List.append_nil, e2]; rfl
          | cons c w =>
            have : letterS (bt (c :: w) 0) = false := (word_no (hw c w rfl).1).1
            rw [this, Bool.and_false]
      rw [e]
    | false =>
      cases h3 : (((bt u 0).toNat : Int) == 34) with
      | true =>
        rw [next_lit h3 h0] at he ⊢
        rw [next_lit (by rw [hb]; exact h3) h0']
        by_cases hh : hitF (litGo u (u.length + 1) 1 []) = true
        · rw [if_pos hh] at he ⊢
          have := lit_left (w := w) (u.length + 1) ((u ++ w).length + 1) 1 [] he (by rw [List.length_append]; omega)
          rw [this, if_pos hh]
        · exfalso
          rw [if_neg hh] at he
          obtain ⟨c, r, rfl⟩ : ∃ c r, u = c :: r := by cases u with | nil => cases h0 | cons c r => exact ⟨c, r, rfl⟩
          rw [signF_cons] at he
          have hc : c = 34 := by
            have := u8_all (p := fun c => decide (((c.toNat : Int) == 34) = true → c = 34)) (by kernel_rfl) c
            exact (of_decide_eq_true this) h3
          subst hc
          revert he
          cases Lib.hasPrefix r [61] with
          | true => intro he; exact absurd he (by decide)
          | false => intro he; exact absurd he (by decide)
      | false =>
        rw [next_sign h1 h2 h3 h0, next_sign (by rw [hb]; exact h1) (by rw [hb]; exact h2) (by rw [hb]; exact h3) h0']
        obtain ⟨c, r, rfl⟩ : ∃ c r, u = c :: r := by cases u with | nil => cases h0 | cons c r => exact ⟨c, r, rfl⟩
        rw [List.cons_append, signF_cons, signF_cons, prefix_left hw]

/-! Scanning as a relation. -/
inductive Sc (s : Str) : Nat → List Tok → Nat → Prop
  | nil (i : Nat) : Sc s i [] i
  | sep {i : Nat} {l : List Tok} {j : Nat} (hi : i < s.length) (h : 0 < sepS (s.drop i)) (hr : Sc s (i + (sepS (s.drop i)).toNat) l j) : Sc s i l j
  | tok {i : Nat} {l : List Tok} {j : Nat} (hi : i < s.length) (h : sepS (s.drop i) = 0) (he : (nextF (s.drop i)).err = 0) (hr : Sc s (i + (nextF (s.drop i)).bytes.toNat) l j) : Sc s i (⟨(nextF (s.drop i)).tok.kind, (nextF (s.drop i)).tok.text, i⟩ :: l) j
theorem Sc.trans {s : Str} {i : Nat} {l : List Tok} {j : Nat} (h : Sc s i l j) {m : List Tok} {k : Nat} (h2 : Sc s j m k) : Sc s i (l ++ m) k := by
  induction h with
  | nil i => exact h2
  | sep hi hs hr ih => exact .sep hi hs (ih h2)
  | tok hi hs he hr ih => exact .tok hi hs he (ih h2)
theorem Sc.of_scan {s : Str} : ∀ (n i : Nat) (out : List Tok), i ≤ s.length → s.length < n + i → (scanGo s n i out).2.2 = 0 → ∃ l, scanGo s n i out = (out ++ l, 0, 0) ∧ Sc s i l s.length
  | 0, i, out, h1, h2, _ => by omega
  | n + 1, i, out, h1, h2, h => by
    rw [scanGo_succ] at h ⊢
    by_cases hi : i < s.length
    · rw [in_text hi] at h ⊢
      simp only [↓reduceIte] at h ⊢
      have hs := sep_le (s.drop i)
      have hn := next_le (s.drop i) (by rw [List.length_drop]; omega)
      rw [List.length_drop] at hs hn
      have hs2 := hs.2 (by omega)
      by_cases hp : 0 < sepS (s.drop i)
      · have e : decide (0 < sepS (s.drop i)) = true := decide_eq_true hp
        rw [e] at h ⊢
        simp only [↓reduceIte] at h ⊢
        obtain ⟨l, k1, k2⟩ := Sc.of_scan n _ out (by omega) (by omega) h
        exact ⟨l, k1, .sep hi hp k2⟩
      · have e : decide (0 < sepS (s.drop i)) = false := decide_eq_false hp
        rw [e] at h ⊢
        simp only [Bool.false_eq_true, ↓reduceIte] at h ⊢
        by_cases he : (nextF (s.drop i)).err = 0
        · have e2 : ((nextF (s.drop i)).err != 0) = false := by rw [he]; rfl
          have hpos := hn.2.2.2.2 he
          rw [e2] at h ⊢
          simp only [Bool.false_eq_true, ↓reduceIte] at h ⊢
          obtain ⟨l, k1, k2⟩ := Sc.of_scan n _ _ (by omega) (by omega) h
          refine ⟨_, ?_, .tok hi (by omega) he k2⟩
          rw [k1, List.append_assoc]; rfl
        · have e2 : ((nextF (s.drop i)).err != 0) = true := by simpa using he
          rw [e2] at h
          exact absurd h he
    · have e : decide ((i : Int) < (s.length : Int)) = false := decide_eq_false (by omega)
      have hil : i = s.length := by omega
      rw [e]
      exact ⟨[], by simp, hil ▸ .nil _⟩
theorem Sc.scan {s : Str} {i : Nat} {l : List Tok} {j : Nat} (h : Sc s i l j) : ∀ (n : Nat) (out : List Tok), j = s.length → i ≤ s.length → s.length < n + i → scanGo s n i out = (out ++ l, 0, 0) := by
  induction h with
  | nil i =>
    rintro n out rfl h1 h2
    obtain ⟨m, rfl⟩ : ∃ m, n = m + 1 := ⟨n - 1, by omega⟩
    have e : decide ((s.length : Int) < (s.length : Int)) = false := decide_eq_false (by omega)
    rw [scanGo_succ, e]; simp
  | @sep i l j hi hs hr ih =>
    rintro n out rfl h1 h2
    obtain ⟨m, rfl⟩ : ∃ m, n = m + 1 := ⟨n - 1, by omega⟩
    have hs1 := sep_le (s.drop i)
    rw [List.length_drop] at hs1
    have hs2 := hs1.2 (by omega)
    rw [scanGo_succ, in_text hi, decide_eq_true hs]
    exact ih m out rfl (by omega) (by omega)
  | @tok i l j hi hs he hr ih =>
    rintro n out rfl h1 h2
    obtain ⟨m, rfl⟩ : ∃ m, n = m + 1 := ⟨n - 1, by omega⟩
    have hn := next_le (s.drop i) (by rw [List.length_drop]; omega)
    rw [List.length_drop] at hn
    have hpos := hn.2.2.2.2 he
    have e2 : ((nextF (s.drop i)).err != 0) = false := by rw [he]; rfl
    have e : decide (0 < sepS (s.drop i)) = false := decide_eq_false (by omega)
    rw [scanGo_succ, in_text hi, e, e2]
    simp only [Bool.false_eq_true, ↓reduceIte]
    rw [ih m _ rfl (by omega) (by omega), List.append_assoc]; rfl
theorem scan_sc {s : Str} (h : (scanS s).2.2 = 0) : (scanS s).2.1 = 0 ∧ Sc s 0 (scanS s).1 s.length := by
  unfold scanS at h ⊢
  cases e : decide (65536 < (s.length : Int)) with
  | true => rw [e] at h; exact absurd h (by simp)
  | false =>
    rw [e] at h
    simp only [Bool.false_eq_true, ↓reduceIte] at h ⊢
    obtain ⟨l, k1, k2⟩ := Sc.of_scan _ _ _ (Nat.zero_le _) (by omega) h
    rw [k1]
    exact ⟨rfl, k2⟩
theorem sc_scan {s : Str} {l : List Tok} (hl : s.length ≤ 65536) (h : Sc s 0 l s.length) : scanS s = (l, 0, 0) := by
  unfold scanS
  rw [decide_eq_false (show ¬ (65536 : Int) < (s.length : Int) by omega)]
  exact h.scan _ _ rfl (Nat.zero_le _) (by omega)
theorem scan_err {s : Str} (h : (scanS s).2.2 ≠ 0) : (scanS s).1 = [] := by
  have key : ∀ (n i : Nat) (out : List Tok), (scanGo s n i out).2.2 ≠ 0 → (scanGo s n i out).1 = [] := by
    intro n
    induction n with
    | zero => intro i out _; rfl
    | succ n ih =>
      intro i out h
      rw [scanGo_succ] at h ⊢
      split
      · rename_i h1
        rw [if_pos h1] at h
        split
        · rename_i h2; rw [if_pos h2] at h; exact ih _ _ h
        · rename_i h2
          rw [if_neg h2] at h
          split
          · rfl
          · rename_i h3; rw [if_neg h3] at h; exact ih _ _ h
      · rename_i h1; rw [if_neg h1] at h; exact absurd rfl h
  unfold scanS at h ⊢
  split
  · rfl
  · rename_i h1; rw [if_neg h1] at h; exact key _ _ _ h

/-! Texts put together. -/
def shT (d : Nat) (t : Tok) : Tok := ⟨t.kind, t.text, t.pos + (d : Int)⟩
theorem Sc.shift (p : Str) {s : Str} {i : Nat} {l : List Tok} {j : Nat} (h : Sc s i l j) : Sc (p ++ s) (p.length + i) (l.map (shT p.length)) (p.length + j) := by
  have hd : ∀ i, (p ++ s).drop (p.length + i) = s.drop i := fun i => by rw [List.drop_append]; simp
  induction h with
  | nil i => exact .nil _
  | @sep i l j hi hs hr ih =>
    refine .sep (by rw [List.length_append]; omega) (by rw [hd]; exact hs) ?_
    rw [hd, Nat.add_assoc]; exact ih
  | @tok i l j hi hs he hr ih =>
    have := Sc.tok (s := p ++ s) (i := p.length + i) (l := l.map (shT p.length)) (j := p.length + j) (by rw [List.length_append]; omega) (by rw [hd]; exact hs) (by rw [hd]; exact he) (by rw [hd, Nat.add_assoc]; exact ih)
    rw [hd] at this
    have e : shT p.length ⟨(nextF (s.drop i)).tok.kind, (nextF (s.drop i)).tok.text, i⟩ = ⟨(nextF (s.drop i)).tok.kind, (nextF (s.drop i)).tok.text, ((p.length + i : Nat) : Int)⟩ := by
      unfold shT; simp only [Tok.mk.injEq, true_and]; omega
    rw [List.map_cons, e]
    exact this
theorem sep_head {c : UInt8} {r : Str} (h : c ≠ 35) : sepS (c :: r) = if decide (0 ≤ Lib.indexByte [32, 9, 13, 10] c) then 1 else 0 := by
  unfold sepS
  have e : (((bt (c :: r) 0).toNat : Int) == 35) = false := by
    have := u8_all (p := fun c => decide (c ≠ 35 → ((c.toNat : Int) == 35) = false)) (by kernel_rfl) c
    exact (of_decide_eq_true this) h
  rw [e]; rfl
theorem sep_left {u w : Str} (h : 35 ∉ u) (h0 : 0 < u.length) : sepS (u ++ w) = sepS u := by
  obtain ⟨c, r, rfl⟩ : ∃ c r, u = c :: r := by cases u with | nil => cases h0 | cons c r => exact ⟨c, r, rfl⟩
  have hc : c ≠ 35 := fun e => h (by simp [e])
  rw [List.cons_append, sep_head hc, sep_head hc]
theorem Sc.left {u : Str} {w : Str} (hw : Sepd w) (hn : 35 ∉ u) {i : Nat} {l : List Tok} {j : Nat} (h : Sc u i l j) : Sc (u ++ w) i l j := by
  induction h with
  | nil i => exact .nil _
  | @sep i l j hi hs hr ih =>
    have hd : (u ++ w).drop i = u.drop i ++ w := List.drop_append_of_le_length (by omega)
    have e : sepS ((u ++ w).drop i) = sepS (u.drop i) := by rw [hd]; exact sep_left (fun h => hn (List.mem_of_mem_drop h)) (by rw [List.length_drop]; omega)
    exact .sep (by rw [List.length_append]; omega) (by rw [e]; exact hs) (by rw [e]; exact ih)
  | @tok i l j hi hs he hr ih =>
    have hd : (u ++ w).drop i = u.drop i ++ w := List.drop_append_of_le_length (by omega)
    have h0 : 0 < (u.drop i).length := by rw [List.length_drop]; omega
    have e : sepS ((u ++ w).drop i) = sepS (u.drop i) := by rw [hd]; exact sep_left (fun h => hn (List.mem_of_mem_drop h)) h0
    have e2 : nextF ((u ++ w).drop i) = nextF (u.drop i) := by rw [hd]; exact next_left hw h0 he
    have := Sc.tok (s := u ++ w) (i := i) (l := l) (j := j) (by rw [List.length_append]; omega) (by rw [e]; exact hs) (by rw [e2]; exact he) (by rw [e2]; exact ih)
    rw [e2] at this
    exact this
def bw1 : Str := [32]
def bw2 : Str := [9, 13, 10]
def bw3 : Str := [32, 35, 32, 34, 97, 40, 32, 36, 10]
theorem space_sc {s : Str} {i : Nat} {c : UInt8} {r : Str} {l : List Tok} {j : Nat} (hd : s.drop i = c :: r) (hc : c = 32 ∨ c = 9 ∨ c = 13 ∨ c = 10) (h : Sc s (i + 1) l j) : Sc s i l j := by
  have hi : i < s.length := Nat.lt_of_not_le fun hge => by rw [List.drop_eq_nil_of_le hge] at hd; cases hd
  have e : sepS (s.drop i) = 1 := by
    rw [hd]
    rcases hc with rfl | rfl | rfl | rfl <;> rfl
  exact .sep hi (by rw [e]; decide) (by rw [e]; exact h)
theorem bw_sc1 (b : Str) : Sc (bw1 ++ b) 0 [] 1 := space_sc (c := 32) (r := b) rfl (by decide) (.nil _)
theorem bw_sc2 (b : Str) : Sc (bw2 ++ b) 0 [] 3 := space_sc (c := 9) (r := 13 :: 10 :: b) rfl (by decide) (space_sc (c := 13) (r := 10 :: b) rfl (by decide) (space_sc (c := 10) (r := b) rfl (by decide) (.nil _)))
theorem bw_sc3 (b : Str) : Sc (bw3 ++ b) 0 [] 9 := by
  refine space_sc (c := 32) (r := [35, 32, 34, 97, 40, 32, 36, 10] ++ b) rfl (by decide) ?_
  have e : sepS ((bw3 ++ b).drop (0 + 1)) = 7 := rfl
  refine .sep (by unfold bw3; simp) (by rw [e]; decide) ?_
  rw [e]
  exact space_sc (c := 10) (r := b) rfl (by decide) (.nil _)
theorem between_sc {w : Str} (h : w = bw1 ∨ w = bw2 ∨ w = bw3) (b : Str) : Sc (w ++ b) 0 [] w.length := by
  rcases h with rfl | rfl | rfl
  · exact bw_sc1 b
  · exact bw_sc2 b
  · exact bw_sc3 b
theorem between_sepd {w : Str} (h : w = bw1 ∨ w = bw2 ∨ w = bw3) (b : Str) : Sepd (w ++ b) := by
  rcases h with rfl | rfl | rfl
  · exact Sepd.cons (by decide) (by decide)
  · exact Sepd.cons (by decide) (by decide)
  · exact Sepd.cons (by decide) (by decide)
theorem separates {a b w : Str} (h : w = bw1 ∨ w = bw2 ∨ w = bw3) (ha : a.length ≤ 300) (hb : b.length ≤ 300) (ea : (scanS a).2.2 = 0) (eb : (scanS b).2.2 = 0) (hn : Lib.contains a [35] = false) :
    scanS (a ++ w ++ b) = ((scanS a).1 ++ (scanS b).1.map (shT (a.length + w.length)), 0, 0) := by
  have hn' : 35 ∉ a := fun h => by rw [(contains_one a 35).2 h] at hn; cases hn
  have h1 := (scan_sc ea).2.left (between_sepd h b) hn'
  have h2 := (between_sc h b).shift a
  have h3 := (scan_sc eb).2.shift (a ++ w)
  have hw : w.length ≤ 9 := by rcases h with rfl | rfl | rfl <;> decide
  have e1 : a ++ (w ++ b) = a ++ w ++ b := (List.append_assoc ..).symm
  rw [e1] at h1 h2
  rw [List.length_append] at h3
  refine sc_scan (by simp only [List.length_append]; omega) ?_
  have h4 := (h1.trans h2).trans h3
  have e2 : (a ++ w ++ b).length = a.length + w.length + b.length := by simp only [List.length_append]
  rw [e2]
  simpa using h4

/-! Where tokens stand. -/
def Asc : Int → List Tok → Prop
  | _, [] => True
  | x, t :: r => x < t.pos ∧ Asc t.pos r
def OkTok (s : Str) (t : Tok) : Prop := 0 ≤ t.pos ∧ t.pos < (s.length : Int) ∧ (t.kind = 2 → bt s t.pos.toNat = 34) ∧ (t.kind ≠ 2 → t.text ≠ [] ∧ Lib.hasPrefix (s.drop t.pos.toNat) t.text = true)
theorem prefix_take (u : Str) (n : Nat) : Lib.hasPrefix u (u.take n) = true := by
  unfold Lib.hasPrefix; rw [List.isPrefixOf_iff_prefix]; exact List.take_prefix n u
theorem signV_ok (c : UInt8) (two : Bool) : ∀ x, signV c two = some x → x ≠ [] ∧ (x = [c] ∨ two = true ∧ x = [c, 61]) := by
  intro x h
  rcases signV_N c two with ⟨h1, _⟩ | ⟨h0, h1, _⟩ | ⟨h1, _⟩
  · rw [h1] at h; cases h
  · rw [h1] at h; cases h; exact ⟨by simp, .inr ⟨h0, rfl⟩⟩
  · rw [h1] at h; cases h; exact ⟨by simp, .inl rfl⟩
/-- What a token that is found is. -/
theorem next_shape {u : Str} (h0 : 0 < u.length) (he : (nextF u).err = 0) :
    ((nextF u).tok.kind = 2 ∧ bt u 0 = 34 ∧ nextF u = litGo u (u.length + 1) 1 []) ∨ ((nextF u).tok.kind ≠ 2 ∧ ∃ n, 0 < n ∧ n ≤ u.length ∧ (nextF u).bytes = (n : Int) ∧ (nextF u).tok.text = u.take n) := by
  cases h1 : letterS (bt u 0) with
  | true =>
    have hp : 0 < spanS wordS u := by
      have := span_pos (p := wordS) (s := u) (k := 0) h0 (by unfold wordS; rw [h1]; rfl)
      simpa using this
    rw [next_word h1 h0] at he ⊢
    cases hd : decide (24 < (spanS wordS u : Int)) with
    | true => rw [hd] at he; exact absurd he (by simp [foE])
    | false => exact .inr ⟨show (0 : Int) ≠ 2 by decide, spanS wordS u, hp, span_le _ _, rfl, rfl⟩
  | false =>
    cases h2 : digitS (bt u 0) with
    | true =>
      have hp : 0 < spanS digitS u := by
        have := span_pos (p := digitS) (s := u) (k := 0) h0 h2
        simpa using this
      rw [next_num h1 h2 h0] at he ⊢
      cases hd : ((numS (u.take (spanS digitS u))).2 != 0) with
      | true => rw [hd] at he; exact absurd he (by simpa [foE] using hd)
      | false =>
        rw [hd] at he
        simp only [Bool.false_eq_true, ↓reduceIte] at he ⊢
        cases hd2 : (decide ((spanS digitS u : Int) < (u.length : Int)) && letterS (bt u (spanS digitS u))) with
        | true => rw [hd2] at he; exact absurd he (by simp [foE])
        | false => exact .inr ⟨show (1 : Int) ≠ 2 by decide, spanS digitS u, hp, span_le _ _, rfl, rfl⟩
    | false =>
      obtain ⟨c, r, rfl⟩ : ∃ c r, u = c :: r := by cases u with | nil => cases h0 | cons c r => exact ⟨c, r, rfl⟩
      have sgn : (signF (c :: r)).err = 0 → (signF (c :: r)).tok.kind ≠ 2 ∧ ∃ n, 0 < n ∧ n ≤ (c :: r).length ∧ (signF (c :: r)).bytes = (n : Int) ∧ (signF (c :: r)).tok.text = (c :: r).take n := by
        intro he
        rw [signF_cons] at he ⊢
        cases hv : signV c (Lib.hasPrefix r [61]) with
        | none => rw [hv] at he; exact absurd he (by decide)
        | some x =>
          refine ⟨show (3 : Int) ≠ 2 by decide, ?_⟩
          rcases signV_ok c _ x hv with ⟨_, rfl | ⟨h, rfl⟩⟩
          · exact ⟨1, by decide, by simp, rfl, rfl⟩
          · unfold Lib.hasPrefix at h
            rw [List.isPrefixOf_iff_prefix] at h
            obtain ⟨r', rfl⟩ := h
            exact ⟨2, by decide, by simp, rfl, rfl⟩
      cases h3 : (((bt (c :: r) 0).toNat : Int) == 34) with
      | true =>
        have hc : bt (c :: r) 0 = 34 := by
          have := u8_all (p := fun c => decide (((c.toNat : Int) == 34) = true → c = 34)) (by kernel_rfl) (bt (c :: r) 0)
          exact (of_decide_eq_true this) h3
        rw [next_lit h3 h0] at he ⊢
        by_cases hh : hitF (litGo (c :: r) ((c :: r).length + 1) 1 []) = true
        · rw [if_pos hh] at he ⊢
          have hk : ∀ (n i : Nat) (b : Str), (litGo (c :: r) n i b).err = 0 → (litGo (c :: r) n i b).tok.kind = 2 := by
            intro n
            induction n with
            | zero => intro i b h; exact absurd h (by simp [litGo, foE])
            | succ n ih =>
              intro i b h
              rw [litGo_succ] at h ⊢
              repeat' split
              all_goals first | rfl | skip
              all_goals (simp only [*, Bool.false_eq_true, ↓reduceIte] at h; first | exact ih _ _ h | exact absurd h (by simp [foE]))
          exact .inl ⟨hk _ _ _ he, hc, rfl⟩
        · rw [if_neg hh] at he ⊢
          exact .inr (sgn he)
      | false =>
        rw [next_sign h1 h2 h3 h0] at he ⊢
        exact .inr (sgn he)
theorem Sc.stands {s : Str} {i : Nat} {l : List Tok} {j : Nat} (h : Sc s i l j) : ∀ x : Int, x < (i : Int) → Asc x l ∧ ∀ t ∈ l, OkTok s t := by
  induction h with
  | nil i => exact fun x _ => ⟨trivial, fun _ h => by cases h⟩
  | @sep i l j hi hs hr ih => exact fun x hx => ih x (by omega)
  | @tok i l j hi hs he hr ih =>
    intro x hx
    have h0 : 0 < (s.drop i).length := by rw [List.length_drop]; omega
    have hn := next_le (s.drop i) h0
    have hpos := hn.2.2.2.2 he
    obtain ⟨k1, k2⟩ := ih (i : Int) (by omega)
    refine ⟨⟨hx, k1⟩, fun t ht => ?_⟩
    rcases List.mem_cons.1 ht with rfl | ht
    · have hb : bt (s.drop i) 0 = bt s i := by rw [bt_drop]; rfl
      refine ⟨by simp only; omega, by simp only; omega, fun hk => ?_, fun hk => ?_⟩
      · rcases next_shape h0 he with ⟨_, h, _⟩ | ⟨h, _⟩
        · rw [hb] at h; exact h
        · exact absurd hk h
      · rcases next_shape h0 he with ⟨h, _, _⟩ | ⟨_, n, h1, h2, h3, h4⟩
        · exact absurd h hk
        · simp only [Int.toNat_natCast]
          rw [h4]
          refine ⟨fun e => ?_, prefix_take _ _⟩
          have := congrArg List.length e
          rw [List.length_take, List.length_nil] at this
          omega
    · exact k2 t ht
end Go.Proofs.YtpgmglacdcfnaaaDoor
