/-
  The plain law of texts of tokens. No program in sight. No condition.
-/
import Derived.Test.YtpgmglacdcfnaaaDoorP7
namespace Go.Proofs.YtpgmglacdcfnaaaDoor
open Go Go.Aw
set_option linter.unusedVariables false
set_option linter.unusedSimpArgs false

def writtenS (t : Tok) : Str := if (t.kind != 2) then t.text else (quoteS t.text).1
theorem span_take (p : UInt8 → Bool) : ∀ u : Str, spanS p (u.take (spanS p u)) = spanS p u
  | [] => rfl
  | c :: r => by
    cases h : p c with
    | true =>
      have e : spanS p (c :: r) = spanS p r + 1 := by rw [spanS, if_pos h]
      rw [e, List.take_succ_cons, spanS, if_pos h, span_take p r]
    | false =>
      have e : spanS p (c :: r) = 0 := by rw [spanS, if_neg (by rw [h]; decide)]
      rw [e]; rfl
theorem bt_take {u : Str} {n : Nat} (h : 0 < n) : bt (u.take n) 0 = bt u 0 := by
  obtain ⟨m, rfl⟩ : ∃ m, n = m + 1 := ⟨n - 1, by omega⟩
  cases u <;> rfl
theorem sign_back : ∀ c : UInt8, (signV c true = some [c] → signV c false = some [c]) := by
  intro c
  have := u8_all (p := fun c => decide (signV c true = some [c] → signV c false = some [c])) (by kernel_rfl) c
  exact of_decide_eq_true this
theorem quote_no_sign (r : Str) : (signF (34 :: r)).err ≠ 0 := by
  rw [signF_cons]
  cases Lib.hasPrefix r [61] <;> decide
theorem c34_of {c : UInt8} (h : ((c.toNat : Int) == 34) = true) : c = 34 := by
  have := u8_all (p := fun c => decide (((c.toNat : Int) == 34) = true → c = 34)) (by kernel_rfl) c
  exact (of_decide_eq_true this) h
theorem lit_ok (s : Str) : ∀ (n i : Nat) (b : Str), (litGo s n i b).err = 0 → ∃ (t : Str) (m : Nat), litGo s n i b = foT 2 t m ∧ t.length ≤ 64 ∧ t.length + i + 1 ≤ b.length + m
  | 0, i, b, h => by simp [litGo, foE] at h
  | n + 1, i, b, h => by
    rw [litGo_succ] at h ⊢
    cases h1 : decide ((i : Int) < (s.length : Int)) with
    | false => rw [h1] at h; exact absurd h (by simp [foE])
    | true =>
      rw [h1] at h
      simp only [↓reduceIte] at h ⊢
      cases h2 : (((bt s i).toNat : Int) == 34) with
      | true =>
        rw [h2] at h
        simp only [↓reduceIte] at h ⊢
        cases h3 : decide (64 < (b.length : Int)) with
        | true => rw [h3] at h; exact absurd h (by simp [foE])
        | false =>
          simp only [decide_eq_false_iff_not] at h3
          exact ⟨b, i + 1, by simp, by omega, by omega⟩
      | false =>
        rw [h2] at h
        simp only [Bool.false_eq_true, ↓reduceIte] at h ⊢
        cases h3 : (((bt s i).toNat : Int) == 92) with
        | true =>
          rw [h3] at h
          simp only [↓reduceIte] at h ⊢
          cases h4 : ((escS (s.drop i)).2 == 0) with
          | true => rw [h4] at h; exact absurd h (by simp [foE])
          | false =>
            rw [h4] at h
            simp only [Bool.false_eq_true, ↓reduceIte] at h ⊢
            obtain ⟨t, m, k1, k2, k3⟩ := lit_ok s n _ _ h
            rw [List.length_append, List.length_singleton] at k3
            have hge : 0 < (escS (s.drop i)).2.toNat := by
              have e : (escS (s.drop i)).2 ≠ 0 := by simpa using h4
              unfold escS at e ⊢
              split at e
              · rename_i q; rw [if_pos q]; exact (by decide : 0 < (2 : Int).toNat)
              · rename_i q
                rw [if_neg q]
                split at e
                · rename_i q2
                  rw [if_pos q2]
                  split at e
                  · rename_i q3; rw [if_pos q3]; exact (by decide : 0 < (4 : Int).toNat)
                  · exact absurd rfl e
                · exact absurd rfl e
            exact ⟨t, m, k1, k2, by omega⟩
        | false =>
          rw [h3] at h
          simp only [Bool.false_eq_true, ↓reduceIte] at h ⊢
          cases h4 : (decide (((bt s i).toNat : Int) < 32) || decide (126 < ((bt s i).toNat : Int))) with
          | true => rw [h4] at h; exact absurd h (by simp [foE])
          | false =>
            rw [h4] at h
            simp only [Bool.false_eq_true, ↓reduceIte] at h ⊢
            obtain ⟨t, m, k1, k2, k3⟩ := lit_ok s n _ _ h
            rw [List.length_append, List.length_singleton] at k3
            exact ⟨t, m, k1, k2, by omega⟩
/-- What a token that is found is, and that its own text is this token. -/
theorem next_take {u : Str} (h0 : 0 < u.length) (he : (nextF u).err = 0) :
    (∃ (t : Str) (m : Nat), nextF u = foT 2 t m ∧ t.length ≤ 64 ∧ t.length + 2 ≤ m) ∨ (∃ (k : Int) (n : Nat), k ≠ 2 ∧ 0 < n ∧ n ≤ u.length ∧ nextF u = foT k (u.take n) n ∧ nextF (u.take n) = foT k (u.take n) n) := by
  have tl : ∀ n, n ≤ u.length → (u.take n).length = n := fun n h => by rw [List.length_take]; omega
  cases h1 : letterS (bt u 0) with
  | true =>
    have hp : 0 < spanS wordS u := by
      have := span_pos (p := wordS) (s := u) (k := 0) h0 (by unfold wordS; rw [h1]; rfl)
      simpa using this
    have hle := span_le wordS u
    rw [next_word h1 h0] at he ⊢
    cases hd : decide (24 < (spanS wordS u : Int)) with
    | true => rw [hd] at he; exact absurd he (by simp [foE])
    | false =>
      refine .inr ⟨0, spanS wordS u, by decide, hp, hle, rfl, ?_⟩
      rw [next_word (by rw [bt_take hp]; exact h1) (by rw [tl _ hle]; exact hp), span_take, hd, List.take_take, Nat.min_self]; rfl
  | false =>
    cases h2 : digitS (bt u 0) with
    | true =>
      have hp : 0 < spanS digitS u := by
        have := span_pos (p := digitS) (s := u) (k := 0) h0 h2
        simpa using this
      have hle := span_le digitS u
      rw [next_num h1 h2 h0] at he ⊢
      cases hd : ((numS (u.take (spanS digitS u))).2 != 0) with
      | true => rw [hd] at he; exact absurd he (by simpa [foE] using hd)
      | false =>
        rw [hd] at he
        simp only [Bool.false_eq_true, ↓reduceIte] at he ⊢
        cases hd2 : (decide ((spanS digitS u : Int) < (u.length : Int)) && letterS (bt u (spanS digitS u))) with
        | true => rw [hd2] at he; exact absurd he (by simp [foE])
        | false =>
          refine .inr ⟨1, spanS digitS u, by decide, hp, hle, rfl, ?_⟩
          rw [next_num (by rw [bt_take hp]; exact h1) (by rw [bt_take hp]; exact h2) (by rw [tl _ hle]; exact hp), span_take, List.take_take, Nat.min_self, hd, tl _ hle]
          have e : decide ((spanS digitS u : Int) < (spanS digitS u : Int)) = false := decide_eq_false (by omega)
          rw [e]; rfl
    | false =>
      obtain ⟨c, r, rfl⟩ : ∃ c r, u = c :: r := by cases u with | nil => cases h0 | cons c r => exact ⟨c, r, rfl⟩
      cases h3 : (((bt (c :: r) 0).toNat : Int) == 34) with
      | true =>
        have hc : c = 34 := c34_of h3
        subst hc
        rw [next_lit h3 h0] at he ⊢
        by_cases hh : hitF (litGo (34 :: r) ((34 :: r).length + 1) 1 []) = true
        · rw [if_pos hh] at he ⊢
          obtain ⟨t, m, k1, k2, k3⟩ := lit_ok _ _ _ _ he
          rw [List.length_nil] at k3
          exact .inl ⟨t, m, k1, k2, by omega⟩
        · rw [if_neg hh] at he
          exact absurd he (quote_no_sign r)
      | false =>
        rw [next_sign h1 h2 h3 h0] at he ⊢
        rw [signF_cons] at he ⊢
        cases hv : signV c (Lib.hasPrefix r [61]) with
        | none => rw [hv] at he; exact absurd he (by decide)
        | some x =>
          rcases signV_ok c _ x hv with ⟨_, rfl | ⟨h, rfl⟩⟩
          · refine .inr ⟨3, 1, by decide, by decide, by simp, rfl, ?_⟩
            rw [next_sign (u := (c :: r).take 1) h1 h2 h3 (by simp)]
            show signF [c] = _
            rw [signF_cons]
            have : signV c (Lib.hasPrefix [] [61]) = some [c] := by
              cases hb : Lib.hasPrefix r [61] with
              | true => rw [hb] at hv; exact sign_back c hv
              | false => rw [hb] at hv; exact hv
            rw [this]; rfl
          · have hv2 : signV c true = some [c, 61] := by rw [h] at hv; exact hv
            unfold Lib.hasPrefix at h
            rw [List.isPrefixOf_iff_prefix] at h
            obtain ⟨r', rfl⟩ := h
            refine .inr ⟨3, 2, by decide, by decide, by simp, rfl, ?_⟩
            rw [next_sign (u := (c :: ([61] ++ r')).take 2) h1 h2 h3 (by simp)]
            show signF [c, 61] = _
            rw [signF_cons]
            have : signV c (Lib.hasPrefix [61] [61]) = some [c, 61] := hv2
            rw [this]; rfl
theorem sep_zero {c : UInt8} {r : Str} (r' : Str) (h : sepS (c :: r) = 0) : sepS (c :: r') = 0 := by
  have hc : c ≠ 35 := by
    rintro rfl
    have : sepS (35 :: r) = (spanS lineS (35 :: r) : Int) := rfl
    rw [this, spanS, if_pos (by decide)] at h
    omega
  rw [sep_head hc] at h ⊢
  exact h
def Good (t : Tok) (n : Nat) : Prop :=
  (∀ rest, Sepd rest → nextF (writtenS t ++ rest) = foT t.kind t.text (writtenS t).length) ∧ (∀ rest, sepS (writtenS t ++ rest) = 0) ∧ 0 < (writtenS t).length ∧ (writtenS t).length ≤ 4 * n ∧ t.text.length ≤ n
theorem good_next {u : Str} (h0 : 0 < u.length) (hs : sepS u = 0) (he : (nextF u).err = 0) (i : Int) : Good ⟨(nextF u).tok.kind, (nextF u).tok.text, i⟩ (nextF u).bytes.toNat := by
  rcases next_take h0 he with ⟨t, m, h1, h2, h3⟩ | ⟨k, n, hk, hp, hn, h1, h2⟩
  · rw [h1]
    have hw : writtenS ⟨2, t, i⟩ = 34 :: (quoteGo t ++ 34 :: []) := by
      unfold writtenS quoteS
      have e : decide (64 < (t.length : Int)) = false := decide_eq_false (by omega)
      simp only [e]
      simp
    have hq := quoteGo_len2 t
    show Good ⟨2, t, i⟩ ((m : Int)).toNat
    unfold Good
    rw [hw]
    have hl : (34 :: (quoteGo t ++ 34 :: [])).length = (quoteGo t).length + 2 := by simp
    refine ⟨fun rest _ => ?_, fun rest => rfl, by rw [hl]; omega, by rw [hl]; omega, by simp only; omega⟩
    have := next_quote t rest h2
    rw [hl]
    have e : 34 :: (quoteGo t ++ 34 :: []) ++ rest = 34 :: (quoteGo t ++ 34 :: rest) := by simp
    rw [e, this]
    congr 1
  · rw [h1]
    have hw : writtenS ⟨k, u.take n, i⟩ = u.take n := by
      unfold writtenS
      have e : (k != 2) = true := by simpa using hk
      simp only [e]; rfl
    have tl : (u.take n).length = n := by rw [List.length_take]; omega
    show Good ⟨k, u.take n, i⟩ ((n : Int)).toNat
    unfold Good
    rw [hw]
    refine ⟨fun rest hr => ?_, fun rest => ?_, by omega, by omega, by simp only; omega⟩
    · rw [next_left hr (by omega) (by rw [h2]; rfl), h2, tl]
    · obtain ⟨c, r, rfl⟩ : ∃ c r, u = c :: r := by cases u with | nil => cases h0 | cons c r => exact ⟨c, r, rfl⟩
      obtain ⟨m, rfl⟩ : ∃ m, n = m + 1 := ⟨n - 1, by omega⟩
      exact sep_zero _ hs
def wlen (l : List Tok) : Nat := (l.map fun t => (writtenS t).length).sum
theorem Sc.good {s : Str} {i : Nat} {l : List Tok} {j : Nat} (h : Sc s i l j) : (∀ t ∈ l, ∃ n, Good t n ∧ n ≤ s.length) ∧ wlen l + 4 * i ≤ 4 * j ∧ l.length + i ≤ j := by
  induction h with
  | nil i => exact ⟨fun _ h => (List.not_mem_nil h).elim, by simp [wlen], by simp⟩
  | @sep i l j hi hs hr ih => exact ⟨ih.1, by omega, by omega⟩
  | @tok i l j hi hs he hr ih =>
    have h0 : 0 < (s.drop i).length := by rw [List.length_drop]; omega
    have hg := good_next h0 hs he (i : Int)
    have hn := next_le (s.drop i) h0
    have hpos := hn.2.2.2.2 he
    rw [List.length_drop] at hn
    refine ⟨fun t ht => ?_, ?_, ?_⟩
    · rcases List.mem_cons.1 ht with rfl | ht
      · exact ⟨_, hg, by omega⟩
      · exact ih.1 t ht
    · have := hg.2.2.2.1
      have h2 := ih.2.1
      unfold wlen at h2 ⊢
      rw [List.map_cons, List.sum_cons]
      omega
    · have := ih.2.2
      rw [List.length_cons]; omega
abbrev wj (l : List Tok) : Str := Lib.join (l.map writtenS) [32]
theorem wj_cons (t t' : Tok) (r : List Tok) : wj (t :: t' :: r) = writtenS t ++ (32 :: wj (t' :: r)) := by
  unfold wj Lib.join
  simp [List.intercalate, List.intersperse]
theorem wj_one (t : Tok) : wj [t] = writtenS t := by
  unfold wj Lib.join
  simp [List.intercalate, List.intersperse]
theorem wj_len : ∀ l : List Tok, (wj l).length ≤ wlen l + l.length
  | [] => by simp [wj, Lib.join, List.intercalate]
  | [t] => by rw [wj_one]; unfold wlen; simp
  | t :: t' :: r => by
    have ih := wj_len (t' :: r)
    rw [wj_cons]
    unfold wlen at ih ⊢
    simp only [List.length_append, List.length_cons, List.map_cons, List.sum_cons] at ih ⊢
    omega
theorem first_tok {t : Tok} {n : Nat} (hg : Good t n) {rest : Str} (hr : Sepd rest) {l : List Tok} {j : Nat} (h : Sc (writtenS t ++ rest) (writtenS t).length l j) : Sc (writtenS t ++ rest) 0 (⟨t.kind, t.text, 0⟩ :: l) j := by
  have e := hg.1 rest hr
  have := Sc.tok (s := writtenS t ++ rest) (i := 0) (l := l) (j := j) (by have := hg.2.2.1; rw [List.length_append]; omega) (by rw [List.drop_zero]; exact hg.2.1 rest) (by rw [List.drop_zero, e]; rfl)
    (by rw [List.drop_zero, e]; show Sc _ (0 + ((writtenS t).length : Int).toNat) l j; rw [Int.toNat_natCast, Nat.zero_add]; exact h)
  rw [List.drop_zero, e] at this
  exact this
abbrev kt (t : Tok) : Int × Str := (t.kind, t.text)
theorem returns_sc : ∀ l : List Tok, (∀ t ∈ l, ∃ n, Good t n) → ∃ l', Sc (wj l) 0 l' (wj l).length ∧ l'.map kt = l.map kt
  | [], _ => ⟨[], .nil 0, rfl⟩
  | [t], h => by
    obtain ⟨n, hg⟩ := h t (by simp)
    rw [wj_one]
    have := first_tok hg Sepd.nil (l := []) (j := (writtenS t).length) (.nil _)
    rw [List.append_nil] at this
    exact ⟨_, this, rfl⟩
  | t :: t' :: r, h => by
    obtain ⟨n, hg⟩ := h t (by simp)
    obtain ⟨l', h1, h2⟩ := returns_sc (t' :: r) (fun x hx => h x (List.mem_cons_of_mem _ hx))
    rw [wj_cons]
    have h3 := h1.shift (writtenS t ++ [32])
    have e1 : writtenS t ++ [32] ++ wj (t' :: r) = writtenS t ++ (32 :: wj (t' :: r)) := by simp
    have e2 : (writtenS t ++ [32]).length = (writtenS t).length + 1 := by simp
    have e3 : (writtenS t ++ (32 :: wj (t' :: r))).length = (writtenS t).length + 1 + (wj (t' :: r)).length := by simp; omega
    rw [e1, e2] at h3
    rw [e3]
    refine ⟨_, first_tok hg (Sepd.cons (by decide) (by decide)) (space_sc (c := 32) (r := wj (t' :: r)) (List.drop_left ..) (by decide) h3), ?_⟩
    rw [List.map_cons, List.map_cons, List.map_map]
    have e4 : kt ∘ shT ((writtenS t).length + 1) = kt := by funext t; rfl
    rw [e4, h2]
/-- The texts of tokens have the same tokens again. -/
theorem returns {s : Str} (hl : s.length ≤ 600) (he : (scanS s).2.2 = 0) : (wj (scanS s).1).length ≤ 3000 ∧ (scanS (wj (scanS s).1)).2.2 = 0 ∧ (scanS (wj (scanS s).1)).1.map kt = (scanS s).1.map kt := by
  have hsc := (scan_sc he).2
  have hg := hsc.good
  have hw := wj_len (scanS s).1
  have hlen : (wj (scanS s).1).length ≤ 3000 := by omega
  obtain ⟨l', h1, h2⟩ := returns_sc (scanS s).1 (fun t ht => let ⟨n, h, _⟩ := hg.1 t ht; ⟨n, h⟩)
  have := sc_scan (by omega) h1
  rw [this]
  exact ⟨hlen, rfl, h2⟩
theorem text_le {s : Str} (he : (scanS s).2.2 = 0) {t : Tok} (h : t ∈ (scanS s).1) : t.text.length ≤ s.length := by
  obtain ⟨n, hg, hn⟩ := (scan_sc he).2.good.1 t h
  have := hg.2.2.2.2
  omega
theorem toks_le {s : Str} (he : (scanS s).2.2 = 0) : (scanS s).1.length ≤ s.length := by
  have := (scan_sc he).2.good.2.2
  omega
end Go.Proofs.YtpgmglacdcfnaaaDoor
