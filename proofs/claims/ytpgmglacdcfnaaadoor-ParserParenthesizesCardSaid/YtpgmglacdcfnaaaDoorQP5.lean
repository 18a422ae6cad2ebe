/-
  The plain laws of names and literals. No program in sight. No condition.
-/
import Derived.Test.YtpgmglacdcfnaaaDoorQP3
namespace Go.Proofs.YtpgmglacdcfnaaaDoor
open Go Go.Aw
set_option linter.unusedVariables false
set_option linter.unusedSimpArgs false

theorem contains_iff (s sub : Str) : Lib.contains s sub = true ↔ ∃ j, j ≤ s.length ∧ Lib.occAt s sub j = true := by
  unfold Lib.contains
  rw [decide_eq_true_eq]
  rcases Lib.index_spec s sub with ⟨h1, h2⟩ | ⟨i, h1, h2, h3, _⟩
  · rw [h1]
    constructor
    · intro h; omega
    · rintro ⟨j, hj, ho⟩; rw [h2 j hj] at ho; cases ho
  · rw [h1]
    exact ⟨fun _ => ⟨i, h2, h3⟩, fun _ => by omega⟩
theorem contains_one (s : Str) (c : UInt8) : Lib.contains s [c] = true ↔ c ∈ s := by
  rw [contains_iff]
  constructor
  · rintro ⟨j, _, ho⟩
    unfold Lib.occAt at ho
    rw [List.isPrefixOf_iff_prefix] at ho
    obtain ⟨t, ht⟩ := ho
    exact List.mem_of_mem_drop (i := j) (by rw [← ht]; simp)
  · intro h
    obtain ⟨u, v, rfl⟩ := List.append_of_mem h
    refine ⟨u.length, by simp, ?_⟩
    unfold Lib.occAt
    rw [List.drop_left, List.isPrefixOf_iff_prefix]
    exact ⟨v, rfl⟩

def kwL : List Str := [[97, 108, 108], [97, 108, 116], [97, 110, 100], [98, 111, 111, 108], [98, 121], [99, 111, 117, 110, 116], [102, 97, 108, 115, 101], [102, 105, 114, 115, 116], [105, 102], [105, 110, 116], [108, 97, 99, 107, 115], [108, 97, 115, 116], [109, 97, 116, 99, 104], [109, 97, 120], [109, 105, 110], [110, 111, 116], [111, 114], [112, 108, 117, 115], [113, 117, 101, 114, 121], [114, 101, 116, 117, 114, 110], [115, 101, 113], [115, 116, 114, 105, 110, 103], [115, 117, 109], [116, 105, 109, 101], [116, 114, 117, 101], [116, 121, 112, 101], [119, 104, 101, 114, 101], [119, 105, 116, 104, 105, 110]]
theorem keyR_any (s : Str) : keyR s = kwL.any (fun w => s == w) := by
  unfold keyR kwL
  simp only [List.any_cons, List.any_nil, Bool.or_false, Bool.or_assoc]
theorem keyR_mem (s : Str) : keyR s = true ↔ s ∈ kwL := by
  rw [keyR_any, List.any_eq_true]
  constructor
  · rintro ⟨w, hw, he⟩
    rw [beq_iff_eq] at he
    exact he ▸ hw
  · intro h; exact ⟨s, h, beq_self_eq_true _⟩
theorem piece_of : ∀ (s l : Str), 32 ∉ s → (s ++ [32]).isPrefixOf l = true → s = l.takeWhile (fun c => c != 32) ∧ 32 ∈ l
  | [], l, _, h => by
    cases l with
    | nil => cases h
    | cons b t =>
      have : (32 : UInt8) = b := by simpa [List.isPrefixOf] using h
      subst this
      exact ⟨rfl, by simp⟩
  | c :: r, l, hn, h => by
    cases l with
    | nil => cases h
    | cons b t =>
      simp only [List.cons_append, List.isPrefixOf, Bool.and_eq_true, beq_iff_eq] at h
      obtain ⟨rfl, h⟩ := h
      have hc : (32 : UInt8) ≠ c := fun e => hn (by simp [e])
      obtain ⟨i1, i2⟩ := piece_of r t (fun e => hn (List.mem_cons_of_mem _ e)) h
      have e : (c != 32) = true := by simpa [bne] using fun e => hc e.symm
      refine ⟨?_, List.mem_cons_of_mem _ i2⟩
      rw [List.takeWhile_cons_of_pos (p := fun c => c != 32) e, ← i1]
def kwAt (l : Str) : Bool := match l with
  | [] => true
  | c :: r => if c == 32 && r.contains 32 then kwL.contains (r.takeWhile (fun c => c != 32)) || ((r.takeWhile (fun c => c != 32)) == []) else true
theorem kw_all : (List.range 200).all (fun j => kwAt (keywords.drop j)) = true := by kernel_rfl
theorem kw_len : keywords.length ≤ 199 := of_decide_eq_true (by kernel_rfl)
theorem kw_back : kwL.all (fun w => Lib.contains keywords ([32] ++ w ++ [32]) && !(w == []) && !(w.contains 32)) = true := by kernel_rfl
theorem key_eq (s : Str) : keyS s = keyR s := by
  rw [Bool.eq_iff_iff, keyR_mem]
  unfold keyS
  simp only [Bool.and_eq_true, Bool.not_eq_true']
  constructor
  · rintro ⟨⟨h1, h2⟩, h3⟩
    have hn : 32 ∉ s := fun h => by rw [(contains_one s 32).2 h] at h2; cases h2
    obtain ⟨j, hj, ho⟩ := (contains_iff _ _).1 h3
    have hk := List.all_eq_true.1 kw_all j (List.mem_range.2 (by have := kw_len; omega))
    unfold Lib.occAt at ho
    generalize keywords.drop j = l at ho hk
    cases l with
    | nil => cases ho
    | cons b t =>
      simp only [List.cons_append, List.nil_append, List.isPrefixOf, Bool.and_eq_true, beq_iff_eq] at ho
      obtain ⟨rfl, ho⟩ := ho
      obtain ⟨i1, i2⟩ := piece_of s t hn ho
      unfold kwAt at hk
      have e : t.contains 32 = true := by simpa using i2
      simp only [e, ← i1] at hk
      have e0 : ((32 : UInt8) == 32 && true) = true := rfl
      rw [e0, if_pos rfl, h1, Bool.or_false] at hk
      simpa using hk
  · intro h
    have := List.all_eq_true.1 kw_back s h
    simp only [Bool.and_eq_true, Bool.not_eq_true'] at this
    obtain ⟨⟨k1, k2⟩, k3⟩ := this
    refine ⟨⟨k2, ?_⟩, k1⟩
    rw [Bool.eq_false_iff]
    intro h
    rw [contains_one] at h
    have : s.contains 32 = true := by simpa using h
    rw [this] at k3; cases k3

theorem idx_any (p : UInt8 → Bool) : ∀ s : Str, decide (0 ≤ idxS p s) = s.any p
  | [] => rfl
  | c :: r => by
    have ih := idx_any p r
    rw [List.any_cons, ← ih, idxS]
    cases p c with
    | true => rfl
    | false =>
      by_cases h : idxS p r = -1
      · rw [if_neg (by decide), if_pos h, h]; rfl
      · rw [if_neg (by decide), if_neg h, Bool.false_or]
        refine decide_eq_decide.2 ?_
        have : ∀ s : Str, -1 ≤ idxS p s := by
          intro s
          induction s with
          | nil => exact Int.le_refl _
          | cons c r ih =>
            unfold idxS
            split
            · decide
            · split
              · decide
              · omega
        have := this r
        omega
theorem span_all (p : UInt8 → Bool) : ∀ s : Str, decide (spanS p s = s.length) = s.all p
  | [] => rfl
  | c :: r => by
    have ih := span_all p r
    rw [List.all_cons, ← ih, spanS]
    cases p c with
    | true => rw [if_pos rfl, Bool.true_and, List.length_cons]; exact decide_eq_decide.2 (by omega)
    | false => rw [if_neg (by decide), Bool.false_and, List.length_cons]; exact decide_eq_false (by omega)
theorem letter_digit (c : UInt8) : (letterS c && digitS c) = false := by
  have := u8_all (p := fun c => (letterS c && digitS c) == false) (by kernel_rfl) c
  exact eq_of_beq this
theorem name_eq (s : Str) : nameS s = nameR s := by
  unfold nameS nameR
  rw [key_eq, idx_any]
  cases s with
  | nil => rfl
  | cons c r =>
    have hb : bt (c :: r) 0 = c := rfl
    have hs : ((spanS wordS (c :: r) : Int) != ((c :: r).length : Int)) = (c :: r).any oddS := by
      have h := span_all wordS (c :: r)
      have h2 : (c :: r).any oddS = !((c :: r).all wordS) := by
        have : oddS = fun c => !(wordS c) := by funext c; unfold oddS wordS; rw [Bool.not_or]
        rw [this, ← List.not_all_eq_any_not]
      rw [h2, ← h, Bool.eq_iff_iff, bne_iff_ne, Bool.not_eq_true', decide_eq_false_iff_not]
      omega
    rw [hs, hb, List.any_cons]
    have ho : oddS c = (!letterS c && !digitS c) := rfl
    rw [ho]
    have hld := letter_digit c
    generalize keyR (c :: r) = K
    generalize decide (24 < ((c :: r).length : Int)) = A
    have e0 : (c :: r == []) = false := rfl
    rw [e0]
    generalize r.any oddS = O
    generalize letterS c = L at *
    generalize digitS c = D at *
    revert hld
    cases K <;> cases A <;> cases O <;> cases L <;> cases D <;> decide

theorem quoteB_eq (c : UInt8) : quoteB c = quoteBR c := by
  have := u8_all (p := fun c => quoteB c == quoteBR c) (by kernel_rfl) c
  exact eq_of_beq this
theorem quoteGo_eq : ∀ s : Str, quoteGo s = quoteGoR s
  | [] => rfl
  | c :: r => by rw [quoteGo, quoteGoR, quoteB_eq, quoteGo_eq r]
theorem quote_eq (s : Str) : quoteS s = quoteR s := by unfold quoteS quoteR; rw [quoteGo_eq]

/-! A literal is read as its string. -/
theorem quoteB_len (c : UInt8) : 1 ≤ (quoteB c).length ∧ (quoteB c).length ≤ 4 := by
  have := u8_all (p := fun c => decide (1 ≤ (quoteB c).length ∧ (quoteB c).length ≤ 4)) (by kernel_rfl) c
  exact of_decide_eq_true this
theorem quoteGo_len2 : ∀ s : Str, s.length ≤ (quoteGo s).length ∧ (quoteGo s).length ≤ 4 * s.length
  | [] => ⟨Nat.le_refl _, Nat.le_refl _⟩
  | c :: r => by
    have h1 := quoteB_len c
    have h2 := quoteGo_len2 r
    rw [quoteGo, List.length_append, List.length_cons]
    omega
/-- One byte is read back. -/
def backB (c : UInt8) (w : Str) : Bool :=
  if ((bt w 0).toNat : Int) == 92 then (escS w).2 == (w.length : Int) && (escS w).1 == c else w == [c] && !(((c.toNat : Int) == 34)) && !(decide ((c.toNat : Int) < 32) || decide (126 < (c.toNat : Int)))
theorem back_ok (c : UInt8) : backB c (quoteB c) = true := u8_all (p := fun c => backB c (quoteB c)) (by kernel_rfl) c
theorem bt_left {u v : Str} {i : Nat} (h : i < u.length) : bt (u ++ v) i = bt u i := by
  simp only [bt, List.getD_eq_getElem?_getD]; rw [List.getElem?_append_left h]
theorem escS_left {u v : Str} (h : (escS u).2 ≠ 0) : escS (u ++ v) = escS u := by
  have hl : ((u ++ v).length : Int) = (u.length : Int) + (v.length : Int) := by rw [List.length_append]; omega
  unfold escS at h ⊢
  by_cases h2 : (2 : Int) ≤ (u.length : Int)
  · have e1 : decide ((2 : Int) ≤ (u.length : Int)) = true := decide_eq_true h2
    have e2 : decide ((2 : Int) ≤ ((u ++ v).length : Int)) = true := decide_eq_true (by omega)
    rw [e1] at h ⊢
    rw [e2, bt_left (show 1 < u.length by omega)]
    cases hB : (((bt u 1).toNat : Int) == 34 || ((bt u 1).toNat : Int) == 92) with
    | true => rfl
    | false =>
      rw [hB] at h
      simp only [Bool.true_and, Bool.false_eq_true, ↓reduceIte] at h ⊢
      by_cases h4 : (4 : Int) ≤ (u.length : Int)
      · have e3 : decide ((4 : Int) ≤ (u.length : Int)) = true := decide_eq_true h4
        have e4 : decide ((4 : Int) ≤ ((u ++ v).length : Int)) = true := decide_eq_true (by omega)
        rw [e3, e4, bt_left (show 2 < u.length by omega), bt_left (show 3 < u.length by omega)]
      · have e3 : decide ((4 : Int) ≤ (u.length : Int)) = false := decide_eq_false h4
        rw [e3] at h
        exact absurd rfl h
  · have e1 : decide ((2 : Int) ≤ (u.length : Int)) = false := decide_eq_false h2
    have e3 : decide ((4 : Int) ≤ (u.length : Int)) = false := decide_eq_false (by omega)
    rw [e1, e3] at h
    exact absurd rfl h
theorem bt_mid (p : Str) (c : UInt8) (v : Str) : bt (p ++ c :: v) p.length = c := by
  simp [bt, List.getD_eq_getElem?_getD]
theorem litGo_quote (rest : Str) : ∀ (r p b : Str) (n : Nat), r.length < n → (b ++ r).length ≤ 64 →
    litGo (p ++ (quoteGo r ++ 34 :: rest)) n p.length b = foT 2 (b ++ r) ((p.length : Int) + ((quoteGo r).length : Int) + 1)
  | [], p, b, n, hn, hb => by
    obtain ⟨m, rfl⟩ : ∃ m, n = m + 1 := ⟨n - 1, by simp at hn; omega⟩
    rw [litGo_succ, quoteGo, List.nil_append, bt_mid]
    have e1 : decide ((p.length : Int) < ((p ++ 34 :: rest).length : Int)) = true := decide_eq_true (by rw [List.length_append, List.length_cons]; omega)
    have e2 : (((34 : UInt8).toNat : Int) == 34) = true := rfl
    have e3 : decide (64 < (b.length : Int)) = false := decide_eq_false (by simp at hb; omega)
    rw [e1, e2, e3, List.append_nil]
    simp
  | c :: r, p, b, n, hn, hb => by
    obtain ⟨m, rfl⟩ : ∃ m, n = m + 1 := ⟨n - 1, by simp at hn; omega⟩
    have hk := back_ok c
    have hlen := quoteB_len c
    have hlr : (quoteB c ++ quoteGo r).length = (quoteB c).length + (quoteGo r).length := List.length_append ..
    have ih : ∀ b', b' = b ++ [c] → litGo ((p ++ quoteB c) ++ (quoteGo r ++ 34 :: rest)) m (p ++ quoteB c).length b' = foT 2 (b' ++ r) (((p ++ quoteB c).length : Int) + ((quoteGo r).length : Int) + 1) := fun b' e =>
      litGo_quote rest r (p ++ quoteB c) b' m (by simp at hn; omega) (by subst e; simpa [Nat.add_assoc, Nat.add_comm 1] using hb)
    have ih := ih _ rfl
    have eb : (b ++ [c]) ++ r = b ++ c :: r := by simp
    rw [eb] at ih
    rw [quoteGo, List.append_assoc, ← List.append_assoc p]
    have ep : ((p ++ quoteB c).length : Int) + ((quoteGo r).length : Int) + 1 = (p.length : Int) + ((quoteB c ++ quoteGo r).length : Int) + 1 := by
      rw [hlr, List.length_append]; omega
    rw [ep] at ih
    rw [← ih, litGo_succ]
    generalize hq : quoteB c = q at *
    obtain ⟨x, q', rfl⟩ : ∃ x q', q = x :: q' := by
      cases q with
      | nil => simp at hlen
      | cons x q' => exact ⟨x, q', rfl⟩
    have e0 : bt ((p ++ x :: q') ++ (quoteGo r ++ 34 :: rest)) p.length = x := by
      rw [List.append_assoc, List.cons_append, bt_mid]
    have e1 : decide ((p.length : Int) < (((p ++ x :: q') ++ (quoteGo r ++ 34 :: rest)).length : Int)) = true := decide_eq_true (by simp only [List.length_append, List.length_cons]; omega)
    have ed : ((p ++ x :: q') ++ (quoteGo r ++ 34 :: rest)).drop p.length = (x :: q') ++ (quoteGo r ++ 34 :: rest) := by
      rw [List.append_assoc, List.drop_left]
    rw [e0, e1, ed]
    simp only [↓reduceIte]
    unfold backB at hk
    have hx0 : bt (x :: q') 0 = x := rfl
    rw [hx0] at hk
    cases h92 : ((x.toNat : Int) == 92) with
    | true =>
      rw [h92] at hk
      simp only [↓reduceIte, Bool.and_eq_true, beq_iff_eq] at hk
      obtain ⟨k1, k2⟩ := hk
      have h34 : ((x.toNat : Int) == 34) = false := by
        rw [beq_eq_false_iff_ne]; rw [beq_iff_eq] at h92; omega
      have hne : (escS (x :: q')).2 ≠ 0 := by rw [k1, List.length_cons]; omega
      rw [escS_left hne, h34, k1, k2]
      have e5 : (((x :: q').length : Int) == 0) = false := by rw [beq_eq_false_iff_ne, List.length_cons]; omega
      rw [e5]
      simp only [Bool.false_eq_true, ↓reduceIte]
      have e6 : ((x :: q').length : Int).toNat = (x :: q').length := Int.toNat_natCast _
      rw [e6, ← List.length_append]
    | false =>
      rw [h92] at hk
      simp only [Bool.false_eq_true, ↓reduceIte, Bool.and_eq_true, beq_iff_eq, Bool.not_eq_true'] at hk
      obtain ⟨⟨k1, k2⟩, k3⟩ := hk
      have kx : x = c := (List.cons.inj k1).1
      have kq : q' = [] := (List.cons.inj k1).2
      subst kx kq
      rw [k2, k3]
      simp only [Bool.false_eq_true, ↓reduceIte]
      rw [List.length_append, List.length_singleton]
theorem next_quote (s rest : Str) (hs : s.length ≤ 64) : nextF (34 :: (quoteGo s ++ 34 :: rest)) = foT 2 s (((quoteGo s).length : Int) + 2) := by
  have hb : bt (34 :: (quoteGo s ++ 34 :: rest)) 0 = 34 := rfl
  have hn : nameF (34 :: (quoteGo s ++ 34 :: rest)) = foZ := by unfold nameF; rw [hb]; rfl
  have hm : numberF (34 :: (quoteGo s ++ 34 :: rest)) = foZ := by
    unfold numberF
    have : spanS digitS (34 :: (quoteGo s ++ 34 :: rest)) = 0 := by rw [spanS]; rfl
    rw [this]; rfl
  have hl : litF (34 :: (quoteGo s ++ 34 :: rest)) = foT 2 s (((quoteGo s).length : Int) + 2) := by
    unfold litF
    rw [hb]
    have e : (((34 : UInt8).toNat : Int) != 34) = false := rfl
    rw [e]
    have h := litGo_quote rest s [34] [] ((34 :: (quoteGo s ++ 34 :: rest)).length + 1) (by have := (quoteGo_len2 s).1; simp only [List.length_append, List.length_cons]; omega) (by simpa using hs)
    have e2 : (((([34] : Str)).length : Int) + ((quoteGo s).length : Int) + 1) = ((quoteGo s).length : Int) + 2 := by
      have : ((([34] : Str)).length : Int) = 1 := rfl
      rw [this]; omega
    rw [e2] at h
    exact h
  unfold nextF
  have hz : hitF foZ = false := rfl
  rw [hn, hm, hl, hz]
  simp only [Bool.false_eq_true, ↓reduceIte]
  rw [if_pos (hit_tok (by omega))]
theorem scan_quote (s : Str) (hs : s.length ≤ 64) : scanS (quoteS s).1 = ([⟨2, s, 0⟩], 0, 0) := by
  have e0 : decide (64 < (s.length : Int)) = false := decide_eq_false (by omega)
  have hq : (quoteS s).1 = 34 :: (quoteGo s ++ 34 :: []) := by unfold quoteS; rw [e0]; simp
  have hl := quoteGo_len2 s
  rw [hq]
  unfold scanS
  have hlen : (34 :: (quoteGo s ++ 34 :: [])).length = (quoteGo s).length + 2 := by simp
  have e1 : decide (65536 < ((34 :: (quoteGo s ++ 34 :: [])).length : Int)) = false := decide_eq_false (by rw [hlen]; omega)
  rw [e1]
  simp only [Bool.false_eq_true, ↓reduceIte]
  rw [scanGo_succ, in_text (by rw [hlen]; omega)]
  have es : sepS ((34 :: (quoteGo s ++ 34 :: [])).drop 0) = 0 := rfl
  have en : nextF ((34 :: (quoteGo s ++ 34 :: [])).drop 0) = foT 2 s (((quoteGo s).length : Int) + 2) := next_quote s [] hs
  rw [es, en]
  have e3 : ((foT 2 s (((quoteGo s).length : Int) + 2)).err != 0) = false := rfl
  have e4 : (0 + (foT 2 s (((quoteGo s).length : Int) + 2)).bytes.toNat) = (quoteGo s).length + 2 := by
    show 0 + (((quoteGo s).length : Int) + 2).toNat = _; omega
  have e5 : decide ((0 : Int) < 0) = false := rfl
  rw [e3, e4, e5, hlen]
  simp only [Bool.false_eq_true, ↓reduceIte]
  rw [scanGo_succ, hlen]
  have e6 : decide ((((quoteGo s).length + 2 : Nat) : Int) < (((quoteGo s).length + 2 : Nat) : Int)) = false := decide_eq_false (by omega)
  rw [e6]
  simp [foT]
end Go.Proofs.YtpgmglacdcfnaaaDoor
