/-
  Several texts in one: P1, P2, P3, P5, P7, P8. No condition.
-/
import Derived.Test.YtabkeeedkhgodaaGreatDoorW9
import Derived.KernelRfl
namespace Go.Proofs.YtabkeeedkhgodaaGreatDoor
open Go Go.Aw
set_option linter.unusedVariables false
set_option linter.unusedSimpArgs false

theorem u8_all {p : UInt8 → Bool} (h : (List.range 256).all (fun n => p (UInt8.ofNat n)) = true) (c : UInt8) : p c = true := by
  rw [List.all_eq_true] at h
  have := h c.toNat (List.mem_range.2 c.toNat_lt)
  rwa [UInt8.ofNat_toNat] at this
/-- What the two literals say. -/
def LRel (i : Nat) (f : Fo) (r : Str × Int × Int) : Prop :=
  if f.err = 0 then f.tok.kind = 2 ∧ 0 < f.bytes ∧ r = (f.tok.text, (i : Int) + f.bytes, 0) else r.2 = ((i : Int) + f.pos, f.err)
theorem litGoR_succ {s : Str} {k n i : Nat} {b : Str} : litGoR s k (n + 1) i b =
    if decide ((s.length : Int) ≤ (i : Int)) then (([], (s.length : Int), 4) : Str × Int × Int)
    else if (((bt s i).toNat : Int) == 34) then if decide (64 < (b.length : Int)) then ([], (k : Int), 13) else (b, (i : Int) + 1, 0)
    else if plainR (bt s i) then litGoR s k n (i + 1) (b ++ [bt s i])
    else if (((bt s i).toNat : Int) != 92) || ((escR s i).2 == 0) then ([], (i : Int), 4)
    else litGoR s k n (escR s i).2.toNat (b ++ [(escR s i).1]) := rfl
theorem litGo_succ {s : Str} {n i : Nat} {b : Str} : litGo s (n + 1) i b =
    if decide ((i : Int) < (s.length : Int)) then
      if (((bt s i).toNat : Int) == 34) then
        if decide (64 < (b.length : Int)) then foE 0 13 else foT 2 b ((i : Int) + 1)
      else if (((bt s i).toNat : Int) == 92) then
        if ((escS (s.drop i)).2 == 0) then foE i 4 else litGo s n (i + (escS (s.drop i)).2.toNat) (b ++ [(escS (s.drop i)).1])
      else if (decide (((bt s i).toNat : Int) < 32) || decide (126 < ((bt s i).toNat : Int))) then foE i 4
      else litGo s n (i + 1) (b ++ [bt s i])
    else foE s.length 4 := rfl
end Go.Proofs.YtabkeeedkhgodaaGreatDoor

namespace Go.Proofs.YtabkeeedkhgodaaGreatDoor
open Go Go.Aw
set_option linter.unusedVariables false
set_option linter.unusedSimpArgs false

/-! Signs. -/
def okSign : Str → Bool
  | [_] => true
  | [_, b] => b == 61
  | _ => false
def signHit (c : UInt8) (two : Bool) : Str → Bool
  | [a] => a == c
  | [a, _] => a == c && two
  | _ => false
theorem signGo_hit (c : UInt8) (r : Str) : ∀ l : List Str, l.all okSign = true → signGo (c :: r) l = match l.find? (signHit c (Lib.hasPrefix r [61])) with | none => foE 0 4 | some x => foT 3 x x.length
  | [], _ => rfl
  | x :: l, h => by
    simp only [List.all_cons, Bool.and_eq_true] at h
    have e : Lib.hasPrefix (c :: r) x = signHit c (Lib.hasPrefix r [61]) x := by
      match x, h.1 with
      | [a], _ => simp [Lib.hasPrefix, signHit, List.isPrefixOf]
      | [a, b], h => 
        have : b = 61 := by simpa [okSign] using h
        subst this
        simp [Lib.hasPrefix, signHit, List.isPrefixOf]
    rw [signGo, e, List.find?_cons]
    cases signHit c (Lib.hasPrefix r [61]) x with
    | true => rfl
    | false => simpa using signGo_hit c r l h.2
def signV (c : UInt8) (two : Bool) : Option Str := signL.find? (signHit c two)
def signN (c : UInt8) (two : Bool) : Int := if sign2 c && two then 2 else if sign1 c then 1 else 0
theorem signV_N (c : UInt8) (two : Bool) : (signV c two = none ∧ signN c two = 0) ∨ (two = true ∧ signV c two = some [c, 61] ∧ signN c two = 2) ∨ (signV c two = some [c] ∧ signN c two = 1) := by
  cases two with
  | true =>
    have := u8_all (p := fun c => decide ((signV c true = none ∧ signN c true = 0) ∨ (true = true ∧ signV c true = some [c, 61] ∧ signN c true = 2) ∨ (signV c true = some [c] ∧ signN c true = 1))) (by kernel_rfl) c
    exact of_decide_eq_true this
  | false =>
    have := u8_all (p := fun c => decide ((signV c false = none ∧ signN c false = 0) ∨ (false = true ∧ signV c false = some [c, 61] ∧ signN c false = 2) ∨ (signV c false = some [c] ∧ signN c false = 1))) (by kernel_rfl) c
    exact of_decide_eq_true this
/-! Numbers. -/
/-! The next token. -/
def TRel (i : Nat) (f : Fo) (r : Tok × Int × Int) : Prop :=
  (f.err = 0 ∧ 0 < f.bytes ∧ r = (⟨f.tok.kind, f.tok.text, i⟩, (i : Int) + f.bytes, 0)) ∨ (f.err ≠ 0 ∧ r.2 = ((i : Int) + f.pos, f.err))
theorem hit_err {pos e : Int} (h : e ≠ 0) : hitF (foE pos e) = true := by
  unfold hitF foE
  simp [h]
theorem hit_tok {k : Int} {t : Str} {n : Int} (h : 0 < n) : hitF (foT k t n) = true := by
  unfold hitF foT
  simp [h]
theorem quote_byte {c : UInt8} : ((c.toNat : Int) == 34) = true → letterS c = false ∧ digitS c = false := by
  have := u8_all (p := fun c => decide (((c.toNat : Int) == 34) = true → letterS c = false ∧ digitS c = false)) (by kernel_rfl) c
  exact of_decide_eq_true this
end Go.Proofs.YtabkeeedkhgodaaGreatDoor

namespace Go.Proofs.YtabkeeedkhgodaaGreatDoor
open Go Go.Aw
set_option linter.unusedVariables false
set_option linter.unusedSimpArgs false

theorem scanGo_succ {s : Str} {n i : Nat} {out : List Tok} : scanGo s (n + 1) i out =
    if decide ((i : Int) < (s.length : Int)) then
      if decide (0 < sepS (s.drop i)) then scanGo s n (i + (sepS (s.drop i)).toNat) out
      else if ((nextF (s.drop i)).err != 0) then (([], (i : Int) + (nextF (s.drop i)).pos, (nextF (s.drop i)).err) : List Tok × Int × Int)
      else scanGo s n (i + (nextF (s.drop i)).bytes.toNat) (out ++ [⟨(nextF (s.drop i)).tok.kind, (nextF (s.drop i)).tok.text, i⟩])
    else (out, 0, 0) := rfl
theorem scanGoR_succ {s : Str} {n i : Nat} {c : Bool} {out : List Tok} : scanGoR s (n + 1) i c out =
    if decide ((i : Int) < (s.length : Int)) then
      if ((c || spaceR (bt s i)) || (((bt s i).toNat : Int) == 35)) then scanGoR s n (i + 1) ((c || (((bt s i).toNat : Int) == 35)) && (((bt s i).toNat : Int) != 10)) out
      else if ((tokenR s i).2.2 != 0) then (([], (tokenR s i).2.1, (tokenR s i).2.2) : List Tok × Int × Int)
      else scanGoR s n (tokenR s i).2.1.toNat false (out ++ [(tokenR s i).1])
    else (out, 0, 0) := rfl
theorem in_text {s : Str} {i : Nat} (h : i < s.length) : decide ((i : Int) < (s.length : Int)) = true := by simp only [decide_eq_true_eq]; omega
end Go.Proofs.YtabkeeedkhgodaaGreatDoor

namespace Go.Proofs.YtabkeeedkhgodaaGreatDoor
open Go Go.Aw
set_option linter.unusedVariables false
set_option linter.unusedSimpArgs false

theorem contains_iff (s sub : Str) : Lib.contains s sub = true ↔ ∃ j, j ≤ s.length ∧ Lib.occAt s sub j = true := by
  unfold Lib.contains
  rw [decide_eq_true_eq]
  rcases Lib.index_spec s sub with ⟨h1, h2⟩ | ⟨i, h1, h2, h3, _⟩
  · rw [h1]
    constructor
    · intro h; omega
    · rintro ⟨j, hj, ho⟩; rw [h2 j hj] at ho; cases ho
  · rw [h1]
    exact ⟨fun _ => ⟨i, h2, h3⟩, fun _ => by omega⟩
theorem contains_one (s : Str) (c : UInt8) : Lib.contains s [c] = true ↔ c ∈ s := by
  rw [contains_iff]
  constructor
  · rintro ⟨j, _, ho⟩
    unfold Lib.occAt at ho
    rw [List.isPrefixOf_iff_prefix] at ho
    obtain ⟨t, ht⟩ := ho
    exact List.mem_of_mem_drop (i := j) (by rw [← ht]; simp)
  · intro h
    obtain ⟨u, v, rfl⟩ := List.append_of_mem h
    refine ⟨u.length, by simp, ?_⟩
    unfold Lib.occAt
    rw [List.drop_left, List.isPrefixOf_iff_prefix]
    exact ⟨v, rfl⟩

def kwL : List Str := [[97, 108, 108], [97, 108, 116], [97, 110, 100], [98, 111, 111, 108], [98, 121], [99, 111, 117, 110, 116], [102, 97, 108, 115, 101], [102, 105, 114, 115, 116], [105, 102], [105, 110, 116], [108, 97, 99, 107, 115], [108, 97, 115, 116], [109, 97, 116, 99, 104], [109, 97, 120], [109, 105, 110], [110, 111, 116], [111, 114], [112, 108, 117, 115], [113, 117, 101, 114, 121], [114, 101, 116, 117, 114, 110], [115, 101, 113], [115, 116, 114, 105, 110, 103], [115, 117, 109], [116, 105, 109, 101], [116, 114, 117, 101], [116, 121, 112, 101], [119, 104, 101, 114, 101], [119, 105, 116, 104, 105, 110]]
theorem keyR_any (s : Str) : keyR s = kwL.any (fun w => s == w) := by
  unfold keyR kwL
  simp only [List.any_cons, List.any_nil, Bool.or_false, Bool.or_assoc]
theorem keyR_mem (s : Str) : keyR s = true ↔ s ∈ kwL := by
  rw [keyR_any, List.any_eq_true]
  constructor
  · rintro ⟨w, hw, he⟩
    rw [beq_iff_eq] at he
    exact he ▸ hw
  · intro h; exact ⟨s, h, beq_self_eq_true _⟩
theorem piece_of : ∀ (s l : Str), 32 ∉ s → (s ++ [32]).isPrefixOf l = true → s = l.takeWhile (fun c => c != 32) ∧ 32 ∈ l
  | [], l, _, h => by
    cases l with
    | nil => cases h
    | cons b t =>
      have : (32 : UInt8) = b := by simpa [List.isPrefixOf] using h
      subst this
      exact ⟨rfl, by simp⟩
  | c :: r, l, hn, h => by
    cases l with
    | nil => cases h
    | cons b t =>
      simp only [List.cons_append, List.isPrefixOf, Bool.and_eq_true, beq_iff_eq] at h
      obtain ⟨rfl, h⟩ := h
      have hc : (32 : UInt8) ≠ c := fun e => hn (by simp [e])
      obtain ⟨i1, i2⟩ := piece_of r t (fun e => hn (List.mem_cons_of_mem _ e)) h
      have e : (c != 32) = true := by simpa [bne] using fun e => hc e.symm
      refine ⟨?_, List.mem_cons_of_mem _ i2⟩
      rw [List.takeWhile_cons_of_pos (p := fun c => c != 32) e, ← i1]
def kwAt (l : Str) : Bool := match l with
  | [] => true
  | c :: r => if c == 32 && r.contains 32 then kwL.contains (r.takeWhile (fun c => c != 32)) || ((r.takeWhile (fun c => c != 32)) == []) else true
theorem kw_all : (List.range 200).all (fun j => kwAt (keywords.drop j)) = true := by kernel_rfl
theorem kw_len : keywords.length ≤ 199 := of_decide_eq_true (by kernel_rfl)
theorem kw_back : kwL.all (fun w => Lib.contains keywords ([32] ++ w ++ [32]) && !(w == []) && !(w.contains 32)) = true := by kernel_rfl
theorem key_eq (s : Str) : keyS s = keyR s := by
  rw [Bool.eq_iff_iff, keyR_mem]
  unfold keyS
  simp only [Bool.and_eq_true, Bool.not_eq_true']
  constructor
  · rintro ⟨⟨h1, h2⟩, h3⟩
    have hn : 32 ∉ s := fun h => by rw [(contains_one s 32).2 h] at h2; cases h2
    obtain ⟨j, hj, ho⟩ := (contains_iff _ _).1 h3
    have hk := List.all_eq_true.1 kw_all j (List.mem_range.2 (by have := kw_len; omega))
    unfold Lib.occAt at ho
    generalize keywords.drop j = l at ho hk
    cases l with
    | nil => cases ho
    | cons b t =>
      simp only [List.cons_append, List.nil_append, List.isPrefixOf, Bool.and_eq_true, beq_iff_eq] at ho
      obtain ⟨rfl, ho⟩ := ho
      obtain ⟨i1, i2⟩ := piece_of s t hn ho
      unfold kwAt at hk
      have e : t.contains 32 = true := by simpa using i2
      simp only [e, ← i1] at hk
      have e0 : ((32 : UInt8) == 32 && true) = true := rfl
      rw [e0, if_pos rfl, h1, Bool.or_false] at hk
      simpa using hk
  · intro h
    have := List.all_eq_true.1 kw_back s h
    simp only [Bool.and_eq_true, Bool.not_eq_true'] at this
    obtain ⟨⟨k1, k2⟩, k3⟩ := this
    refine ⟨⟨k2, ?_⟩, k1⟩
    rw [Bool.eq_false_iff]
    intro h
    rw [contains_one] at h
    have : s.contains 32 = true := by simpa using h
    rw [this] at k3; cases k3

theorem idx_any (p : UInt8 → Bool) : ∀ s : Str, decide (0 ≤ idxS p s) = s.any p
  | [] => rfl
  | c :: r => by
    have ih := idx_any p r
    rw [List.any_cons, ← ih, idxS]
    cases p c with
    | true => rfl
    | false =>
      by_cases h : idxS p r = -1
      · rw [if_neg (by decide), if_pos h, h]; rfl
      · rw [if_neg (by decide), if_neg h, Bool.false_or]
        refine decide_eq_decide.2 ?_
        have : ∀ s : Str, -1 ≤ idxS p s := by
          intro s
          induction s with
          | nil => exact Int.le_refl _
          | cons c r ih =>
            unfold idxS
            split
            · decide
            · split
              · decide
              · omega
        have := this r
        omega
theorem span_all (p : UInt8 → Bool) : ∀ s : Str, decide (spanS p s = s.length) = s.all p
  | [] => rfl
  | c :: r => by
    have ih := span_all p r
    rw [List.all_cons, ← ih, spanS]
    cases p c with
    | true => rw [if_pos rfl, Bool.true_and, List.length_cons]; exact decide_eq_decide.2 (by omega)
    | false => rw [if_neg (by decide), Bool.false_and, List.length_cons]; exact decide_eq_false (by omega)
theorem letter_digit (c : UInt8) : (letterS c && digitS c) = false := by
  have := u8_all (p := fun c => (letterS c && digitS c) == false) (by kernel_rfl) c
  exact eq_of_beq this
theorem name_eq (s : Str) : nameS s = nameR s := by
  unfold nameS nameR
  rw [key_eq, idx_any]
  cases s with
  | nil => rfl
  | cons c r =>
    have hb : bt (c :: r) 0 = c := rfl
    have hs : ((spanS wordS (c :: r) : Int) != ((c :: r).length : Int)) = (c :: r).any oddS := by
      have h := span_all wordS (c :: r)
      have h2 : (c :: r).any oddS = !((c :: r).all wordS) := by
        have : oddS = fun c => !(wordS c) := by funext c; unfold oddS wordS; rw [Bool.not_or]
        rw [this, ← List.not_all_eq_any_not]
      rw [h2, ← h, Bool.eq_iff_iff, bne_iff_ne, Bool.not_eq_true', decide_eq_false_iff_not]
      omega
    rw [hs, hb, List.any_cons]
    have ho : oddS c = (!letterS c && !digitS c) := rfl
    rw [ho]
    have hld := letter_digit c
    generalize keyR (c :: r) = K
    generalize decide (24 < ((c :: r).length : Int)) = A
    have e0 : (c :: r == []) = false := rfl
    rw [e0]
    generalize r.any oddS = O
    generalize letterS c = L at *
    generalize digitS c = D at *
    revert hld
    cases K <;> cases A <;> cases O <;> cases L <;> cases D <;> decide

/-! A literal is read as its string. -/
theorem quoteB_len (c : UInt8) : 1 ≤ (quoteB c).length ∧ (quoteB c).length ≤ 4 := by
  have := u8_all (p := fun c => decide (1 ≤ (quoteB c).length ∧ (quoteB c).length ≤ 4)) (by kernel_rfl) c
  exact of_decide_eq_true this
theorem quoteGo_len2 : ∀ s : Str, s.length ≤ (quoteGo s).length ∧ (quoteGo s).length ≤ 4 * s.length
  | [] => ⟨Nat.le_refl _, Nat.le_refl _⟩
  | c :: r => by
    have h1 := quoteB_len c
    have h2 := quoteGo_len2 r
    rw [quoteGo, List.length_append, List.length_cons]
    omega
/-- One byte is read back. -/
def backB (c : UInt8) (w : Str) : Bool :=
  if ((bt w 0).toNat : Int) == 92 then (escS w).2 == (w.length : Int) && (escS w).1 == c else w == [c] && !(((c.toNat : Int) == 34)) && !(decide ((c.toNat : Int) < 32) || decide (126 < (c.toNat : Int)))
theorem back_ok (c : UInt8) : backB c (quoteB c) = true := u8_all (p := fun c => backB c (quoteB c)) (by kernel_rfl) c
theorem bt_left {u v : Str} {i : Nat} (h : i < u.length) : bt (u ++ v) i = bt u i := by
  simp only [bt, List.getD_eq_getElem?_getD]; rw [List.getElem?_append_left h]
theorem escS_left {u v : Str} (h : (escS u).2 ≠ 0) : escS (u ++ v) = escS u := by
  have hl : ((u ++ v).length : Int) = (u.length : Int) + (v.length : Int) := by rw [List.length_append]; omega
  unfold escS at h ⊢
  by_cases h2 : (2 : Int) ≤ (u.length : Int)
  · have e1 : decide ((2 : Int) ≤ (u.length : Int)) = true := decide_eq_true h2
    have e2 : decide ((2 : Int) ≤ ((u ++ v).length : Int)) = true := decide_eq_true (by omega)
    rw [e1] at h ⊢
    rw [e2, bt_left (show 1 < u.length by omega)]
    cases hB : (((bt u 1).toNat : Int) == 34 || ((bt u 1).toNat : Int) == 92) with
    | true => rfl
    | false =>
      rw [hB] at h
      simp only [Bool.true_and, Bool.false_eq_true, ↓reduceIte] at h ⊢
      by_cases h4 : (4 : Int) ≤ (u.length : Int)
      · have e3 : decide ((4 : Int) ≤ (u.length : Int)) = true := decide_eq_true h4
        have e4 : decide ((4 : Int) ≤ ((u ++ v).length : Int)) = true := decide_eq_true (by omega)
        rw [e3, e4, bt_left (show 2 < u.length by omega), bt_left (show 3 < u.length by omega)]
      · have e3 : decide ((4 : Int) ≤ (u.length : Int)) = false := decide_eq_false h4
        rw [e3] at h
        exact absurd rfl h
  · have e1 : decide ((2 : Int) ≤ (u.length : Int)) = false := decide_eq_false h2
    have e3 : decide ((4 : Int) ≤ (u.length : Int)) = false := decide_eq_false (by omega)
    rw [e1, e3] at h
    exact absurd rfl h
theorem bt_mid (p : Str) (c : UInt8) (v : Str) : bt (p ++ c :: v) p.length = c := by
  simp [bt, List.getD_eq_getElem?_getD]
theorem litGo_quote (rest : Str) : ∀ (r p b : Str) (n : Nat), r.length < n → (b ++ r).length ≤ 64 →
    litGo (p ++ (quoteGo r ++ 34 :: rest)) n p.length b = foT 2 (b ++ r) ((p.length : Int) + ((quoteGo r).length : Int) + 1)
  | [], p, b, n, hn, hb => by
    obtain ⟨m, rfl⟩ : ∃ m, n = m + 1 := ⟨n - 1, by simp at hn; omega⟩
    rw [litGo_succ, quoteGo, List.nil_append, bt_mid]
    have e1 : decide ((p.length : Int) < ((p ++ 34 :: rest).length : Int)) = true := decide_eq_true (by rw [List.length_append, List.length_cons]; omega)
    have e2 : (((34 : UInt8).toNat : Int) == 34) = true := rfl
    have e3 : decide (64 < (b.length : Int)) = false := decide_eq_false (by simp at hb; omega)
    rw [e1, e2, e3, List.append_nil]
    simp
  | c :: r, p, b, n, hn, hb => by
    obtain ⟨m, rfl⟩ : ∃ m, n = m + 1 := ⟨n - 1, by simp at hn; omega⟩
    have hk := back_ok c
    have hlen := quoteB_len c
    have hlr : (quoteB c ++ quoteGo r).length = (quoteB c).length + (quoteGo r).length := List.length_append ..
    have ih : ∀ b', b' = b ++ [c] → litGo ((p ++ quoteB c) ++ (quoteGo r ++ 34 :: rest)) m (p ++ quoteB c).length b' = foT 2 (b' ++ r) (((p ++ quoteB c).length : Int) + ((quoteGo r).length : Int) + 1) := fun b' e =>
      litGo_quote rest r (p ++ quoteB c) b' m (by simp at hn; omega) (by subst e; simpa [Nat.add_assoc, Nat.add_comm 1] using hb)
    have ih := ih _ rfl
    have eb : (b ++ [c]) ++ r = b ++ c :: r := by simp
    rw [eb] at ih
    rw [quoteGo, List.append_assoc, ← List.append_assoc p]
    have ep : ((p ++ quoteB c).length : Int) + ((quoteGo r).length : Int) + 1 = (p.length : Int) + ((quoteB c ++ quoteGo r).length : Int) + 1 := by
      rw [hlr, List.length_append]; omega
    rw [ep] at ih
    rw [← ih, litGo_succ]
    generalize hq : quoteB c = q at *
    obtain ⟨x, q', rfl⟩ : ∃ x q', q = x :: q' := by
      cases q with
      | nil => simp at hlen
      | cons x q' => exact ⟨x, q', rfl⟩
    have e0 : bt ((p ++ x :: q') ++ (quoteGo r ++ 34 :: rest)) p.length = x := by
      rw [List.append_assoc, List.cons_append, bt_mid]
    have e1 : decide ((p.length : Int) < (((p ++ x :: q') ++ (quoteGo r ++ 34 :: rest)).length : Int)) = true := decide_eq_true (by simp only [List.length_append, List.length_cons]; omega)
    have ed : ((p ++ x :: q') ++ (quoteGo r ++ 34 :: rest)).drop p.length = (x :: q') ++ (quoteGo r ++ 34 :: rest) := by
      rw [List.append_assoc, List.drop_left]
    rw [e0, e1, ed]
    simp only [↓reduceIte]
    unfold backB at hk
    have hx0 : bt (x :: q') 0 = x := rfl
    rw [hx0] at hk
    cases h92 : ((x.toNat : Int) == 92) with
    | true =>
      rw [h92] at hk
      simp only [↓reduceIte, Bool.and_eq_true, beq_iff_eq] at hk
      obtain ⟨k1, k2⟩ := hk
      have h34 : ((x.toNat : Int) == 34) = false := by
        rw [beq_eq_false_iff_ne]; rw [beq_iff_eq] at h92; omega
      have hne : (escS (x :: q')).2 ≠ 0 := by rw [k1, List.length_cons]; omega
      rw [escS_left hne, h34, k1, k2]
      have e5 : (((x :: q').length : Int) == 0) = false := by rw [beq_eq_false_iff_ne, List.length_cons]; omega
      rw [e5]
      simp only [Bool.false_eq_true, ↓reduceIte]
      have e6 : ((x :: q').length : Int).toNat = (x :: q').length := Int.toNat_natCast _
      rw [e6, ← List.length_append]
    | false =>
      rw [h92] at hk
      simp only [Bool.false_eq_true, ↓reduceIte, Bool.and_eq_true, beq_iff_eq, Bool.not_eq_true'] at hk
      obtain ⟨⟨k1, k2⟩, k3⟩ := hk
      have kx : x = c := (List.cons.inj k1).1
      have kq : q' = [] := (List.cons.inj k1).2
      subst kx kq
      rw [k2, k3]
      simp only [Bool.false_eq_true, ↓reduceIte]
      rw [List.length_append, List.length_singleton]
theorem next_quote (s rest : Str) (hs : s.length ≤ 64) : nextF (34 :: (quoteGo s ++ 34 :: rest)) = foT 2 s (((quoteGo s).length : Int) + 2) := by
  have hb : bt (34 :: (quoteGo s ++ 34 :: rest)) 0 = 34 := rfl
  have hn : nameF (34 :: (quoteGo s ++ 34 :: rest)) = foZ := by unfold nameF; rw [hb]; rfl
  have hm : numberF (34 :: (quoteGo s ++ 34 :: rest)) = foZ := by
    unfold numberF
    have : spanS digitS (34 :: (quoteGo s ++ 34 :: rest)) = 0 := by rw [spanS]; rfl
    rw [this]; rfl
  have hl : litF (34 :: (quoteGo s ++ 34 :: rest)) = foT 2 s (((quoteGo s).length : Int) + 2) := by
    unfold litF
    rw [hb]
    have e : (((34 : UInt8).toNat : Int) != 34) = false := rfl
    rw [e]
    have h := litGo_quote rest s [34] [] ((34 :: (quoteGo s ++ 34 :: rest)).length + 1) (by have := (quoteGo_len2 s).1; simp only [List.length_append, List.length_cons]; omega) (by simpa using hs)
    have e2 : (((([34] : Str)).length : Int) + ((quoteGo s).length : Int) + 1) = ((quoteGo s).length : Int) + 2 := by
      have : ((([34] : Str)).length : Int) = 1 := rfl
      rw [this]; omega
    rw [e2] at h
    exact h
  unfold nextF
  have hz : hitF foZ = false := rfl
  rw [hn, hm, hl, hz]
  simp only [Bool.false_eq_true, ↓reduceIte]
  rw [if_pos (hit_tok (by omega))]
end Go.Proofs.YtabkeeedkhgodaaGreatDoor

namespace Go.Proofs.YtabkeeedkhgodaaGreatDoor
open Go Go.Aw
set_option linter.unusedVariables false
set_option linter.unusedSimpArgs false

/-! What the next token is, by its first byte. -/
theorem next_word {u : Str} (h : letterS (bt u 0) = true) (h0 : 0 < u.length) : nextF u = if decide (24 < (spanS wordS u : Int)) then foE 0 8 else foT 0 (u.take (spanS wordS u)) (spanS wordS u) := by
  have hp : 0 < spanS wordS u := by
    have := span_pos (p := wordS) (s := u) (k := 0) h0 (by unfold wordS; rw [h]; rfl)
    simpa using this
  have hn : nameF u = if decide (24 < (spanS wordS u : Int)) then foE 0 8 else foT 0 (u.take (spanS wordS u)) (spanS wordS u) := by unfold nameF; rw [h]; rfl
  have hh : hitF (nameF u) = true := by
    rw [hn]
    split
    · exact hit_err (by decide)
    · exact hit_tok (by omega)
  unfold nextF
  rw [hh, hn]; rfl
theorem name_none {u : Str} (h : letterS (bt u 0) = false) : nameF u = foZ := by unfold nameF; rw [h]; rfl
theorem next_num {u : Str} (h1 : letterS (bt u 0) = false) (h : digitS (bt u 0) = true) (h0 : 0 < u.length) : nextF u =
    if ((numS (u.take (spanS digitS u))).2 != 0) then foE 0 (numS (u.take (spanS digitS u))).2
    else if (decide ((spanS digitS u : Int) < (u.length : Int)) && letterS (bt u (spanS digitS u))) then foE (spanS digitS u) 4
    else foT 1 (u.take (spanS digitS u)) (spanS digitS u) := by
  have hp : 0 < spanS digitS u := by
    have := span_pos (p := digitS) (s := u) (k := 0) h0 h
    simpa using this
  have hn : numberF u = if ((numS (u.take (spanS digitS u))).2 != 0) then foE 0 (numS (u.take (spanS digitS u))).2
    else if (decide ((spanS digitS u : Int) < (u.length : Int)) && letterS (bt u (spanS digitS u))) then foE (spanS digitS u) 4
    else foT 1 (u.take (spanS digitS u)) (spanS digitS u) := by
    unfold numberF
    have e : ((spanS digitS u : Int) == 0) = false := by rw [beq_eq_false_iff_ne]; omega
    rw [e]; rfl
  have hh : hitF (numberF u) = true := by
    rw [hn]
    split
    · rename_i h; exact hit_err (by simpa using h)
    · split
      · exact hit_err (by decide)
      · exact hit_tok (by omega)
  unfold nextF
  rw [name_none h1, hh, hn]; rfl
theorem num_none {u : Str} (h : digitS (bt u 0) = false) (h0 : 0 < u.length) : numberF u = foZ := by
  unfold numberF
  have : spanS digitS u = 0 := by
    obtain ⟨c, r, rfl⟩ : ∃ c r, u = c :: r := by cases u with | nil => cases h0 | cons c r => exact ⟨c, r, rfl⟩
    rw [spanS, if_neg (by rw [show digitS c = false from h]; decide)]
  rw [this]; rfl
theorem next_lit {u : Str} (h : (((bt u 0).toNat : Int) == 34) = true) (h0 : 0 < u.length) : nextF u = if hitF (litGo u (u.length + 1) 1 []) then litGo u (u.length + 1) 1 [] else signF u := by
  have hq := quote_byte h
  have hl : litF u = litGo u (u.length + 1) 1 [] := by
    unfold litF
    have e : (((bt u 0).toNat : Int) != 34) = false := by simp only [bne, h]; rfl
    rw [e]; rfl
  unfold nextF
  rw [name_none hq.1, num_none hq.2 h0, hl]; rfl
theorem next_sign {u : Str} (h1 : letterS (bt u 0) = false) (h2 : digitS (bt u 0) = false) (h3 : (((bt u 0).toNat : Int) == 34) = false) (h0 : 0 < u.length) : nextF u = signF u := by
  have hl : litF u = foZ := by
    unfold litF
    have e : (((bt u 0).toNat : Int) != 34) = true := by simp only [bne, h3]; rfl
    rw [e]; rfl
  unfold nextF
  rw [name_none h1, num_none h2 h0, hl]; rfl

/-! What stands behind a token does not matter, if it does not go on. -/
def Sepd (w : Str) : Prop := ∀ c r, w = c :: r → wordS c = false ∧ c ≠ 61
theorem Sepd.cons {c : UInt8} {r : Str} (h : wordS c = false) (h2 : c ≠ 61) : Sepd (c :: r) := fun _ _ e => by
  rw [← (List.cons.inj e).1]; exact ⟨h, h2⟩
theorem span_left {p : UInt8 → Bool} {w : Str} (hw : ∀ c r, w = c :: r → p c = false) : ∀ u : Str, spanS p (u ++ w) = spanS p u
  | [] => by
    cases w with
    | nil => rfl
    | cons c r =>
      show (if p c then spanS p r + 1 else 0) = 0
      rw [hw c r rfl]; rfl
  | c :: r => by
    rw [List.cons_append, spanS, spanS, span_left hw r]
theorem word_no {c : UInt8} (h : wordS c = false) : letterS c = false ∧ digitS c = false := by
  unfold wordS at h; rw [Bool.or_eq_false_iff] at h; exact h
theorem bt_right {u w : Str} : bt (u ++ w) u.length = bt w 0 := by
  simp only [bt, List.getD_eq_getElem?_getD]; rw [List.getElem?_append_right (Nat.le_refl _), Nat.sub_self]
theorem take_left' {u w : Str} {n : Nat} (h : n ≤ u.length) : (u ++ w).take n = u.take n := List.take_append_of_le_length h
theorem lit_left {u w : Str} : ∀ (n m i : Nat) (b : Str), (litGo u n i b).err = 0 → n ≤ m → litGo (u ++ w) m i b = litGo u n i b
  | 0, m, i, b, h, _ => by simp [litGo, foE] at h
  | n + 1, m, i, b, h, hm => by
    obtain ⟨m, rfl⟩ : ∃ m', m = m' + 1 := ⟨m - 1, by omega⟩
    rw [litGo_succ] at h ⊢
    rw [litGo_succ]
    by_cases hi : i < u.length
    · have e1 : decide ((i : Int) < (u.length : Int)) = true := decide_eq_true (by omega)
      have e2 : decide ((i : Int) < ((u ++ w).length : Int)) = true := decide_eq_true (by rw [List.length_append]; omega)
      rw [e1] at h ⊢
      rw [e2, bt_left hi]
      simp only [↓reduceIte] at h ⊢
      cases h34 : (((bt u i).toNat : Int) == 34) with
      | true => rfl
      | false =>
        rw [h34] at h
        simp only [Bool.false_eq_true, ↓reduceIte] at h ⊢
        cases h92 : (((bt u i).toNat : Int) == 92) with
        | true =>
          rw [h92] at h
          simp only [↓reduceIte] at h ⊢
          rw [List.drop_append_of_le_length (by omega)]
          by_cases he : (escS (u.drop i)).2 = 0
          · rw [he] at h; exact absurd h (by simp [foE])
          · rw [escS_left he]
            have e3 : ((escS (u.drop i)).2 == 0) = false := by rw [beq_eq_false_iff_ne]; exact he
            rw [e3] at h ⊢
            simp only [Bool.false_eq_true, ↓reduceIte] at h ⊢
            exact lit_left n m _ _ h (by omega)
        | false =>
          rw [h92] at h
          simp only [Bool.false_eq_true, ↓reduceIte] at h ⊢
          cases hr : (decide (((bt u i).toNat : Int) < 32) || decide (126 < ((bt u i).toNat : Int))) with
          | true => rw [hr] at h; exact absurd h (by simp [foE])
          | false =>
            rw [hr] at h
            simp only [Bool.false_eq_true, ↓reduceIte] at h ⊢
            exact lit_left n m _ _ h (by omega)
    · have e1 : decide ((i : Int) < (u.length : Int)) = false := decide_eq_false (by omega)
      rw [e1] at h
      exact absurd h (by simp [foE])
theorem signF_cons (c : UInt8) (r : Str) : signF (c :: r) = match signV c (Lib.hasPrefix r [61]) with | none => foE 0 4 | some x => foT 3 x x.length := signGo_hit c r signL (by decide)
theorem prefix_left {r w : Str} (hw : Sepd w) : Lib.hasPrefix (r ++ w) [61] = Lib.hasPrefix r [61] := by
  cases r with
  | nil =>
    cases w with
    | nil => rfl
    | cons c w =>
      have h := (hw c w rfl).2
      show ((61 : UInt8) == c && ([] : Str).isPrefixOf w) = false
      have e : ((61 : UInt8) == c) = false := by rw [beq_eq_false_iff_ne]; exact fun e => h e.symm
      rw [e]; rfl
  | cons c r => simp [Lib.hasPrefix, List.isPrefixOf]
/-- Locality. -/
theorem next_left {u w : Str} (hw : Sepd w) (h0 : 0 < u.length) (he : (nextF u).err = 0) : nextF (u ++ w) = nextF u := by
  have h0' : 0 < (u ++ w).length := by rw [List.length_append]; omega
  have hb : bt (u ++ w) 0 = bt u 0 := bt_left h0
  have sw : spanS wordS (u ++ w) = spanS wordS u := span_left (fun c r e => (hw c r e).1) u
  have sd : spanS digitS (u ++ w) = spanS digitS u := span_left (fun c r e => (word_no (hw c r e).1).2) u
  cases h1 : letterS (bt u 0) with
  | true => rw [next_word h1 h0, next_word (by rw [hb]; exact h1) h0', sw, take_left' (span_le _ _)]
  | false =>
    cases h2 : digitS (bt u 0) with
    | true =>
      rw [next_num h1 h2 h0] at he ⊢
      rw [next_num (by rw [hb]; exact h1) (by rw [hb]; exact h2) h0', sd, take_left' (span_le _ _)]
      have e : (decide ((spanS digitS u : Int) < ((u ++ w).length : Int)) && letterS (bt (u ++ w) (spanS digitS u))) = (decide ((spanS digitS u : Int) < (u.length : Int)) && letterS (bt u (spanS digitS u))) := by
        have hle := span_le digitS u
        by_cases hs : spanS digitS u < u.length
        · have e1 : decide ((spanS digitS u : Int) < ((u ++ w).length : Int)) = true := decide_eq_true (by rw [List.length_append]; omega)
          have e2 : decide ((spanS digitS u : Int) < (u.length : Int)) = true := decide_eq_true (by omega)
          rw [e1, e2, bt_left hs]
        · have hs2 : spanS digitS u = u.length := by omega
          have e2 : decide ((u.length : Int) < (u.length : Int)) = false := decide_eq_false (by omega)
          rw [hs2, e2, bt_right, Bool.false_and]
          cases w with
          | nil => rw [List.append_nil, e2]; rfl
          | cons c w =>
            have : letterS (bt (c :: w) 0) = false := (word_no (hw c w rfl).1).1
            rw [this, Bool.and_false]
      rw [e]
    | false =>
      cases h3 : (((bt u 0).toNat : Int) == 34) with
      | true =>
        rw [next_lit h3 h0] at he ⊢
        rw [next_lit (by rw [hb]; exact h3) h0']
        by_cases hh : hitF (litGo u (u.length + 1) 1 []) = true
        · rw [if_pos hh] at he ⊢
          have := lit_left (w := w) (u.length + 1) ((u ++ w).length + 1) 1 [] he (by rw [List.length_append]; omega)
          rw [this, if_pos hh]
        · exfalso
          rw [if_neg hh] at he
          obtain ⟨c, r, rfl⟩ : ∃ c r, u = c :: r := by cases u with | nil => cases h0 | cons c r => exact ⟨c, r, rfl⟩
          rw [signF_cons] at he
          have hc : c = 34 := by
            have := u8_all (p := fun c => decide (((c.toNat : Int) == 34) = true → c = 34)) (by kernel_rfl) c
            exact (of_decide_eq_true this) h3
          subst hc
          revert he
          cases Lib.hasPrefix r [61] with
          | true => intro he; exact absurd he (by decide)
          | false => intro he; exact absurd he (by decide)
      | false =>
        rw [next_sign h1 h2 h3 h0, next_sign (by rw [hb]; exact h1) (by rw [hb]; exact h2) (by rw [hb]; exact h3) h0']
        obtain ⟨c, r, rfl⟩ : ∃ c r, u = c :: r := by cases u with | nil => cases h0 | cons c r => exact ⟨c, r, rfl⟩
        rw [List.cons_append, signF_cons, signF_cons, prefix_left hw]

/-! Scanning as a relation. -/
inductive Sc (s : Str) : Nat → List Tok → Nat → Prop
  | nil (i : Nat) : Sc s i [] i
  | sep {i : Nat} {l : List Tok} {j : Nat} (hi : i < s.length) (h : 0 < sepS (s.drop i)) (hr : Sc s (i + (sepS (s.drop i)).toNat) l j) : Sc s i l j
  | tok {i : Nat} {l : List Tok} {j : Nat} (hi : i < s.length) (h : sepS (s.drop i) = 0) (he : (nextF (s.drop i)).err = 0) (hr : Sc s (i + (nextF (s.drop i)).bytes.toNat) l j) : Sc s i (⟨(nextF (s.drop i)).tok.kind, (nextF (s.drop i)).tok.text, i⟩ :: l) j
theorem Sc.trans {s : Str} {i : Nat} {l : List Tok} {j : Nat} (h : Sc s i l j) {m : List Tok} {k : Nat} (h2 : Sc s j m k) : Sc s i (l ++ m) k := by
  induction h with
  | nil i => exact h2
  | sep hi hs hr ih => exact .sep hi hs (ih h2)
  | tok hi hs he hr ih => exact .tok hi hs he (ih h2)
theorem Sc.of_scan {s : Str} : ∀ (n i : Nat) (out : List Tok), i ≤ s.length → s.length < n + i → (scanGo s n i out).2.2 = 0 → ∃ l, scanGo s n i out = (out ++ l, 0, 0) ∧ Sc s i l s.length
  | 0, i, out, h1, h2, _ => by omega
  | n + 1, i, out, h1, h2, h => by
    rw [scanGo_succ] at h ⊢
    by_cases hi : i < s.length
    · rw [in_text hi] at h ⊢
      simp only [↓reduceIte] at h ⊢
      have hs := sep_le (s.drop i)
      have hn := next_le (s.drop i) (by rw [List.length_drop]; omega)
      rw [List.length_drop] at hs hn
      have hs2 := hs.2 (by omega)
      by_cases hp : 0 < sepS (s.drop i)
      · have e : decide (0 < sepS (s.drop i)) = true := decide_eq_true hp
        rw [e] at h ⊢
        simp only [↓reduceIte] at h ⊢
        obtain ⟨l, k1, k2⟩ := Sc.of_scan n _ out (by omega) (by omega) h
        exact ⟨l, k1, .sep hi hp k2⟩
      · have e : decide (0 < sepS (s.drop i)) = false := decide_eq_false hp
        rw [e] at h ⊢
        simp only [Bool.false_eq_true, ↓reduceIte] at h ⊢
        by_cases he : (nextF (s.drop i)).err = 0
        · have e2 : ((nextF (s.drop i)).err != 0) = false := by rw [he]; rfl
          have hpos := hn.2.2.2.2 he
          rw [e2] at h ⊢
          simp only [Bool.false_eq_true, ↓reduceIte] at h ⊢
          obtain ⟨l, k1, k2⟩ := Sc.of_scan n _ _ (by omega) (by omega) h
          refine ⟨_, ?_, .tok hi (by omega) he k2⟩
          rw [k1, List.append_assoc]; rfl
        · have e2 : ((nextF (s.drop i)).err != 0) = true := by simpa using he
          rw [e2] at h
          exact absurd h he
    · have e : decide ((i : Int) < (s.length : Int)) = false := decide_eq_false (by omega)
      have hil : i = s.length := by omega
      rw [e]
      exact ⟨[], by simp, hil ▸ .nil _⟩
theorem Sc.scan {s : Str} {i : Nat} {l : List Tok} {j : Nat} (h : Sc s i l j) : ∀ (n : Nat) (out : List Tok), j = s.length → i ≤ s.length → s.length < n + i → scanGo s n i out = (out ++ l, 0, 0) := by
  induction h with
  | nil i =>
    rintro n out rfl h1 h2
    obtain ⟨m, rfl⟩ : ∃ m, n = m + 1 := ⟨n - 1, by omega⟩
    have e : decide ((s.length : Int) < (s.length : Int)) = false := decide_eq_false (by omega)
    rw [scanGo_succ, e]; simp
  | @sep i l j hi hs hr ih =>
    rintro n out rfl h1 h2
    obtain ⟨m, rfl⟩ : ∃ m, n = m + 1 := ⟨n - 1, by omega⟩
    have hs1 := sep_le (s.drop i)
    rw [List.length_drop] at hs1
    have hs2 := hs1.2 (by omega)
    rw [scanGo_succ, in_text hi, decide_eq_true hs]
    exact ih m out rfl (by omega) (by omega)
  | @tok i l j hi hs he hr ih =>
    rintro n out rfl h1 h2
    obtain ⟨m, rfl⟩ : ∃ m, n = m + 1 := ⟨n - 1, by omega⟩
    have hn := next_le (s.drop i) (by rw [List.length_drop]; omega)
    rw [List.length_drop] at hn
    have hpos := hn.2.2.2.2 he
    have e2 : ((nextF (s.drop i)).err != 0) = false := by rw [he]; rfl
    have e : decide (0 < sepS (s.drop i)) = false := decide_eq_false (by omega)
    rw [scanGo_succ, in_text hi, e, e2]
    simp only [Bool.false_eq_true, ↓reduceIte]
    rw [ih m _ rfl (by omega) (by omega), List.append_assoc]; rfl
theorem scan_sc {s : Str} (h : (scanS s).2.2 = 0) : (scanS s).2.1 = 0 ∧ Sc s 0 (scanS s).1 s.length := by
  unfold scanS at h ⊢
  cases e : decide (65536 < (s.length : Int)) with
  | true => rw [e] at h; exact absurd h (by simp)
  | false =>
    rw [e] at h
    simp only [Bool.false_eq_true, ↓reduceIte] at h ⊢
    obtain ⟨l, k1, k2⟩ := Sc.of_scan _ _ _ (Nat.zero_le _) (by omega) h
    rw [k1]
    exact ⟨rfl, k2⟩
theorem sc_scan {s : Str} {l : List Tok} (hl : s.length ≤ 65536) (h : Sc s 0 l s.length) : scanS s = (l, 0, 0) := by
  unfold scanS
  rw [decide_eq_false (show ¬ (65536 : Int) < (s.length : Int) by omega)]
  exact h.scan _ _ rfl (Nat.zero_le _) (by omega)
/-! Texts put together. -/
def shT (d : Nat) (t : Tok) : Tok := ⟨t.kind, t.text, t.pos + (d : Int)⟩
theorem Sc.shift (p : Str) {s : Str} {i : Nat} {l : List Tok} {j : Nat} (h : Sc s i l j) : Sc (p ++ s) (p.length + i) (l.map (shT p.length)) (p.length + j) := by
  have hd : ∀ i, (p ++ s).drop (p.length + i) = s.drop i := fun i => by rw [List.drop_append]; simp
  induction h with
  | nil i => exact .nil _
  | @sep i l j hi hs hr ih =>
    refine .sep (by rw [List.length_append]; omega) (by rw [hd]; exact hs) ?_
    rw [hd, Nat.add_assoc]; exact ih
  | @tok i l j hi hs he hr ih =>
    have := Sc.tok (s := p ++ s) (i := p.length + i) (l := l.map (shT p.length)) (j := p.length + j) (by rw [List.length_append]; omega) (by rw [hd]; exact hs) (by rw [hd]; exact he) (by rw [hd, Nat.add_assoc]; exact ih)
    rw [hd] at this
    have e : shT p.length ⟨(nextF (s.drop i)).tok.kind, (nextF (s.drop i)).tok.text, i⟩ = ⟨(nextF (s.drop i)).tok.kind, (nextF (s.drop i)).tok.text, ((p.length + i : Nat) : Int)⟩ := by
      unfold shT; simp only [Tok.mk.injEq, true_and]; omega
    rw [List.map_cons, e]
    exact this
theorem sep_head {c : UInt8} {r : Str} (h : c ≠ 35) : sepS (c :: r) = if decide (0 ≤ Lib.indexByte [32, 9, 13, 10] c) then 1 else 0 := by
  unfold sepS
  have e : (((bt (c :: r) 0).toNat : Int) == 35) = false := by
    have := u8_all (p := fun c => decide (c ≠ 35 → ((c.toNat : Int) == 35) = false)) (by kernel_rfl) c
    exact (of_decide_eq_true this) h
  rw [e]; rfl
theorem sep_left {u w : Str} (h : 35 ∉ u) (h0 : 0 < u.length) : sepS (u ++ w) = sepS u := by
  obtain ⟨c, r, rfl⟩ : ∃ c r, u = c :: r := by cases u with | nil => cases h0 | cons c r => exact ⟨c, r, rfl⟩
  have hc : c ≠ 35 := fun e => h (by simp [e])
  rw [List.cons_append, sep_head hc, sep_head hc]
theorem Sc.left {u : Str} {w : Str} (hw : Sepd w) (hn : 35 ∉ u) {i : Nat} {l : List Tok} {j : Nat} (h : Sc u i l j) : Sc (u ++ w) i l j := by
  induction h with
  | nil i => exact .nil _
  | @sep i l j hi hs hr ih =>
    have hd : (u ++ w).drop i = u.drop i ++ w := List.drop_append_of_le_length (by omega)
    have e : sepS ((u ++ w).drop i) = sepS (u.drop i) := by rw [hd]; exact sep_left (fun h => hn (List.mem_of_mem_drop h)) (by rw [List.length_drop]; omega)
    exact .sep (by rw [List.length_append]; omega) (by rw [e]; exact hs) (by rw [e]; exact ih)
  | @tok i l j hi hs he hr ih =>
    have hd : (u ++ w).drop i = u.drop i ++ w := List.drop_append_of_le_length (by omega)
    have h0 : 0 < (u.drop i).length := by rw [List.length_drop]; omega
    have e : sepS ((u ++ w).drop i) = sepS (u.drop i) := by rw [hd]; exact sep_left (fun h => hn (List.mem_of_mem_drop h)) h0
    have e2 : nextF ((u ++ w).drop i) = nextF (u.drop i) := by rw [hd]; exact next_left hw h0 he
    have := Sc.tok (s := u ++ w) (i := i) (l := l) (j := j) (by rw [List.length_append]; omega) (by rw [e]; exact hs) (by rw [e2]; exact he) (by rw [e2]; exact ih)
    rw [e2] at this
    exact this
def bw1 : Str := [32]
def bw2 : Str := [9, 13, 10]
def bw3 : Str := [32, 35, 32, 34, 97, 40, 32, 36, 10]
theorem space_sc {s : Str} {i : Nat} {c : UInt8} {r : Str} {l : List Tok} {j : Nat} (hd : s.drop i = c :: r) (hc : c = 32 ∨ c = 9 ∨ c = 13 ∨ c = 10) (h : Sc s (i + 1) l j) : Sc s i l j := by
  have hi : i < s.length := Nat.lt_of_not_le fun hge => by rw [List.drop_eq_nil_of_le hge] at hd; cases hd
  have e : sepS (s.drop i) = 1 := by
    rw [hd]
    rcases hc with rfl | rfl | rfl | rfl <;> rfl
  exact .sep hi (by rw [e]; decide) (by rw [e]; exact h)
/-! Where tokens stand. -/
def Asc : Int → List Tok → Prop
  | _, [] => True
  | x, t :: r => x < t.pos ∧ Asc t.pos r
def OkTok (s : Str) (t : Tok) : Prop := 0 ≤ t.pos ∧ t.pos < (s.length : Int) ∧ (t.kind = 2 → bt s t.pos.toNat = 34) ∧ (t.kind ≠ 2 → t.text ≠ [] ∧ Lib.hasPrefix (s.drop t.pos.toNat) t.text = true)
theorem signV_ok (c : UInt8) (two : Bool) : ∀ x, signV c two = some x → x ≠ [] ∧ (x = [c] ∨ two = true ∧ x = [c, 61]) := by
  intro x h
  rcases signV_N c two with ⟨h1, _⟩ | ⟨h0, h1, _⟩ | ⟨h1, _⟩
  · rw [h1] at h; cases h
  · rw [h1] at h; cases h; exact ⟨by simp, .inr ⟨h0, rfl⟩⟩
  · rw [h1] at h; cases h; exact ⟨by simp, .inl rfl⟩
end Go.Proofs.YtabkeeedkhgodaaGreatDoor

namespace Go.Proofs.YtabkeeedkhgodaaGreatDoor
open Go Go.Aw
set_option linter.unusedVariables false
set_option linter.unusedSimpArgs false

def writtenS (t : Tok) : Str := if (t.kind != 2) then t.text else (quoteS t.text).1
theorem span_take (p : UInt8 → Bool) : ∀ u : Str, spanS p (u.take (spanS p u)) = spanS p u
  | [] => rfl
  | c :: r => by
    cases h : p c with
    | true =>
      have e : spanS p (c :: r) = spanS p r + 1 := by rw [spanS, if_pos h]
      rw [e, List.take_succ_cons, spanS, if_pos h, span_take p r]
    | false =>
      have e : spanS p (c :: r) = 0 := by rw [spanS, if_neg (by rw [h]; decide)]
      rw [e]; rfl
theorem bt_take {u : Str} {n : Nat} (h : 0 < n) : bt (u.take n) 0 = bt u 0 := by
  obtain ⟨m, rfl⟩ : ∃ m, n = m + 1 := ⟨n - 1, by omega⟩
  cases u <;> rfl
theorem sign_back : ∀ c : UInt8, (signV c true = some [c] → signV c false = some [c]) := by
  intro c
  have := u8_all (p := fun c => decide (signV c true = some [c] → signV c false = some [c])) (by kernel_rfl) c
  exact of_decide_eq_true this
theorem quote_no_sign (r : Str) : (signF (34 :: r)).err ≠ 0 := by
  rw [signF_cons]
  cases Lib.hasPrefix r [61] <;> decide
theorem c34_of {c : UInt8} (h : ((c.toNat : Int) == 34) = true) : c = 34 := by
  have := u8_all (p := fun c => decide (((c.toNat : Int) == 34) = true → c = 34)) (by kernel_rfl) c
  exact (of_decide_eq_true this) h
theorem lit_ok (s : Str) : ∀ (n i : Nat) (b : Str), (litGo s n i b).err = 0 → ∃ (t : Str) (m : Nat), litGo s n i b = foT 2 t m ∧ t.length ≤ 64 ∧ t.length + i + 1 ≤ b.length + m
  | 0, i, b, h => by simp [litGo, foE] at h
  | n + 1, i, b, h => by
    rw [litGo_succ] at h ⊢
    cases h1 : decide ((i : Int) < (s.length : Int)) with
    | false => rw [h1] at h; exact absurd h (by simp [foE])
    | true =>
      rw [h1] at h
      simp only [↓reduceIte] at h ⊢
      cases h2 : (((bt s i).toNat : Int) == 34) with
      | true =>
        rw [h2] at h
        simp only [↓reduceIte] at h ⊢
        cases h3 : decide (64 < (b.length : Int)) with
        | true => rw [h3] at h; exact absurd h (by simp [foE])
        | false =>
          simp only [decide_eq_false_iff_not] at h3
          exact ⟨b, i + 1, by simp, by omega, by omega⟩
      | false =>
        rw [h2] at h
        simp only [Bool.false_eq_true, ↓reduceIte] at h ⊢
        cases h3 : (((bt s i).toNat : Int) == 92) with
        | true =>
          rw [h3] at h
          simp only [↓reduceIte] at h ⊢
          cases h4 : ((escS (s.drop i)).2 == 0) with
          | true => rw [h4] at h; exact absurd h (by simp [foE])
          | false =>
            rw [h4] at h
            simp only [Bool.false_eq_true, ↓reduceIte] at h ⊢
            obtain ⟨t, m, k1, k2, k3⟩ := lit_ok s n _ _ h
            rw [List.length_append, List.length_singleton] at k3
            have hge : 0 < (escS (s.drop i)).2.toNat := by
              have e : (escS (s.drop i)).2 ≠ 0 := by simpa using h4
              unfold escS at e ⊢
              split at e
              · rename_i q; rw [if_pos q]; exact (by decide : 0 < (2 : Int).toNat)
              · rename_i q
                rw [if_neg q]
                split at e
                · rename_i q2
                  rw [if_pos q2]
                  split at e
                  · rename_i q3; rw [if_pos q3]; exact (by decide : 0 < (4 : Int).toNat)
                  · exact absurd rfl e
                · exact absurd rfl e
            exact ⟨t, m, k1, k2, by omega⟩
        | false =>
          rw [h3] at h
          simp only [Bool.false_eq_true, ↓reduceIte] at h ⊢
          cases h4 : (decide (((bt s i).toNat : Int) < 32) || decide (126 < ((bt s i).toNat : Int))) with
          | true => rw [h4] at h; exact absurd h (by simp [foE])
          | false =>
            rw [h4] at h
            simp only [Bool.false_eq_true, ↓reduceIte] at h ⊢
            obtain ⟨t, m, k1, k2, k3⟩ := lit_ok s n _ _ h
            rw [List.length_append, List.length_singleton] at k3
            exact ⟨t, m, k1, k2, by omega⟩
/-- What a token that is found is, and that its own text is this token. -/
theorem next_take {u : Str} (h0 : 0 < u.length) (he : (nextF u).err = 0) :
    (∃ (t : Str) (m : Nat), nextF u = foT 2 t m ∧ t.length ≤ 64 ∧ t.length + 2 ≤ m) ∨ (∃ (k : Int) (n : Nat), k ≠ 2 ∧ 0 < n ∧ n ≤ u.length ∧ nextF u = foT k (u.take n) n ∧ nextF (u.take n) = foT k (u.take n) n) := by
  have tl : ∀ n, n ≤ u.length → (u.take n).length = n := fun n h => by rw [List.length_take]; omega
  cases h1 : letterS (bt u 0) with
  | true =>
    have hp : 0 < spanS wordS u := by
      have := span_pos (p := wordS) (s := u) (k := 0) h0 (by unfold wordS; rw [h1]; rfl)
      simpa using this
    have hle := span_le wordS u
    rw [next_word h1 h0] at he ⊢
    cases hd : decide (24 < (spanS wordS u : Int)) with
    | true => rw [hd] at he; exact absurd he (by simp [foE])
    | false =>
      refine .inr ⟨0, spanS wordS u, by decide, hp, hle, rfl, ?_⟩
      rw [next_word (by rw [bt_take hp]; exact h1) (by rw [tl _ hle]; exact hp), span_take, hd, List.take_take, Nat.min_self]; rfl
  | false =>
    cases h2 : digitS (bt u 0) with
    | true =>
      have hp : 0 < spanS digitS u := by
        have := span_pos (p := digitS) (s := u) (k := 0) h0 h2
        simpa using this
      have hle := span_le digitS u
      rw [next_num h1 h2 h0] at he ⊢
      cases hd : ((numS (u.take (spanS digitS u))).2 != 0) with
      | true => rw [hd] at he; exact absurd he (by simpa [foE] using hd)
      | false =>
        rw [hd] at he
        simp only [Bool.false_eq_true, ↓reduceIte] at he ⊢
        cases hd2 : (decide ((spanS digitS u : Int) < (u.length : Int)) && letterS (bt u (spanS digitS u))) with
        | true => rw [hd2] at he; exact absurd he (by simp [foE])
        | false =>
          refine .inr ⟨1, spanS digitS u, by decide, hp, hle, rfl, ?_⟩
          rw [next_num (by rw [bt_take hp]; exact h1) (by rw [bt_take hp]; exact h2) (by rw [tl _ hle]; exact hp), span_take, List.take_take, Nat.min_self, hd, tl _ hle]
          have e : decide ((spanS digitS u : Int) < (spanS digitS u : Int)) = false := decide_eq_false (by omega)
          rw [e]; rfl
    | false =>
      obtain ⟨c, r, rfl⟩ : ∃ c r, u = c :: r := by cases u with | nil => cases h0 | cons c r => exact ⟨c, r, rfl⟩
      cases h3 : (((bt (c :: r) 0).toNat : Int) == 34) with
      | true =>
        have hc : c = 34 := c34_of h3
        subst hc
        rw [next_lit h3 h0] at he ⊢
        by_cases hh : hitF (litGo (34 :: r) ((34 :: r).length + 1) 1 []) = true
        · rw [if_pos hh] at he ⊢
          obtain ⟨t, m, k1, k2, k3⟩ := lit_ok _ _ _ _ he
          rw [List.length_nil] at k3
          exact .inl ⟨t, m, k1, k2, by omega⟩
        · rw [if_neg hh] at he
          exact absurd he (quote_no_sign r)
      | false =>
        rw [next_sign h1 h2 h3 h0] at he ⊢
        rw [signF_cons] at he ⊢
        cases hv : signV c (Lib.hasPrefix r [61]) with
        | none => rw [hv] at he; exact absurd he (by decide)
        | some x =>
          rcases signV_ok c _ x hv with ⟨_, rfl | ⟨h, rfl⟩⟩
          · refine .inr ⟨3, 1, by decide, by decide, by simp, rfl, ?_⟩
            rw [next_sign (u := (c :: r).take 1) h1 h2 h3 (by simp)]
            show signF [c] = _
            rw [signF_cons]
            have : signV c (Lib.hasPrefix [] [61]) = some [c] := by
              cases hb : Lib.hasPrefix r [61] with
              | true => rw [hb] at hv; exact sign_back c hv
              | false => rw [hb] at hv; exact hv
            rw [this]; rfl
          · have hv2 : signV c true = some [c, 61] := by rw [h] at hv; exact hv
            unfold Lib.hasPrefix at h
            rw [List.isPrefixOf_iff_prefix] at h
            obtain ⟨r', rfl⟩ := h
            refine .inr ⟨3, 2, by decide, by decide, by simp, rfl, ?_⟩
            rw [next_sign (u := (c :: ([61] ++ r')).take 2) h1 h2 h3 (by simp)]
            show signF [c, 61] = _
            rw [signF_cons]
            have : signV c (Lib.hasPrefix [61] [61]) = some [c, 61] := hv2
            rw [this]; rfl
theorem sep_zero {c : UInt8} {r : Str} (r' : Str) (h : sepS (c :: r) = 0) : sepS (c :: r') = 0 := by
  have hc : c ≠ 35 := by
    rintro rfl
    have : sepS (35 :: r) = (spanS lineS (35 :: r) : Int) := rfl
    rw [this, spanS, if_pos (by decide)] at h
    omega
  rw [sep_head hc] at h ⊢
  exact h
def Good (t : Tok) (n : Nat) : Prop :=
  (∀ rest, Sepd rest → nextF (writtenS t ++ rest) = foT t.kind t.text (writtenS t).length) ∧ (∀ rest, sepS (writtenS t ++ rest) = 0) ∧ 0 < (writtenS t).length ∧ (writtenS t).length ≤ 4 * n ∧ t.text.length ≤ n
theorem good_next {u : Str} (h0 : 0 < u.length) (hs : sepS u = 0) (he : (nextF u).err = 0) (i : Int) : Good ⟨(nextF u).tok.kind, (nextF u).tok.text, i⟩ (nextF u).bytes.toNat := by
  rcases next_take h0 he with ⟨t, m, h1, h2, h3⟩ | ⟨k, n, hk, hp, hn, h1, h2⟩
  · rw [h1]
    have hw : writtenS ⟨2, t, i⟩ = 34 :: (quoteGo t ++ 34 :: []) := by
      unfold writtenS quoteS
      have e : decide (64 < (t.length : Int)) = false := decide_eq_false (by omega)
      simp only [e]
      simp
    have hq := quoteGo_len2 t
    show Good ⟨2, t, i⟩ ((m : Int)).toNat
    unfold Good
    rw [hw]
    have hl : (34 :: (quoteGo t ++ 34 :: [])).length = (quoteGo t).length + 2 := by simp
    refine ⟨fun rest _ => ?_, fun rest => rfl, by rw [hl]; omega, by rw [hl]; omega, by simp only; omega⟩
    have := next_quote t rest h2
    rw [hl]
    have e : 34 :: (quoteGo t ++ 34 :: []) ++ rest = 34 :: (quoteGo t ++ 34 :: rest) := by simp
    rw [e, this]
    congr 1
  · rw [h1]
    have hw : writtenS ⟨k, u.take n, i⟩ = u.take n := by
      unfold writtenS
      have e : (k != 2) = true := by simpa using hk
      simp only [e]; rfl
    have tl : (u.take n).length = n := by rw [List.length_take]; omega
    show Good ⟨k, u.take n, i⟩ ((n : Int)).toNat
    unfold Good
    rw [hw]
    refine ⟨fun rest hr => ?_, fun rest => ?_, by omega, by omega, by simp only; omega⟩
    · rw [next_left hr (by omega) (by rw [h2]; rfl), h2, tl]
    · obtain ⟨c, r, rfl⟩ : ∃ c r, u = c :: r := by cases u with | nil => cases h0 | cons c r => exact ⟨c, r, rfl⟩
      obtain ⟨m, rfl⟩ : ∃ m, n = m + 1 := ⟨n - 1, by omega⟩
      exact sep_zero _ hs
def wlen (l : List Tok) : Nat := (l.map fun t => (writtenS t).length).sum
abbrev wj (l : List Tok) : Str := Lib.join (l.map writtenS) [32]
abbrev kt (t : Tok) : Int × Str := (t.kind, t.text)
end Go.Proofs.YtabkeeedkhgodaaGreatDoor
