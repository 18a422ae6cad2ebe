/-
  The plain law: the lexer and its reference find the same tokens. No program in sight. No condition.
-/
import Derived.Test.YtpgmglacdcfnaaaDoorW9
import Derived.KernelRfl
namespace Go.Proofs.YtpgmglacdcfnaaaDoor
open Go Go.Aw
set_option linter.unusedVariables false
set_option linter.unusedSimpArgs false

theorem u8_all {p : UInt8 → Bool} (h : (List.range 256).all (fun n => p (UInt8.ofNat n)) = true) (c : UInt8) : p c = true := by
  rw [List.all_eq_true] at h
  have := h c.toNat (List.mem_range.2 c.toNat_lt)
  rwa [UInt8.ofNat_toNat] at this
theorem hex_eq (c : UInt8) : hexI c = hexR c := by
  have := u8_all (p := fun c => decide (hexI c = hexR c)) (by kernel_rfl) c
  exact of_decide_eq_true this
theorem bt_drop (s : Str) (k j : Nat) : bt (s.drop k) j = bt s (k + j) := by simp [bt, List.getD_eq_getElem?_getD, List.getElem?_drop]
theorem take_drop_eq (s : Str) (i n : Nat) : (s.take (i + n)).drop i = (s.drop i).take n := by
  rw [List.drop_take]; simp

theorem esc_rel {s : Str} {i : Nat} (hi : i < s.length) : escR s i = if (escS (s.drop i)).2 = 0 then (0, 0) else ((escS (s.drop i)).1, (i : Int) + (escS (s.drop i)).2) := by
  unfold escR escS
  rw [bt_drop, bt_drop, bt_drop]
  have hlen : ((s.drop i).length : Int) = (s.length : Int) - i := by rw [List.length_drop]; omega
  rw [hlen, hex_eq, hex_eq]
  generalize bt s (i + 1) = c1
  generalize bt s (i + 2) = c2
  generalize bt s (i + 3) = c3
  by_cases hA : (s.length : Int) ≤ (i : Int) + 1
  · have e1 : decide ((s.length : Int) ≤ (i : Int) + 1) = true := by simpa using hA
    have e2 : decide (2 ≤ (s.length : Int) - i) = false := by simp; omega
    have e3 : decide (4 ≤ (s.length : Int) - i) = false := by simp; omega
    rw [e1, e2, e3]; simp
  · have e1 : decide ((s.length : Int) ≤ (i : Int) + 1) = false := by simp; omega
    have e2 : decide (2 ≤ (s.length : Int) - i) = true := by simp; omega
    rw [e1, e2]
    cases hB : (((c1.toNat : Int) == 34) || ((c1.toNat : Int) == 92)) with
    | true => simp
    | false =>
      by_cases hD : (s.length : Int) ≤ (i : Int) + 3
      · have e3 : decide (4 ≤ (s.length : Int) - i) = false := by simp; omega
        have e4 : decide ((s.length : Int) ≤ (i : Int) + 3) = true := by simpa using hD
        rw [e3, e4]; simp
      · have e3 : decide (4 ≤ (s.length : Int) - i) = true := by simp; omega
        have e4 : decide ((s.length : Int) ≤ (i : Int) + 3) = false := by simp; omega
        rw [e3, e4]
        cases hC : ((c1.toNat : Int) == 120) with
        | false =>
          have : ((c1.toNat : Int) != 120) = true := by simp only [bne, hC]; rfl
          rw [this]; simp
        | true =>
          have : ((c1.toNat : Int) != 120) = false := by simp only [bne, hC]; rfl
          rw [this]
          by_cases hE : hexR c2 < 0
          · have e5 : decide (hexR c2 < 0) = true := by simpa using hE
            have e6 : decide (0 ≤ hexR c2) = false := by simp; omega
            rw [e5, e6]; simp
          · have e5 : decide (hexR c2 < 0) = false := by simp; omega
            have e6 : decide (0 ≤ hexR c2) = true := by simp; omega
            rw [e5, e6]
            by_cases hF : hexR c3 < 0
            · have e7 : decide (hexR c3 < 0) = true := by simpa using hF
              have e8 : decide (0 ≤ hexR c3) = false := by simp; omega
              rw [e7, e8]; simp
            · have e7 : decide (hexR c3 < 0) = false := by simp; omega
              have e8 : decide (0 ≤ hexR c3) = true := by simp; omega
              rw [e7, e8]; simp

theorem plain_rel (c : UInt8) : plainR c = (!((c.toNat : Int) == 34) && !((c.toNat : Int) == 92) && !(decide ((c.toNat : Int) < 32) || decide (126 < (c.toNat : Int)))) := by
  have := u8_all (p := fun c => plainR c == (!((c.toNat : Int) == 34) && !((c.toNat : Int) == 92) && !(decide ((c.toNat : Int) < 32) || decide (126 < (c.toNat : Int))))) (by kernel_rfl) c
  simpa using this

/-- What the two literals say. -/
def LRel (i : Nat) (f : Fo) (r : Str × Int × Int) : Prop :=
  if f.err = 0 then f.tok.kind = 2 ∧ 0 < f.bytes ∧ r = (f.tok.text, (i : Int) + f.bytes, 0) else r.2 = ((i : Int) + f.pos, f.err)
theorem LRel_err {i : Nat} {pos e : Int} {r : Str × Int × Int} (h : e ≠ 0) (h2 : r.2 = ((i : Int) + pos, e)) : LRel i (foE pos e) r := by
  unfold LRel
  rw [if_neg (show ¬ (foE pos e).err = 0 from h)]
  exact h2
theorem litGoR_succ {s : Str} {k n i : Nat} {b : Str} : litGoR s k (n + 1) i b =
    if decide ((s.length : Int) ≤ (i : Int)) then (([], (s.length : Int), 4) : Str × Int × Int)
    else if (((bt s i).toNat : Int) == 34) then if decide (64 < (b.length : Int)) then ([], (k : Int), 13) else (b, (i : Int) + 1, 0)
    else if plainR (bt s i) then litGoR s k n (i + 1) (b ++ [bt s i])
    else if (((bt s i).toNat : Int) != 92) || ((escR s i).2 == 0) then ([], (i : Int), 4)
    else litGoR s k n (escR s i).2.toNat (b ++ [(escR s i).1]) := rfl
theorem litGo_succ {s : Str} {n i : Nat} {b : Str} : litGo s (n + 1) i b =
    if decide ((i : Int) < (s.length : Int)) then
      if (((bt s i).toNat : Int) == 34) then
        if decide (64 < (b.length : Int)) then foE 0 13 else foT 2 b ((i : Int) + 1)
      else if (((bt s i).toNat : Int) == 92) then
        if ((escS (s.drop i)).2 == 0) then foE i 4 else litGo s n (i + (escS (s.drop i)).2.toNat) (b ++ [(escS (s.drop i)).1])
      else if (decide (((bt s i).toNat : Int) < 32) || decide (126 < ((bt s i).toNat : Int))) then foE i 4
      else litGo s n (i + 1) (b ++ [bt s i])
    else foE s.length 4 := rfl
theorem lit_rel {s : Str} {i : Nat} (hi : i < s.length) : ∀ (n m j : Nat) (b : Str), j ≤ (s.drop i).length → (s.drop i).length < n + j → s.length < m + (i + j) → LRel i (litGo (s.drop i) n j b) (litGoR s i m (i + j) b)
  | 0, _, j, b, h1, h2, _ => by omega
  | _ + 1, 0, j, b, h1, _, h3 => by rw [List.length_drop] at h1; omega
  | n + 1, m + 1, j, b, h1, h2, h3 => by
    have hl : (s.drop i).length = s.length - i := List.length_drop ..
    rw [litGo_succ, litGoR_succ, bt_drop, List.drop_drop]
    by_cases hA : i + j < s.length
    · have e1 : decide ((j : Int) < ((s.drop i).length : Int)) = true := by simp only [hl, decide_eq_true_eq]; omega
      have e2 : decide ((s.length : Int) ≤ ((i + j : Nat) : Int)) = false := by simp only [decide_eq_false_iff_not]; omega
      rw [e1, e2]
      simp only [Bool.false_eq_true, ↓reduceIte]
      have hp := plain_rel (bt s (i + j))
      cases hB : (((bt s (i + j)).toNat : Int) == 34) with
      | true =>
        simp only [Bool.false_eq_true, ↓reduceIte]
        split
        · simp [LRel, foE]
        · simp [LRel, foT]; omega
      | false =>
        simp only [Bool.false_eq_true, ↓reduceIte]
        rw [hB] at hp
        cases hC : (((bt s (i + j)).toNat : Int) == 92) with
        | true =>
          rw [hC] at hp
          have hb : (((bt s (i + j)).toNat : Int) != 92) = false := by simp only [bne, hC]; rfl
          simp only [Bool.not_true, Bool.and_false, Bool.false_and] at hp
          rw [hp, hb, Bool.false_or, esc_rel hA]
          simp only [Bool.false_eq_true, ↓reduceIte]
          have he := esc_le (s.drop (i + j))
          rw [List.length_drop] at he
          by_cases hz : (escS (s.drop (i + j))).2 = 0
          · rw [if_pos hz]
            have : ((escS (s.drop (i + j))).2 == 0) = true := by simpa using hz
            rw [this]
            simp [LRel, foE]
          · rw [if_neg hz]
            have h5 : ((escS (s.drop (i + j))).2 == 0) = false := by simpa using hz
            have h6 : (((i + j : Nat) : Int) + (escS (s.drop (i + j))).2 == 0) = false := by simp only [beq_eq_false_iff_ne]; omega
            simp only [h5, h6, Bool.false_eq_true, if_false]
            have h7 : (((i + j : Nat) : Int) + (escS (s.drop (i + j))).2).toNat = i + (j + (escS (s.drop (i + j))).2.toNat) := by omega
            rw [h7]
            exact lit_rel hi n m _ _ (by omega) (by omega) (by omega)
        | false =>
          rw [hC] at hp
          have hb : (((bt s (i + j)).toNat : Int) != 92) = true := by simp only [bne, hC]; rfl
          rw [hb]
          simp only [Bool.false_eq_true, ↓reduceIte]
          cases hD : (decide (((bt s (i + j)).toNat : Int) < 32) || decide (126 < ((bt s (i + j)).toNat : Int))) with
          | true =>
            rw [hD] at hp
            simp only [Bool.not_true, Bool.and_false] at hp
            rw [hp]
            simp [LRel, foE]
          | false =>
            rw [hD] at hp
            simp only [Bool.not_false, Bool.and_true] at hp
            rw [hp, Nat.add_assoc]
            simp only [Bool.false_eq_true, ↓reduceIte]
            exact lit_rel hi n m _ _ (by omega) (by omega) (by omega)
    · have e1 : decide ((j : Int) < ((s.drop i).length : Int)) = false := by simp only [hl, decide_eq_false_iff_not]; omega
      have e2 : decide ((s.length : Int) ≤ ((i + j : Nat) : Int)) = true := by simp only [decide_eq_true_eq]; omega
      rw [e1, e2]
      simp only [Bool.false_eq_true, ↓reduceIte]
      exact LRel_err (by decide) (by simp only [Prod.mk.injEq, and_true]; omega)
end Go.Proofs.YtpgmglacdcfnaaaDoor
