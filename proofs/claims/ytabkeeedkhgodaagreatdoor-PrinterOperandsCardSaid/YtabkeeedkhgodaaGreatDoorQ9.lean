/-
  How long the text of an expression is; an operand within others. No program in sight. No condition.
-/
import Derived.Test.YtabkeeedkhgodaaGreatDoorQ7
namespace Go.Proofs.YtabkeeedkhgodaaGreatDoor
open Go Go.Aw
set_option linter.unusedVariables false
set_option linter.unusedSimpArgs false
set_option maxRecDepth 100000

theorem name_len {s : Str} (h : nmS s = true) : s.length ≤ 24 := (name_is h).2.1
theorem const_text {t : Syn} (hf : fieldsC t = 0) (hk : t.kind = 13) : t.text.length ≤ 64 := by
  unfold fieldsC at hf
  rw [hk] at hf
  replace hf : constC t = 0 := hf
  unfold constC at hf
  split at hf
  · split at hf
    · exact absurd hf (by decide)
    · split at hf
      · exact absurd hf (by decide)
      · rename_i h1
        have : t.text = [] := by simpa using h1
        rw [this]; exact Nat.zero_le _
  · split at hf
    · split at hf
      · exact absurd hf (by decide)
      · split at hf
        · exact absurd hf (by decide)
        · rename_i h1
          have : t.text = [] := by simpa using h1
          rw [this]; exact Nat.zero_le _
    · split at hf
      · split at hf
        · exact absurd hf (by decide)
        · rename_i h1
          simp only [decide_eq_true_eq] at h1
          omega
      · exact absurd hf (by decide)
theorem lit_258 {t : Syn} (hi : -1099511627776 ≤ t.num ∧ t.num ≤ 1099511627776) (hx : t.text.length ≤ 64) : (litT t).length ≤ 259 := by
  unfold litT
  split
  · have := Lib.itoa_length_le t.num (by omega) (by omega); omega
  · split
    · split
      · show (4 : Nat) ≤ _; omega
      · show (5 : Nat) ≤ _; omega
    · unfold quoteS
      split
      · simp
      · have := quoteGo_le t.text
        simp only [List.length_append, List.length_cons, List.length_nil]
        omega
/-- An expression's text is short for its nodes. -/
theorem exp_len (t : Syn) : checkC t .exps = 0 → (writeC t).length ≤ 136 * cntC t + 123 := by
  refine Syn.ind (P := fun t => checkC t .exps = 0 → (writeC t).length ≤ 136 * cntC t + 123) (fun t ih h => ?_) t
  obtain ⟨hk, hs, hn, hf⟩ := own_at (ok_own h).1
  replace hk := exp_at hk
  have hc := cntC_eq t
  obtain ⟨w1, w2, w3, w4⟩ := words_len
  have hcases : t.kind = 13 ∨ t.kind = 14 ∨ t.kind = 15 ∨ t.kind = 16 ∨ t.kind = 17 ∨ t.kind = 18 := by omega
  have kidE : ∀ (j : Nat) a, t.kids[j]? = some a → kidC t j = .exps → (writeC a).length ≤ 136 * cntC a + 123 := fun j a ha e => by
    have h2 := (kid_ok h ha).1
    rw [e] at h2
    exact ih a (List.mem_of_getElem? ha) h2
  rcases hcases with hk | hk | hk | hk | hk | hk
  · have e : writeC t = litT t := by rw [writeC_eq]; unfold nodeT; rw [hk]; rfl
    have := lit_258 (ok_num h) (const_text hf hk)
    rw [e]; omega
  · have e : writeC t = t.text ++ [46] ++ t.name := by rw [writeC_eq]; unfold nodeT; rw [hk]; rfl
    have h1 := name_len (name_of hn (by rw [hk]; rfl) (by omega))
    have h2 : t.name.length ≤ 24 := by
      rcases name2_ref hn hk with h2 | h2
      · exact name_len h2
      · rw [h2]; show (4 : Nat) ≤ 24; omega
    rw [e]; simp only [List.length_append, List.length_cons, List.length_nil]; omega
  · have e : writeC t = w_tcount ++ [40] ++ t.text ++ [41] := by rw [writeC_eq]; unfold nodeT; rw [hk]; rfl
    have h1 := name_len (name_of hn (by rw [hk]; rfl) (by omega))
    have q7 : w_tcount.length = 5 := rfl
    rw [e]; simp only [List.length_append, List.length_cons, List.length_nil]; omega
  · have e : writeC t = aggT t.num ++ [40] ++ t.text ++ [46] ++ t.name ++ (if t.kids.map writeC == [] then [] else [44, 32] ++ (t.kids.map writeC).getD 0 []) ++ [41] := by rw [writeC_eq]; unfold nodeT; rw [hk]; rfl
    have h1 := name_len (name_of hn (by rw [hk]; rfl) (by omega))
    have h2 := name_len (name2_of hn (by rw [hk]; rfl) (by omega))
    have h3 := w2 t.num
    have h4 : (if t.kids.map writeC == [] then [] else [44, 32] ++ (t.kids.map writeC).getD 0 [] : Str).length ≤ 136 * cntL t.kids + 125 := by
      match hq : t.kids with
      | [] => simp
      | a :: r =>
        have h5 : (writeC a).length ≤ 136 * cntC a + 123 := by
          have h6 := (kid_ok h (j := 0) (a := a) (by rw [hq]; rfl)).1
          have e2 : kidC t 0 = .only 13 := by unfold kidC; rw [hk]; rfl
          rw [e2] at h6
          refine ih a (by rw [hq]; simp) ?_
          have h7 := only_at (own_at (ok_own h6).1).1
          rw [checkC_eq] at h6 ⊢
          have e3 : ownC .exps a = ownC (.only 13) a := by
            unfold ownC
            have e4 : Pl.at .exps a.kind = true := by rw [h7]; rfl
            have e5 : Pl.at (.only 13) a.kind = true := by rw [h7]; rfl
            rw [e4, e5]
          rw [e3]; exact h6
        show (([44, 32] : Str) ++ writeC a).length ≤ _
        rw [cntL]
        simp only [List.length_append, List.length_cons, List.length_nil]
        omega
    rw [e]; simp only [List.length_append, List.length_cons, List.length_nil]; omega
  · have e : writeC t = wrapT t (kidN t 0) ((t.kids.map writeC).getD 0 []) ++ [32] ++ operT t.num ++ [32] ++ wrapT t (kidN t 1) ((t.kids.map writeC).getD 1 []) := by rw [writeC_eq]; unfold nodeT; rw [hk]; rfl
    have h2 : (t.kids.length : Int) = 2 := by
      unfold shapeC at hs
      rw [hk] at hs
      simpa using hs
    obtain ⟨a, b, hq⟩ := kids_two h2
    have ka := kidE 0 a (by rw [hq]; rfl) (by unfold kidC; rw [hk]; rfl)
    have kb := kidE 1 b (by rw [hq]; rfl) (by unfold kidC; rw [hk]; rfl)
    have h3 := w3 t.num
    have r0 := wrap_len t (kidN t 0) (writeC a)
    have r1 := wrap_len t (kidN t 1) (writeC b)
    have g0 : (t.kids.map writeC).getD 0 [] = writeC a := by rw [hq]; rfl
    have g1 : (t.kids.map writeC).getD 1 [] = writeC b := by rw [hq]; rfl
    rw [e, g0, g1]
    rw [hq] at hc
    simp only [cntL] at hc
    simp only [List.length_append, List.length_cons, List.length_nil]
    have h9 : (operT t.num).length ≤ 3 := by
      unfold operT; repeat' split
      all_goals decide
    omega
  · have e : writeC t = w_tnot ++ [32] ++ wrapT t (kidN t 0) ((t.kids.map writeC).getD 0 []) := by rw [writeC_eq]; unfold nodeT; rw [hk]; rfl
    have h2 : (t.kids.length : Int) = 1 := by
      unfold shapeC at hs
      rw [hk] at hs
      simpa using hs
    obtain ⟨a, hq⟩ := kids_one h2
    have ka := kidE 0 a (by rw [hq]; rfl) (by unfold kidC; rw [hk]; rfl)
    have r0 := wrap_len t (kidN t 0) (writeC a)
    have g0 : (t.kids.map writeC).getD 0 [] = writeC a := by rw [hq]; rfl
    have q8 : w_tnot.length = 3 := rfl
    rw [e, g0]
    rw [hq] at hc
    simp only [cntL] at hc
    simp only [List.length_append, List.length_cons, List.length_nil]
    omega
/-- not (a op b). -/
def opndT (a b : Syn) (op : Int) : Syn := ⟨18, [], [], 0, [⟨17, [], [], op, [a, b], 0⟩], 0⟩
theorem opnd_ok {a b : Syn} {op : Int} (ha : checkC a .exps = 0) (hb : checkC b .exps = 0) (h1 : 5 ≤ op) (h2 : op ≤ 11) : checkC (opndT a b op) .exps = 0 := by
  have e1 : checkC ⟨17, [], [], op, [a, b], 0⟩ .exps = 0 := by
    have o : ownC .exps ⟨17, [], [], op, [a, b], 0⟩ = 0 := by
      have hn : numC ⟨17, [], [], op, [a, b], 0⟩ = 0 := by
        show (if (decide (op < 5) || decide (11 < op)) then (1 : Int) else 0) = 0
        rw [decide_eq_false (by omega), decide_eq_false (by omega)]; rfl
      have hf : fieldsC ⟨17, [], [], op, [a, b], 0⟩ = 0 := by
        unfold fieldsC
        rw [hn]; rfl
      unfold ownC
      rw [hf]; rfl
    rw [checkC_eq, o, if_neg (by decide)]
    show kidsE _ 0 [a, b] = 0
    rw [kidsE, kidsE, kidsE]
    show (if (checkC a .exps != 0) then checkC a .exps else if (checkC b .exps != 0) then checkC b .exps else 0) = 0
    rw [ha, hb]; rfl
  have o : ownC .exps (opndT a b op) = 0 := by
    unfold ownC opndT fieldsC numC
    rfl
  rw [checkC_eq, o, if_neg (by decide)]
  show kidsE _ 0 [⟨17, [], [], op, [a, b], 0⟩] = 0
  rw [kidsE, kidsE]
  show (if (checkC ⟨17, [], [], op, [a, b], 0⟩ .exps != 0) then checkC ⟨17, [], [], op, [a, b], 0⟩ .exps else 0) = 0
  rw [e1]; rfl
theorem opnd_med {a b : Syn} {op : Int} (ha : fewC a = true) (hb : fewC b = true) : medC (opndT a b op) := by
  have h1 := few_big ha
  have h2 := few_big hb
  show wC (opndT a b op) ≤ 1000000
  unfold opndT
  rw [wC, wL, wL, wC, wL, wL, wL]
  simp only [List.length_nil]
  omega
theorem opnd_len {a b : Syn} {op : Int} (ha : fewC a = true) (hb : fewC b = true) (ca : checkC a .exps = 0) (cb : checkC b .exps = 0) (h1 : 5 ≤ op) (h2 : op ≤ 11) : (writeC (opndT a b op)).length ≤ 65536 := by
  have h3 := exp_len _ (opnd_ok ca cb h1 h2)
  have h4 := (few_cnt a ha).2
  have h5 := (few_cnt b hb).2
  have h6 : cntC (opndT a b op) ≤ 402 := by
    unfold opndT
    rw [cntC, cntL, cntL, cntC, cntL, cntL, cntL]
    omega
  omega
theorem opnd_err {a b : Syn} {op : Int} (ha : fewC a = true) (hb : fewC b = true) (ca : checkC a .exps = 0) (cb : checkC b .exps = 0) (h1 : 5 ≤ op) (h2 : op ≤ 11) (h : ((writtenC (opndT a b op) .exps).2 != 0) = true) : (writtenC (opndT a b op) .exps).2 = 12 := by
  have h3 := opnd_ok ca cb h1 h2
  have h4 := opnd_len ha hb ca cb h1 h2
  unfold writtenC at h ⊢
  rw [if_neg (show ¬ (checkC (opndT a b op) .exps != 0) = true by rw [h3]; decide)] at h ⊢
  split
  · rfl
  · rename_i h5
    rw [if_neg h5] at h
    rw [if_neg (show ¬ decide (65536 < ((writeC (opndT a b op)).length : Int)) = true by simp only [decide_eq_true_eq]; omega)] at h
    exact absurd h (by simp)
end Go.Proofs.YtabkeeedkhgodaaGreatDoor
