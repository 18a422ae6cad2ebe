/-
  The plain law: the parser and its reference read the same trees. No program in sight. No condition.
-/
import Derived.Test.YtpgmglacdcfnaaaGreatDoorQSR12
import Derived.Test.YtpgmglacdcfnaaaGreatDoorQP5
namespace Go.Proofs.YtpgmglacdcfnaaaGreatDoor
open Go Go.Aw
set_option linter.unusedVariables false
set_option linter.unusedSimpArgs false

/-- Names begin with letters. -/
def GdT (l : List Tok) : Prop := ∀ t ∈ l, t.kind = 0 → letterS (bt t.text 0) = true
def Gd (st : PS) : Prop := GdT st.toks
theorem Gd.goes {a b : PS} (h : Gd a) (g : Goes a b) : Gd b := by unfold Gd; rw [g.1]; exact h
theorem isP_eq {w : Str} {st : PS} (hg : Gd st) (hw : (keyS w || !letterS (bt w 0)) = true) : isP w st = isR w st := by
  unfold isP isR
  cases he : endP st with
  | true => rfl
  | false =>
    simp only [Bool.false_eq_true, ↓reduceIte]
    cases ht : ((tkS st).text == w) with
    | false => rfl
    | true =>
      cases hk : ((tkS st).kind == 0) with
      | false => rfl
      | true =>
        have e := eq_of_beq ht
        have hl := hg _ (List.mem_of_getElem? (at_get (not_end he))) (eq_of_beq hk)
        rw [e] at hl
        rw [hl] at hw
        have : keyS w = true := by simpa using hw
        rw [this]; rfl
theorem nxt_eq (k : Int) (st : PS) : nxtP k st = nxtR k st := by unfold nxtP nxtR; rw [key_eq]
theorem tok_eq' (k : Int) (st : PS) : tokP k st = tokR k st := by unfold tokP tokR; rw [nxt_eq]
theorem txt_eq (k : Int) (st : PS) : txtP k st = txtR k st := by unfold txtP txtR; rw [nxt_eq]
theorem numRR_eq (st : PS) : numP st = numRR st := by
  unfold numP numRR txtR
  rw [nxt_eq, num_eq]
  cases nxtR 1 st with
  | true => rfl
  | false => rfl
theorem exp_eq {w : Str} {st : PS} (hg : Gd st) (hw : (keyS w || !letterS (bt w 0)) = true) : expP w st = expR w st := by
  by_cases hb : st.bad = 0
  · have e : (st.bad == 0) = true := by simpa using hb
    unfold expP expR accP
    rw [e, isP_eq hg hw]
    cases isR w st <;> rfl
  · rw [exp_stay hb, expR_stay hb]
/-- Two signs or keywords are not there at once. -/
theorem isR_one {w v : Str} {st : PS} (h : isR w st = true) (hn : (w == v) = false) : isR v st = false := by
  unfold isR at h ⊢
  cases he : endP st with
  | true => rfl
  | false =>
    rw [he] at h
    simp only [Bool.false_eq_true, ↓reduceIte, Bool.and_eq_true, beq_iff_eq] at h ⊢
    rw [h.1, hn]; rfl
theorem isR_kind {w : Str} {st : PS} {k : Int} (h : nxtR k st = true) (hk : k ≠ 0 ∧ k ≠ 3) : isR w st = false := by
  unfold nxtR at h
  unfold isR
  cases he : endP st with
  | true => rfl
  | false =>
    rw [he] at h
    simp only [Bool.false_eq_true, ↓reduceIte, Bool.and_eq_true, beq_iff_eq] at h
    simp only [Bool.false_eq_true, ↓reduceIte]
    rw [h.1]
    have e1 : (k == 3) = false := by simpa using hk.2
    have e2 : (k == 0) = false := by simpa using hk.1
    rw [e1, e2]; simp

/-- The same, or both with the same error. -/
def V {α : Type} (p q : α × PS) : Prop := (p = q ∧ p.2.bad = 0) ∨ (p.2.bad ≠ 0 ∧ q.2.bad = p.2.bad ∧ q.2.whr = p.2.whr)
def B (a b : PS) : Prop := a.bad ≠ 0 → b.bad = a.bad ∧ b.whr = a.whr
theorem V.same {α : Type} {p q : α × PS} (h : p = q) : V p q := by
  subst h
  by_cases hb : p.2.bad = 0
  · exact .inl ⟨rfl, hb⟩
  · exact .inr ⟨hb, rfl, rfl⟩
theorem V.bads {α : Type} {p q : α × PS} {s : PS} (hs : s.bad ≠ 0) (h1 : B s p.2) (h2 : B s q.2) : V p q := by
  obtain ⟨a1, a2⟩ := h1 hs
  obtain ⟨b1, b2⟩ := h2 hs
  exact .inr ⟨by rw [a1]; exact hs, by rw [a1, b1], by rw [a2, b2]⟩
theorem V.next {α β : Type} {p q : α × PS} (h : V p q) {p' q' : β × PS} (hs : p = q → p.2.bad = 0 → V p' q') (h1 : B p.2 p'.2) (h2 : B q.2 q'.2) : V p' q' := by
  rcases h with ⟨e, hb⟩ | ⟨hb, e1, e2⟩
  · exact hs e hb
  · obtain ⟨a1, a2⟩ := h1 hb
    obtain ⟨b1, b2⟩ := h2 (by rw [e1]; exact hb)
    exact .inr ⟨by rw [a1]; exact hb, by rw [b1, e1, a1], by rw [b2, e2, a2]⟩
theorem Rng.toR {st : PS} (r : Rng st) : RngR st := ⟨r.1, Int.le_trans r.2 (by decide), fun _ => r.2⟩
/-- Two readers read the same from a depth on. -/
def Sim (D : Int) (F G : PS → Syn × PS) : Prop := ∀ st, Gd st → Rng st → D ≤ st.depth → V (F st) (G st)

theorem field_same {st : PS} (hg : Gd st) : fieldP st = fieldR st := by
  have hg1 : Gd (tokR 0 st) := hg.goes (goesR_tok _ _)
  have hg2 : Gd (expR w_colon (tokR 0 st)) := hg1.goes (goesR_exp _ _)
  unfold fieldP fieldR
  simp only [tok_eq', txt_eq]
  rw [exp_eq hg1 (by kernel_rfl), isP_eq hg2 (by kernel_rfl), isP_eq hg2 (by kernel_rfl), isP_eq hg2 (by kernel_rfl)]
  generalize expR w_colon (tokR 0 st) = s
  cases h1 : isR w_tint s with
  | true =>
    rw [isR_one h1 (v := w_tbool) (by decide), isR_one h1 (v := w_tstring) (by decide)]
    simp only [Bool.false_eq_true, ↓reduceIte]
    unfold expR; rw [h1]; rfl
  | false =>
    cases h2 : isR w_tbool s with
    | true => rfl
    | false =>
      cases h3 : isR w_tstring s with
      | true => rfl
      | false =>
        simp only [Bool.false_eq_true, ↓reduceIte]
        unfold expR; rw [h1]; rfl
theorem sim_list {D : Int} (hD : 0 ≤ D) {F G : PS → Syn × PS} (hS : Sim D F G) (hF : Stuck F) (hG : StuckR G) : ∀ (n : Nat) (st : PS) (out : List Syn), Gd st → Rng st → D ≤ st.depth → V (listGo F n st out) (listGoR G n st out)
  | 0, st, out, _, _, _ => .same rfl
  | n + 1, st, out, hg, r, hd => by
    unfold listGo listGoR
    rw [isP_eq hg (by kernel_rfl)]
    cases h : isR w_comma st with
    | false => exact .same rfl
    | true =>
      simp only [↓reduceIte]
      have ga := Stk.adv st
      have ra : Rng (adv st) := ga.rng r
      have hv := hS (adv st) (hg.goes ga.1) ra hd
      have k1 := hF.goes ra
      have k2 := hG (adv st) ra.toR
      refine hv.next (fun e hb => ?_) (skp_listGo hF n _ _ (k1.rng ra)).2 (skR_listGo hG n _ _ (k2.rng ra.toR)).2
      rw [← e]
      exact sim_list hD hS hF hG n _ _ ((hg.goes ga.1).goes k1.1) (k1.rng ra) (by rw [k1.1.2.2]; exact hd)
theorem sim_field : Sim 0 fieldP fieldR := fun st hg _ _ => .same (field_same hg)
theorem sim_kind : Sim 0 kindP typedR := fun st hg r hd => by
  have e1 : expP w_ttype st = expR w_ttype st := exp_eq hg (by kernel_rfl)
  have hg1 : Gd (expR w_ttype st) := hg.goes (goesR_exp _ _)
  have hg2 : Gd (tokR 0 (expR w_ttype st)) := hg1.goes (goesR_tok _ _)
  have e2 : expP w_lbrace (tokR 0 (expR w_ttype st)) = expR w_lbrace (tokR 0 (expR w_ttype st)) := exp_eq hg2 (by kernel_rfl)
  have hg3 : Gd (expR w_lbrace (tokR 0 (expR w_ttype st))) := hg2.goes (goesR_exp _ _)
  have g3 : SkR st (expR w_lbrace (tokR 0 (expR w_ttype st))) := ((SkR.exp _ _).trans (.tok _ _)).trans (.exp _ _)
  have r3 : Rng (expR w_lbrace (tokR 0 (expR w_ttype st))) := g3.1.1.rng r
  unfold kindP typedR
  simp only [e1, tok_eq', txt_eq, e2]
  generalize hs : expR w_lbrace (tokR 0 (expR w_ttype st)) = s at *
  rw [isP_eq hg3 (by kernel_rfl)]
  by_cases hb : s.bad = 0
  · have e : (s.bad == 0) = true := by simpa using hb
    rw [e]
    cases h : isR w_rbrace s with
    | true =>
      simp only [Bool.not_true, Bool.and_false, Bool.false_eq_true, ↓reduceIte]
      refine .same ?_
      rw [exp_eq hg3 (by kernel_rfl)]
      unfold expR; rw [h]; rfl
    | false =>
      simp only [Bool.not_false, Bool.and_self, ↓reduceIte, Bool.false_eq_true]
      have hv := sim_field s hg3 r3 r3.1
      have k1 := stuck_field.goes r3
      have k2 := stuckR_field s r3.toR
      have hl : V (listP fieldP s) (listGoR fieldR (fuel (fieldR s).2) (fieldR s).2 [(fieldR s).1]) := by
        refine hv.next (fun e hb => ?_) (skp_listGo stuck_field _ _ _ (k1.rng r3)).2 (skR_listGo stuckR_field _ _ _ (k2.rng r3.toR)).2
        rw [← e]
        exact sim_list (Int.le_refl _) sim_field stuck_field stuckR_field _ _ _ (hg3.goes k1.1) (k1.rng r3) (k1.rng r3).1
      have l1 := skp_list stuck_field r3
      refine hl.next (fun e hb => ?_) (Stk.exp _ _).2 (SkR.exp _ _).2
      refine .same ?_
      rw [← e, exp_eq (hg3.goes l1.1) (by kernel_rfl)]
  · have e : (s.bad == 0) = false := by simpa using hb
    rw [e]
    simp only [Bool.false_and, Bool.false_eq_true, ↓reduceIte]
    rw [isR_bad hb]
    simp only [Bool.false_eq_true, ↓reduceIte]
    have k2 := stuckR_field s r3.toR
    refine .bads hb (Stk.exp _ _).2 ?_
    exact ((k2.trans (skR_listGo stuckR_field _ _ _ (k2.rng r3.toR))).trans (.exp _ _)).2
theorem sim_const : Sim 0 constP constR := fun st hg r hd => by
  unfold constP constR
  rw [isP_eq hg (by kernel_rfl), isP_eq hg (by kernel_rfl), isP_eq hg (by kernel_rfl), numRR_eq, numRR_eq]
  simp only [tok_eq', txt_eq, nxt_eq]
  cases h1 : isR w_sub st with
  | true => exact .same rfl
  | false =>
    simp only [Bool.false_eq_true, ↓reduceIte]
    cases h2 : nxtR 1 st with
    | true =>
      rw [isR_kind h2 (by decide), isR_kind h2 (by decide)]
      have h3 : nxtR 2 st = false := by
        unfold nxtR at h2 ⊢
        cases he : endP st with
        | true => rfl
        | false =>
          rw [he] at h2
          simp only [Bool.false_eq_true, ↓reduceIte, Bool.and_eq_true, beq_iff_eq] at h2 ⊢
          rw [h2.1]; rfl
      rw [h3]
      exact .same rfl
    | false =>
      simp only [Bool.false_eq_true, ↓reduceIte]
      cases h3 : isR w_ttrue st with
      | true => exact .same rfl
      | false =>
        simp only [Bool.false_eq_true, ↓reduceIte]
        cases h4 : isR w_tfalse st with
        | true => exact .same rfl
        | false =>
          simp only [Bool.false_eq_true, ↓reduceIte]
          cases h5 : nxtR 2 st with
          | true => exact .same rfl
          | false =>
            simp only [Bool.false_eq_true, ↓reduceIte]
            unfold tokR
            rw [h2, h5]
            refine .inr ⟨?_, rfl, rfl⟩
            have := fail_bad (e := 4) (by decide) st
            simpa using this
end Go.Proofs.YtpgmglacdcfnaaaGreatDoor
