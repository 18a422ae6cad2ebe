/-
  What the reference's readers leave as it was. No program in sight. No condition.
-/
import Derived.Test.YtpgmglacdcfnaaaGreatDoorQU1
namespace Go.Proofs.YtpgmglacdcfnaaaGreatDoor
open Go Go.Aw
set_option linter.unusedVariables false
set_option linter.unusedSimpArgs false

def GoR (a b : PS) : Prop := Goes a b ∧ (a.bad ≠ 0 → b.bad ≠ 0)
def RngR (a : PS) : Prop := 0 ≤ a.depth ∧ a.depth ≤ 65 ∧ (a.bad = 0 → a.depth ≤ 64)
def FineR (F : PS → Syn × PS) : Prop := ∀ st, RngR st → GoR st (F st).2
/-- A state on which a reader of the reference may be called. -/
def okR (D : Int) (st : PS) : Prop := okS st ∧ RngR st ∧ (st.bad = 0 → D ≤ st.depth)
theorem GoR.refl (a : PS) : GoR a a := ⟨.refl _, id⟩
theorem GoR.trans {a b c : PS} (h : GoR a b) (k : GoR b c) : GoR a c := ⟨h.1.trans k.1, fun e => k.2 (h.2 e)⟩
theorem GoR.rng {a b : PS} (h : GoR a b) (r : RngR a) : RngR b := by
  obtain ⟨r0, r1, r2⟩ := r
  refine ⟨by rw [h.1.2.2]; exact r0, by rw [h.1.2.2]; exact r1, fun e => ?_⟩
  rw [h.1.2.2]
  refine r2 ?_
  by_cases ha : a.bad = 0
  · exact ha
  · exact absurd e (h.2 ha)
theorem GoR.ok {D : Int} {a b : PS} (h : GoR a b) (k : okR D a) : okR D b := by
  obtain ⟨k1, k2, k3⟩ := k
  refine ⟨(okS_of h.1.1).2 k1, h.rng k2, fun e => ?_⟩
  rw [h.1.2.2]
  refine k3 ?_
  by_cases ha : a.bad = 0
  · exact ha
  · exact absurd e (h.2 ha)
theorem GoR.adv (a : PS) : GoR a (adv a) := ⟨.adv _, id⟩
theorem bad_failP {e : Int} (st : PS) (h : st.bad ≠ 0) : (failP e st).bad ≠ 0 := by
  unfold failP
  have : (st.bad == 0) = false := by simpa using h
  rw [this]; exact h
theorem GoR.fail (e : Int) (a : PS) : GoR a (failP e a) := ⟨.fail _ _, bad_failP a⟩
theorem GoR.exp (w : Str) (a : PS) : GoR a (expR w a) := by unfold expR; split; exact .adv _; exact .fail _ _
theorem GoR.tok (k : Int) (a : PS) : GoR a (tokR k a) := by unfold tokR; split; exact .adv _; exact .fail _ _
theorem FineR.read {F : PS → Syn × PS} (h : FineR F) {a b : PS} (r : RngR a) (k : GoR a b) : GoR a (F b).2 := k.trans (h _ (k.rng r))
theorem isR_good {w : Str} {st : PS} (h : isR w st = true) : st.bad = 0 := by
  unfold isR at h
  cases hq : (st.bad == 0) with
  | true => simpa using hq
  | false =>
    have : endP st = true := by unfold endP; simp only [bne, hq]; rfl
    rw [this] at h; cases h

theorem fineR_field : FineR fieldR := fun st r => by
  have h : GoR st (expR w_colon (tokR 0 st)) := (GoR.tok _ _).trans (.exp _ _)
  unfold fieldR
  simp only
  split
  · exact h.trans (.adv _)
  · split
    · exact h.trans (.adv _)
    · exact h.trans (.exp _ _)
theorem goR_listGo {F : PS → Syn × PS} (hF : FineR F) : ∀ (n : Nat) (st : PS) (out : List Syn), RngR st → GoR st (listGoR F n st out).2
  | 0, st, out, r => .refl _
  | n + 1, st, out, r => by
    unfold listGoR
    split
    · have h := hF.read r (.adv st)
      exact h.trans (goR_listGo hF n _ _ (h.rng r))
    · exact .refl _
theorem fineR_typed : FineR typedR := fun st r => by
  have h : GoR st (expR w_lbrace (tokR 0 (expR w_ttype st))) := ((GoR.exp _ _).trans (.tok _ _)).trans (.exp _ _)
  unfold typedR
  simp only
  split
  · exact h.trans (.adv _)
  · have h2 := h.trans (fineR_field _ (h.rng r))
    exact (h2.trans (goR_listGo fineR_field _ _ _ (h2.rng r))).trans (.exp _ _)
theorem goR_const (st : PS) : GoR st (constR st).2 := by
  unfold constR
  split
  · exact (GoR.adv _).trans (.tok _ _)
  · split
    · exact .adv _
    · split
      · exact .adv _
      · split
        · exact .tok _ _
        · exact .tok _ _
theorem fineR_const : FineR constR := fun st _ => goR_const st
theorem goR_tot (k : Int) (st : PS) : GoR st (totR k st).2 := by
  have h : GoR st (tokR 0 (expR w_dot (tokR 0 (expR w_lpar (adv st))))) := ((((GoR.adv _).trans (.exp _ _)).trans (.tok _ _)).trans (.exp _ _)).trans (.tok _ _)
  unfold totR
  simp only
  split
  · exact ((h.trans (.exp _ _)).trans (goR_const _)).trans (.exp _ _)
  · exact h.trans (.exp _ _)
@[simp] theorem okS_constR (st : PS) : okS (constR st).2 ↔ okS st := okS_of (goR_const st).1.1
@[simp] theorem okS_totR (k : Int) (st : PS) : okS (totR k st).2 ↔ okS st := okS_of (goR_tot k st).1.1
/-- One level deeper. -/
theorem open_ok {D : Int} (hD : 0 ≤ D) {st : PS} (h : okR D st) (hb : st.bad = 0) : okR (D + 1) (openR st) ∧ (openR st).toks = st.toks ∧ (openR st).pos = st.pos ∧ (openR st).depth = st.depth + 1 := by
  obtain ⟨h1, ⟨r0, r1, r2⟩, h3⟩ := h
  have d1 := r2 hb
  have d2 := h3 hb
  have e0 : (if decide (64 ≤ st.depth) then failP 12 st else st).depth = st.depth := by split; exact dep_failP _ _; rfl
  have e1 : (openR st).depth = st.depth + 1 := by
    show IntKind.i64.wrap ((if decide (64 ≤ st.depth) then failP 12 st else st).depth + 1) = _
    rw [e0]; exact wrap_id (by omega) (by omega)
  refine ⟨⟨(okS_openR st).2 h1, ⟨by omega, by omega, fun e => ?_⟩, fun _ => by omega⟩, toks_openR st, pos_openR st, e1⟩
  rw [e1]
  by_cases hd : 64 ≤ st.depth
  · exfalso
    have : (openR st).bad = (failP 12 st).bad := by unfold openR; rw [if_pos (decide_eq_true hd)]; rfl
    rw [this] at e
    exact absurd (fail_bad (e := 12) (by decide) st) (by simp [e])
  · omega
theorem goR_nest {st a : PS} (hb : st.bad = 0) (r : RngR st) (k : GoR (openR st) a) : GoR st (shallow a) := by
  have e0 : (if decide (64 ≤ st.depth) then failP 12 st else st).depth = st.depth := by split; exact dep_failP _ _; rfl
  have e1 : (openR st).depth = st.depth + 1 := by
    show IntKind.i64.wrap ((if decide (64 ≤ st.depth) then failP 12 st else st).depth + 1) = _
    rw [e0]; have := r.1; have := r.2.1; exact wrap_id (by omega) (by omega)
  refine ⟨⟨?_, ?_, ?_⟩, fun e => absurd hb e⟩
  · show a.toks = st.toks
    rw [k.1.1, toks_openR]
  · show st.pos ≤ a.pos
    have := k.1.2.1
    rwa [pos_openR] at this
  · show IntKind.i64.wrap (a.depth - 1) = st.depth
    rw [k.1.2.2, e1, wrap_id (by have := r.1; omega) (by have := r.2.1; omega)]; omega
theorem rng_open {st : PS} (hb : st.bad = 0) (r : RngR st) (hS : okS st) : RngR (openR st) := (open_ok (Int.le_refl _) ⟨hS, r, fun _ => r.1⟩ hb).1.2.1
theorem rng_open' {st : PS} (hb : st.bad = 0) (r : RngR st) : RngR (openR st) := by
  obtain ⟨r0, r1, r2⟩ := r
  have d1 := r2 hb
  have e0 : (if decide (64 ≤ st.depth) then failP 12 st else st).depth = st.depth := by split; exact dep_failP _ _; rfl
  have e1 : (openR st).depth = st.depth + 1 := by
    show IntKind.i64.wrap ((if decide (64 ≤ st.depth) then failP 12 st else st).depth + 1) = _
    rw [e0]; exact wrap_id (by omega) (by omega)
  refine ⟨by omega, by omega, fun e => ?_⟩
  rw [e1]
  by_cases hd : 64 ≤ st.depth
  · exfalso
    have : (openR st).bad = (failP 12 st).bad := by unfold openR; rw [if_pos (decide_eq_true hd)]; rfl
    rw [this] at e
    exact absurd (fail_bad (e := 12) (by decide) st) (by simp [e])
  · omega
theorem fineR_unit {E : PS → Syn × PS} (hE : FineR E) : FineR (unitR E) := fun st r => by
  unfold unitR
  split
  · rename_i hi
    have hb := isR_good hi
    have h := hE.read (rng_open' hb r) (.exp w_lpar (openR st))
    exact goR_nest hb r (h.trans (.exp _ _))
  · split
    · exact (((GoR.adv st).trans (.exp _ _)).trans (.tok _ _)).trans (.exp _ _)
    · split
      · exact goR_tot _ _
      · split
        · exact goR_const _
        · simp only
          split
          · exact ((GoR.tok _ _).trans (.exp _ _)).trans (.adv _)
          · exact ((GoR.tok _ _).trans (.exp _ _)).trans (.tok _ _)
theorem goR_sumGo {F : PS → Syn × PS} (hF : FineR F) : ∀ (n : Nat) (st : PS) (out : Syn), RngR st → GoR st (sumGoR F n st out).2
  | 0, st, out, r => .refl _
  | n + 1, st, out, r => by
    unfold sumGoR
    split
    · have h := hF.read r (.adv st)
      exact h.trans (goR_sumGo hF n _ _ (h.rng r))
    · exact .refl _
theorem fineR_sum {E : PS → Syn × PS} (hE : FineR E) : FineR (sumR E) := fun st r => by
  have h := fineR_unit hE st r
  exact h.trans (goR_sumGo (fineR_unit hE) _ _ _ (h.rng r))
theorem fineR_cmp {E : PS → Syn × PS} (hE : FineR E) : FineR (cmpR E) := fun st r => by
  have h := fineR_sum hE st r
  have h2 := (h.trans (.adv _)).trans (fineR_sum hE _ ((h.trans (.adv _)).rng r))
  unfold cmpR
  simp only
  repeat' split
  all_goals first | exact h2 | exact h
theorem fineR_not {E N : PS → Syn × PS} (hE : FineR E) (hN : FineR N) : FineR (notR E N) := fun st r => by
  unfold notR
  split
  · exact fineR_cmp hE st r
  · rename_i hi
    have hi : isR w_tnot st = true := by simpa using hi
    have hb := isR_good hi
    exact goR_nest hb r (hN.read (rng_open' hb r) (.exp w_tnot (openR st)))
theorem goR_chainGo {w : Str} {op : Int} {F : PS → Syn × PS} (hF : FineR F) : ∀ (n : Nat) (st : PS) (out : Syn), RngR st → GoR st (chainGoR w op F n st out).2
  | 0, st, out, r => .refl _
  | n + 1, st, out, r => by
    unfold chainGoR
    split
    · have h := hF.read r (.adv st)
      exact h.trans (goR_chainGo hF n _ _ (h.rng r))
    · exact .refl _
theorem fineR_and {E N : PS → Syn × PS} (hE : FineR E) (hN : FineR N) : FineR (andR E N) := fun st r => by
  have h := fineR_not hE hN st r
  exact h.trans (goR_chainGo (fineR_not hE hN) _ _ _ (h.rng r))
theorem fineR_or {E N : PS → Syn × PS} (hE : FineR E) (hN : FineR N) : FineR (orR E N) := fun st r => by
  have h := fineR_and hE hN st r
  exact h.trans (goR_chainGo (fineR_and hE hN) _ _ _ (h.rng r))
theorem fineR_dull : FineR dullP := fun st _ => .refl _
theorem fineR_neg : ∀ n, FineR (negNR n).1 ∧ FineR (negNR n).2
  | 0 => ⟨fineR_not fineR_dull fineR_dull, fineR_or fineR_dull fineR_dull⟩
  | n + 1 => ⟨fineR_not (fineR_neg n).2 (fineR_neg n).1, fineR_or (fineR_neg n).2 (fineR_neg n).1⟩
theorem fineR_event {E : PS → Syn × PS} (hE : FineR E) : FineR (eventR E) := fun st r => by
  have h : GoR st (tokR 0 (tokR 0 st)) := (GoR.tok _ _).trans (.tok _ _)
  unfold eventR
  simp only
  split
  · exact hE.read r (h.trans (.adv _))
  · exact h
theorem goR_rest {E T : PS → Syn × PS} (hE : FineR E) (hT : FineR T) (k : Int) (z : Syn) {st : PS} (r : RngR st) : GoR st (restR E T k z st).2 := by
  unfold restR
  split
  · have h := hT.read r (.exp w_comma st)
    exact h.trans (goR_listGo hT _ _ _ (h.rng r))
  · split
    · exact (fineR_event hE).read r (.exp _ _)
    · split
      · exact (GoR.exp _ _).trans (.tok _ _)
      · split
        · exact hE.read r (.exp _ _)
        · exact .refl _
theorem oper_good {st : PS} (h : (operR st == 5) = false) : st.bad = 0 := by
  unfold operR at h
  repeat' split at h
  all_goals first | (rename_i hi; exact isR_good hi) | exact absurd h (by decide)
theorem fineR_pat {E T : PS → Syn × PS} (hE : FineR E) (hT : FineR T) : FineR (patR E T) := fun st r => by
  unfold patR
  split
  · exact fineR_event hE st r
  · rename_i hi
    have hb := oper_good (by simpa using hi)
    have h := hT.read (rng_open' hb r) ((GoR.adv (openR st)).trans (.exp w_lpar _))
    exact goR_nest hb r ((h.trans (goR_rest hE hT _ _ (h.rng (rng_open' hb r)))).trans (.exp _ _))
theorem fineR_patN {E : PS → Syn × PS} (hE : FineR E) : ∀ n, FineR (patNR E n)
  | 0 => fineR_pat hE fineR_dull
  | n + 1 => fineR_pat hE (fineR_patN hE n)
theorem goR_key (st : PS) (k : Int) : GoR st (keyRR st k).2 := by
  unfold keyRR
  split
  · exact (GoR.adv _).trans (.tok _ _)
  · exact .refl _
theorem fineR_query {E T : PS → Syn × PS} (hE : FineR E) (hT : FineR T) : FineR (queryR E T) := fun st r => by
  have h1 : GoR st (expR w_tmatch (keyRR (tokR 0 (expR w_tquery st)) (offS st)).2) := (((GoR.exp _ _).trans (.tok _ _)).trans (goR_key _ _)).trans (.exp _ _)
  have h2 := (hT.read r h1).trans (.exp w_treturn _)
  have h3 := hE.read r h2
  exact (h3.trans (goR_listGo hE _ _ _ (h3.rng r))).trans (.exp _ _)
end Go.Proofs.YtpgmglacdcfnaaaGreatDoor
