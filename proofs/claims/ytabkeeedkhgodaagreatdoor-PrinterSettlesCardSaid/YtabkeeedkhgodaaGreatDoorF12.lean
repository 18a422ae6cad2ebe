/-
  What the readers leave as it was: the tokens, the depth; and that they never go back. No program in sight. No condition.
-/
import Derived.Test.YtabkeeedkhgodaaGreatDoorV4
namespace Go.Proofs.YtabkeeedkhgodaaGreatDoor
open Go Go.Aw
set_option linter.unusedVariables false
set_option linter.unusedSimpArgs false

/-- From a to b: the same tokens, the same depth, not back. -/
def Goes (a b : PS) : Prop := b.toks = a.toks ∧ a.pos ≤ b.pos ∧ b.depth = a.depth
theorem Goes.refl (a : PS) : Goes a a := ⟨rfl, Nat.le_refl _, rfl⟩
theorem Goes.trans {a b c : PS} (h : Goes a b) (k : Goes b c) : Goes a c := ⟨k.1.trans h.1, Nat.le_trans h.2.1 k.2.1, k.2.2.trans h.2.2⟩
theorem Goes.adv (a : PS) : Goes a (adv a) := ⟨rfl, Nat.le_succ _, rfl⟩
theorem Goes.fail (e : Int) (a : PS) : Goes a (failP e a) := ⟨toks_failP _ _, Nat.le_of_eq (pos_failP _ _).symm, dep_failP _ _⟩
theorem Goes.exp (w : Str) (a : PS) : Goes a (expP w a) := ⟨toks_expP _ _, pos_expP _ _, dep_expP _ _⟩
theorem Goes.tok (k : Int) (a : PS) : Goes a (tokP k a) := ⟨toks_tokP _ _, pos_tokP _ _, dep_tokP _ _⟩
def Rng (a : PS) : Prop := 0 ≤ a.depth ∧ a.depth ≤ 64
theorem Goes.rng {a b : PS} (h : Goes a b) (r : Rng a) : Rng b := by unfold Rng; rw [h.2.2]; exact r
theorem Fine.goes {F : PS → Syn × PS} (h : Fine F) {a : PS} (r : Rng a) : Goes a (F a).2 := h a r.1 r.2
/-- A reader behind a step. -/
theorem Goes.read {F : PS → Syn × PS} (h : Fine F) {a b : PS} (r : Rng a) (k : Goes a b) : Goes a (F b).2 := k.trans (h.goes (k.rng r))
theorem Fine.of {F : PS → Syn × PS} (h : ∀ st, Rng st → Goes st (F st).2) : Fine F := fun st h0 h1 => h st ⟨h0, h1⟩

theorem fine_field : Fine fieldP := .of fun st r => by
  have h : Goes st (expP w_colon (tokP 0 st)) := (Goes.tok _ _).trans (.exp _ _)
  unfold fieldP
  split
  · exact h.trans (.adv _)
  · split
    · exact h.trans (.adv _)
    · split
      · exact h.trans (.adv _)
      · exact h.trans (.fail _ _)
theorem goes_listGo {F : PS → Syn × PS} (hF : Fine F) : ∀ (n : Nat) (st : PS) (out : List Syn), Rng st → Goes st (listGo F n st out).2
  | 0, st, out, r => .refl _
  | n + 1, st, out, r => by
    unfold listGo
    split
    · have h := Goes.read hF r (.adv st)
      exact h.trans (goes_listGo hF n _ _ (h.rng r))
    · exact .refl _
theorem goes_list {F : PS → Syn × PS} (hF : Fine F) {st : PS} (r : Rng st) : Goes st (listP F st).2 := by
  have h := hF.goes r
  exact h.trans (goes_listGo hF _ _ _ (h.rng r))
theorem fine_kind : Fine kindP := .of fun st r => by
  have h : Goes st (expP w_lbrace (tokP 0 (expP w_ttype st))) := ((Goes.exp _ _).trans (.tok _ _)).trans (.exp _ _)
  unfold kindP
  simp only
  split
  · exact (h.trans (goes_list fine_field (h.rng r))).trans (.exp _ _)
  · exact h.trans (.exp _ _)
theorem goes_const (st : PS) : Goes st (constP st).2 := by
  unfold constP
  split
  · exact (Goes.adv _).trans (.tok _ _)
  · split
    · exact .tok _ _
    · split
      · exact .adv _
      · split
        · exact .adv _
        · exact .tok _ _
theorem fine_const : Fine constP := .of fun st _ => goes_const st
theorem goes_ins (st : PS) : Goes st (insP st).2 := ((((Goes.exp _ _).trans (.tok _ _)).trans (.exp _ _)).trans (.tok _ _))
@[simp] theorem okS_insP (st : PS) : okS (insP st).2 ↔ okS st := okS_of (goes_ins st).1
@[simp] theorem okS_constP (st : PS) : okS (constP st).2 ↔ okS st := okS_of (goes_const st).1
theorem wrap_id {n : Int} (h0 : -1000 ≤ n) (h1 : n ≤ 1000) : IntKind.i64.wrap n = n := by
  unfold IntKind.wrap IntKind.signed IntKind.bits
  simp only [↓reduceIte, Bool.true_and, decide_eq_true_eq, ge_iff_le]
  split <;> omega
theorem goes_nest {read : Syn → PS → Syn × PS} {z : Syn} {st : PS} (r : Rng st) (h : ∀ s : PS, Rng s → Goes s (read z s).2) : Goes st (nestP read z st).2 := by
  have hf : Goes st (nestF st) := by
    unfold nestF
    split
    · exact .fail _ _
    · exact .refl _
  have e0 : nestP read z st = if ((nestF st).bad != 0) then (z, nestF st) else ((read z (adv (deep st))).1, shallow (read z (adv (deep st))).2) := rfl
  rw [e0]
  split
  · exact hf
  · rename_i hb
    by_cases hd : 64 ≤ st.depth
    · exfalso
      apply hb
      unfold nestF
      rw [if_pos (decide_eq_true hd)]
      exact fail_bad (by decide) _
    · have e1 : (deep st).depth = st.depth + 1 := wrap_id (by have := r.1; omega) (by omega)
      have k := h (adv (deep st)) ⟨show 0 ≤ (deep st).depth by rw [e1]; have := r.1; omega, show (deep st).depth ≤ 64 by rw [e1]; omega⟩
      refine ⟨k.1, Nat.le_trans (Nat.le_succ _) k.2.1, ?_⟩
      show IntKind.i64.wrap ((read z (adv (deep st))).2.depth - 1) = st.depth
      rw [k.2.2, show (adv (deep st)).depth = (deep st).depth from rfl, e1, wrap_id (by have := r.1; omega) (by omega)]
      omega
theorem fine_unit {E : PS → Syn × PS} (hE : Fine E) : Fine (unitP E) := .of fun st r => by
  unfold unitP
  split
  · exact goes_nest r fun s r => (hE.goes r).trans (.exp _ _)
  · split
    · simp only
      have h := ((Goes.adv st).trans (goes_ins _)).trans (.exp w_comma _)
      exact (h.trans (fine_const.goes (h.rng r))).trans (.exp _ _)
    · split
      · exact ((Goes.adv st).trans (goes_ins _)).trans (.exp _ _)
      · split
        · exact (((Goes.adv st).trans (.exp _ _)).trans (.tok _ _)).trans (.exp _ _)
        · split
          · simp only
            split
            · exact ((Goes.tok _ _).trans (.exp _ _)).trans (.adv _)
            · exact ((Goes.tok _ _).trans (.exp _ _)).trans (.tok _ _)
          · exact fine_const.goes r
theorem goes_chainGo {F : PS → Syn × PS} (hF : Fine F) {sg : List (Str × Int)} : ∀ (n : Nat) (st : PS) (out : Syn), Rng st → Goes st (chainGo F sg n st out).2
  | 0, st, out, r => .refl _
  | n + 1, st, out, r => by
    unfold chainGo
    split
    · have h := Goes.read hF r (.adv st)
      exact h.trans (goes_chainGo hF n _ _ (h.rng r))
    · exact .refl _
theorem fine_chain {F : PS → Syn × PS} (hF : Fine F) (sg : List (Str × Int)) : Fine (chainP F sg) := .of fun st r => by
  have h := hF.goes r
  exact h.trans (goes_chainGo hF _ _ _ (h.rng r))
theorem fine_sum {E : PS → Syn × PS} (hE : Fine E) : Fine (sumP E) := fine_chain (fine_unit hE) sumL
theorem fine_cmp {E : PS → Syn × PS} (hE : Fine E) : Fine (cmpP E) := .of fun st r => by
  have h := (fine_sum hE).goes r
  have h2 := (h.trans (.adv _)).trans ((fine_sum hE).goes ((h.trans (.adv _)).rng r))
  unfold cmpP
  simp only
  repeat' split
  all_goals first | exact h2 | exact h
theorem fine_not {E N : PS → Syn × PS} (hE : Fine E) (hN : Fine N) : Fine (notP E N) := .of fun st r => by
  unfold notP
  split
  · exact (fine_cmp hE).goes r
  · exact goes_nest r fun s r => hN.goes r
theorem fine_or {E N : PS → Syn × PS} (hE : Fine E) (hN : Fine N) : Fine (orP E N) := fine_chain (fine_chain (fine_not hE hN) andL) orL
theorem fine_dull : Fine dullP := .of fun st _ => .refl _
theorem fine_neg : ∀ n, Fine (negN n).1 ∧ Fine (negN n).2
  | 0 => ⟨fine_not fine_dull fine_dull, fine_or fine_dull fine_dull⟩
  | n + 1 => ⟨fine_not (fine_neg n).2 (fine_neg n).1, fine_or (fine_neg n).2 (fine_neg n).1⟩
theorem fine_event {E : PS → Syn × PS} (hE : Fine E) : Fine (eventP E) := .of fun st r => by
  have h : Goes st (tokP 0 (tokP 0 st)) := (Goes.tok _ _).trans (.tok _ _)
  unfold eventP
  simp only
  split
  · exact Goes.read hE r (h.trans (.adv _))
  · exact h
theorem goes_sev {T : PS → Syn × PS} (hT : Fine T) (z : Syn) {st : PS} (r : Rng st) : Goes st (sevP T z st).2 := by
  have h := Goes.read hT r (.exp w_comma st)
  exact h.trans (goes_listGo hT _ _ _ (h.rng r))
theorem goes_rest {E T : PS → Syn × PS} (hE : Fine E) (hT : Fine T) (k : Int) (z : Syn) {st : PS} (r : Rng st) : Goes st (restP E T k z st).2 := by
  unfold restP
  split
  · exact goes_sev hT z r
  · split
    · exact .refl _
    · split
      · exact Goes.read (fine_event hE) r (.exp _ _)
      · split
        · exact (Goes.exp _ _).trans (.tok _ _)
        · exact Goes.read hE r (.exp _ _)
theorem fine_pat {E T : PS → Syn × PS} (hE : Fine E) (hT : Fine T) : Fine (patP E T) := .of fun st r => by
  unfold patP
  split
  · refine goes_nest r fun s r => ?_
    have h := Goes.read hT r (.exp w_lpar s)
    exact (h.trans (goes_rest hE hT _ _ (h.rng r))).trans (.exp _ _)
  · exact (fine_event hE).goes r
theorem fine_patN {E : PS → Syn × PS} (hE : Fine E) : ∀ n, Fine (patN E n)
  | 0 => fine_pat hE fine_dull
  | n + 1 => fine_pat hE (fine_patN hE n)
theorem goes_key (st : PS) (k : Int) : Goes st (keyP st k).2 := by
  unfold keyP
  split
  · exact (Goes.adv _).trans (.tok _ _)
  · exact .refl _
theorem fine_query {E T : PS → Syn × PS} (hE : Fine E) (hT : Fine T) : Fine (queryP E T) := .of fun st r => by
  have h1 : Goes st (expP w_tmatch (keyP (tokP 0 (expP w_tquery st)) (offS st)).2) := (((Goes.exp _ _).trans (.tok _ _)).trans (goes_key _ _)).trans (.exp _ _)
  have h2 := (Goes.read hT r h1).trans (.exp w_treturn _)
  exact (h2.trans (goes_list hE (h2.rng r))).trans (.exp _ _)
end Go.Proofs.YtabkeeedkhgodaaGreatDoor
