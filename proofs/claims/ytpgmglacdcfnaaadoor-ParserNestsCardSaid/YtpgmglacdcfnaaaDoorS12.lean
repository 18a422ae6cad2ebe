/-
  An error stays: what the readers leave of a bad state. No program in sight. No condition. (Printed by mks.py out of F12.lean.)
-/
import Derived.Test.YtpgmglacdcfnaaaDoorF12
namespace Go.Proofs.YtpgmglacdcfnaaaDoor
open Go Go.Aw
set_option linter.unusedVariables false
set_option linter.unusedSimpArgs false

def Stk (a b : PS) : Prop := Goes a b ∧ (a.bad ≠ 0 → b.bad = a.bad ∧ b.whr = a.whr)
def Stuck (F : PS → Syn × PS) : Prop := ∀ st, 0 ≤ st.depth → st.depth ≤ 64 → Stk st (F st).2
theorem Stk.refl (a : PS) : Stk a a := ⟨.refl _, fun _ => ⟨rfl, rfl⟩⟩
theorem Stk.trans {a b c : PS} (h : Stk a b) (k : Stk b c) : Stk a c := ⟨h.1.trans k.1, fun e => by
  obtain ⟨h1, h2⟩ := h.2 e
  obtain ⟨k1, k2⟩ := k.2 (by rw [h1]; exact e)
  exact ⟨k1.trans h1, k2.trans h2⟩⟩
theorem Stk.adv (a : PS) : Stk a (adv a) := ⟨.adv _, fun _ => ⟨rfl, rfl⟩⟩
theorem fail_stay {e : Int} {a : PS} (h : a.bad ≠ 0) : failP e a = a := by
  unfold failP
  have : (a.bad == 0) = false := by simpa using h
  rw [this]; rfl
theorem isP_bad {w : Str} {a : PS} (h : a.bad ≠ 0) : isP w a = false := by
  unfold isP endP
  have : (a.bad != 0) = true := by simpa using h
  rw [this]; rfl
theorem nxtP_bad {k : Int} {a : PS} (h : a.bad ≠ 0) : nxtP k a = false := by
  unfold nxtP endP
  have : (a.bad != 0) = true := by simpa using h
  rw [this]; rfl
theorem exp_stay {w : Str} {a : PS} (h : a.bad ≠ 0) : expP w a = a := by
  unfold expP
  have : (a.bad == 0) = false := by simpa using h
  rw [this, acc_no (isP_bad h)]; rfl
theorem tok_stay {k : Int} {a : PS} (h : a.bad ≠ 0) : tokP k a = a := by
  unfold tokP
  rw [nxtP_bad h]; exact fail_stay h
theorem Stk.fail (e : Int) (a : PS) : Stk a (failP e a) := ⟨.fail _ _, fun h => by rw [fail_stay h]; exact ⟨rfl, rfl⟩⟩
theorem Stk.exp (w : Str) (a : PS) : Stk a (expP w a) := ⟨.exp _ _, fun h => by rw [exp_stay h]; exact ⟨rfl, rfl⟩⟩
theorem Stk.tok (k : Int) (a : PS) : Stk a (tokP k a) := ⟨.tok _ _, fun h => by rw [tok_stay h]; exact ⟨rfl, rfl⟩⟩
theorem Stk.rng {a b : PS} (h : Stk a b) (r : Rng a) : Rng b := h.1.rng r
theorem nestP_eq' (read : Syn → PS → Syn × PS) (z : Syn) (st : PS) : nestP read z st = if ((nestF st).bad != 0) then (z, nestF st) else ((read z (adv (deep st))).1, shallow (read z (adv (deep st))).2) := rfl
theorem Stuck.goes {F : PS → Syn × PS} (h : Stuck F) {a : PS} (r : Rng a) : Stk a (F a).2 := h a r.1 r.2
/-- A reader behind a step. -/
theorem Stk.read {F : PS → Syn × PS} (h : Stuck F) {a b : PS} (r : Rng a) (k : Stk a b) : Stk a (F b).2 := k.trans (h.goes (k.rng r))
theorem Stuck.of {F : PS → Syn × PS} (h : ∀ st, Rng st → Stk st (F st).2) : Stuck F := fun st h0 h1 => h st ⟨h0, h1⟩

theorem stuck_field : Stuck fieldP := .of fun st r => by
  have h : Stk st (expP w_colon (tokP 0 st)) := (Stk.tok _ _).trans (.exp _ _)
  unfold fieldP
  split
  · exact h.trans (.adv _)
  · split
    · exact h.trans (.adv _)
    · split
      · exact h.trans (.adv _)
      · exact h.trans (.fail _ _)
theorem skp_listGo {F : PS → Syn × PS} (hF : Stuck F) : ∀ (n : Nat) (st : PS) (out : List Syn), Rng st → Stk st (listGo F n st out).2
  | 0, st, out, r => .refl _
  | n + 1, st, out, r => by
    unfold listGo
    split
    · have h := Stk.read hF r (.adv st)
      exact h.trans (skp_listGo hF n _ _ (h.rng r))
    · exact .refl _
theorem skp_list {F : PS → Syn × PS} (hF : Stuck F) {st : PS} (r : Rng st) : Stk st (listP F st).2 := by
  have h := hF.goes r
  exact h.trans (skp_listGo hF _ _ _ (h.rng r))
theorem stuck_kind : Stuck kindP := .of fun st r => by
  have h : Stk st (expP w_lbrace (tokP 0 (expP w_ttype st))) := ((Stk.exp _ _).trans (.tok _ _)).trans (.exp _ _)
  unfold kindP
  simp only
  split
  · exact (h.trans (skp_list stuck_field (h.rng r))).trans (.exp _ _)
  · exact h.trans (.exp _ _)
theorem skp_const (st : PS) : Stk st (constP st).2 := by
  unfold constP
  split
  · exact (Stk.adv _).trans (.tok _ _)
  · split
    · exact .tok _ _
    · split
      · exact .adv _
      · split
        · exact .adv _
        · exact .tok _ _
theorem stuck_const : Stuck constP := .of fun st _ => skp_const st
theorem skp_ins (st : PS) : Stk st (insP st).2 := ((((Stk.exp _ _).trans (.tok _ _)).trans (.exp _ _)).trans (.tok _ _))
theorem skp_nest {read : Syn → PS → Syn × PS} {z : Syn} {st : PS} (r : Rng st) (h : ∀ s : PS, Rng s → Stk s (read z s).2) : Stk st (nestP read z st).2 := by
  refine ⟨Go.Proofs.YtpgmglacdcfnaaaDoor.goes_nest r (fun s r => (h s r).1), fun e => ?_⟩
  have : nestP read z st = (z, nestF st) := by
    rw [nestP_eq', if_pos]
    have : nestF st = st := by unfold nestF; split; exact fail_stay e; rfl
    rw [this]; simpa using e
  rw [this]
  have : nestF st = st := by unfold nestF; split; exact fail_stay e; rfl
  exact ⟨by rw [this], by rw [this]⟩
theorem stuck_unit {E : PS → Syn × PS} (hE : Stuck E) : Stuck (unitP E) := .of fun st r => by
  unfold unitP
  split
  · exact skp_nest r fun s r => (hE.goes r).trans (.exp _ _)
  · split
    · simp only
      have h := ((Stk.adv st).trans (skp_ins _)).trans (.exp w_comma _)
      exact (h.trans (stuck_const.goes (h.rng r))).trans (.exp _ _)
    · split
      · exact ((Stk.adv st).trans (skp_ins _)).trans (.exp _ _)
      · split
        · exact (((Stk.adv st).trans (.exp _ _)).trans (.tok _ _)).trans (.exp _ _)
        · split
          · simp only
            split
            · exact ((Stk.tok _ _).trans (.exp _ _)).trans (.adv _)
            · exact ((Stk.tok _ _).trans (.exp _ _)).trans (.tok _ _)
          · exact stuck_const.goes r
theorem skp_chainGo {F : PS → Syn × PS} (hF : Stuck F) {sg : List (Str × Int)} : ∀ (n : Nat) (st : PS) (out : Syn), Rng st → Stk st (chainGo F sg n st out).2
  | 0, st, out, r => .refl _
  | n + 1, st, out, r => by
    unfold chainGo
    split
    · have h := Stk.read hF r (.adv st)
      exact h.trans (skp_chainGo hF n _ _ (h.rng r))
    · exact .refl _
theorem stuck_chain {F : PS → Syn × PS} (hF : Stuck F) (sg : List (Str × Int)) : Stuck (chainP F sg) := .of fun st r => by
  have h := hF.goes r
  exact h.trans (skp_chainGo hF _ _ _ (h.rng r))
theorem stuck_sum {E : PS → Syn × PS} (hE : Stuck E) : Stuck (sumP E) := stuck_chain (stuck_unit hE) sumL
theorem stuck_cmp {E : PS → Syn × PS} (hE : Stuck E) : Stuck (cmpP E) := .of fun st r => by
  have h := (stuck_sum hE).goes r
  have h2 := (h.trans (.adv _)).trans ((stuck_sum hE).goes ((h.trans (.adv _)).rng r))
  unfold cmpP
  simp only
  repeat' split
  all_goals first | exact h2 | exact h
theorem stuck_not {E N : PS → Syn × PS} (hE : Stuck E) (hN : Stuck N) : Stuck (notP E N) := .of fun st r => by
  unfold notP
  split
  · exact (stuck_cmp hE).goes r
  · exact skp_nest r fun s r => hN.goes r
theorem stuck_or {E N : PS → Syn × PS} (hE : Stuck E) (hN : Stuck N) : Stuck (orP E N) := stuck_chain (stuck_chain (stuck_not hE hN) andL) orL
theorem stuck_dull : Stuck dullP := .of fun st _ => .refl _
theorem stuck_neg : ∀ n, Stuck (negN n).1 ∧ Stuck (negN n).2
  | 0 => ⟨stuck_not stuck_dull stuck_dull, stuck_or stuck_dull stuck_dull⟩
  | n + 1 => ⟨stuck_not (stuck_neg n).2 (stuck_neg n).1, stuck_or (stuck_neg n).2 (stuck_neg n).1⟩
theorem stuck_event {E : PS → Syn × PS} (hE : Stuck E) : Stuck (eventP E) := .of fun st r => by
  have h : Stk st (tokP 0 (tokP 0 st)) := (Stk.tok _ _).trans (.tok _ _)
  unfold eventP
  simp only
  split
  · exact Stk.read hE r (h.trans (.adv _))
  · exact h
theorem skp_sev {T : PS → Syn × PS} (hT : Stuck T) (z : Syn) {st : PS} (r : Rng st) : Stk st (sevP T z st).2 := by
  have h := Stk.read hT r (.exp w_comma st)
  exact h.trans (skp_listGo hT _ _ _ (h.rng r))
theorem skp_rest {E T : PS → Syn × PS} (hE : Stuck E) (hT : Stuck T) (k : Int) (z : Syn) {st : PS} (r : Rng st) : Stk st (restP E T k z st).2 := by
  unfold restP
  split
  · exact skp_sev hT z r
  · split
    · exact .refl _
    · split
      · exact Stk.read (stuck_event hE) r (.exp _ _)
      · split
        · exact (Stk.exp _ _).trans (.tok _ _)
        · exact Stk.read hE r (.exp _ _)
theorem stuck_pat {E T : PS → Syn × PS} (hE : Stuck E) (hT : Stuck T) : Stuck (patP E T) := .of fun st r => by
  unfold patP
  split
  · refine skp_nest r fun s r => ?_
    have h := Stk.read hT r (.exp w_lpar s)
    exact (h.trans (skp_rest hE hT _ _ (h.rng r))).trans (.exp _ _)
  · exact (stuck_event hE).goes r
theorem stuck_patN {E : PS → Syn × PS} (hE : Stuck E) : ∀ n, Stuck (patN E n)
  | 0 => stuck_pat hE stuck_dull
  | n + 1 => stuck_pat hE (stuck_patN hE n)
theorem skp_key (st : PS) (k : Int) : Stk st (keyP st k).2 := by
  unfold keyP
  split
  · exact (Stk.adv _).trans (.tok _ _)
  · exact .refl _
theorem stuck_query {E T : PS → Syn × PS} (hE : Stuck E) (hT : Stuck T) : Stuck (queryP E T) := .of fun st r => by
  have h1 : Stk st (expP w_tmatch (keyP (tokP 0 (expP w_tquery st)) (offS st)).2) := (((Stk.exp _ _).trans (.tok _ _)).trans (skp_key _ _)).trans (.exp _ _)
  have h2 := (Stk.read hT r h1).trans (.exp w_treturn _)
  exact (h2.trans (skp_list hE (h2.rng r))).trans (.exp _ _)
end Go.Proofs.YtpgmglacdcfnaaaDoor
