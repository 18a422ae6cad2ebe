/-
  An error stays: what the reference's readers leave of a bad state. No program in sight. No condition. (Printed by mks.py out of G12.lean.)
-/
import Derived.Test.YtpgmglacdcfnaaaGreatDoorQG12
import Derived.Test.YtpgmglacdcfnaaaGreatDoorQS12
namespace Go.Proofs.YtpgmglacdcfnaaaGreatDoor
open Go Go.Aw
set_option linter.unusedVariables false
set_option linter.unusedSimpArgs false

def SkR (a b : PS) : Prop := GoR a b ∧ (a.bad ≠ 0 → b.bad = a.bad ∧ b.whr = a.whr)
def StuckR (F : PS → Syn × PS) : Prop := ∀ st, RngR st → SkR st (F st).2
theorem SkR.refl (a : PS) : SkR a a := ⟨.refl _, fun _ => ⟨rfl, rfl⟩⟩
theorem SkR.trans {a b c : PS} (h : SkR a b) (k : SkR b c) : SkR a c := ⟨h.1.trans k.1, fun e => by
  obtain ⟨h1, h2⟩ := h.2 e
  obtain ⟨k1, k2⟩ := k.2 (by rw [h1]; exact e)
  exact ⟨k1.trans h1, k2.trans h2⟩⟩
theorem SkR.adv (a : PS) : SkR a (adv a) := ⟨.adv _, fun _ => ⟨rfl, rfl⟩⟩
theorem isR_bad {w : Str} {a : PS} (h : a.bad ≠ 0) : isR w a = false := by
  unfold isR endP
  have : (a.bad != 0) = true := by simpa using h
  rw [this]; rfl
theorem nxtR_bad {k : Int} {a : PS} (h : a.bad ≠ 0) : nxtR k a = false := by
  unfold nxtR endP
  have : (a.bad != 0) = true := by simpa using h
  rw [this]; rfl
theorem expR_stay {w : Str} {a : PS} (h : a.bad ≠ 0) : expR w a = a := by unfold expR; rw [isR_bad h]; exact fail_stay h
theorem tokR_stay {k : Int} {a : PS} (h : a.bad ≠ 0) : tokR k a = a := by unfold tokR; rw [nxtR_bad h]; exact fail_stay h
theorem SkR.fail (e : Int) (a : PS) : SkR a (failP e a) := ⟨.fail _ _, fun h => by rw [fail_stay h]; exact ⟨rfl, rfl⟩⟩
theorem SkR.exp (w : Str) (a : PS) : SkR a (expR w a) := ⟨.exp _ _, fun h => by rw [expR_stay h]; exact ⟨rfl, rfl⟩⟩
theorem SkR.tok (k : Int) (a : PS) : SkR a (tokR k a) := ⟨.tok _ _, fun h => by rw [tokR_stay h]; exact ⟨rfl, rfl⟩⟩
theorem SkR.rng {a b : PS} (h : SkR a b) (r : RngR a) : RngR b := h.1.rng r
theorem StuckR.read {F : PS → Syn × PS} (h : StuckR F) {a b : PS} (r : RngR a) (k : SkR a b) : SkR a (F b).2 := k.trans (h _ (k.rng r))
theorem skR_nest {st a : PS} (hb : st.bad = 0) (r : RngR st) (k : SkR (openR st) a) : SkR st (shallow a) := ⟨goR_nest hb r k.1, fun e => absurd hb e⟩
theorem stuckR_field : StuckR fieldR := fun st r => by
  have h : SkR st (expR w_colon (tokR 0 st)) := (SkR.tok _ _).trans (.exp _ _)
  unfold fieldR
  simp only
  split
  · exact h.trans (.adv _)
  · split
    · exact h.trans (.adv _)
    · exact h.trans (.exp _ _)
theorem skR_listGo {F : PS → Syn × PS} (hF : StuckR F) : ∀ (n : Nat) (st : PS) (out : List Syn), RngR st → SkR st (listGoR F n st out).2
  | 0, st, out, r => .refl _
  | n + 1, st, out, r => by
    unfold listGoR
    split
    · have h := hF.read r (.adv st)
      exact h.trans (skR_listGo hF n _ _ (h.rng r))
    · exact .refl _
theorem stuckR_typed : StuckR typedR := fun st r => by
  have h : SkR st (expR w_lbrace (tokR 0 (expR w_ttype st))) := ((SkR.exp _ _).trans (.tok _ _)).trans (.exp _ _)
  unfold typedR
  simp only
  split
  · exact h.trans (.adv _)
  · have h2 := h.trans (stuckR_field _ (h.rng r))
    exact (h2.trans (skR_listGo stuckR_field _ _ _ (h2.rng r))).trans (.exp _ _)
theorem skR_const (st : PS) : SkR st (constR st).2 := by
  unfold constR
  split
  · exact (SkR.adv _).trans (.tok _ _)
  · split
    · exact .adv _
    · split
      · exact .adv _
      · split
        · exact .tok _ _
        · exact .tok _ _
theorem stuckR_const : StuckR constR := fun st _ => skR_const st
theorem skR_tot (k : Int) (st : PS) : SkR st (totR k st).2 := by
  have h : SkR st (tokR 0 (expR w_dot (tokR 0 (expR w_lpar (adv st))))) := ((((SkR.adv _).trans (.exp _ _)).trans (.tok _ _)).trans (.exp _ _)).trans (.tok _ _)
  unfold totR
  simp only
  split
  · exact ((h.trans (.exp _ _)).trans (skR_const _)).trans (.exp _ _)
  · exact h.trans (.exp _ _)
theorem stuckR_unit {E : PS → Syn × PS} (hE : StuckR E) : StuckR (unitR E) := fun st r => by
  unfold unitR
  split
  · rename_i hi
    have hb := isR_good hi
    have h := hE.read (rng_open' hb r) (.exp w_lpar (openR st))
    exact skR_nest hb r (h.trans (.exp _ _))
  · split
    · exact (((SkR.adv st).trans (.exp _ _)).trans (.tok _ _)).trans (.exp _ _)
    · split
      · exact skR_tot _ _
      · split
        · exact skR_const _
        · simp only
          split
          · exact ((SkR.tok _ _).trans (.exp _ _)).trans (.adv _)
          · exact ((SkR.tok _ _).trans (.exp _ _)).trans (.tok _ _)
theorem skR_sumGo {F : PS → Syn × PS} (hF : StuckR F) : ∀ (n : Nat) (st : PS) (out : Syn), RngR st → SkR st (sumGoR F n st out).2
  | 0, st, out, r => .refl _
  | n + 1, st, out, r => by
    unfold sumGoR
    split
    · have h := hF.read r (.adv st)
      exact h.trans (skR_sumGo hF n _ _ (h.rng r))
    · exact .refl _
theorem stuckR_sum {E : PS → Syn × PS} (hE : StuckR E) : StuckR (sumR E) := fun st r => by
  have h := stuckR_unit hE st r
  exact h.trans (skR_sumGo (stuckR_unit hE) _ _ _ (h.rng r))
theorem stuckR_cmp {E : PS → Syn × PS} (hE : StuckR E) : StuckR (cmpR E) := fun st r => by
  have h := stuckR_sum hE st r
  have h2 := (h.trans (.adv _)).trans (stuckR_sum hE _ ((h.trans (.adv _)).rng r))
  unfold cmpR
  simp only
  repeat' split
  all_goals first | exact h2 | exact h
theorem stuckR_not {E N : PS → Syn × PS} (hE : StuckR E) (hN : StuckR N) : StuckR (notR E N) := fun st r => by
  unfold notR
  split
  · exact stuckR_cmp hE st r
  · rename_i hi
    have hi : isR w_tnot st = true := by simpa using hi
    have hb := isR_good hi
    exact skR_nest hb r (hN.read (rng_open' hb r) (.exp w_tnot (openR st)))
theorem skR_chainGo {w : Str} {op : Int} {F : PS → Syn × PS} (hF : StuckR F) : ∀ (n : Nat) (st : PS) (out : Syn), RngR st → SkR st (chainGoR w op F n st out).2
  | 0, st, out, r => .refl _
  | n + 1, st, out, r => by
    unfold chainGoR
    split
    · have h := hF.read r (.adv st)
      exact h.trans (skR_chainGo hF n _ _ (h.rng r))
    · exact .refl _
theorem stuckR_and {E N : PS → Syn × PS} (hE : StuckR E) (hN : StuckR N) : StuckR (andR E N) := fun st r => by
  have h := stuckR_not hE hN st r
  exact h.trans (skR_chainGo (stuckR_not hE hN) _ _ _ (h.rng r))
theorem stuckR_or {E N : PS → Syn × PS} (hE : StuckR E) (hN : StuckR N) : StuckR (orR E N) := fun st r => by
  have h := stuckR_and hE hN st r
  exact h.trans (skR_chainGo (stuckR_and hE hN) _ _ _ (h.rng r))
theorem stuckR_dull : StuckR dullP := fun st _ => .refl _
theorem stuckR_neg : ∀ n, StuckR (negNR n).1 ∧ StuckR (negNR n).2
  | 0 => ⟨stuckR_not stuckR_dull stuckR_dull, stuckR_or stuckR_dull stuckR_dull⟩
  | n + 1 => ⟨stuckR_not (stuckR_neg n).2 (stuckR_neg n).1, stuckR_or (stuckR_neg n).2 (stuckR_neg n).1⟩
theorem stuckR_event {E : PS → Syn × PS} (hE : StuckR E) : StuckR (eventR E) := fun st r => by
  have h : SkR st (tokR 0 (tokR 0 st)) := (SkR.tok _ _).trans (.tok _ _)
  unfold eventR
  simp only
  split
  · exact hE.read r (h.trans (.adv _))
  · exact h
theorem skR_rest {E T : PS → Syn × PS} (hE : StuckR E) (hT : StuckR T) (k : Int) (z : Syn) {st : PS} (r : RngR st) : SkR st (restR E T k z st).2 := by
  unfold restR
  split
  · have h := hT.read r (.exp w_comma st)
    exact h.trans (skR_listGo hT _ _ _ (h.rng r))
  · split
    · exact (stuckR_event hE).read r (.exp _ _)
    · split
      · exact (SkR.exp _ _).trans (.tok _ _)
      · split
        · exact hE.read r (.exp _ _)
        · exact .refl _
theorem stuckR_pat {E T : PS → Syn × PS} (hE : StuckR E) (hT : StuckR T) : StuckR (patR E T) := fun st r => by
  unfold patR
  split
  · exact stuckR_event hE st r
  · rename_i hi
    have hb := oper_good (by simpa using hi)
    have h := hT.read (rng_open' hb r) ((SkR.adv (openR st)).trans (.exp w_lpar _))
    exact skR_nest hb r ((h.trans (skR_rest hE hT _ _ (h.rng (rng_open' hb r)))).trans (.exp _ _))
theorem stuckR_patN {E : PS → Syn × PS} (hE : StuckR E) : ∀ n, StuckR (patNR E n)
  | 0 => stuckR_pat hE stuckR_dull
  | n + 1 => stuckR_pat hE (stuckR_patN hE n)
theorem skR_key (st : PS) (k : Int) : SkR st (keyRR st k).2 := by
  unfold keyRR
  split
  · exact (SkR.adv _).trans (.tok _ _)
  · exact .refl _
theorem stuckR_query {E T : PS → Syn × PS} (hE : StuckR E) (hT : StuckR T) : StuckR (queryR E T) := fun st r => by
  have h1 : SkR st (expR w_tmatch (keyRR (tokR 0 (expR w_tquery st)) (offS st)).2) := (((SkR.exp _ _).trans (.tok _ _)).trans (skR_key _ _)).trans (.exp _ _)
  have h2 := (hT.read r h1).trans (.exp w_treturn _)
  have h3 := hE.read r h2
  exact (h3.trans (skR_listGo hE _ _ _ (h3.rng r))).trans (.exp _ _)
end Go.Proofs.YtpgmglacdcfnaaaGreatDoor
