/-
  The plain law, continued: expressions, patterns, whole texts. No program in sight. No condition.
-/
import Derived.Test.YtpgmglacdcfnaaaGreatDoorP12
namespace Go.Proofs.YtpgmglacdcfnaaaGreatDoor
open Go Go.Aw
set_option linter.unusedVariables false
set_option linter.unusedSimpArgs false

theorem totR_same {st : PS} (hg : Gd st) (r : Rng st) (k : Int) (hk : k ≠ 1) :
    V ((⟨16, (insP (adv st)).1.1, (insP (adv st)).1.2, k, [(constP (expP w_comma (insP (adv st)).2)).1], offS st⟩ : Syn), expP w_rpar (constP (expP w_comma (insP (adv st)).2)).2) (totR k st) := by
  have hga : Gd (adv st) := hg.goes (.adv _)
  have hg1 : Gd (expR w_lpar (adv st)) := hga.goes (goesR_exp _ _)
  have hg2 : Gd (tokR 0 (expR w_lpar (adv st))) := hg1.goes (goesR_tok _ _)
  have hg3 : Gd (expR w_dot (tokR 0 (expR w_lpar (adv st)))) := hg2.goes (goesR_exp _ _)
  have hg4 : Gd (tokR 0 (expR w_dot (tokR 0 (expR w_lpar (adv st))))) := hg3.goes (goesR_tok _ _)
  have g5 : SkR st (expR w_comma (tokR 0 (expR w_dot (tokR 0 (expR w_lpar (adv st)))))) := (((((SkR.adv _).trans (.exp _ _)).trans (.tok _ _)).trans (.exp _ _)).trans (.tok _ _)).trans (.exp _ _)
  have hg5 := hg.goes g5.1.1
  have e : (k != 1) = true := by simpa using hk
  unfold insP totR
  simp only [exp_eq hga (show (keyS w_lpar || !letterS (bt w_lpar 0)) = true by kernel_rfl), tok_eq', txt_eq, exp_eq hg2 (show (keyS w_dot || !letterS (bt w_dot 0)) = true by kernel_rfl), exp_eq hg4 (show (keyS w_comma || !letterS (bt w_comma 0)) = true by kernel_rfl), e, ↓reduceIte]
  have hv := sim_const _ hg5 (g5.1.1.rng r) (g5.1.1.rng r).1
  refine hv.next (fun e hb => ?_) (Stk.exp _ _).2 (SkR.exp _ _).2
  refine .same ?_
  rw [← e, exp_eq (hg5.goes (goes_const _)) (by kernel_rfl)]
theorem totR_sum {st : PS} (hg : Gd st) : ((⟨16, (insP (adv st)).1.1, (insP (adv st)).1.2, 1, [], offS st⟩ : Syn), expP w_rpar (insP (adv st)).2) = totR 1 st := by
  have hga : Gd (adv st) := hg.goes (.adv _)
  have hg1 : Gd (expR w_lpar (adv st)) := hga.goes (goesR_exp _ _)
  have hg2 : Gd (tokR 0 (expR w_lpar (adv st))) := hg1.goes (goesR_tok _ _)
  have hg3 : Gd (expR w_dot (tokR 0 (expR w_lpar (adv st)))) := hg2.goes (goesR_exp _ _)
  have hg4 : Gd (tokR 0 (expR w_dot (tokR 0 (expR w_lpar (adv st))))) := hg3.goes (goesR_tok _ _)
  unfold insP totR
  simp only [exp_eq hga (show (keyS w_lpar || !letterS (bt w_lpar 0)) = true by kernel_rfl), tok_eq', txt_eq, exp_eq hg2 (show (keyS w_dot || !letterS (bt w_dot 0)) = true by kernel_rfl), exp_eq hg4 (show (keyS w_rpar || !letterS (bt w_rpar 0)) = true by kernel_rfl)]
  rfl
theorem deep_st {st : PS} (hb : st.bad = 0) (hd : ¬ 64 ≤ st.depth) : openR st = deep st := by unfold openR; rw [if_neg (by simpa using hd)]
theorem deep_bad {st : PS} (hd : 64 ≤ st.depth) (hb : st.bad = 0) : (openR st).bad = 12 ∧ (openR st).whr = offS st ∧ nestF st = failP 12 st ∧ (failP 12 st).bad = 12 ∧ (failP 12 st).whr = offS st := by
  have e : failP 12 st = { st with bad := 12, whr := offS st } := by unfold failP; rw [if_pos (by simpa using hb)]
  refine ⟨?_, ?_, ?_, ?_, ?_⟩
  · unfold openR; rw [if_pos (decide_eq_true hd), e]; rfl
  · unfold openR; rw [if_pos (decide_eq_true hd), e]; rfl
  · unfold nestF; rw [if_pos (decide_eq_true hd)]
  · rw [e]
  · rw [e]
/-- Both go one level deeper. -/
theorem sim_nest {D : Int} {st : PS} (r : Rng st) (hd : D ≤ st.depth) (hb : st.bad = 0) {read : Syn → PS → Syn × PS} {z : Syn} {q : Syn × PS}
    (h : st.depth < 64 → V (read z (adv (deep st))) q) (hq : B (openR st) q.2) : V (nestP read z st) (q.1, shallow q.2) := by
  by_cases h64 : 64 ≤ st.depth
  · obtain ⟨a1, a2, a3, a4, a5⟩ := deep_bad h64 hb
    rw [nestP_eq', a3, if_pos (by rw [a4]; decide)]
    obtain ⟨b1, b2⟩ := hq (by rw [a1]; decide)
    exact .inr ⟨by rw [a4]; decide, by rw [a4]; exact b1.trans a1, by rw [a5]; exact b2.trans a2⟩
  · have e : nestF st = st := by unfold nestF; rw [if_neg (by simpa using h64)]
    rw [nestP_eq', e, if_neg (by simpa using hb)]
    exact (h (by omega)).next (fun e hb => .same (by rw [e])) (fun h => ⟨rfl, rfl⟩) (fun h => ⟨rfl, rfl⟩)
theorem isR_deep (w : Str) (st : PS) : isR w (deep st) = isR w st := rfl
theorem deep_rng {st : PS} (r : Rng st) (h : st.depth < 64) : Rng (deep st) ∧ (deep st).depth = st.depth + 1 := by
  have e1 : (deep st).depth = st.depth + 1 := wrap_id (by have := r.1; omega) (by omega)
  exact ⟨⟨by rw [e1]; have := r.1; omega, by rw [e1]; omega⟩, e1⟩
theorem tot_find (st : PS) (hg : Gd st) : totL.find? (fun s => isP s.1 st) = if isR w_tmin st then some (w_tmin, 2) else if isR w_tmax st then some (w_tmax, 3) else if isR w_tfirst st then some (w_tfirst, 4) else if isR w_tlast st then some (w_tlast, 5) else none := by
  unfold totL
  simp only [List.find?_cons, List.find?_nil]
  rw [isP_eq hg (by kernel_rfl), isP_eq hg (by kernel_rfl), isP_eq hg (by kernel_rfl), isP_eq hg (by kernel_rfl)]
  cases isR w_tmin st <;> cases isR w_tmax st <;> cases isR w_tfirst st <;> cases isR w_tlast st <;> rfl
theorem sim_unit {D : Int} (hD : 0 ≤ D) {E G : PS → Syn × PS} (hE : Sim (D + 1) E G) (sE : Stuck E) (sG : StuckR G) : Sim D (unitP E) (unitR G) := fun st hg r hd => by
  unfold unitP unitR
  rw [isP_eq hg (by kernel_rfl), tot_find st hg]
  cases h1 : isR w_lpar st with
  | true =>
    simp only [↓reduceIte]
    have hb := isR_good h1
    have k0 : SkR (openR st) (expR w_rpar (G (expR w_lpar (openR st))).2) := by
      have := sG.read (rng_open' hb r.toR) (SkR.exp w_lpar (openR st))
      exact this.trans (.exp _ _)
    refine sim_nest (q := ((G (expR w_lpar (openR st))).1, expR w_rpar (G (expR w_lpar (openR st))).2)) r hd hb (fun h64 => ?_) k0.2
    obtain ⟨rd, ed⟩ := deep_rng r h64
    have e1 : expR w_lpar (openR st) = adv (deep st) := by
      rw [deep_st hb (by omega)]; unfold expR; rw [isR_deep, h1]; rfl
    rw [e1]
    have hv := hE (adv (deep st)) hg rd (by show D + 1 ≤ (deep st).depth; omega)
    have k1 := sE.goes (a := adv (deep st)) rd
    refine hv.next (fun e hb => ?_) (Stk.exp _ _).2 (SkR.exp _ _).2
    refine .same ?_
    rw [← e, exp_eq (Gd.goes (a := adv (deep st)) hg k1.1) (by kernel_rfl)]
  | false =>
    simp only [Bool.false_eq_true, ↓reduceIte]
    rw [isP_eq hg (by kernel_rfl), isP_eq hg (by kernel_rfl), nxt_eq]
    cases h2 : isR w_tcount st with
    | true =>
      have hga : Gd (adv st) := hg.goes (.adv _)
      have hg1 : Gd (expR w_lpar (adv st)) := hga.goes (goesR_exp _ _)
      have hg2 : Gd (tokR 0 (expR w_lpar (adv st))) := hg1.goes (goesR_tok _ _)
      rw [isR_one h2 (v := w_tmin) (by decide), isR_one h2 (v := w_tmax) (by decide), isR_one h2 (v := w_tfirst) (by decide), isR_one h2 (v := w_tlast) (by decide), isR_one h2 (v := w_tsum) (by decide)]
      simp only [Bool.false_eq_true, ↓reduceIte, tok_eq', txt_eq]
      rw [exp_eq hga (by kernel_rfl), exp_eq hg2 (by kernel_rfl)]
      exact .same rfl
    | false =>
      simp only [Bool.false_eq_true, ↓reduceIte]
      unfold aggR
      cases h3 : isR w_tsum st with
      | true =>
        rw [isR_one h3 (v := w_tmin) (by decide), isR_one h3 (v := w_tmax) (by decide), isR_one h3 (v := w_tfirst) (by decide), isR_one h3 (v := w_tlast) (by decide)]
        simp only [Bool.false_eq_true, ↓reduceIte]
        exact .same (totR_sum hg)
      | false =>
        simp only [Bool.false_eq_true, ↓reduceIte]
        cases h4 : isR w_tmin st with
        | true => exact totR_same hg r 2 (by decide)
        | false =>
          simp only [Bool.false_eq_true, ↓reduceIte]
          cases h5 : isR w_tmax st with
          | true => exact totR_same hg r 3 (by decide)
          | false =>
            simp only [Bool.false_eq_true, ↓reduceIte]
            cases h6 : isR w_tfirst st with
            | true => exact totR_same hg r 4 (by decide)
            | false =>
              simp only [Bool.false_eq_true, ↓reduceIte]
              cases h7 : isR w_tlast st with
              | true => exact totR_same hg r 5 (by decide)
              | false =>
                simp only [Bool.false_eq_true, ↓reduceIte, bne_self_eq_false]
                cases h8 : nxtR 0 st with
                | false =>
                  simp only [Bool.false_eq_true, ↓reduceIte, Bool.not_false]
                  exact sim_const st hg r r.1
                | true =>
                  simp only [Bool.not_true, Bool.false_eq_true, ↓reduceIte, tok_eq', txt_eq]
                  have hg1 : Gd (tokR 0 st) := hg.goes (goesR_tok _ _)
                  have hg2 : Gd (expR w_dot (tokR 0 st)) := hg1.goes (goesR_exp _ _)
                  rw [exp_eq hg1 (by kernel_rfl), isP_eq hg2 (by kernel_rfl)]
                  exact .same rfl
theorem sum_find (st : PS) (hg : Gd st) : sumL.find? (fun s => isP s.1 st) = if isR w_add st then some (w_add, 5) else if isR w_sub st then some (w_sub, 6) else none := by
  unfold sumL
  simp only [List.find?_cons, List.find?_nil]
  rw [isP_eq hg (by kernel_rfl), isP_eq hg (by kernel_rfl)]
  cases isR w_add st <;> cases isR w_sub st <;> rfl
theorem sim_sumGo {D : Int} {F G : PS → Syn × PS} (hS : Sim D F G) (hF : Stuck F) (hG : StuckR G) : ∀ (n : Nat) (st : PS) (out : Syn), Gd st → Rng st → D ≤ st.depth → V (chainGo F sumL n st out) (sumGoR G n st out)
  | 0, st, out, _, _, _ => .same rfl
  | n + 1, st, out, hg, r, hd => by
    unfold chainGo sumGoR
    rw [sum_find st hg]
    have ga := Stk.adv st
    have ra : Rng (adv st) := ga.rng r
    have hv := hS (adv st) (hg.goes ga.1) ra hd
    have k1 := hF.goes ra
    have k2 := hG (adv st) ra.toR
    have go : ∀ op : Int, V (chainGo F sumL n (F (adv st)).2 (binS op out (F (adv st)).1 out.pos)) (sumGoR G n (G (adv st)).2 (binS op out (G (adv st)).1 out.pos)) := fun op => by
      refine hv.next (fun e hb => ?_) (skp_chainGo hF n _ _ (k1.rng ra)).2 (skR_sumGo hG n _ _ (k2.rng ra.toR)).2
      rw [← e]
      exact sim_sumGo hS hF hG n _ _ ((hg.goes ga.1).goes k1.1) (k1.rng ra) (by rw [k1.1.2.2]; exact hd)
    cases h1 : isR w_add st with
    | true =>
      rw [isR_one h1 (v := w_sub) (by decide)]
      simp only [↓reduceIte, Bool.true_or, Bool.false_eq_true]
      exact go 5
    | false =>
      cases h2 : isR w_sub st with
      | true =>
        simp only [↓reduceIte, Bool.or_true, Bool.false_eq_true]
        exact go 6
      | false => exact .same rfl
theorem sim_sum {D : Int} (hD : 0 ≤ D) {E G : PS → Syn × PS} (hE : Sim (D + 1) E G) (sE : Stuck E) (sG : StuckR G) : Sim D (sumP E) (sumR G) := fun st hg r hd => by
  have hv := sim_unit hD hE sE sG st hg r hd
  have k1 := (stuck_unit sE).goes r
  have k2 := stuckR_unit sG st r.toR
  refine hv.next (fun e hb => ?_) (skp_chainGo (stuck_unit sE) _ _ _ (k1.rng r)).2 (skR_sumGo (stuckR_unit sG) _ _ _ (k2.rng r.toR)).2
  show V (chainP (unitP E) sumL st) (sumGoR (unitR G) (fuel (unitR G st).2) (unitR G st).2 (unitR G st).1)
  rw [← e]
  exact sim_sumGo (sim_unit hD hE sE sG) (stuck_unit sE) (stuckR_unit sG) _ _ _ (hg.goes k1.1) (k1.rng r) (by rw [k1.1.2.2]; exact hd)
theorem sim_chainGo {D : Int} {w : Str} {op : Int} (hw : (keyS w || !letterS (bt w 0)) = true) {F G : PS → Syn × PS} (hS : Sim D F G) (hF : Stuck F) (hG : StuckR G) : ∀ (n : Nat) (st : PS) (out : Syn), Gd st → Rng st → D ≤ st.depth → V (chainGo F [(w, op)] n st out) (chainGoR w op G n st out)
  | 0, st, out, _, _, _ => .same rfl
  | n + 1, st, out, hg, r, hd => by
    unfold chainGo chainGoR
    simp only [List.find?_cons, List.find?_nil]
    rw [isP_eq hg hw]
    cases h1 : isR w st with
    | false => exact .same rfl
    | true =>
      simp only [↓reduceIte]
      have ga := Stk.adv st
      have ra : Rng (adv st) := ga.rng r
      have hv := hS (adv st) (hg.goes ga.1) ra hd
      have k1 := hF.goes ra
      have k2 := hG (adv st) ra.toR
      refine hv.next (fun e hb => ?_) (skp_chainGo hF n _ _ (k1.rng ra)).2 (skR_chainGo hG n _ _ (k2.rng ra.toR)).2
      rw [← e]
      exact sim_chainGo hw hS hF hG n _ _ ((hg.goes ga.1).goes k1.1) (k1.rng ra) (by rw [k1.1.2.2]; exact hd)
theorem sim_chain {D : Int} {w : Str} {op : Int} (hw : (keyS w || !letterS (bt w 0)) = true) {F G : PS → Syn × PS} (hS : Sim D F G) (hF : Stuck F) (hG : StuckR G) : Sim D (chainP F [(w, op)]) (fun st => chainGoR w op G (fuel (G st).2) (G st).2 (G st).1) := fun st hg r hd => by
  have hv := hS st hg r hd
  have k1 := hF.goes r
  have k2 := hG st r.toR
  refine hv.next (fun e hb => ?_) (skp_chainGo hF _ _ _ (k1.rng r)).2 (skR_chainGo hG _ _ _ (k2.rng r.toR)).2
  show V (chainP F [(w, op)] st) (chainGoR w op G (fuel (G st).2) (G st).2 (G st).1)
  rw [← e]
  exact sim_chainGo hw hS hF hG _ _ _ (hg.goes k1.1) (k1.rng r) (by rw [k1.1.2.2]; exact hd)
theorem sim_cmp {D : Int} (hD : 0 ≤ D) {E G : PS → Syn × PS} (hE : Sim (D + 1) E G) (sE : Stuck E) (sG : StuckR G) : Sim D (cmpP E) (cmpR G) := fun st hg r hd => by
  have hs := sim_sum hD hE sE sG
  have hv := hs st hg r hd
  have fE := stuck_sum sE
  have fG := stuckR_sum sG
  have k1 := fE.goes r
  have k2 := fG st r.toR
  have B1 : B (sumP E st).2 (cmpP E st).2 := by
    intro hb
    unfold cmpP
    simp only
    rw [isP_bad hb, isP_bad hb, isP_bad hb, isP_bad hb, isP_bad hb, isP_bad hb]
    exact ⟨rfl, rfl⟩
  have B2 : B (sumR G st).2 (cmpR G st).2 := by
    intro hb
    unfold cmpR
    simp only
    rw [isR_bad hb, isR_bad hb, isR_bad hb, isR_bad hb, isR_bad hb, isR_bad hb]
    exact ⟨rfl, rfl⟩
  refine hv.next (fun e hb => ?_) B1 B2
  have hgs : Gd (sumP E st).2 := hg.goes k1.1
  have rs := k1.rng r
  have hds : D ≤ (sumP E st).2.depth := by rw [k1.1.2.2]; exact hd
  have hv2 := hs (adv (sumP E st).2) hgs rs hds
  have bin : ∀ f : Syn → Syn, V (f (sumP E (adv (sumP E st).2)).1, (sumP E (adv (sumP E st).2)).2) (f (sumR G (adv (sumP E st).2)).1, (sumR G (adv (sumP E st).2)).2) := fun f =>
    hv2.next (fun e hb => .same (by rw [e])) (fun h => ⟨rfl, rfl⟩) (fun h => ⟨rfl, rfl⟩)
  unfold cmpP cmpR
  simp only
  rw [← e, isP_eq hgs (by kernel_rfl), isP_eq hgs (by kernel_rfl), isP_eq hgs (by kernel_rfl), isP_eq hgs (by kernel_rfl), isP_eq hgs (by kernel_rfl), isP_eq hgs (by kernel_rfl)]
  split
  · exact bin fun b => binS 7 _ b _
  · split
    · exact bin fun b => binS 8 _ b _
    · split
      · exact bin fun b => binS 7 b _ _
      · split
        · exact bin fun b => binS 8 b _ _
        · split
          · exact bin fun b => binS 9 _ b _
          · split
            · exact bin fun b => ⟨18, [], [], 0, [binS 9 _ b _], _⟩
            · exact .same rfl
theorem sim_not {D : Int} (hD : 0 ≤ D) {E N G M : PS → Syn × PS} (hE : Sim (D + 1) E G) (sE : Stuck E) (sG : StuckR G) (hN : Sim (D + 1) N M) (sN : Stuck N) (sM : StuckR M) : Sim D (notP E N) (notR G M) := fun st hg r hd => by
  unfold notP notR
  rw [isP_eq hg (by kernel_rfl)]
  cases h1 : isR w_tnot st with
  | false => exact sim_cmp hD hE sE sG st hg r hd
  | true =>
    simp only [Bool.not_true, Bool.false_eq_true, ↓reduceIte]
    have hb := isR_good h1
    have k0 := sM.read (rng_open' hb r.toR) (SkR.exp w_tnot (openR st))
    refine sim_nest (q := (⟨18, [], [], 0, [(M (expR w_tnot (openR st))).1], offS st⟩, (M (expR w_tnot (openR st))).2)) r hd hb (fun h64 => ?_) k0.2
    obtain ⟨rd, ed⟩ := deep_rng r h64
    have e1 : expR w_tnot (openR st) = adv (deep st) := by
      rw [deep_st hb (by omega)]; unfold expR; rw [isR_deep, h1]; rfl
    rw [e1]
    have hv := hN (adv (deep st)) hg rd (by show D + 1 ≤ (deep st).depth; omega)
    exact hv.next (fun e hb => .same (by rw [e])) (fun h => ⟨rfl, rfl⟩) (fun h => ⟨rfl, rfl⟩)
theorem sim_or {D : Int} (hD : 0 ≤ D) {E N G M : PS → Syn × PS} (hE : Sim (D + 1) E G) (sE : Stuck E) (sG : StuckR G) (hN : Sim (D + 1) N M) (sN : Stuck N) (sM : StuckR M) : Sim D (orP E N) (orR G M) :=
  sim_chain (by kernel_rfl) (sim_chain (by kernel_rfl) (sim_not hD hE sE sG hN sN sM) (stuck_not sE sN) (stuckR_not sG sM)) (stuck_chain (stuck_not sE sN) andL) (stuckR_and sG sM)
theorem sim_void {F G : PS → Syn × PS} : Sim (64 + 1) F G := fun st _ r hd => by have := r.2; omega
theorem sim_neg : ∀ n : Nat, n ≤ 64 → Sim (64 - (n : Int)) (negN n).1 (negNR (n + 1)).1 ∧ Sim (64 - (n : Int)) (negN n).2 (negNR (n + 1)).2
  | 0, _ => ⟨sim_not (by decide) sim_void stuck_dull (stuckR_neg 0).2 sim_void stuck_dull (stuckR_neg 0).1, sim_or (by decide) sim_void stuck_dull (stuckR_neg 0).2 sim_void stuck_dull (stuckR_neg 0).1⟩
  | n + 1, hn => by
    have ih := sim_neg n (by omega)
    have e : 64 - ((n + 1 : Nat) : Int) + 1 = 64 - (n : Int) := by omega
    have h1 : Sim (64 - ((n + 1 : Nat) : Int) + 1) (negN n).1 (negNR (n + 1)).1 := by rw [e]; exact ih.1
    have h2 : Sim (64 - ((n + 1 : Nat) : Int) + 1) (negN n).2 (negNR (n + 1)).2 := by rw [e]; exact ih.2
    exact ⟨sim_not (by omega) h2 (stuck_neg n).2 (stuckR_neg (n + 1)).2 h1 (stuck_neg n).1 (stuckR_neg (n + 1)).1, sim_or (by omega) h2 (stuck_neg n).2 (stuckR_neg (n + 1)).2 h1 (stuck_neg n).1 (stuckR_neg (n + 1)).1⟩
theorem sim_EE : Sim 0 EE EER := (sim_neg 64 (Nat.le_refl _)).2
theorem stuck_EE : Stuck EE := (stuck_neg 64).2
theorem stuck_EER : StuckR EER := (stuckR_neg 65).2
end Go.Proofs.YtpgmglacdcfnaaaGreatDoor
