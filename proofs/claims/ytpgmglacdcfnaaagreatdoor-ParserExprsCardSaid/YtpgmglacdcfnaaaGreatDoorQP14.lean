/-
  The plain law, continued: patterns, queries, programs, whole texts. No program in sight. No condition.
-/
import Derived.Test.YtpgmglacdcfnaaaGreatDoorQP13
import Derived.Test.YtpgmglacdcfnaaaGreatDoorQP8
import Derived.Test.YtpgmglacdcfnaaaGreatDoorQV10
import Derived.Test.YtpgmglacdcfnaaaGreatDoorQU7
namespace Go.Proofs.YtpgmglacdcfnaaaGreatDoor
open Go Go.Aw
set_option linter.unusedVariables false
set_option linter.unusedSimpArgs false

theorem sim_event {E G : PS → Syn × PS} (hE : Sim 0 E G) (sE : Stuck E) (sG : StuckR G) : Sim 0 (eventP E) (eventR G) := fun st hg r hd => by
  have g2 : SkR st (tokR 0 (tokR 0 st)) := (SkR.tok _ _).trans (.tok _ _)
  have hg2 := hg.goes g2.1.1
  have r2 := g2.1.1.rng r
  unfold eventP eventR
  simp only [tok_eq', txt_eq]
  rw [isP_eq hg2 (by kernel_rfl)]
  cases h : isR w_tif (tokR 0 (tokR 0 st)) with
  | false => exact .same rfl
  | true =>
    simp only [↓reduceIte]
    have hv := hE (adv (tokR 0 (tokR 0 st))) hg2 r2 r2.1
    exact hv.next (fun e hb => .same (by rw [e])) (fun h => ⟨rfl, rfl⟩) (fun h => ⟨rfl, rfl⟩)
theorem exp_same {w : Str} {st : PS} (hg : Gd st) (hw : (keyS w || !letterS (bt w 0)) = true) : expP w st = expR w st := exp_eq hg hw
theorem rest_same {D : Int} (hD : 0 ≤ D) {E T G U : PS → Syn × PS} (hE : Sim 0 E G) (sE : Stuck E) (sG : StuckR G) (hT : Sim D T U) (sT : Stuck T) (sU : StuckR U) {k : Int} (hk : 6 ≤ k ∧ k ≤ 12) (z : Syn) {st : PS} (hg : Gd st) (r : Rng st) (hd : D ≤ st.depth) :
    V (restP E T k z st) (restR G U k z st) := by
  have e1 : expP w_comma st = expR w_comma st := exp_eq hg (by kernel_rfl)
  have g1 : SkR st (expR w_comma st) := .exp _ _
  have hg1 := hg.goes g1.1.1
  have r1 := g1.1.1.rng r
  have d1 : D ≤ (expR w_comma st).depth := by rw [g1.1.1.2.2]; exact hd
  unfold restP restR
  by_cases h8 : k ≤ 8
  · have a1 : decide (k ≤ 8) = true := decide_eq_true h8
    have a2 : ((k == 6) || (k == 7) || (k == 8)) = true := by
      have : k = 6 ∨ k = 7 ∨ k = 8 := by omega
      rcases this with rfl | rfl | rfl <;> rfl
    rw [a1, a2]
    simp only [↓reduceIte]
    unfold sevP
    simp only [e1]
    have hv := hT _ hg1 r1 d1
    have k1 := sT.goes r1
    have k2 := sU _ r1.toR
    have hl : V (listGo T (fuel (T (expR w_comma st)).2) (T (expR w_comma st)).2 (z.kids ++ [(T (expR w_comma st)).1])) (listGoR U (fuel (U (expR w_comma st)).2) (U (expR w_comma st)).2 (z.kids ++ [(U (expR w_comma st)).1])) := by
      refine hv.next (fun e hb => ?_) (skp_listGo sT _ _ _ (k1.rng r1)).2 (skR_listGo sU _ _ _ (k2.rng r1.toR)).2
      rw [← e]
      exact sim_list hD hT sT sU _ _ _ (hg1.goes k1.1) (k1.rng r1) (by rw [k1.1.2.2]; exact d1)
    exact hl.next (fun e hb => .same (by rw [e])) (fun h => ⟨rfl, rfl⟩) (fun h => ⟨rfl, rfl⟩)
  · have a1 : decide (k ≤ 8) = false := decide_eq_false h8
    have a2 : ((k == 6) || (k == 7) || (k == 8)) = false := by
      have : k = 9 ∨ k = 10 ∨ k = 11 ∨ k = 12 := by omega
      rcases this with rfl | rfl | rfl | rfl <;> rfl
    rw [a1, a2]
    simp only [Bool.false_eq_true, ↓reduceIte]
    have : k = 9 ∨ k = 10 ∨ k = 11 ∨ k = 12 := by omega
    rcases this with rfl | rfl | rfl | rfl
    · exact .same rfl
    · have hv := sim_event hE sE sG _ hg1 r1 r1.1
      rw [← e1] at hv
      show V ({ z with kids := z.kids ++ [(eventP E (expP w_comma st)).1] }, (eventP E (expP w_comma st)).2) ({ z with kids := z.kids ++ [(eventR G (expR w_comma st)).1] }, (eventR G (expR w_comma st)).2)
      rw [← e1]
      exact hv.next (fun e hb => .same (by rw [e])) (fun h => ⟨rfl, rfl⟩) (fun h => ⟨rfl, rfl⟩)
    · refine .same ?_
      show ({ z with num := numP (expP w_comma st) }, tokP 1 (expP w_comma st)) = ({ z with num := numRR (expR w_comma st) }, tokR 1 (expR w_comma st))
      rw [e1, numRR_eq, tok_eq']
    · have hv := hE _ hg1 r1 r1.1
      rw [← e1] at hv
      show V ({ z with kids := z.kids ++ [(E (expP w_comma st)).1] }, (E (expP w_comma st)).2) ({ z with kids := z.kids ++ [(G (expR w_comma st)).1] }, (G (expR w_comma st)).2)
      rw [← e1]
      exact hv.next (fun e hb => .same (by rw [e])) (fun h => ⟨rfl, rfl⟩) (fun h => ⟨rfl, rfl⟩)
theorem form_find (st : PS) (hg : Gd st) : ((operR st == 5) = true → formL.find? (fun f => isP f.1 st) = none) ∧ ((operR st == 5) = false → ∃ w, formL.find? (fun f => isP f.1 st) = some (w, operR st) ∧ 6 ≤ operR st ∧ operR st ≤ 12) := by
  unfold formL operR
  simp only [List.find?_cons, List.find?_nil]
  rw [isP_eq hg (by kernel_rfl), isP_eq hg (by kernel_rfl), isP_eq hg (by kernel_rfl), isP_eq hg (by kernel_rfl), isP_eq hg (by kernel_rfl), isP_eq hg (by kernel_rfl), isP_eq hg (by kernel_rfl)]
  generalize isR w_seq st = b1
  generalize isR w_alt st = b2
  generalize isR w_all st = b3
  generalize isR w_plus st = b4
  generalize isR w_lacks st = b5
  generalize isR w_within st = b6
  generalize isR w_twhere st = b7
  cases b1 with
  | true => exact ⟨fun h => absurd h (by revert b2 b3 b4 b5 b6 b7; decide), fun _ => ⟨w_seq, rfl, by revert b2 b3 b4 b5 b6 b7; decide, by revert b2 b3 b4 b5 b6 b7; decide⟩⟩
  | false =>
    cases b2 with
    | true => exact ⟨fun h => absurd h (by revert b3 b4 b5 b6 b7; decide), fun _ => ⟨w_alt, rfl, by revert b3 b4 b5 b6 b7; decide, by revert b3 b4 b5 b6 b7; decide⟩⟩
    | false =>
      cases b3 with
      | true => exact ⟨fun h => absurd h (by revert b4 b5 b6 b7; decide), fun _ => ⟨w_all, rfl, by revert b4 b5 b6 b7; decide, by revert b4 b5 b6 b7; decide⟩⟩
      | false =>
        cases b4 with
        | true => exact ⟨fun h => absurd h (by revert b5 b6 b7; decide), fun _ => ⟨w_plus, rfl, by revert b5 b6 b7; decide, by revert b5 b6 b7; decide⟩⟩
        | false =>
          cases b5 with
          | true => exact ⟨fun h => absurd h (by revert b6 b7; decide), fun _ => ⟨w_lacks, rfl, by revert b6 b7; decide, by revert b6 b7; decide⟩⟩
          | false =>
            cases b6 with
            | true => exact ⟨fun h => absurd h (by revert b7; decide), fun _ => ⟨w_within, rfl, by revert b7; decide, by revert b7; decide⟩⟩
            | false =>
              cases b7 with
              | true => exact ⟨fun h => absurd h (by decide), fun _ => ⟨w_twhere, rfl, by decide, by decide⟩⟩
              | false => exact ⟨fun _ => rfl, fun h => absurd h (by decide)⟩
theorem sim_pat {D : Int} (hD : 0 ≤ D) {E T G U : PS → Syn × PS} (hE : Sim 0 E G) (sE : Stuck E) (sG : StuckR G) (hT : Sim (D + 1) T U) (sT : Stuck T) (sU : StuckR U) : Sim D (patP E T) (patR G U) := fun st hg r hd => by
  obtain ⟨f1, f2⟩ := form_find st hg
  cases h : (operR st == 5) with
  | true =>
    have e1 : patP E T st = eventP E st := by unfold patP; rw [f1 h]
    have e2 : patR G U st = eventR G st := by unfold patR; rw [if_pos h]
    rw [e1, e2]
    exact sim_event hE sE sG st hg r r.1
  | false =>
    obtain ⟨w, hf, hk⟩ := f2 h
    have hb := oper_good h
    have e1 : patP E T st = nestP (patRd E T (operR st)) ⟨operR st, [], [], 0, [], offS st⟩ st := by unfold patP; rw [hf]; rfl
    rw [e1, patR_eq h]
    have ro := rng_open' hb r.toR
    have k1 : SkR (openR st) (y1 st) := (SkR.adv _).trans (.exp _ _)
    have k2 := sU.read ro k1
    have k3 := (k2.trans (skR_rest sG sU (operR st) (y3 U st) (k2.rng ro))).trans (.exp w_rpar _)
    refine sim_nest (q := ((restR G U (operR st) (y3 U st) (y2 U st).2).1, expR w_rpar (restR G U (operR st) (y3 U st) (y2 U st).2).2)) r hd hb (fun h64 => ?_) k3.2
    obtain ⟨rd, ed⟩ := deep_rng r h64
    have hga : Gd (adv (deep st)) := hg
    have e2 : y1 st = expP w_lpar (adv (deep st)) := by
      show expR w_lpar (adv (openR st)) = _
      rw [deep_st hb (by omega), exp_eq hga (by kernel_rfl)]
    have g1 : Stk (adv (deep st)) (expP w_lpar (adv (deep st))) := .exp _ _
    have hg1 := hga.goes g1.1
    have r1 : Rng (expP w_lpar (adv (deep st))) := g1.1.rng rd
    have d1 : D + 1 ≤ (expP w_lpar (adv (deep st))).depth := by rw [g1.1.2.2]; show D + 1 ≤ (deep st).depth; omega
    have hv := hT _ hg1 r1 d1
    have t1 := sT.goes r1
    have t2 := sU _ r1.toR
    have hy2 : y2 U st = U (expP w_lpar (adv (deep st))) := by show U (y1 st) = _; rw [e2]
    have hy3 : y3 U st = ⟨operR st, [], [], 0, [(U (expP w_lpar (adv (deep st)))).1], offS st⟩ := by
      show (⟨operR st, [], [], 0, [(y2 U st).1], offS st⟩ : Syn) = _; rw [hy2]
    rw [hy3, hy2]
    have hr : V (restP E T (operR st) ⟨operR st, [], [], 0, [(T (expP w_lpar (adv (deep st)))).1], offS st⟩ (T (expP w_lpar (adv (deep st)))).2) (restR G U (operR st) ⟨operR st, [], [], 0, [(U (expP w_lpar (adv (deep st)))).1], offS st⟩ (U (expP w_lpar (adv (deep st)))).2) := by
      refine hv.next (fun e hb => ?_) (skp_rest sE sT _ _ (t1.rng r1)).2 (skR_rest sG sU _ _ (t2.rng r1.toR)).2
      rw [← e]
      exact rest_same (by omega) hE sE sG hT sT sU hk _ (hg1.goes t1.1) (t1.rng r1) (by rw [t1.1.2.2]; exact d1)
    have t3 := t1.trans (skp_rest sE sT (operR st) ⟨operR st, [], [], 0, [(T (expP w_lpar (adv (deep st)))).1], offS st⟩ (t1.rng r1))
    show V ((restP E T (operR st) ⟨operR st, [], [], 0, [(T (expP w_lpar (adv (deep st)))).1], offS st⟩ (T (expP w_lpar (adv (deep st)))).2).1, expP w_rpar (restP E T (operR st) ⟨operR st, [], [], 0, [(T (expP w_lpar (adv (deep st)))).1], offS st⟩ (T (expP w_lpar (adv (deep st)))).2).2) _
    refine hr.next (fun e hb => ?_) (Stk.exp _ _).2 (SkR.exp _ _).2
    refine .same ?_
    rw [← e, exp_eq (hg1.goes t3.1) (by kernel_rfl)]
theorem sim_patN {E G : PS → Syn × PS} (hE : Sim 0 E G) (sE : Stuck E) (sG : StuckR G) : ∀ n : Nat, n ≤ 64 → Sim (64 - (n : Int)) (patN E n) (patNR G (n + 1))
  | 0, _ => sim_pat (by decide) hE sE sG sim_void stuck_dull (stuckR_patN sG 0)
  | n + 1, hn => by
    have ih := sim_patN hE sE sG n (by omega)
    have e : 64 - ((n + 1 : Nat) : Int) + 1 = 64 - (n : Int) := by omega
    have h1 : Sim (64 - ((n + 1 : Nat) : Int) + 1) (patN E n) (patNR G (n + 1)) := by rw [e]; exact ih
    exact sim_pat (by omega) hE sE sG h1 (stuck_patN sE n) (stuckR_patN sG (n + 1))
theorem sim_TT : Sim 0 TT TTR := sim_patN sim_EE stuck_EE stuck_EER 64 (Nat.le_refl _)
theorem stuck_TT : Stuck TT := stuck_patN stuck_EE 64
theorem stuck_TTR : StuckR TTR := stuckR_patN stuck_EER 65
theorem key_same {st : PS} (hg : Gd st) (k : Int) : keyP st k = keyRR st k := by
  unfold keyP keyRR
  rw [isP_eq hg (by kernel_rfl)]
  simp only [tok_eq', txt_eq]
theorem sim_query {E T G U : PS → Syn × PS} (hE : Sim 0 E G) (sE : Stuck E) (sG : StuckR G) (hT : Sim 0 T U) (sT : Stuck T) (sU : StuckR U) : Sim 0 (queryP E T) (queryR G U) := fun st hg r hd => by
  have a1 : q1 st = z1 st := exp_eq hg (by kernel_rfl)
  have g1 : SkR st (z1 st) := .exp _ _
  have g2 : SkR st (tokR 0 (z1 st)) := g1.trans (.tok _ _)
  have a2 : q2 st = z2 st := by
    show keyP (tokP 0 (q1 st)) (offS st) = keyRR (tokR 0 (z1 st)) (offS st)
    rw [a1, tok_eq', key_same (hg.goes g2.1.1)]
  have g3 : SkR st (z2 st).2 := g2.trans (skR_key _ _)
  have g4 : SkR st (expR w_tmatch (z2 st).2) := g3.trans (.exp _ _)
  have a4 : expP w_tmatch (q2 st).2 = expR w_tmatch (z2 st).2 := by rw [a2, exp_eq (hg.goes g3.1.1) (by kernel_rfl)]
  have hg4 := hg.goes g4.1.1
  have r4 := g4.1.1.rng r
  have hv := hT _ hg4 r4 r4.1
  have k1 := sT.goes r4
  have k2 := sU _ r4.toR
  have rk1 := k1.rng r4
  have rk2 := k2.rng r4.toR
  -- what follows the pattern
  have P1 : Stk (T (expR w_tmatch (z2 st).2)).2 (expP w_semi (listP E (expP w_treturn (T (expR w_tmatch (z2 st).2)).2)).2) := by
    have h1 : Stk (T (expR w_tmatch (z2 st).2)).2 (expP w_treturn (T (expR w_tmatch (z2 st).2)).2) := .exp _ _
    exact (h1.trans (skp_list sE (h1.rng rk1))).trans (.exp _ _)
  have R1 : SkR (U (expR w_tmatch (z2 st).2)).2 (expR w_semi (listGoR G (fuel (G (expR w_treturn (U (expR w_tmatch (z2 st).2)).2)).2) (G (expR w_treturn (U (expR w_tmatch (z2 st).2)).2)).2 [(z2 st).1, (U (expR w_tmatch (z2 st).2)).1, (G (expR w_treturn (U (expR w_tmatch (z2 st).2)).2)).1]).2) := by
    have h1 : SkR (U (expR w_tmatch (z2 st).2)).2 (expR w_treturn (U (expR w_tmatch (z2 st).2)).2) := .exp _ _
    have h2 := sG.read rk2 h1
    exact (h2.trans (skR_listGo sG _ _ _ (h2.rng rk2))).trans (.exp _ _)
  have e1 : queryP E T st = (⟨3, txtR 0 (z1 st), [], 0, [(z2 st).1, (T (expR w_tmatch (z2 st).2)).1] ++ (listP E (expP w_treturn (T (expR w_tmatch (z2 st).2)).2)).1, offS st⟩, expP w_semi (listP E (expP w_treturn (T (expR w_tmatch (z2 st).2)).2)).2) := by
    have : queryP E T st = (⟨3, txtP 0 (q1 st), [], 0, [(q2 st).1, (T (expP w_tmatch (q2 st).2)).1] ++ (listP E (expP w_treturn (T (expP w_tmatch (q2 st).2)).2)).1, offS st⟩, expP w_semi (listP E (expP w_treturn (T (expP w_tmatch (q2 st).2)).2)).2) := rfl
    rw [this, a4, a2, a1, txt_eq]
  have e2 : queryR G U st = (⟨3, txtR 0 (z1 st), [], 0, (listGoR G (fuel (G (expR w_treturn (U (expR w_tmatch (z2 st).2)).2)).2) (G (expR w_treturn (U (expR w_tmatch (z2 st).2)).2)).2 [(z2 st).1, (U (expR w_tmatch (z2 st).2)).1, (G (expR w_treturn (U (expR w_tmatch (z2 st).2)).2)).1]).1, offS st⟩, expR w_semi (listGoR G (fuel (G (expR w_treturn (U (expR w_tmatch (z2 st).2)).2)).2) (G (expR w_treturn (U (expR w_tmatch (z2 st).2)).2)).2 [(z2 st).1, (U (expR w_tmatch (z2 st).2)).1, (G (expR w_treturn (U (expR w_tmatch (z2 st).2)).2)).1]).2) := rfl
  rw [e1, e2]
  refine hv.next (fun e hb => ?_) P1.2 R1.2
  rw [← e]
  generalize T (expR w_tmatch (z2 st).2) = t at *
  have hgt : Gd t.2 := hg4.goes k1.1
  have a5 : expP w_treturn t.2 = expR w_treturn t.2 := exp_eq hgt (by kernel_rfl)
  have g5 : SkR t.2 (expR w_treturn t.2) := .exp _ _
  have hg5 := hgt.goes g5.1.1
  have r5 : Rng (expR w_treturn t.2) := g5.1.1.rng rk1
  rw [a5]
  have hve := hE _ hg5 r5 r5.1
  have m1 := sE.goes r5
  have m2 := sG _ r5.toR
  -- the list, with two elements ahead
  have pre : ∀ (n : Nat) (s : PS) (o : List Syn) (a b : Syn), (listGo E n s ([a, b] ++ o)).1 = [a, b] ++ (listGo E n s o).1 ∧ (listGo E n s ([a, b] ++ o)).2 = (listGo E n s o).2 := by
    intro n
    induction n with
    | zero => intro s o a b; exact ⟨rfl, rfl⟩
    | succ n ih =>
      intro s o a b
      unfold listGo
      split
      · rw [List.append_assoc]; exact ih _ _ a b
      · exact ⟨rfl, rfl⟩
  have hl : V (listGo E (fuel (E (expR w_treturn t.2)).2) (E (expR w_treturn t.2)).2 ([(z2 st).1, t.1] ++ [(E (expR w_treturn t.2)).1])) (listGoR G (fuel (G (expR w_treturn t.2)).2) (G (expR w_treturn t.2)).2 [(z2 st).1, t.1, (G (expR w_treturn t.2)).1]) := by
    refine hve.next (fun e hb => ?_) (skp_listGo sE _ _ _ (m1.rng r5)).2 (skR_listGo sG _ _ _ (m2.rng r5.toR)).2
    rw [← e]
    exact sim_list (Int.le_refl _) hE sE sG _ _ _ (hg5.goes m1.1) (m1.rng r5) (m1.rng r5).1
  obtain ⟨p1, p2⟩ := pre (fuel (E (expR w_treturn t.2)).2) (E (expR w_treturn t.2)).2 [(E (expR w_treturn t.2)).1] (z2 st).1 t.1
  have l1 := skp_list sE r5
  have e3 : ([(z2 st).1, t.1] ++ (listP E (expR w_treturn t.2)).1, (listP E (expR w_treturn t.2)).2) = listGo E (fuel (E (expR w_treturn t.2)).2) (E (expR w_treturn t.2)).2 ([(z2 st).1, t.1] ++ [(E (expR w_treturn t.2)).1]) := Prod.ext p1.symm p2.symm
  rw [← e3] at hl
  refine hl.next (fun e hb => ?_) (Stk.exp _ _).2 (SkR.exp _ _).2
  refine .same ?_
  rw [← e, exp_eq (hg5.goes l1.1) (by kernel_rfl)]
theorem sim_progGo {w : Str} (hw : (keyS w || !letterS (bt w 0)) = true) {F G : PS → Syn × PS} (hS : Sim 0 F G) (hF : Stuck F) (hG : StuckR G) : ∀ (n : Nat) (st : PS) (out : List Syn), Gd st → Rng st → V (progGo w F n st out) (progGoR w G n st out) ∧ Stk st (progGo w F n st out).2
  | 0, st, out, _, _ => ⟨.same rfl, .refl _⟩
  | n + 1, st, out, hg, r => by
    unfold progGo progGoR
    rw [isP_eq hg hw]
    cases h : isR w st with
    | false => exact ⟨.same rfl, .refl _⟩
    | true =>
      simp only [↓reduceIte]
      have hv := hS st hg r r.1
      have k1 := hF.goes r
      have k2 := hG st r.toR
      have kR : ∀ (n : Nat) (s : PS) (o : List Syn), RngR s → SkR s (progGoR w G n s o).2 := by
        intro n
        induction n with
        | zero => intro s o _; exact .refl _
        | succ n ih =>
          intro s o r
          unfold progGoR
          split
          · have h := hG _ r
            exact h.trans (ih _ _ (h.rng r))
          · exact .refl _
      have ih := sim_progGo hw hS hF hG n (F st).2 (out ++ [(F st).1]) (hg.goes k1.1) (k1.rng r)
      refine ⟨hv.next (fun e hb => ?_) ih.2.2 (kR n _ _ (k2.rng r.toR)).2, k1.trans ih.2⟩
      rw [← e]; exact ih.1
theorem stuckR_progGo {w : Str} {G : PS → Syn × PS} (hG : StuckR G) : ∀ (n : Nat) (s : PS) (o : List Syn), RngR s → SkR s (progGoR w G n s o).2
  | 0, s, o, _ => .refl _
  | n + 1, s, o, r => by
    unfold progGoR
    split
    · have h := hG _ r
      exact h.trans (stuckR_progGo hG n _ _ (h.rng r))
    · exact .refl _
theorem stuck_progGo {w : Str} {F : PS → Syn × PS} (hF : Stuck F) : ∀ (n : Nat) (s : PS) (o : List Syn), Rng s → Stk s (progGo w F n s o).2
  | 0, s, o, _ => .refl _
  | n + 1, s, o, r => by
    unfold progGo
    split
    · have h := hF.goes r
      exact h.trans (stuck_progGo hF n _ _ (h.rng r))
    · exact .refl _
theorem sim_prog {E T G U : PS → Syn × PS} (hE : Sim 0 E G) (sE : Stuck E) (sG : StuckR G) (hT : Sim 0 T U) (sT : Stuck T) (sU : StuckR U) : Sim 0 (progP E T) (progR G U) := fun st hg r hd => by
  have h1 := sim_progGo (by kernel_rfl) sim_kind stuck_kind stuckR_typed (fuel st) st [] hg r (w := w_ttype)
  have k2 := stuckR_progGo (w := w_ttype) stuckR_typed (fuel st) st [] r.toR
  have hl : V (progGo w_tquery (queryP E T) (fuel (pg1 st).2) (pg1 st).2 (pg1 st).1) (progGoR w_tquery (queryR G U) (fuel (pgR st).2) (pgR st).2 (pgR st).1) := by
    refine h1.1.next (fun e hb => ?_) (stuck_progGo (stuck_query sE sT) _ _ _ (h1.2.rng r)).2 (stuckR_progGo (stuckR_query sG sU) _ _ _ (k2.rng r.toR)).2
    rw [show pgR st = pg1 st from e.symm]
    exact (sim_progGo (by kernel_rfl) (sim_query hE sE sG hT sT sU) (stuck_query sE sT) (stuckR_query sG sU) _ _ _ (hg.goes h1.2.1) (h1.2.rng r)).1
  exact hl.next (fun e hb => .same (show ((⟨0, [], [], 0, (progGo w_tquery (queryP E T) (fuel (pg1 st).2) (pg1 st).2 (pg1 st).1).1, 0⟩ : Syn), (progGo w_tquery (queryP E T) (fuel (pg1 st).2) (pg1 st).2 (pg1 st).1).2) = (⟨0, [], [], 0, (progGoR w_tquery (queryR G U) (fuel (pgR st).2) (pgR st).2 (pgR st).1).1, 0⟩, (progGoR w_tquery (queryR G U) (fuel (pgR st).2) (pgR st).2 (pgR st).1).2) by rw [e])) (fun h => ⟨rfl, rfl⟩) (fun h => ⟨rfl, rfl⟩)
theorem done_same {p q : Syn × PS} (h : V p q) : doneP p = doneR q := by
  rcases h with ⟨rfl, hb⟩ | ⟨hb, e1, e2⟩
  · unfold doneP doneR
    have : (p.2.bad == 0) = true := by simpa using hb
    rw [this, Bool.true_and]
  · have hb2 : q.2.bad ≠ 0 := by rw [e1]; exact hb
    have b1 : (q.2.bad == 0) = false := by simpa using hb2
    have b2 : (q.2.bad != 0) = true := by simpa using hb2
    have b3 : (p.2.bad != 0) = true := by simpa using hb
    have f : (if decide ((p.2.pos : Int) < (p.2.toks.length : Int)) then failP 4 p.2 else p.2) = p.2 := by
      split
      · exact fail_stay hb
      · rfl
    have f2 : (if (q.2.bad == 0) && decide ((q.2.pos : Int) < (q.2.toks.length : Int)) then failP 4 q.2 else q.2) = q.2 := by rw [b1]; rfl
    have hp : doneP p = (synZ, p.2.whr, p.2.bad) := by unfold doneP; simp only [f, b3, ↓reduceIte]
    have hq : doneR q = (synZ, q.2.whr, q.2.bad) := by unfold doneR; simp only [f2, b2, ↓reduceIte]
    rw [hp, hq, e1, e2]
theorem next_letter {u : Str} (h0 : 0 < u.length) (he : (nextF u).err = 0) (hk : (nextF u).tok.kind = 0) : letterS (bt (nextF u).tok.text 0) = true := by
  cases h1 : letterS (bt u 0) with
  | true =>
    have hp : 0 < spanS wordS u := by
      have := span_pos (p := wordS) (s := u) (k := 0) h0 (by unfold wordS; rw [h1]; rfl)
      simpa using this
    rw [next_word h1 h0] at he ⊢
    cases hd : decide (24 < (spanS wordS u : Int)) with
    | true => rw [hd] at he; exact absurd he (by simp [foE])
    | false =>
      simp only [Bool.false_eq_true, ↓reduceIte, foT]
      rw [bt_take hp]; exact h1
  | false =>
    exfalso
    cases h2 : digitS (bt u 0) with
    | true =>
      rw [next_num h1 h2 h0] at he hk
      cases hd : ((numS (u.take (spanS digitS u))).2 != 0) with
      | true => rw [hd] at he; exact absurd he (by simpa [foE] using hd)
      | false =>
        rw [hd] at he hk
        simp only [Bool.false_eq_true, ↓reduceIte] at he hk
        cases hd2 : (decide ((spanS digitS u : Int) < (u.length : Int)) && letterS (bt u (spanS digitS u))) with
        | true => rw [hd2] at he; exact absurd he (by simp [foE])
        | false => rw [hd2] at hk; exact absurd hk (by simp [foT])
    | false =>
      obtain ⟨c, r, rfl⟩ : ∃ c r, u = c :: r := by cases u with | nil => cases h0 | cons c r => exact ⟨c, r, rfl⟩
      cases h3 : (((bt (c :: r) 0).toNat : Int) == 34) with
      | true =>
        have hc : c = 34 := c34_of h3
        subst hc
        rw [next_lit h3 h0] at he hk
        by_cases hh : hitF (litGo (34 :: r) ((34 :: r).length + 1) 1 []) = true
        · rw [if_pos hh] at he hk
          obtain ⟨t, m, k1, _, _⟩ := lit_ok _ _ _ _ he
          rw [k1] at hk
          exact absurd hk (by simp [foT])
        · rw [if_neg hh] at he
          exact absurd he (quote_no_sign r)
      | false =>
        rw [next_sign h1 h2 h3 h0] at he hk
        rw [signF_cons] at he hk
        cases hv : signV c (Lib.hasPrefix r [61]) with
        | none => rw [hv] at he; exact absurd he (by simp [foE])
        | some x => rw [hv] at hk; exact absurd hk (by simp [foT])
theorem Sc.letters {s : Str} {i : Nat} {l : List Tok} {j : Nat} (h : Sc s i l j) : GdT l := by
  induction h with
  | nil i => exact fun t h => (List.not_mem_nil h).elim
  | sep hi hs hr ih => exact ih
  | @tok i l j hi hs he hr ih =>
    intro t ht hk
    rcases List.mem_cons.1 ht with rfl | ht
    · exact next_letter (by rw [List.length_drop]; omega) he hk
    · exact ih t ht hk
theorem begin_gd {s : Str} (h : (scanS s).2.2 = 0) : Gd (beginS (scanS s).1 s.length) := (scan_sc h).2.letters
theorem parse_same {F G : PS → Syn × PS} (hS : Sim 0 F G) (s : Str) : parseP F s = parseR G s := by
  unfold parseP parseR
  rw [← scan_eq]
  by_cases he : (scanS s).2.2 = 0
  · have : ((scanS s).2.2 != 0) = false := by simpa using he
    rw [this]
    simp only [Bool.false_eq_true, ↓reduceIte]
    exact done_same (hS _ (begin_gd he) ⟨Int.le_refl _, (by decide : (0 : Int) ≤ 64)⟩ (Int.le_refl _))
  · have : ((scanS s).2.2 != 0) = true := by simpa using he
    rw [this]; rfl
theorem expr_same (s : Str) : pExpr s = parseR EER s := parse_same sim_EE s
theorem pat_same (s : Str) : pPat s = parseR TTR s := parse_same sim_TT s
theorem query_same (s : Str) : pQuery s = parseR (queryR EER TTR) s := parse_same (sim_query sim_EE stuck_EE stuck_EER sim_TT stuck_TT stuck_TTR) s
theorem prog_same (s : Str) : pProg s = parseR (progR EER TTR) s := parse_same (sim_prog sim_EE stuck_EE stuck_EER sim_TT stuck_TT stuck_TTR) s
end Go.Proofs.YtpgmglacdcfnaaaGreatDoor
