/-
  Moving variables keeps the value; what is not a variable of the expression does not matter. No condition.
-/
import Derived.Test.YtkkacfnkjiijkaaM7
import Derived.Test.YtkkacfnkjiijkaaM8
namespace Go.Proofs.Ytkkacfnkjiijkaa
open Go Go.Aw
set_option linter.unusedVariables false
set_option linter.unusedSimpArgs false

theorem eval_map {x y : Evr} {f : Ex → Ex} {e : Ex} (hne : e.args ≠ []) (hf : ∀ a ∈ e.args, evalS y (rebS f a) = evalS x a) : evalS y (outS f e) = evalS x e := by
  have h0 : ¬ e.args.isEmpty = true := by simpa using hne
  have h1 : ¬ (outS f e).args.isEmpty = true := by simpa [outS] using hne
  rw [evalS_eq y, evalS_eq x, if_neg h0, if_neg h1]
  have e1 : firstS (fun a => (evalS y a).2) (outS f e).args = firstS (fun a => (evalS x a).2) e.args := by
    show firstS _ (e.args.map (rebS f)) = _
    have : ∀ l : List Ex, (∀ a ∈ l, evalS y (rebS f a) = evalS x a) → firstS (fun a => (evalS y a).2) (l.map (rebS f)) = firstS (fun a => (evalS x a).2) l := by
      intro l
      induction l with
      | nil => intro _; rfl
      | cons a r ih =>
        intro h
        rw [List.map_cons, firstS, firstS, h a (by simp), ih fun b hb => h b (by simp [hb])]
    exact this _ hf
  have e2 : (outS f e).args.map (fun a => (evalS y a).1) = e.args.map (fun a => (evalS x a).1) := by
    show (e.args.map (rebS f)).map _ = _
    rw [List.map_map]
    exact List.map_congr_left fun a ha => by simp [hf a ha]
  rw [e1, e2]
  rfl

theorem eval_same {x y : Evr} {e : Ex} (hne : e.args ≠ []) (hf : ∀ a ∈ e.args, evalS y a = evalS x a) : evalS y e = evalS x e := by
  have h0 : ¬ e.args.isEmpty = true := by simpa using hne
  rw [evalS_eq y, evalS_eq x, if_neg h0, if_neg h0]
  have e1 : firstS (fun a => (evalS y a).2) e.args = firstS (fun a => (evalS x a).2) e.args := by
    have : ∀ l : List Ex, (∀ a ∈ l, evalS y a = evalS x a) → firstS (fun a => (evalS y a).2) l = firstS (fun a => (evalS x a).2) l := by
      intro l
      induction l with
      | nil => intro _; rfl
      | cons a r ih =>
        intro h
        rw [firstS, firstS, h a (by simp), ih fun b hb => h b (by simp [hb])]
    exact this _ hf
  have e2 : e.args.map (fun a => (evalS y a).1) = e.args.map (fun a => (evalS x a).1) := List.map_congr_left fun a ha => by rw [hf a ha]
  rw [e1, e2]

/-- a node without arguments is a constant or uses a variable -/
theorem leaf_uses {e : Ex} (h : nodeS e = 0) (ha : e.args = []) : e.op = 0 ∨ (usesS e.op).1 = true := by
  obtain ⟨h1, h2, h3⟩ := node_shape h
  rw [ha] at h3
  unfold arityS at h3
  have h4 : e.op = 0 ∨ e.op = 1 ∨ e.op = 2 ∨ e.op = 3 ∨ e.op = 4 := by
    simp only [List.length_nil] at h3
    split at h3
    · omega
    split at h3
    · omega
    split at h3
    · simp at h3
    · simp at h3
  rcases h4 with h | h | h | h | h
  · exact .inl h
  all_goals right; rw [h]; decide
theorem inner_uses {e : Ex} (h : nodeS e = 0) (ha : e.args ≠ []) : (usesS e.op).1 = false := by
  have hl : ((e.args.length : Int) == 0) = false := by
    simp; exact ha
  rcases node_args h hl with ⟨_, h⟩ | ⟨_, h, h'⟩
  · rw [h]; decide
  · unfold usesS
    rw [if_neg (by omega), if_neg (by omega)]

theorem leaf_events {v v' : Int} {vars vars' : List (List Ev)} {e : Ex} (h : eventsS vars' v' = eventsS vars v) (h1 : v ≠ -1) (h2 : v' ≠ -1) (e' : Ex)
    (he' : e' = ⟨e.op, e.args, v', e.field, e.kind, e.val⟩) (hv : e.var = v) : leafS ⟨vars', -1, ev0⟩ e' = leafS ⟨vars, -1, ev0⟩ e := by
  subst he'; subst hv
  have e1 : ((v' != -1) = true) := by simp [h2]
  have e2 : ((e.var != -1) = true) := by simp [h1]
  unfold leafS totalS readS
  simp only [h, e1, e2]

theorem eval_ren {vars M : List (List Ev)} {to : List Int} (h : ∀ v : Int, 0 ≤ v → v < (to.length : Int) → eventsS M (atS to v) = eventsS vars v ∧ 0 ≤ atS to v) (e : Ex) (hn : nodesS e = 0) (hr : visitS (renErrS to) e = 0) :
    evalS ⟨M, -1, ev0⟩ (rebS (renNodeS to) e) = evalS ⟨vars, -1, ev0⟩ e := by
  induction e using Ex.ind with
  | h e ih =>
    have hz := nodes_zero hn
    have hvz := visit_zero hr
    by_cases ha : e.args = []
    · have ho : outS (renNodeS to) e = e := out_id (by rw [ha]; rfl)
      rw [rebS_eq, ho]
      rw [eval_leaf (e := e) ha]
      rcases leaf_uses hz.1 ha with h0 | hu
      · have hu : (usesS e.op).1 = false := by rw [h0]; decide
        have : renNodeS to e = e := by unfold renNodeS; rw [if_neg (by simp [hu])]
        rw [this, eval_leaf ha]
        unfold leafS
        rw [if_pos (by simp [h0]), if_pos (by simp [h0])]
      · have hv := renErr_var hvz.1 hu
        have hv0 := node_var hz.1
        have h1 := h e.var hv0.1 hv.1
        have : renNodeS to e = ⟨e.op, e.args, atS to e.var, e.field, e.kind, e.val⟩ := by unfold renNodeS; exact if_pos hu
        rw [this, eval_leaf (x := ⟨M, -1, ev0⟩) (e := ⟨e.op, e.args, atS to e.var, e.field, e.kind, e.val⟩) ha]
        exact leaf_events (v := e.var) h1.1 (by omega) (by omega) _ rfl rfl
    · have hu := inner_uses hz.1 ha
      rw [rebS_eq]
      have : renNodeS to (outS (renNodeS to) e) = outS (renNodeS to) e := by
        unfold renNodeS
        exact if_neg (by show ¬ (usesS e.op).1 = true; simp [hu])
      rw [this]
      exact eval_map ha fun a hm => ih a hm (hz.2 a hm) (hvz.2 a hm)

theorem used_own {e : Ex} (h : nodeS e = 0) (hu : (usesS e.op).1 = true) : e.var.toNat ∈ usedS e := by
  have hv := node_var h
  rw [usedS_eq]
  refine List.mem_append_left _ ?_
  unfold ownS
  rw [if_pos (by simp [hu]; omega)]
  simp
theorem used_arg {e a : Ex} (h : a ∈ e.args) {v : Nat} (hv : v ∈ usedS a) : v ∈ usedS e := by
  rw [usedS_eq]
  exact List.mem_append_right _ (List.mem_flatMap.2 ⟨a, h, hv⟩)

theorem eval_less {vars L : List (List Ev)} (e : Ex) (hn : nodesS e = 0) (h : ∀ v ∈ usedS e, eventsS L (v : Int) = eventsS vars (v : Int)) : evalS ⟨L, -1, ev0⟩ e = evalS ⟨vars, -1, ev0⟩ e := by
  induction e using Ex.ind with
  | h e ih =>
    have hz := nodes_zero hn
    by_cases ha : e.args = []
    · rw [eval_leaf ha, eval_leaf ha]
      rcases leaf_uses hz.1 ha with h0 | hu
      · unfold leafS
        rw [if_pos (by simp [h0]), if_pos (by simp [h0])]
      · have hv0 := node_var hz.1
        have h1 := h _ (used_own hz.1 hu)
        have e1 : ((e.var.toNat : Nat) : Int) = e.var := by omega
        rw [e1] at h1
        exact leaf_events (v := e.var) h1 (by omega) (by omega) e (by cases e; rfl) rfl
    · exact eval_same ha fun a hm => ih a hm (hz.2 a hm) fun v hv => h v (used_arg hm hv)

theorem used_lt {to : List Int} (e : Ex) (hr : visitS (renErrS to) e = 0) : ∀ v ∈ usedS e, (v : Int) < (to.length : Int) := by
  induction e using Ex.ind with
  | h e ih =>
    have hvz := visit_zero hr
    intro v hv
    rw [usedS_eq] at hv
    rcases List.mem_append.1 hv with hv | hv
    · unfold ownS at hv
      split at hv
      · rename_i hc
        simp only [Bool.and_eq_true, decide_eq_true_eq] at hc
        simp only [List.mem_singleton] at hv
        have := renErr_var hvz.1 hc.1.1
        omega
      · cases hv
    · obtain ⟨a, ha, hva⟩ := List.mem_flatMap.1 hv
      exact ih a ha (hvz.2 a ha) v hva
theorem vars_used {e : Ex} {v : Int} (h : v ∈ varsS e) : 0 ≤ v ∧ v.toNat ∈ usedS e := by
  unfold varsS uptoS at h
  obtain ⟨n, hn, rfl⟩ := List.mem_map.1 h
  have := (List.mem_filter.1 hn).2
  exact ⟨by omega, by simpa using this⟩
theorem used_vars {e : Ex} {v : Nat} (h : v ∈ usedS e) (hl : v < 16) : (v : Int) ∈ varsS e := by
  unfold varsS uptoS
  exact List.mem_map.2 ⟨v, List.mem_filter.2 ⟨by simpa using hl, by simpa using h⟩, rfl⟩

/-- renaming finds no variable, or none of an error -/
theorem visit_or {f : Ex → Int} (h : ∀ a, f a = 0 ∨ f a = 6) (e : Ex) : visitS f e = 0 ∨ visitS f e = 6 := by
  induction e using Ex.ind with
  | h e ih =>
    rw [visitS_eq]
    by_cases hx : f e = 0
    · rw [if_neg (by simp [hx])]
      have : ∀ l : List Ex, (∀ a ∈ l, visitS f a = 0 ∨ visitS f a = 6) → firstS (visitS f) l = 0 ∨ firstS (visitS f) l = 6 := by
        intro l
        induction l with
        | nil => intro _; exact .inl rfl
        | cons a r ihr =>
          intro hl
          rw [firstS]
          split
          · exact hl a (by simp)
          · exact ihr fun b hb => hl b (by simp [hb])
      exact this _ ih
    · rw [if_pos (by simpa using hx)]; exact h e

theorem node_var_free {e : Ex} {v : Int} (hu : (usesS e.op).1 = true) (hv : 0 ≤ v ∧ v < 16) (hw : 0 ≤ e.var ∧ e.var < 16) : nodeS ⟨e.op, e.args, v, e.field, e.kind, e.val⟩ = nodeS e := by
  have d1 : decide (v < 0) = false := by simp; omega
  have d2 : decide (16 ≤ v) = false := by simp; omega
  have d3 : decide (e.var < 0) = false := by simp; omega
  have d4 : decide (16 ≤ e.var) = false := by simp; omega
  unfold nodeS formS constS
  simp only [hu, d1, d2, d3, d4, Bool.not_true, Bool.false_and, Bool.or_false, Bool.and_false, Bool.false_or]

theorem ren_check {to : List Int} {e : Ex} (h : checkS e = 0) (hr : visitS (renErrS to) e = 0) : checkS (rebS (renNodeS to) e) = 0 := by
  obtain ⟨h1, h2, h3⟩ := check_parts h
  have hd : ∀ e : Ex, depthN (rebS (renNodeS to) e) = depthN e := by
    intro e
    induction e using Ex.ind with
    | h e ih =>
      have : ∀ x : Ex, depthN (renNodeS to x) = depthN x := by
        intro x
        unfold renNodeS
        split
        · rw [depthN_eq, depthN_eq x]
        · rfl
      rw [rebS_eq, this, depthN_eq, depthN_eq e]
      have key : ∀ l : List Ex, (∀ a ∈ l, depthN (rebS (renNodeS to) a) = depthN a) → ((l.map (rebS (renNodeS to))).map depthN).foldr max 0 = (l.map depthN).foldr max 0 := by
        intro l
        induction l with
        | nil => intro _; rfl
        | cons x r ihr =>
          intro h
          simp only [List.map_cons, List.foldr_cons]
          rw [h x (by simp), ihr fun a ha => h a (by simp [ha])]
      show ((e.args.map (rebS (renNodeS to))).map depthN).foldr max 0 + 1 = _
      rw [key e.args ih]
  refine check_of (by rw [ren_size]; exact h1) (by rw [hd]; exact h2) ?_
  have : ∀ e : Ex, nodesS e = 0 → visitS (renErrS to) e = 0 → nodesS (rebS (renNodeS to) e) = 0 := by
    intro e
    induction e using Ex.ind with
    | h e ih =>
      intro hn hr
      have hz := nodes_zero hn
      have hvz := visit_zero hr
      have ha : ∀ a ∈ (outS (renNodeS to) e).args, nodesS a = 0 := by
        intro a hm
        obtain ⟨b, hb, rfl⟩ := List.mem_map.1 hm
        exact ih b hb (hz.2 b hb) (hvz.2 b hb)
      have ho : nodeS (outS (renNodeS to) e) = 0 := by rw [node_same (e := e)] <;> first | exact hz.1 | rfl | simp [outS]
      rw [rebS_eq]
      by_cases hu : (usesS e.op).1 = true
      · have hv := renErr_var hvz.1 hu
        have e1 : renNodeS to (outS (renNodeS to) e) = ⟨e.op, e.args.map (rebS (renNodeS to)), atS to e.var, e.field, e.kind, e.val⟩ := by unfold renNodeS; exact if_pos hu
        rw [e1]
        refine valid_of ?_ ha
        have hv0 := node_var hz.1
        rw [← ho]
        exact node_var_free (e := outS (renNodeS to) e) hu (by omega) hv0
      · have e1 : renNodeS to (outS (renNodeS to) e) = outS (renNodeS to) e := by unfold renNodeS; exact if_neg hu
        rw [e1]
        exact valid_of ho ha
  exact this e h3 hr

/-! ### The two environments -/
theorem mod_inj {n b v k : Nat} (hv : v < n) (hk : k < n) (h : (v + b) % n = (k + b) % n) : v = k := by
  rcases Nat.lt_trichotomy v k with hlt | he | hlt
  · have := Nat.sub_mod_eq_zero_of_mod_eq h.symm
    have e1 : k + b - (v + b) = k - v := by omega
    rw [e1, Nat.mod_eq_of_lt (by omega)] at this
    omega
  · exact he
  · have := Nat.sub_mod_eq_zero_of_mod_eq h
    have e1 : v + b - (k + b) = v - k := by omega
    rw [e1, Nat.mod_eq_of_lt (by omega)] at this
    omega
/-- where a variable goes -/
def tvS (n b v : Nat) : Int := ((v : Int) + (b : Int)).tmod (n : Int)
theorem tv_eq (n b v : Nat) : tvS n b v = (((v + b) % n : Nat) : Int) := by
  unfold tvS
  have : (v : Int) + (b : Int) = ((v + b : Nat) : Int) := by omega
  rw [this, ← Int.ofNat_tmod]
theorem tv_lt {n b v : Nat} (h : 0 < n) : 0 ≤ tvS n b v ∧ tvS n b v < (n : Int) := by
  rw [tv_eq]
  have := Nat.mod_lt (v + b) h
  omega
def toS (n b : Nat) : List Int := (List.range n).map (tvS n b)
theorem to_len (n b : Nat) : (toS n b).length = n := by simp [toS]
theorem to_atS {n b : Nat} {v : Int} (h0 : 0 ≤ v) (h : v < (n : Int)) : atS (toS n b) v = tvS n b v.toNat := by
  unfold atS toS
  rw [List.getElem?_map, List.getElem?_range (by omega)]; rfl
theorem events_of {l l' : List (List Ev)} {v v' : Int} (h0 : 0 ≤ v) (h : v < (l.length : Int)) (h0' : 0 ≤ v') (h' : v' < (l'.length : Int)) (he : l'[v'.toNat]? = l[v.toNat]?) : eventsS l' v' = eventsS l v := by
  unfold eventsS
  rw [if_neg (by simp; omega), if_neg (by simp; omega), he]

theorem moved_value {vars M : List (List Ev)} {b : Nat} {e : Ex} (hc : checkS e = 0) (hr : visitS (renErrS (toS vars.length b)) e = 0) (hM : M.length = vars.length) (hm : ∀ v, v < vars.length → M[(tvS vars.length b v).toNat]? = vars[v]?) :
    EvalS ⟨M, -1, ev0⟩ (rebS (renNodeS (toS vars.length b)) e) = EvalS ⟨vars, -1, ev0⟩ e := by
  have h1 := ren_check hc hr
  have h2 : evalS ⟨M, -1, ev0⟩ (rebS (renNodeS (toS vars.length b)) e) = evalS ⟨vars, -1, ev0⟩ e := by
    refine eval_ren (fun v h0 hv => ?_) e (check_parts hc).2.2 hr
    rw [to_len] at hv
    rw [to_atS h0 hv]
    have h3 := tv_lt (n := vars.length) (b := b) (v := v.toNat) (by omega)
    exact ⟨events_of h0 hv h3.1 (by rw [hM]; exact h3.2) (hm v.toNat (by omega)), h3.1⟩
  unfold EvalS
  rw [if_neg (c := (checkS (rebS (renNodeS (toS vars.length b)) e) != 0) = true) (by rw [h1]; decide), if_neg (by rw [hc]; decide), h2]

theorem less_value {vars L : List (List Ev)} {b : Nat} {e : Ex} (hc : checkS e = 0) (hr : visitS (renErrS (toS vars.length b)) e = 0) (hn : vars.length ≤ 8) (hL : L.length = vars.length) (hm : ∀ u ∈ varsS e, L[u.toNat]? = vars[u.toNat]?) :
    EvalS ⟨L, -1, ev0⟩ e = EvalS ⟨vars, -1, ev0⟩ e := by
  have h2 : evalS ⟨L, -1, ev0⟩ e = evalS ⟨vars, -1, ev0⟩ e := by
    refine eval_less e (check_parts hc).2.2 fun v hv => ?_
    have h3 := used_lt e hr v hv
    rw [to_len] at h3
    have h4 := hm v (used_vars hv (by omega))
    exact events_of (by omega) h3 (by omega) (by rw [hL]; exact h3) h4
  unfold EvalS
  rw [h2]

theorem ren_err {n b : Nat} (h0 : 0 < n) (h8 : n ≤ 8) (e : Ex) (hn : nodesS e = 0) : visitS (renErrS (toS n b)) e = 0 ∨ visitS (renErrS (toS n b)) e = 6 := by
  induction e using Ex.ind with
  | h e ih =>
    have hz := nodes_zero hn
    have hv := node_var hz.1
    have hx : renErrS (toS n b) e = 0 ∨ renErrS (toS n b) e = 6 := by
      unfold renErrS
      split
      · exact .inl rfl
      split
      · exact .inr rfl
      rename_i h1 h2
      simp [to_len] at h2
      rw [to_atS hv.1 (by omega)]
      have := tv_lt (n := n) (b := b) (v := e.var.toNat) h0
      rw [if_neg (by simp; omega)]
      exact .inl rfl
    rw [visitS_eq]
    by_cases h : renErrS (toS n b) e = 0
    · rw [if_neg (by simp [h])]
      have : ∀ l : List Ex, (∀ a ∈ l, visitS (renErrS (toS n b)) a = 0 ∨ visitS (renErrS (toS n b)) a = 6) → firstS (visitS (renErrS (toS n b))) l = 0 ∨ firstS (visitS (renErrS (toS n b))) l = 6 := by
        intro l
        induction l with
        | nil => intro _; exact .inl rfl
        | cons a r ihr =>
          intro hl
          rw [firstS]
          split
          · exact hl a (by simp)
          · exact ihr fun c hc => hl c (by simp [hc])
      exact this _ fun a ha => ih a ha (hz.2 a ha)
    · rw [if_pos (by simpa using h)]; exact hx

end Go.Proofs.Ytkkacfnkjiijkaa
