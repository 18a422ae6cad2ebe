/-
  Folding keeps the value of an expression, and folding again changes nothing. No condition.
-/
import Derived.Test.YtkkacfnkjiijkaaM5
namespace Go.Proofs.Ytkkacfnkjiijkaa
open Go Go.Aw
set_option linter.unusedVariables false
set_option linter.unusedSimpArgs false

/-! ### Folding again -/

/-- folded: each node stays as it is -/
inductive Fd (f : Ex → Ex) : Ex → Prop where
  | mk (e : Ex) (ha : ∀ a ∈ e.args, Fd f a) (h : f e = e) : Fd f e
theorem Fd.args {f : Ex → Ex} {e : Ex} (h : Fd f e) : ∀ a ∈ e.args, Fd f a := by cases h; assumption
theorem Fd.same {f : Ex → Ex} {e : Ex} (h : Fd f e) : f e = e := by cases h; assumption

theorem out_id {f : Ex → Ex} {e : Ex} (h : e.args.map (rebS f) = e.args) : outS f e = e := by
  cases e with | mk op args var field kind val =>
  unfold outS; simp only at h ⊢; rw [h]
theorem fd_reb {f : Ex → Ex} {e : Ex} (h : Fd f e) : rebS f e = e := by
  induction e using Ex.ind with
  | h e ih =>
    have ho : outS f e = e := by
      have : e.args.map (rebS f) = e.args := by
        rw [List.map_congr_left (g := id) fun a ha => ih a ha (h.args a ha)]; simp
      exact out_id this
    rw [rebS_eq, ho, h.same]

theorem fd_const {x : Evr} {v : Vl} : Fd (fnodeS x) (constE v) := .mk _ (by intro a ha; cases ha) (by
  unfold fnodeS
  have : knownS' x (constE v) = (v0, false) := by unfold knownS'; simp [constE]
  rw [this]
  rfl)

theorem fd_node {x : Evr} {o : Ex} (h : nodesS o = 0) (ha : ∀ a ∈ o.args, Fd (fnodeS x) a) : Fd (fnodeS x) (fnodeS x o) := by
  have hz := nodes_zero h
  by_cases c1 : (knownS' x o).2 = true
  · rw [show fnodeS x o = constE (knownS' x o).1 by unfold fnodeS; rw [if_pos c1]]
    exact fd_const
  by_cases c2 : (o.op == 12 && (arg0 o).op == 12) = true
  · rw [show fnodeS x o = arg0 (arg0 o) by unfold fnodeS; rw [if_neg c1, if_pos c2]]
    simp only [Bool.and_eq_true, beq_iff_eq] at c2
    have h0 := arg0_mem (len_not hz.1 c2.1)
    have hz0 := nodes_zero (hz.2 _ h0)
    exact (ha _ h0).args _ (arg0_mem (len_not hz0.1 c2.2))
  by_cases c3 : (o.op != 10 && o.op != 11) = true
  · have e : fnodeS x o = o := by unfold fnodeS; rw [if_neg c1, if_neg c2, if_pos c3]
    rw [e]; exact .mk o ha e
  have ho : o.op = 10 ∨ o.op = 11 := by
    simp only [Bool.and_eq_true, bne_iff_ne, ne_eq, not_and, Decidable.not_not] at c3
    omega
  have hl := len_two hz.1 ho
  have m0 := arg0_mem (e := o) (by omega)
  have m1 := arg1_mem hl
  by_cases c4 : isC (arg0 o) (o.op == 10) = true
  · rw [show fnodeS x o = arg1 o by unfold fnodeS; rw [if_neg c1, if_neg c2, if_neg c3, if_pos c4]]
    exact ha _ m1
  by_cases c5 : isC (arg1 o) (o.op == 10) = true
  · rw [show fnodeS x o = arg0 o by unfold fnodeS; rw [if_neg c1, if_neg c2, if_neg c3, if_neg c4, if_pos c5]]
    exact ha _ m0
  by_cases c6 : (isC (arg0 o) (!(o.op == 10)) || isC (arg1 o) (!(o.op == 10))) = true
  · rw [show fnodeS x o = constE (flagS (!(o.op == 10))) by unfold fnodeS; rw [if_neg c1, if_neg c2, if_neg c3, if_neg c4, if_neg c5, if_pos c6]]
    exact fd_const
  · have e : fnodeS x o = o := by unfold fnodeS; rw [if_neg c1, if_neg c2, if_neg c3, if_neg c4, if_neg c5, if_neg c6]
    rw [e]; exact .mk o ha e

theorem fd_fold {x : Evr} {e : Ex} (h : nodesS e = 0) : Fd (fnodeS x) (rebS (fnodeS x) e) := by
  induction e using Ex.ind with
  | h e ih =>
    have hz := nodes_zero h
    rw [rebS_eq]
    refine fd_node (reb_ok (f := fnodeS x) (fun e h => fnode_ok x h) e h).1.1 ?_
    intro a ha
    obtain ⟨b, hb, rfl⟩ := List.mem_map.1 ha
    exact ih b hb (hz.2 b hb)

/-! ### Depth -/
theorem depth_arg {e a : Ex} (h : a ∈ e.args) : depthN a < depthN e := by
  rw [depthN_eq e]
  have : ∀ l : List Ex, a ∈ l → depthN a ≤ (l.map depthN).foldr max 0 := by
    intro l
    induction l with
    | nil => intro h; cases h
    | cons x r ih =>
      intro h
      simp only [List.map_cons, List.foldr_cons]
      rcases List.mem_cons.1 h with rfl | h
      · omega
      · have := ih h; omega
  have := this _ h
  omega
theorem depth_pos (e : Ex) : 1 ≤ depthN e := by rw [depthN_eq]; omega

theorem fnode_depth (x : Evr) {e : Ex} (h : nodesS e = 0) : depthN (fnodeS x e) ≤ depthN e := by
  have hz := nodes_zero h
  have hp := depth_pos e
  have hc : ∀ v, depthN (constE v) = 1 := fun v => by rw [depthN_eq]; rfl
  unfold fnodeS
  split
  · rw [hc]; exact hp
  · split
    · rename_i _ hc
      simp only [Bool.and_eq_true, beq_iff_eq] at hc
      have h0 := arg0_mem (len_not hz.1 hc.1)
      have hz0 := nodes_zero (hz.2 _ h0)
      have h1 := arg0_mem (len_not hz0.1 hc.2)
      have := depth_arg h0
      have := depth_arg h1
      omega
    · split
      · exact Nat.le_refl _
      · rename_i hn
        have ho : e.op = 10 ∨ e.op = 11 := by
          simp only [Bool.and_eq_true, bne_iff_ne, ne_eq, not_and, Decidable.not_not] at hn
          omega
        have hl := len_two hz.1 ho
        have s0 := depth_arg (arg0_mem (e := e) (by omega))
        have s1 := depth_arg (arg1_mem hl)
        split
        · omega
        · split
          · omega
          · split
            · rw [hc]; exact hp
            · exact Nat.le_refl _

theorem fold_depth (x : Evr) {e : Ex} (h : nodesS e = 0) : depthN (rebS (fnodeS x) e) ≤ depthN e := by
  induction e using Ex.ind with
  | h e ih =>
    have hz := nodes_zero h
    have h1 := fnode_depth x (reb_ok (f := fnodeS x) (fun e h => fnode_ok x h) e h).1.1
    rw [rebS_eq]
    refine Nat.le_trans h1 ?_
    rw [depthN_eq, depthN_eq e]
    have : ∀ l : List Ex, (∀ a ∈ l, depthN (rebS (fnodeS x) a) ≤ depthN a) → ((l.map (rebS (fnodeS x))).map depthN).foldr max 0 ≤ (l.map depthN).foldr max 0 := by
      intro l
      induction l with
      | nil => intro _; exact Nat.le_refl _
      | cons y r ihr =>
        intro hl
        simp only [List.map_cons, List.foldr_cons]
        have a1 := hl y (by simp)
        have a2 := ihr fun a ha => hl a (by simp [ha])
        omega
    have := this e.args fun a ha => ih a ha (hz.2 a ha)
    show ((e.args.map (rebS (fnodeS x))).map depthN).foldr max 0 + 1 ≤ _
    omega

theorem check_parts {e : Ex} (h : checkS e = 0) : sizeN e ≤ 64 ∧ depthN e ≤ 12 ∧ nodesS e = 0 := by
  unfold checkS at h
  split at h
  · cases h
  rename_i h1
  split at h
  · cases h
  rename_i h2
  simp at h1 h2
  exact ⟨by omega, by omega, h⟩
theorem check_of {e : Ex} (h1 : sizeN e ≤ 64) (h2 : depthN e ≤ 12) (h3 : nodesS e = 0) : checkS e = 0 := by
  unfold checkS
  rw [if_neg (by simp; omega), if_neg (by simp; omega)]; exact h3

theorem fold_check {e : Ex} (h : checkS e = 0) : checkS (rebS (fnodeS xz) e) = 0 := by
  obtain ⟨h1, h2, h3⟩ := check_parts h
  have h4 := (reb_ok (f := fnodeS xz) (fun e h => fnode_ok xz h) e h3).2
  have h5 := fold_depth xz h3
  exact check_of (by omega) (by omega) h4.1
theorem fold_again {e : Ex} (h : checkS e = 0) : FoldS (rebS (fnodeS xz) e) = (rebS (fnodeS xz) e, 0) := by
  unfold FoldS
  rw [fold_check h, fd_reb (fd_fold (check_parts h).2.2)]
  rfl

/-! ### The value -/
def okB (v : Vl) : Prop := v.kind = 1 → v = flagS (v.num == 1)
theorem okB_of_check {v : Vl} (h : vcheckS v = 0) : okB v := by
  intro hk
  obtain ⟨k, n, t⟩ := v
  simp only at hk; subst hk
  unfold vcheckS vsizeS at h
  by_cases ht : t = []
  · subst ht
    simp at h
    by_cases h1 : n = 1
    · subst h1; rfl
    · have h0 : n = 0 := by omega
      subst h0; rfl
  · simp [ht] at h
theorem okB_int {v : Vl} (h : v.kind = 0) : okB v := fun hk => by rw [h] at hk; cases hk
theorem okB_flag (b : Bool) : okB (flagS b) := okB_of_check (flag_ok b)

theorem result_okB {a : Ac} {o : Vl} (h : (resultS a o).2 = 0) : okB (resultS a o).1 := by
  unfold resultS at h ⊢
  split at h
  · rename_i h1; simp at h1 h; exact absurd h h1
  split at h
  · rename_i _ h1; simp at h1 h; exact absurd h h1
  rename_i ha hw
  rw [if_neg ha, if_neg hw]
  simp at ha hw
  split
  · exact okB_int rfl
  rename_i hk
  split
  · refine okB_of_check ?_
    unfold wrongS at hw
    by_cases e : vcheckS o = 0
    · exact e
    · simp [e] at hw
  · rename_i hc
    have hkn := acheck_known ha
    unfold acheckS at ha
    simp only [hkn, Bool.not_true, Bool.false_eq_true, if_false] at ha
    split at ha
    · cases ha
    have hx : (if a.count == 0 || a.kind == 0 then isV0 a.val
      else if a.kind == 1 then a.val.kind == 0 && a.val.text == [] && decide (0 - a.count * 1099511627776 ≤ a.val.num) && decide (a.val.num ≤ a.count * 1099511627776)
      else vcheckS a.val == 0 && asuitsS a.kind a.val) = true := Decidable.byContradiction fun hX => by
        rw [if_neg hX] at ha; cases ha
    by_cases h0 : (a.count == 0 || a.kind == 0) = true
    · rw [if_pos h0] at hx
      exact okB_int (by rw [(isV0_iff _).1 hx]; rfl)
    · rw [if_neg h0] at hx
      by_cases h1 : (a.kind == 1) = true
      · rw [if_pos h1] at hx
        simp only [Bool.and_eq_true, beq_iff_eq] at hx
        exact okB_int hx.1.1.1
      · rw [if_neg h1] at hx
        simp only [Bool.and_eq_true, beq_iff_eq] at hx
        exact okB_of_check hx.1

theorem of_okB {k : Int} {l : List Vl} {o : Vl} (h : (ofS k l o).2 = 0) : okB (ofS k l o).1 := by
  unfold ofS at h ⊢
  split at h
  · cases h
  split at h
  · cases h
  split at h
  · rename_i h1; simp at h1 h; exact absurd h h1
  rename_i h1 h2 h3
  rw [if_neg h1, if_neg h2, if_neg h3]
  exact result_okB h

theorem const_valid {e : Ex} (h : nodeS e = 0) (ho : e.op = 0) : vcheckS e.val = 0 ∧ e.args = [] := by
  obtain ⟨_, _, h3⟩ := node_shape h
  have ha : arityS 0 = 0 := by decide
  rw [ho, ha] at h3
  refine ⟨?_, List.eq_nil_of_length_eq_zero (by omega)⟩
  unfold nodeS at h
  split at h
  · cases h
  split at h
  · cases h
  split at h
  · cases h
  split at h
  · cases h
  rw [if_pos (by simp [ho])] at h
  split at h
  · rename_i h4; simp at h4; exact absurd h h4
  rename_i h4
  simp at h4
  unfold constS at h4
  by_cases e' : vcheckS e.val = 0
  · exact e'
  · simp [e'] at h4

theorem leaf_okB {x : Evr} {e : Ex} (hn : nodeS e = 0) (h : (leafS x e).2 = 0) : okB (leafS x e).1 := by
  unfold leafS at h ⊢
  split
  · rename_i h0; exact okB_of_check (const_valid hn (by simpa using h0)).1
  · rename_i h0
    rw [if_neg h0] at h
    split
    · exact okB_int rfl
    · rename_i h1
      rw [if_neg h1] at h
      split
      · rename_i h2
        rw [if_pos h2] at h
        simp only [totalS] at h ⊢
        by_cases h3 : (firstS (fun v => (fieldS v e.field).2) (eventsS x.vars e.var) != 0) = true
        · rw [if_pos h3]; exact okB_int rfl
        · rw [if_neg h3] at h ⊢
          exact of_okB h
      · rename_i h2
        rw [if_neg h2] at h
        have hr : ∀ ev : Ev, (readS ev e).2 = 0 → okB (readS ev e).1 := by
          intro ev h
          unfold readS at h ⊢
          by_cases h4 : (e.op == 2) = true
          · rw [if_pos h4]; exact okB_int rfl
          rw [if_neg h4] at h ⊢
          by_cases h5 : ((fieldS ev e.field).2 == 0) = true
          · rw [if_pos h5] at h ⊢
            by_cases h6 : (vcheckS (fieldS ev e.field).1 != 0) = true
            · rw [if_pos h6]; exact okB_int rfl
            · rw [if_neg h6]; exact okB_of_check (by simpa using h6)
          · rw [if_neg h5]; exact okB_int rfl
        split
        · rename_i h4
          rw [if_pos h4] at h
          split
          · exact okB_int rfl
          · rename_i h5
            rw [if_neg h5] at h
            exact hr _ h
        · rename_i h4
          rw [if_neg h4] at h
          exact hr _ h

theorem apply_okB (op a b : Int) : okB (applyS op a b) := by
  unfold applyS
  repeat' split
  all_goals first | exact okB_int rfl | exact okB_flag _

theorem nodeV_ok {op : Int} {l : List Vl} (h : (nodeV op l).2 = 0) : (∀ v ∈ l, okS op v.kind ((l.map (·.kind)).headD 0) = true) ∧
    nodeV op l = (if op == 9 then flagS (eqV (l.headD v0) ((l[1]?).getD v0)) else applyS op (l.headD v0).num (l.getLastD v0).num, 0) := by
  unfold nodeV at h ⊢
  by_cases h1 : (operandsS op (l.map (·.kind)) != 0) = true
  · rw [if_pos h1] at h; simp at h1 h; exact absurd h h1
  · rw [if_neg h1]
    refine ⟨fun v hv => ?_, ?_⟩
    · have h2 : operandsS op (l.map (·.kind)) = 0 := by simpa using h1
      have := first_zero h2 v.kind (List.mem_map.2 ⟨v, hv, rfl⟩)
      split at this
      · assumption
      · cases this
    · by_cases h9 : (op == 9) = true
      · rw [if_pos h9, if_pos h9]
      · rw [if_neg h9, if_neg h9]
theorem nodeV_okB {op : Int} {l : List Vl} (h : (nodeV op l).2 = 0) : okB (nodeV op l).1 := by
  rw [(nodeV_ok h).2]
  split
  · exact okB_flag _
  · exact apply_okB _ _ _

theorem eval_leaf {x : Evr} {e : Ex} (h : e.args = []) : evalS x e = leafS x e := by rw [evalS_eq, if_pos (by simp [h])]
theorem eval_node {x : Evr} {e : Ex} (hne : e.args ≠ []) (h : (evalS x e).2 = 0) :
    (∀ a ∈ e.args, (evalS x a).2 = 0) ∧ evalS x e = nodeV e.op (e.args.map fun a => (evalS x a).1) := by
  have h0 : ¬ e.args.isEmpty = true := by simpa using hne
  rw [evalS_eq, if_neg h0] at h ⊢
  by_cases h1 : (firstS (fun a => (evalS x a).2) e.args != 0) = true
  · rw [if_pos h1] at h; simp at h1 h; exact absurd h h1
  · rw [if_neg h1]
    exact ⟨first_zero (by simpa using h1), rfl⟩
theorem eval_node' {x : Evr} {e : Ex} (hne : e.args ≠ []) (h : ∀ a ∈ e.args, (evalS x a).2 = 0) : evalS x e = nodeV e.op (e.args.map fun a => (evalS x a).1) := by
  have h0 : ¬ e.args.isEmpty = true := by simpa using hne
  have h1 : firstS (fun a => (evalS x a).2) e.args = 0 := by
    have : ∀ l : List Ex, (∀ a ∈ l, (evalS x a).2 = 0) → firstS (fun a => (evalS x a).2) l = 0 := by
      intro l
      induction l with
      | nil => intro _; rfl
      | cons y r ih =>
        intro hl
        rw [firstS, if_neg (by simp [hl y (by simp)])]
        exact ih fun a ha => hl a (by simp [ha])
    exact this _ h
  rw [evalS_eq, if_neg h0, if_neg (by simp [h1])]

theorem eval_okB {x : Evr} {e : Ex} (hn : nodesS e = 0) (h : (evalS x e).2 = 0) : okB (evalS x e).1 := by
  have hz := nodes_zero hn
  by_cases he : e.args = []
  · rw [eval_leaf he] at h ⊢; exact leaf_okB hz.1 h
  · have h1 := eval_node he h
    rw [h1.2] at h ⊢
    exact nodeV_okB h

theorem eval_const (x : Evr) (v : Vl) : evalS x (constE v) = (v, 0) := by rw [eval_leaf rfl]; rfl
theorem eval_op0 {x : Evr} {a : Ex} (hn : nodeS a = 0) (h : a.op = 0) : evalS x a = (a.val, 0) := by
  rw [eval_leaf (const_valid hn h).2]; unfold leafS; rw [if_pos (by simp [h])]

theorem eval_out {x : Evr} {f : Ex → Ex} {e : Ex} (hf : ∀ a ∈ e.args, (evalS x a).2 = 0 → evalS x (rebS f a) = evalS x a) (h : (evalS x e).2 = 0) : evalS x (outS f e) = evalS x e := by
  by_cases he : e.args = []
  · have : outS f e = e := by
      cases e; simp only at he; subst he; rfl
    rw [this]
  · have h1 := eval_node he h
    have h2 : ∀ a ∈ (outS f e).args, (evalS x a).2 = 0 := by
      intro a ha
      obtain ⟨b, hb, rfl⟩ := List.mem_map.1 ha
      rw [hf b hb (h1.1 b hb)]; exact h1.1 b hb
    rw [eval_node' (by simpa [outS] using he) h2, h1.2]
    show nodeV e.op ((e.args.map (rebS f)).map fun a => (evalS x a).1) = _
    rw [List.map_map]
    congr 1
    exact List.map_congr_left fun a ha => by simp [hf a ha (h1.1 a ha)]

theorem flag_not {v : Vl} (h : okB v) (hk : v.kind = 1) : flagS ((flagS (v.num != 1)).num != 1) = v := by
  have e := h hk
  rw [e]
  cases hb : (v.num == 1) with
  | true => rfl
  | false => rfl

theorem two_args {o : Ex} (h : nodeS o = 0) (ho : o.op = 10 ∨ o.op = 11) : o.args = [arg0 o, arg1 o] := by
  obtain ⟨_, _, h3⟩ := node_shape h
  have : arityS o.op = 2 := by rcases ho with h | h <;> rw [h] <;> decide
  rw [this] at h3
  cases o with | mk op args a b c d =>
  match args, h3 with
  | [x, y], _ => rfl
theorem one_arg {o : Ex} (h : nodeS o = 0) (ho : o.op = 12) : o.args = [arg0 o] := by
  obtain ⟨_, _, h3⟩ := node_shape h
  have : arityS o.op = 1 := by rw [ho]; decide
  rw [this] at h3
  cases o with | mk op args a b c d =>
  match args, h3 with
  | [x], _ => rfl

theorem isC_eval {x : Evr} {a : Ex} {b : Bool} (hn : nodeS a = 0) (h : isC a b = true) : evalS x a = (flagS b, 0) := by
  simp only [isC, Bool.and_eq_true, beq_iff_eq] at h
  have e : a.val = flagS b := (eqV_iff _ _).1 (by simpa [eqV] using h.2)
  rw [eval_op0 hn h.1, e]

theorem neutral_ok {u : Vl} (h : u = flagS (u.num == 1)) {op : Int} (ho : op = 10 ∨ op = 11) : applyS op (flagS (op == 10)).num u.num = u ∧ applyS op u.num (flagS (op == 10)).num = u := by
  rcases ho with rfl | rfl
  · refine ⟨?_, ?_⟩
    · show flagS (true && (u.num == 1)) = u
      rw [Bool.true_and]; exact h.symm
    · show flagS ((u.num == 1) && true) = u
      rw [Bool.and_true]; exact h.symm
  · refine ⟨?_, ?_⟩
    · show flagS (false || (u.num == 1)) = u
      rw [Bool.false_or]; exact h.symm
    · show flagS ((u.num == 1) || false) = u
      rw [Bool.or_false]; exact h.symm

theorem fnode_value {x : Evr} {o : Ex} (hv : nodesS o = 0) (h : (evalS x o).2 = 0) : evalS x (fnodeS xz o) = evalS x o := by
  have hz := nodes_zero hv
  by_cases c1 : (knownS' xz o).2 = true
  · rw [show fnodeS xz o = constE (knownS' xz o).1 by unfold fnodeS; rw [if_pos c1]]
    unfold knownS' at c1 ⊢
    by_cases ha : (o.args.any fun a => a.op != 0) = true
    · rw [if_pos ha] at c1; cases c1
    rw [if_neg ha] at c1 ⊢
    by_cases hl : ((o.args.length : Int) == 0) = true
    · rw [if_pos hl] at c1; cases c1
    rw [if_neg hl] at c1 ⊢
    have hne : o.args ≠ [] := by intro e; rw [e] at hl; exact hl rfl
    have hop : ∀ a ∈ o.args, a.op = 0 := by
      intro a hm
      by_cases e : a.op = 0
      · exact e
      · exact absurd (List.any_eq_true.2 ⟨a, hm, by simp [e]⟩) ha
    have hall : ∀ y : Evr, ∀ a ∈ o.args, evalS y a = (a.val, 0) := fun y a hm => eval_op0 (nodes_zero (hz.2 a hm)).1 (hop a hm)
    rw [eval_const]
    have e1 : evalS x o = evalS xz o := by
      rw [eval_node' hne fun a hm => by rw [hall x a hm], eval_node' hne fun a hm => by rw [hall xz a hm]]
      congr 1
      exact List.map_congr_left fun a hm => by rw [hall x a hm, hall xz a hm]
    rw [e1] at h ⊢
    exact Prod.ext rfl h.symm
  by_cases c2 : (o.op == 12 && (arg0 o).op == 12) = true
  · rw [show fnodeS xz o = arg0 (arg0 o) by unfold fnodeS; rw [if_neg c1, if_pos c2]]
    simp only [Bool.and_eq_true, beq_iff_eq] at c2
    have m0 := arg0_mem (len_not hz.1 c2.1)
    have hz0 := nodes_zero (hz.2 _ m0)
    have m1 := arg0_mem (len_not hz0.1 c2.2)
    have e0 := one_arg hz.1 c2.1
    have e1 := one_arg hz0.1 c2.2
    have n0 : o.args ≠ [] := by rw [e0]; simp
    have n1 : (arg0 o).args ≠ [] := by rw [e1]; simp
    have h1 := eval_node n0 h
    have h2 := eval_node n1 (h1.1 _ m0)
    have k1 : (nodeV (arg0 o).op ((arg0 o).args.map fun a => (evalS x a).1)).2 = 0 := by rw [← h2.2]; exact h1.1 _ m0
    have k2 := nodeV_ok k1
    have k0 := nodeV_ok (by rw [← h1.2]; exact h)
    rw [h1.2, k0.2, e0, c2.1]
    simp only [List.map_cons, List.map_nil]
    rw [h2.2, k2.2, e1, c2.2]
    simp only [List.map_cons, List.map_nil]
    have hk := k2.1 (evalS x (arg0 (arg0 o))).1 (by rw [e1]; simp)
    rw [c2.2] at hk
    have hkk : (evalS x (arg0 (arg0 o))).1.kind = 1 := by simpa [okS] using hk
    have hb := eval_okB (hz0.2 _ m1) (h2.1 _ m1)
    have := flag_not hb hkk
    refine Prod.ext ?_ (h2.1 _ m1)
    exact this.symm
  by_cases c3 : (o.op != 10 && o.op != 11) = true
  · rw [show fnodeS xz o = o by unfold fnodeS; rw [if_neg c1, if_neg c2, if_pos c3]]
  have ho : o.op = 10 ∨ o.op = 11 := by
    simp only [Bool.and_eq_true, bne_iff_ne, ne_eq, not_and, Decidable.not_not] at c3
    omega
  have e2 := two_args hz.1 ho
  have n0 : o.args ≠ [] := by rw [e2]; simp
  have m0 : arg0 o ∈ o.args := by rw [e2]; simp
  have m1 : arg1 o ∈ o.args := by rw [e2]; simp
  have h1 := eval_node n0 h
  have k0 := nodeV_ok (by rw [← h1.2]; exact h)
  have hk : ∀ a ∈ o.args, (evalS x a).1.kind = 1 := by
    intro a hm
    have := k0.1 (evalS x a).1 (List.mem_map.2 ⟨a, hm, rfl⟩)
    rcases ho with e | e <;> rw [e] at this <;> simpa [okS] using this
  have hb0 := eval_okB (hz.2 _ m0) (h1.1 _ m0) (hk _ m0)
  have hb1 := eval_okB (hz.2 _ m1) (h1.1 _ m1) (hk _ m1)
  have hval : evalS x o = (applyS o.op (evalS x (arg0 o)).1.num (evalS x (arg1 o)).1.num, 0) := by
    rw [h1.2, k0.2, e2]
    have h9 : (o.op == 9) = false := by rcases ho with e | e <;> rw [e] <;> rfl
    simp only [h9, Bool.false_eq_true, if_false]
    rfl
  have hc0 : ∀ b, isC (arg0 o) b = true → (evalS x (arg0 o)).1 = flagS b := fun b hb => by rw [isC_eval (nodes_zero (hz.2 _ m0)).1 hb]
  have hc1 : ∀ b, isC (arg1 o) b = true → (evalS x (arg1 o)).1 = flagS b := fun b hb => by rw [isC_eval (nodes_zero (hz.2 _ m1)).1 hb]
  have hflag : ∀ b : Bool, (flagS b).num = if b then 1 else 0 := fun b => by cases b <;> rfl
  by_cases c4 : isC (arg0 o) (o.op == 10) = true
  · rw [show fnodeS xz o = arg1 o by unfold fnodeS; rw [if_neg c1, if_neg c2, if_neg c3, if_pos c4], hval, hc0 _ c4]
    refine Prod.ext ?_ (h1.1 _ m1)
    exact (neutral_ok hb1 ho).1.symm
  by_cases c5 : isC (arg1 o) (o.op == 10) = true
  · rw [show fnodeS xz o = arg0 o by unfold fnodeS; rw [if_neg c1, if_neg c2, if_neg c3, if_neg c4, if_pos c5], hval, hc1 _ c5]
    refine Prod.ext ?_ (h1.1 _ m0)
    exact (neutral_ok hb0 ho).2.symm
  by_cases c6 : (isC (arg0 o) (!(o.op == 10)) || isC (arg1 o) (!(o.op == 10))) = true
  · rw [show fnodeS xz o = constE (flagS (!(o.op == 10))) by unfold fnodeS; rw [if_neg c1, if_neg c2, if_neg c3, if_neg c4, if_neg c5, if_pos c6], eval_const, hval]
    refine Prod.ext ?_ rfl
    rcases Bool.or_eq_true_iff.1 c6 with c | c
    · rw [hc0 _ c]
      rcases ho with e | e <;> rw [e] <;> simp [applyS, flagS]
    · rw [hc1 _ c]
      rcases ho with e | e <;> rw [e] <;> simp [applyS, flagS]
  · rw [show fnodeS xz o = o by unfold fnodeS; rw [if_neg c1, if_neg c2, if_neg c3, if_neg c4, if_neg c5, if_neg c6]]

theorem fold_value {x : Evr} {e : Ex} (hv : nodesS e = 0) (h : (evalS x e).2 = 0) : evalS x (rebS (fnodeS xz) e) = evalS x e := by
  induction e using Ex.ind with
  | h e ih =>
    have hz := nodes_zero hv
    have h1 := eval_out (x := x) (f := fnodeS xz) (e := e) (fun a ha h0 => ih a ha (hz.2 a ha) h0) h
    rw [rebS_eq, fnode_value (reb_ok (f := fnodeS xz) (fun e h => fnode_ok xz h) e hv).1.1 (by rw [h1]; exact h), h1]

/-- Eval's answer is kept -/
theorem Fold_value {x : Evr} {e : Ex} (h : checkS e = 0) (hv : (EvalS x e).2 = 0) : EvalS x (rebS (fnodeS xz) e) = EvalS x e := by
  unfold EvalS at hv ⊢
  have hc := fold_check h
  rw [if_neg (by rw [h]; decide)] at hv
  rw [if_neg (c := (checkS e != 0) = true) (by rw [h]; decide), if_neg (by rw [hc]; decide), fold_value (check_parts h).2.2 hv]

end Go.Proofs.Ytkkacfnkjiijkaa
