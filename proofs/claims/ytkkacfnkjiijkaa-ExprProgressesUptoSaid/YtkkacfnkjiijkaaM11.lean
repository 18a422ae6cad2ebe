/-
  An expression that has a kind has a value of this kind. No condition.
-/
import Derived.Test.YtkkacfnkjiijkaaM9
import Derived.Test.YtkkacfnkjiijkaaM10
namespace Go.Proofs.Ytkkacfnkjiijkaa
open Go Go.Aw
set_option linter.unusedVariables false
set_option linter.unusedSimpArgs false

def Good (v : Vl) (k : Int) : Prop := v.kind = k ∧ vcheckS v = 0
def SuitEv (s : Sc) (ev : Ev) : Prop := ev.values.length = s.fields.length ∧ ∀ (k : Nat) (f : Fi), s.fields[k]? = some f → ∃ w, ev.values[k]? = some w ∧ Good w f.kind
def Suits (types : List Sc) (vars : List Va) (env : List (List Ev)) : Prop :=
  env.length = vars.length ∧ ∀ (i : Nat) (v : Va), vars[i]? = some v → ∃ s ev, types[v.type.toNat]? = some s ∧ env[i]? = some [ev] ∧ SuitEv s ev

theorem flds_of {types : List Sc} {vars : List Va} {i : Int} {v : Va} {s : Sc} (hv : vars[i.toNat]? = some v) (hs : types[v.type.toNat]? = some s) : fldsS types vars i = s.fields := by simp [fldsS, hv, hs]

theorem wrong_of {k : Int} {w : Vl} (h : vcheckS w = 0) (hs : esuitsS k w = true) : wrongS k w = 0 := by
  have : asuitsS k w = true := by
    unfold esuitsS at hs; unfold asuitsS
    simp only [Bool.or_eq_true, beq_iff_eq, Bool.and_eq_true, bne_iff_ne] at hs ⊢
    omega
  unfold wrongS
  simp [h, this]

theorem total_one {k : Int} {w o : Vl} (hk : 1 ≤ k ∧ k ≤ 5) (hw : vcheckS w = 0) (hs : esuitsS k w = true) (ho : wrongS k o = 0) : ofS k [w] o = (w, 0) := by
  have hkn : knownS k = true := by simp [knownS]; omega
  have h1 := wrong_of hw hs
  have h2 : firstS (wrongS k) [w] = 0 := by simp [firstS, h1]
  have h0 : acheckS ⟨k, 0, v0⟩ = 0 := by
    unfold acheckS
    simp [hkn, isV0, v0]
  have hst : foldS k [w] = ⟨k, 1, w⟩ := by
    have : (k == 0) = false := by simp; omega
    simp [foldS, stepS, mergedS, singleS, this]
  have ha : acheckS (foldS k [w]) = 0 := fold_ok [w] ⟨k, 0, v0⟩ h0 rfl h2 (by simp)
  unfold ofS
  rw [if_neg (by simp [hkn]), if_neg (by simp), if_neg (by rw [h2]; decide)]
  rw [hst] at ha ⊢
  unfold resultS
  rw [if_neg (by rw [ha]; decide), if_neg (by simp only [ho]; decide)]
  have hk0 : (k == 0) = false := by simp; omega
  simp [hk0]

theorem total_wrong {e : Ex} (h : nodeS e = 0) (h4 : e.op = 4) : wrongS e.kind e.val = 0 ∧ 1 ≤ e.kind ∧ e.kind ≤ 5 := by
  unfold nodeS at h
  split at h
  · cases h
  split at h
  · cases h
  split at h
  · cases h
  split at h
  · cases h
  rename_i h5
  have hk : 1 ≤ e.kind ∧ e.kind ≤ 5 := by
    simp [h4] at h5; omega
  rw [if_pos (by simp [h4])] at h
  by_cases hc : constS e = 0
  · refine ⟨?_, hk⟩
    unfold constS at hc
    by_cases hv : vcheckS e.val = 0
    · rw [if_neg (by simp [hv])] at hc
      by_cases hs : esuitsS e.kind e.val = true
      · exact wrong_of hv hs
      · exfalso
        rw [if_pos (by simp [h4]; left; simpa using hs)] at hc
        cases hc
    · rw [if_pos (by simp [hv])] at hc; exact absurd hc hv
  · rw [if_pos (by simp [hc])] at h; exact absurd h hc

theorem flag_kind (b : Bool) : (flagS b).kind = 1 := by cases b <;> rfl
theorem apply_kind (op a b : Int) (h9 : op ≠ 9) : (applyS op a b).kind = resK op := by
  unfold applyS resK
  repeat' split
  all_goals first | rfl | exact flag_kind _ | skip
  all_goals simp_all

theorem leaf_read {env : List (List Ev)} {ev : Ev} {e : Ex} (hevs : eventsS env e.var = [ev]) (hown : (e.var != -1) = true) (h0 : ¬ (e.op == 0) = true) (h3 : ¬ e.op = 3) (h4 : ¬ e.op = 4) : leafS ⟨env, -1, ev0⟩ e = readS ev e := by
  unfold leafS
  rw [if_neg h0, if_neg (by simp [h3]), if_neg (by simp [h4]), if_pos hown]
  simp only [hevs]
  rfl

theorem progress {types : List Sc} {vars : List Va} {env : List (List Ev)} (hS : Suits types vars env) (e : Ex) (hn : nodesS e = 0) (hk : (kindS types vars e).2 = 0) :
    (evalS ⟨env, -1, ev0⟩ e).2 = 0 ∧ (evalS ⟨env, -1, ev0⟩ e).1.kind = (kindS types vars e).1 := by
  induction e using Ex.ind with
  | h e ih =>
    have hz := nodes_zero hn
    have hvr := node_var hz.1
    have hfr := node_field hz.1
    by_cases ha : e.args = []
    · rw [kindS_eq types vars e, if_pos (by simp [ha])] at hk ⊢
      rw [eval_leaf ha]
      unfold leafK at hk ⊢
      by_cases h0 : (e.op == 0) = true
      · rw [if_pos h0] at hk ⊢
        unfold leafS; rw [if_pos h0]; exact ⟨rfl, rfl⟩
      rw [if_neg h0] at hk ⊢
      by_cases h1 : decide ((vars.length : Int) ≤ e.var) = true
      · rw [if_pos h1] at hk; cases hk
      rw [if_neg h1] at hk ⊢
      have hlt : e.var < (vars.length : Int) := by simp at h1; omega
      obtain ⟨v, hv⟩ := get_int (l := vars) hvr.1 hlt
      obtain ⟨s, ev, hs, hev, hse⟩ := hS.2 _ v hv
      have hel : e.var < (env.length : Int) := by rw [hS.1]; exact hlt
      have hevs : eventsS env e.var = [ev] := by
        unfold eventsS
        rw [if_neg (by simp; omega), hev]; rfl
      have hown : (e.var != -1) = true := by simp; omega
      have hfl : fldsS types vars e.var = s.fields := flds_of hv hs
      rw [hfl] at hk ⊢
      by_cases h3 : e.op = 3
      · unfold leafS
        rw [if_neg h0, if_pos (by simp [h3])]
        rw [if_pos (by simp [h3])]
        exact ⟨rfl, rfl⟩
      by_cases h2 : e.op = 2
      · rw [leaf_read hevs hown h0 h3 (by omega), if_pos (by simp [h2])]
        unfold readS
        rw [if_pos (by simp [h2])]
        exact ⟨rfl, rfl⟩
      rw [if_neg (by simp [h2, h3])] at hk ⊢
      by_cases h4 : decide ((s.fields.length : Int) ≤ e.field) = true
      · rw [if_pos h4] at hk; cases hk
      rw [if_neg h4] at hk ⊢
      obtain ⟨f, hf⟩ := get_int (l := s.fields) hfr (by simp at h4; omega)
      obtain ⟨w, hw, hgw⟩ := hse.2 _ f hf
      have hka : kindAt s.fields e.field = f.kind := by simp [kindAt, hf]
      have hfs : fieldS ev e.field = (w, 0) := by
        unfold fieldS
        rw [if_neg (by rw [hse.1]; exact h4), hw]; rfl
      rw [hka] at hk ⊢
      by_cases h5 : e.op = 4
      · by_cases h6 : (e.op == 4 && (f.kind != e.val.kind || !esuitsS e.kind ⟨f.kind, 0, []⟩)) = true
        · rw [if_pos h6] at hk; cases hk
        rw [if_neg h6]
        have htw := total_wrong hz.1 h5
        have hes : esuitsS e.kind w = true := by
          simp [h5] at h6
          have := h6.2
          unfold esuitsS at this ⊢
          rw [hgw.1]; exact this
        unfold leafS totalS
        rw [if_neg h0, if_neg (by simp [h3]), if_pos (by simp [h5]), hevs]
        have e1 : firstS (fun v => (fieldS v e.field).2) [ev] = 0 := by simp [firstS, hfs]
        rw [if_neg (by rw [e1]; decide)]
        have e2 : ([ev].map fun v => (fieldS v e.field).1) = [w] := by simp [hfs]
        rw [e2, total_one ⟨htw.2.1, htw.2.2⟩ hgw.2 hes htw.1]
        exact ⟨rfl, hgw.1⟩
      · have h6 : ¬ (e.op == 4 && (f.kind != e.val.kind || !esuitsS e.kind ⟨f.kind, 0, []⟩)) = true := by simp [h5]
        rw [if_neg h6]
        rw [leaf_read hevs hown h0 h3 h5]
        unfold readS
        rw [if_neg (by simp [h2]), hfs, if_pos (by rfl), if_neg (by rw [hgw.2]; decide)]
        exact ⟨rfl, hgw.1⟩
    · have hne : ¬ e.args.isEmpty = true := by simpa using ha
      rw [kindS_eq types vars e, if_neg hne] at hk ⊢
      by_cases h1 : (firstS (fun a => (kindS types vars a).2) e.args != 0) = true
      · rw [if_pos h1] at hk; simp at h1 hk; exact absurd hk h1
      rw [if_neg h1] at hk ⊢
      have hka := first_zero (f := fun a => (kindS types vars a).2) (l := e.args) (by simpa using h1)
      have hih : ∀ a ∈ e.args, _ := fun a hm => ih a hm (hz.2 a hm) (hka a hm)
      by_cases h2 : (operandsS e.op (e.args.map fun a => (kindS types vars a).1) != 0) = true
      · rw [if_pos h2] at hk; simp at h2 hk; exact absurd hk h2
      rw [if_neg h2]
      have hkinds : (e.args.map fun a => (evalS ⟨env, -1, ev0⟩ a).1).map (·.kind) = e.args.map fun a => (kindS types vars a).1 := by
        rw [List.map_map]
        exact List.map_congr_left fun a hm => (hih a hm).2
      rw [eval_node' ha fun a hm => (hih a hm).1]
      unfold nodeV
      rw [hkinds, if_neg h2]
      by_cases h9 : (e.op == 9) = true
      · rw [if_pos h9]
        refine ⟨rfl, ?_⟩
        rw [flag_kind]
        simp only [beq_iff_eq] at h9
        rw [h9]; rfl
      · rw [if_neg h9]
        exact ⟨rfl, apply_kind _ _ _ (by simpa using h9)⟩

theorem Progress {types : List Sc} {vars : List Va} {env : List (List Ev)} {e : Ex} (hS : Suits types vars env) (hk : (KindS types vars e).2 = 0) :
    checkS e = 0 ∧ (EvalS ⟨env, -1, ev0⟩ e).2 = 0 ∧ (EvalS ⟨env, -1, ev0⟩ e).1.kind = (KindS types vars e).1 ∧ varsE types vars = 0 := by
  unfold KindS at hk ⊢
  by_cases h1 : (allTS types != 0) = true
  · rw [if_pos h1] at hk; simp at h1 hk; exact absurd hk h1
  rw [if_neg h1] at hk ⊢
  by_cases h2 : (varsE types vars != 0) = true
  · rw [if_pos h2] at hk; simp at h2 hk; exact absurd hk h2
  rw [if_neg h2] at hk ⊢
  by_cases h3 : (checkS e != 0) = true
  · rw [if_pos h3] at hk; simp at h3 hk; exact absurd hk h3
  rw [if_neg h3] at hk ⊢
  have hc : checkS e = 0 := by simpa using h3
  have hp := progress hS e (check_parts hc).2.2 hk
  unfold EvalS
  rw [if_neg h3]
  exact ⟨hc, hp.1, hp.2, by simpa using h2⟩

theorem not_truth {x : Evr} {e : Ex} (hc : checkS e = 0) (hn : checkS ⟨12, [e], 0, 0, 0, v0⟩ = 0) (hv : (EvalS x e).2 = 0) (hk : (EvalS x e).1.kind = 1) : TruthS x ⟨12, [e], 0, 0, 0, v0⟩ = !TruthS x e := by
  have h1 : EvalS x e = evalS x e := by unfold EvalS; rw [if_neg (by rw [hc]; decide)]
  rw [h1] at hv hk
  have hb := eval_okB (check_parts hc).2.2 hv hk
  have h2 : EvalS x ⟨12, [e], 0, 0, 0, v0⟩ = (flagS ((evalS x e).1.num != 1), 0) := by
    unfold EvalS
    rw [if_neg (by rw [hn]; decide), eval_node' (by simp) (by simpa using hv)]
    show nodeV 12 [(evalS x e).1] = _
    unfold nodeV
    have : operandsS 12 ([(evalS x e).1].map (·.kind)) = 0 := by simp [operandsS, firstS, okS, hk]
    rw [if_neg (by rw [this]; decide)]
    rfl
  unfold TruthS
  rw [h2, h1, hv, hb]
  cases (evalS x e).1.num == 1 <;> rfl

end Go.Proofs.Ytkkacfnkjiijkaa
