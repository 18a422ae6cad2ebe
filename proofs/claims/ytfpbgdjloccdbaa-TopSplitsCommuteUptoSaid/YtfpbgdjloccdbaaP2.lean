/-
  Splitting sorted events by a key, and merging the parts again. No condition.
-/
import Derived.Test.YtfpbgdjloccdbaaP1
import Derived.Test.YtfpbgdjloccdbaaW12
namespace Go.Proofs.Ytfpbgdjloccdbaa
open Go Go.Aw
set_option linter.unusedVariables false
set_option linter.unusedSimpArgs false

def hasK (key : List Int) (e : Ev) : Bool := (keyed e key).2.1
def kap (key : List Int) (e : Ev) : Vl := (keyed e key).1
def isK (key : List Int) (v : Vl) (e : Ev) : Bool := hasK key e && eqV (kap key e) v
def inK (key : List Int) (vs : List Vl) (e : Ev) : Bool := hasK key e && vs.any fun v => eqV (kap key e) v
theorem eqV_comm (v w : Vl) : eqV v w = eqV w v := by rw [Bool.eq_iff_iff, eqV_iff, eqV_iff]; exact eq_comm
theorem isK_iff (key : List Int) (v : Vl) (e : Ev) : isK key v e = true ↔ hasK key e = true ∧ kap key e = v := by unfold isK; rw [Bool.and_eq_true, eqV_iff]
theorem inK_iff (key : List Int) (vs : List Vl) (e : Ev) : inK key vs e = true ↔ hasK key e = true ∧ kap key e ∈ vs := by
  unfold inK
  rw [Bool.and_eq_true, List.any_eq_true]
  constructor
  · rintro ⟨h, v, hv, he⟩; exact ⟨h, by rw [(eqV_iff _ _).1 he]; exact hv⟩
  · rintro ⟨h, hv⟩; exact ⟨h, _, hv, (eqV_iff _ _).2 rfl⟩
/-! ### The parts -/
theorem put_part (v w : Vl) (e : Ev) : ∀ ps : List (Vl × List Ev), partOf (putS v e ps) w = partOf ps w ++ if eqV w v then [e] else []
  | [] => by
    unfold putS partOf
    simp only [List.find?_cons, List.find?_nil]
    cases eqV w v <;> rfl
  | p :: r => by
    have ih := put_part v w e r
    unfold partOf at ih ⊢
    rw [putS]
    cases hv : eqV v p.1 with
    | true =>
      have hvp := (eqV_iff _ _).1 hv
      simp only [if_true, List.find?_cons]
      rw [← hvp]
      cases eqV w v <;> simp
    | false =>
      simp only [Bool.false_eq_true, if_false, List.find?_cons]
      cases hw : eqV w p.1 with
      | true =>
        have hwp := (eqV_iff _ _).1 hw
        have : eqV w v = false := by
          rw [Bool.eq_false_iff]; intro h
          rw [(eqV_iff _ _).1 h] at hwp
          rw [Bool.eq_false_iff] at hv
          exact hv ((eqV_iff _ _).2 hwp)
        rw [this]; simp
      | false => exact ih
theorem put_keys (v : Vl) (e : Ev) : ∀ ps : List (Vl × List Ev), (∀ w, w ∈ (putS v e ps).map (·.1) ↔ w = v ∨ w ∈ ps.map (·.1)) ∧ ((ps.map (·.1)).Nodup → ((putS v e ps).map (·.1)).Nodup)
  | [] => by simp [putS]
  | p :: r => by
    obtain ⟨h1, h2⟩ := put_keys v e r
    rw [putS]
    cases hv : eqV v p.1 with
    | true =>
      have hvp := (eqV_iff _ _).1 hv
      simp only [if_true, List.map_cons]
      refine ⟨fun w => ?_, fun h => h⟩
      rw [List.mem_cons, hvp]
      constructor
      · rintro (h | h)
        · exact .inl h
        · exact .inr (by simp [h])
      · rintro (h | h)
        · exact .inl h
        · simpa using h
    | false =>
      have hne : v ≠ p.1 := fun h => by rw [Bool.eq_false_iff] at hv; exact hv ((eqV_iff _ _).2 h)
      simp only [Bool.false_eq_true, if_false, List.map_cons]
      refine ⟨fun w => ?_, fun h => ?_⟩
      · rw [List.mem_cons, h1 w, List.mem_cons]
        constructor
        · rintro (h | h | h)
          · exact .inr (.inl h)
          · exact .inl h
          · exact .inr (.inr h)
        · rintro (h | h | h)
          · exact .inr (.inl h)
          · exact .inl h
          · exact .inr (.inr h)
      · rw [List.nodup_cons] at h ⊢
        refine ⟨fun hm => ?_, h2 h.2⟩
        rcases (h1 p.1).1 hm with h3 | h3
        · exact hne h3.symm
        · exact h.1 h3
theorem split_spec (key : List Int) : ∀ (l done : List Ev) (ps : List (Vl × List Ev)), (∀ e ∈ l, (keyed e key).2.2 = 0) → (ps.map (·.1)).Nodup → (∀ v, partOf ps v = done.filter (isK key v)) → (∀ v, v ∈ ps.map (·.1) ↔ ∃ e ∈ done, isK key v e = true) →
    (splitGo key ps l).2 = 0 ∧ ((splitGo key ps l).1.map (·.1)).Nodup ∧ (∀ v, partOf (splitGo key ps l).1 v = (done ++ l).filter (isK key v)) ∧ (∀ v, v ∈ (splitGo key ps l).1.map (·.1) ↔ ∃ e ∈ done ++ l, isK key v e = true)
  | [], done, ps, _, h1, h2, h3 => by
    rw [List.append_nil]
    exact ⟨rfl, h1, h2, h3⟩
  | x :: r, done, ps, h0, h1, h2, h3 => by
    have hx : (keyed x key).2.2 = 0 := h0 x (by simp)
    rw [splitGo, hx]
    have e0 : done ++ x :: r = (done ++ [x]) ++ r := by simp
    cases hk : (keyed x key).2.1 with
    | false =>
      have hf : ∀ v, isK key v x = false := fun v => by unfold isK hasK; rw [hk]; rfl
      have ih := split_spec key r (done ++ [x]) ps (fun e he => h0 e (by simp [he])) h1 (fun v => by rw [List.filter_append, h2 v]; simp [hf v]) (fun v => by
        rw [h3 v]
        constructor
        · rintro ⟨e, he, hi⟩; exact ⟨e, by simp [he], hi⟩
        · rintro ⟨e, he, hi⟩
          rcases List.mem_append.1 he with h | h
          · exact ⟨e, h, hi⟩
          · rw [List.mem_singleton.1 h, hf v] at hi; cases hi)
      rw [e0]
      simpa using ih
    | true =>
      obtain ⟨p1, p2⟩ := put_keys (keyed x key).1 x ps
      have hself : isK key (keyed x key).1 x = true := (isK_iff _ _ _).2 ⟨hk, rfl⟩
      have hiv : ∀ v, isK key v x = eqV v (keyed x key).1 := fun v => by unfold isK hasK kap; rw [hk, eqV_comm]; rfl
      have ih := split_spec key r (done ++ [x]) (putS (keyed x key).1 x ps) (fun e he => h0 e (by simp [he])) (p2 h1) (fun v => by
        rw [put_part, List.filter_append, h2 v, ← hiv v]
        cases h : isK key v x <;> simp [h]) (fun v => by
        rw [p1 v, h3 v]
        constructor
        · rintro (rfl | ⟨e, he, hi⟩)
          · exact ⟨x, by simp, hself⟩
          · exact ⟨e, by simp [he], hi⟩
        · rintro ⟨e, he, hi⟩
          rcases List.mem_append.1 he with h | h
          · exact .inr ⟨e, h, hi⟩
          · rw [List.mem_singleton.1 h, hiv v] at hi
            exact .inl ((eqV_iff _ _).1 hi))
      rw [e0]
      simpa using ih
/-- what a stream is split into -/
theorem split_ok {key : List Int} {S : List Ev} (hs : streamS S = 0) (h0 : ∀ e ∈ S, (keyed e key).2.2 = 0) :
    (splitS S key).2.2 = 0 ∧ (splitS S key).1.Nodup ∧ (splitS S key).2.1 = (splitS S key).1.map (fun v => S.filter (isK key v)) ∧ (∀ v, v ∈ (splitS S key).1 ↔ ∃ e ∈ S, isK key v e = true) := by
  obtain ⟨h1, h2, h3, h4⟩ := split_spec key S [] [] h0 (by simp) (fun v => rfl) (by simp)
  have e : splitS S key = (sortS v0 vLt ((splitGo key [] S).1.map (·.1)), (sortS v0 vLt ((splitGo key [] S).1.map (·.1))).map (partOf (splitGo key [] S).1), 0) := by
    unfold splitS; rw [hs, h1]; rfl
  have hp : (sortS v0 vLt ((splitGo key [] S).1.map (·.1))).Perm ((splitGo key [] S).1.map (·.1)) := sort_perm _
  rw [e]
  refine ⟨rfl, hp.nodup_iff.2 h2, ?_, fun v => ?_⟩
  · refine List.map_congr_left fun v _ => ?_
    rw [h3 v]; rfl
  · show v ∈ sortS v0 vLt _ ↔ _
    rw [hp.mem_iff, h4 v]; rfl
/-! ### Counting -/
theorem filter_or {α : Type} (p q r : α → Bool) : ∀ l : List α, (∀ e ∈ l, r e = (p e || q e) ∧ (p e && q e) = false) → (l.filter r).length = (l.filter p).length + (l.filter q).length
  | [], _ => rfl
  | x :: l, h => by
    have ih := filter_or p q r l fun e he => h e (by simp [he])
    obtain ⟨h1, h2⟩ := h x (by simp)
    rw [List.filter_cons, List.filter_cons, List.filter_cons, h1]
    cases hp : p x <;> cases hq : q x <;> simp_all <;> omega
theorem filter_all {α : Type} {p : α → Bool} {l : List α} (h : ∀ e ∈ l, p e = true) : l.filter p = l := List.filter_eq_self.2 h
/-- the step of merging -/
theorem merge_step {S : List Ev} {key : List Int} {vs : List Vl} {v : Vl} (hS : SS S) (hc : Clean S) (hp : ∀ e ∈ S, placedS e = true) (hl : S.length ≤ 4096) :
    mergeE (S.filter (inK key vs)) (S.filter (isK key v)) = (S.filter (inK key (vs ++ [v])), 0) := by
  have sub : ∀ {f : Ev → Bool} {e : Ev}, e ∈ S.filter f → e ∈ S := fun h => (List.mem_filter.1 h).1
  have len : ∀ f : Ev → Bool, (S.filter f).length ≤ 4096 := fun f => Nat.le_trans (List.length_filter_le ..) hl
  have ok : ∀ f : Ev → Bool, streamS (S.filter f) = 0 := fun f => stream_ok (hS.filter f) (hc.sub fun e he => sub he) (fun e he => hp e (sub he)) (len f)
  have hsrt : sortedS (S.filter (inK key vs) ++ S.filter (isK key v)) = some (S.filter (inK key (vs ++ [v]))) := by
    refine sorted_eq (hc.sub fun e he => ?_) (hS.filter _) fun e => ?_
    · rcases List.mem_append.1 he with h | h <;> exact sub h
    · rw [List.mem_append, List.mem_filter, List.mem_filter, List.mem_filter, inK_iff, inK_iff, isK_iff]
      simp only [List.mem_append, List.mem_singleton]
      constructor
      · rintro ⟨h1, h2, h3 | h3⟩
        · exact .inl ⟨h1, h2, h3⟩
        · exact .inr ⟨h1, h2, h3⟩
      · rintro (⟨h1, h2, h3⟩ | ⟨h1, h2, h3⟩)
        · exact ⟨h1, h2, .inl h3⟩
        · exact ⟨h1, h2, .inr h3⟩
  have h4 : decide (4096 < (((S.filter (inK key (vs ++ [v]))).length : Nat) : Int)) = false := by
    have := len (inK key (vs ++ [v])); simp; omega
  rw [mergeE_eq, ok, ok]
  unfold concE
  rw [hsrt]
  simp only [h4]
  rfl
theorem part_len {S : List Ev} {key : List Int} {vs : List Vl} {v : Vl} (hv : v ∉ vs) : (S.filter (inK key (vs ++ [v]))).length = (S.filter (inK key vs)).length + (S.filter (isK key v)).length := by
  refine filter_or _ _ _ S fun e _ => ⟨?_, ?_⟩
  · rw [Bool.eq_iff_iff, Bool.or_eq_true, inK_iff, inK_iff, isK_iff]
    simp only [List.mem_append, List.mem_singleton]
    constructor
    · rintro ⟨h1, h2 | h2⟩
      · exact .inl ⟨h1, h2⟩
      · exact .inr ⟨h1, h2⟩
    · rintro (⟨h1, h2⟩ | ⟨h1, h2⟩)
      · exact ⟨h1, .inl h2⟩
      · exact ⟨h1, .inr h2⟩
  · rw [Bool.eq_false_iff, Ne, Bool.and_eq_true, inK_iff, isK_iff]
    rintro ⟨⟨_, h1⟩, _, h2⟩
    rw [h2] at h1; exact hv h1
/-! ### What holds of checked events -/
structure Fit (types : List Sc) (key : List Int) (l : List Ev) : Prop where
  len : l.length ≤ 12
  ev : ∀ e ∈ l, evCheckE types e = 0
  ck : ckeyE types key = 0
  ne : ((key.length : Int) == 0) = false
theorem Fit.keys {types : List Sc} {key : List Int} {l : List Ev} (h : Fit types key l) : key.length = types.length ∧ keysS key types = 0 := by
  have := h.ck
  unfold ckeyE at this
  rw [ifF h.ne] at this
  split at this
  · cases this
  · rename_i h2
    exact ⟨len_eq (Bool.eq_false_iff.2 h2), this⟩
theorem ev_placed {types : List Sc} {e : Ev} (h : evCheckE types e = 0) : placedS e = true := by
  unfold evCheckE at h
  split at h
  · rename_i h2; rw [h] at h2; cases h2
  · unfold validE at h
    split at h
    · rename_i h2; rw [h] at h2; cases h2
    · rename_i h2
      have h3 : numbersE e = 0 := by simpa using h2
      unfold numbersE at h3
      unfold placedS
      split at h3
      · cases h3
      · rename_i h4
        split at h3
        · cases h3
        · rename_i h5
          simp at h4 h5 ⊢
          omega
theorem keys_ge : ∀ {key : List Int} {types : List Sc} {i : Nat} {k : Int} {s : Sc}, keysS key types = 0 → key[i]? = some k → types[i]? = some s → -1 ≤ k ∧ k < s.fields.length
  | [], _, _, _, _, _, h, _ => by simp at h
  | _ :: _, [], _, _, _, _, _, h => by simp at h
  | a :: r, c :: t, i, k, s, h, h1, h2 => by
    rw [keysS] at h
    split at h
    · rename_i h3; rw [h] at h3; cases h3
    · rename_i h3
      cases i with
      | zero =>
        simp only [List.getElem?_cons_zero, Option.some.injEq] at h1 h2
        subst h1 h2
        have h4 : keyE a c = 0 := by simpa using h3
        unfold keyE at h4
        split at h4
        · cases h4
        · rename_i h5
          simp only [Bool.or_eq_true, decide_eq_true_eq, not_or] at h5
          omega
      | succ i => exact keys_ge h (by simpa using h1) (by simpa using h2)
theorem Fit.one {types : List Sc} {key : List Int} {l : List Ev} (h : Fit types key l) {e : Ev} (he : e ∈ l) :
    (keyed e key).2.2 = 0 ∧ evKey types key e = keyed e key ∧ hasK key e = decide (0 ≤ kOf key e) ∧ (0 ≤ e.type ∧ key[e.type.toNat]? = some (kOf key e)) := by
  obtain ⟨hkl, hks⟩ := h.keys
  have hev := h.ev e he
  obtain ⟨⟨h1, h2⟩, h3⟩ := ev_ok (types := types) (e := e) (by rw [hev]; rfl)
  have hk : key[e.type.toNat]? = some (kOf key e) := get_def 0 (by omega)
  have hg := keys_ge hks hk (get_def sc0 h2)
  have hfl : (fieldsOf types e).length = ((types[e.type.toNat]?).getD sc0).fields.length := rfl
  have c1 : (decide (e.type < 0) || decide ((key.length : Int) ≤ e.type)) = false := by simp; omega
  have c2 : (decide (kOf key e < -1) || decide ((e.values.length : Int) ≤ kOf key e)) = false := by
    simp only [Bool.or_eq_false_iff, decide_eq_false_iff_not]; omega
  have hkd : keyed e key = if kOf key e == -1 then (v0, false, 0) else (vAt e (kOf key e), true, 0) := by unfold keyed; rw [ifF h.ne, ifF c1, ifF c2]
  have hek : evKey types key e = if decide (0 ≤ kOf key e) then (vAt e (kOf key e), true, 0) else (v0, false, 0) := by
    unfold evKey
    have c3 : ((key.length : Int) != (types.length : Int)) = false := by simp; omega
    rw [hev, hks, ifF h.ne, ifF c3]; rfl
  by_cases hm : kOf key e = -1
  · have e1 : (kOf key e == -1) = true := by simpa using hm
    have e2 : decide (0 ≤ kOf key e) = false := by simp; omega
    rw [e1, if_pos rfl] at hkd
    rw [e2, if_neg (by decide)] at hek
    refine ⟨by rw [hkd], by rw [hek, hkd], by unfold hasK; rw [hkd, e2], h1, hk⟩
  · have e1 : (kOf key e == -1) = false := by simpa using hm
    have e2 : decide (0 ≤ kOf key e) = true := by simp; omega
    rw [e1, if_neg (by decide)] at hkd
    rw [e2, if_pos rfl] at hek
    exact ⟨by rw [hkd], by rw [hek, hkd], by unfold hasK; rw [hkd, e2], h1, hk⟩
theorem Fit.all {types : List Sc} {key : List Int} {l : List Ev} (h : Fit types key l) : allS l = 0 := all_ok (fun e he => ev_placed (h.ev e he)) (by have := h.len; omega)
theorem Fit.sort {types : List Sc} {key : List Int} {l : List Ev} (h : Fit types key l) : (sortE l).2 = 22 ∨ ∃ S, sortE l = (S, 0) ∧ sortedS l = some S := by
  unfold sortE
  rw [h.all]
  cases hs : sortedS l with
  | none => exact .inl rfl
  | some S => exact .inr ⟨S, rfl, rfl⟩
theorem filter_mem_of {l : List Ev} {f g : Ev → Bool} (h : ∀ e ∈ l, f e = g e) : l.filter f = l.filter g := List.filter_congr h
/-- the law, in one piece -/
structure Good (types : List Sc) (key : List Int) (l S : List Ev) (K : List Vl) : Prop where
  small : S.length ≤ 12
  mem : ∀ e ∈ S, e ∈ l
  split : splitS S key = (K, K.map (fun v => S.filter (isK key v)), 0)
  mine : ∀ v, caseKeyedS types key l v = (l.filter (isK key v), true)
  part : ∀ v, sortE (l.filter (isK key v)) = (S.filter (isK key v), 0)
  full : ∀ v ∈ K, S.filter (isK key v) ≠ []
  merge : ∀ k v, mergeE (S.filter (inK key (K.take k))) (S.filter (isK key v)) = (S.filter (inK key (K.take k ++ [v])), 0)
  plus : ∀ k v, K[k]? = some v → (S.filter (inK key (K.take (k + 1)))).length = (S.filter (inK key (K.take k))).length + (S.filter (isK key v)).length
  count : (S.filter (inK key K)).length + (S.filter fun e => decide (kOf key e < 0)).length = S.length
theorem Fit.good {types : List Sc} {key : List Int} {l S : List Ev} (h : Fit types key l) (hS : sortedS l = some S) (hSl : S.length ≤ 12) : Good types key l S (splitS S key).1 := by
  obtain ⟨h1, h2⟩ := sorted_spec hS
  have hc := sorted_clean hS
  have hcS : Clean S := hc.sub fun e he => (h2 e).1 he
  have hpl : ∀ e ∈ S, placedS e = true := fun e he => ev_placed (h.ev e ((h2 e).1 he))
  have hst : streamS S = 0 := stream_ok h1 hcS hpl (by omega)
  obtain ⟨s1, s2, s3, s4⟩ := split_ok hst fun e he => (h.one ((h2 e).1 he)).1
  refine ⟨hSl, fun e he => (h2 e).1 he, ?_, fun v => ?_, fun v => ?_, fun v hv => ?_, fun k v => merge_step h1 hcS hpl (by omega), fun k v hv => ?_, ?_⟩
  · have : splitS S key = ((splitS S key).1, (splitS S key).2.1, (splitS S key).2.2) := rfl
    rw [this, s3, s1]
  · rw [caseK_ok]
    · have : l.filter (wants types key v) = l.filter (isK key v) := List.filter_congr fun e he => by
        unfold wants isK hasK kap
        rw [(h.one he).2.1]
      rw [this]
    · rw [Bool.eq_false_iff]
      intro ha
      obtain ⟨e, he, hb⟩ := List.any_eq_true.1 ha
      unfold badKey at hb
      rw [(h.one he).2.1, (h.one he).1] at hb
      cases hb
  · have hsub : ∀ e ∈ l.filter (isK key v), e ∈ l := fun e he => (List.mem_filter.1 he).1
    have hall : allS (l.filter (isK key v)) = 0 := all_ok (fun e he => ev_placed (h.ev e (hsub e he))) (by have := List.length_filter_le (isK key v) l; have := h.len; omega)
    have hsr : sortedS (l.filter (isK key v)) = some (S.filter (isK key v)) := sorted_eq (hc.sub hsub) (h1.filter _) fun e => by
      rw [List.mem_filter, List.mem_filter, h2 e]
    unfold sortE
    rw [hall, hsr]; rfl
  · obtain ⟨e, he, hi⟩ := (s4 v).1 hv
    intro hn
    have : e ∈ S.filter (isK key v) := List.mem_filter.2 ⟨he, hi⟩
    rw [hn] at this; cases this
  · rw [take_get hv]
    refine part_len fun hm => ?_
    have hk := get_lt' hv
    obtain ⟨j, hj, he⟩ := List.mem_take_iff_getElem.1 hm
    have hv2 : (splitS S key).1[k] = v := by rw [List.getElem?_eq_getElem hk] at hv; exact Option.some.inj hv
    have := List.pairwise_iff_getElem.1 s2 j k (by omega) hk (by omega)
    exact this (by rw [he, hv2])
  · have hf : (S.filter fun e => inK key (splitS S key).1 e) = S.filter (hasK key) := List.filter_congr fun e he => by
      rw [Bool.eq_iff_iff, inK_iff]
      constructor
      · exact fun h => h.1
      · exact fun hk => ⟨hk, (s4 _).2 ⟨e, he, (isK_iff _ _ _).2 ⟨hk, rfl⟩⟩⟩
    have := filter_or (hasK key) (fun e => decide (kOf key e < 0)) (fun _ => true) S fun e he => by
      have h3 := (h.one ((h2 e).1 he)).2.2.1
      rw [h3]
      by_cases h0 : 0 ≤ kOf key e
      · have e1 : decide (0 ≤ kOf key e) = true := by simpa using h0
        have e2 : decide (kOf key e < 0) = false := by simp; omega
        rw [e1, e2]; exact ⟨rfl, rfl⟩
      · have e1 : decide (0 ≤ kOf key e) = false := by simpa using h0
        have e2 : decide (kOf key e < 0) = true := by simp; omega
        rw [e1, e2]; exact ⟨rfl, rfl⟩
    rw [filter_all (fun _ _ => rfl)] at this
    rw [this]
    congr 2
theorem once_len : ∀ {l out D : List Ev}, onceS out l = some D → D.length ≤ out.length + l.length
  | [], out, D, h => by simp only [onceS, Option.some.injEq] at h; subst h; simp
  | x :: r, out, D, h => by
    rw [onceS] at h
    cases hf : out.find? (sameId x) with
    | some f =>
      rw [hf] at h
      simp only at h
      split at h
      · have := once_len h; simp; omega
      · cases h
    | none => rw [hf] at h; have := once_len h; simp at this ⊢; omega
theorem sorted_len {l S : List Ev} (h : sortedS l = some S) : S.length ≤ l.length := by
  unfold sortedS at h
  cases hD : onceS [] l with
  | none => rw [hD] at h; cases h
  | some D =>
    rw [hD] at h
    simp only [Option.map_some, Option.some.injEq] at h
    subst h
    have := once_len hD
    rw [(sort_perm D).length_eq]; simpa using this
end Go.Proofs.Ytfpbgdjloccdbaa
