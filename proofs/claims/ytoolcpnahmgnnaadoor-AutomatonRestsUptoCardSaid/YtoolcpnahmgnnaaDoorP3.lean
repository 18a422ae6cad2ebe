/-
  The plain law of isomorphism: pairing in depth and the rounds of the reference yield the least pairing that is closed, or none. No program in sight. No condition.
-/
import Derived.Test.YtoolcpnahmgnnaaDoorP2
namespace Go.Proofs.YtoolcpnahmgnnaaDoor
open Go Go.Aw
set_option linter.unusedVariables false
set_option linter.unusedSimpArgs false

theorem toS_put {l : List Int} {s v j : Int} (hs : InR l.length s) (hj : 0 ≤ j) : toS (putS' l s v) j = if j = s then v else toS l j := by
  unfold toS putS'
  simp only [List.getD_eq_getElem?_getD, List.getElem?_set]
  by_cases h : j = s
  · subst h
    rw [if_pos rfl, if_pos rfl, if_pos hs.2]; rfl
  · have : ¬ s.toNat = j.toNat := by have := hs.1; omega
    rw [if_neg this, if_neg h]
theorem put_len (l : List Int) (s v : Int) : (putS' l s v).length = l.length := by unfold putS'; simp
def unp (l : List Int) : Nat := l.countP (fun v => decide (v < 0))
theorem unp_bound (l : List Int) : unp l ≤ l.length := List.countP_le_length
theorem unp_put : ∀ {l : List Int} {i : Nat} {v : Int}, l.getD i 0 < 0 → 0 ≤ v → unp (l.set i v) + 1 = unp l
  | [], i, v, h, _ => absurd h (by simp)
  | a :: r, 0, v, h, hv => by
    have h : a < 0 := h
    unfold unp
    rw [List.set_cons_zero, List.countP_cons, List.countP_cons, decide_eq_true h, decide_eq_false (show ¬ v < 0 by omega)]; simp
  | a :: r, i + 1, v, h, hv => by
    have ih := unp_put (l := r) (i := i) h hv
    unfold unp at *
    rw [List.set_cons_succ, List.countP_cons, List.countP_cons]; omega
theorem unp_le : ∀ {l m : List Int}, l.length = m.length → (∀ i, i < l.length → 0 ≤ l.getD i 0 → 0 ≤ m.getD i 0) → unp m ≤ unp l
  | [], [], _, _ => Nat.le_refl _
  | [], b :: r, h, _ => absurd h (by simp)
  | a :: r, [], h, _ => absurd h (by simp)
  | a :: r, b :: s, h, k => by
    have ih := unp_le (l := r) (m := s) (by simpa using h) (fun i hi e => k (i + 1) (by simpa using hi) e)
    have h0 : 0 ≤ a → 0 ≤ b := k 0 (by simp)
    unfold unp at *
    rw [List.countP_cons, List.countP_cons]
    by_cases ha : a < 0
    · by_cases hb : b < 0 <;> simp [ha, hb] <;> omega
    · have : ¬ b < 0 := by omega
      simp [ha, this]; omega

structure Inv (a b : Au) (p : Pg) : Prop where
  l1 : p.1.length = a.states.length
  l2 : p.2.length = b.states.length
  to : ∀ s, InR a.states.length s → 0 ≤ toS p.1 s → InR b.states.length (toS p.1 s) ∧ toS p.2 (toS p.1 s) = s
  fr : ∀ t, InR b.states.length t → 0 ≤ toS p.2 t → InR a.states.length (toS p.2 t) ∧ toS p.1 (toS p.2 t) = t
  neg : ∀ s, InR a.states.length s → toS p.1 s < 0 → toS p.1 s = -1
  neg2 : ∀ s, InR b.states.length s → toS p.2 s < 0 → toS p.2 s = -1
structure ExtP (a b : Au) (p q : Pg) : Prop where
  to : ∀ s, InR a.states.length s → 0 ≤ toS p.1 s → toS q.1 s = toS p.1 s
  fr : ∀ t, InR b.states.length t → 0 ≤ toS p.2 t → toS q.2 t = toS p.2 t
/-- The edges of two paired states agree. -/
def Mt (q : Pg) : List Ed → List Ed → Prop
  | [], [] => True
  | x :: r, y :: s => (sameEd x y = true ∧ ((x.dst < 0 ∧ y.dst < 0) ∨ (0 ≤ x.dst ∧ 0 ≤ y.dst ∧ toS q.1 x.dst = y.dst))) ∧ Mt q r s
  | _, _ => False
def ClAt (a b : Au) (q : Pg) (s : Int) : Prop := sameGs (stS a s) (stS b (toS q.1 s)) = true ∧ Mt q (fromS a.edges s) (fromS b.edges (toS q.1 s))
structure Full (a b : Au) (q : Pg) : Prop where
  inv : Inv a b q
  zero : toS q.1 0 = 0
  clo : ∀ u, InR a.states.length u → 0 ≤ toS q.1 u → ClAt a b q u
variable {a b : Au} {p q r : Pg}
theorem ExtP.refl (p : Pg) : ExtP a b p p := ⟨fun _ _ _ => rfl, fun _ _ _ => rfl⟩
theorem ExtP.trans (h : ExtP a b p q) (k : ExtP a b q r) : ExtP a b p r := ⟨fun s hs h0 => by
  have e := h.to s hs h0
  rw [k.to s hs (by rw [e]; exact h0), e], fun s hs h0 => by
  have e := h.fr s hs h0
  rw [k.fr s hs (by rw [e]; exact h0), e]⟩
theorem ExtP.unp (h : ExtP a b p q) (i : Inv a b p) (j : Inv a b q) : unp q.1 ≤ unp p.1 := unp_le (i.l1.trans j.l1.symm) fun k hk h0 => by
  have := h.to (k : Int) ⟨Int.natCast_nonneg _, by rw [← i.l1]; simpa using hk⟩ (by unfold toS; simpa using h0)
  unfold toS at this
  simp only [Int.toNat_natCast] at this
  rw [this]; exact h0
theorem Mt.mono (h : ExtP a b p q) : ∀ {l m : List Ed}, (∀ x ∈ l, 0 ≤ x.dst → InR a.states.length x.dst) → Mt p l m → Mt q l m
  | [], [], _, _ => trivial
  | x :: l, y :: m, hl, k => ⟨⟨k.1.1, k.1.2.imp id fun ⟨h1, h2, h3⟩ => ⟨h1, h2, by rw [h.to x.dst (hl x (List.mem_cons_self ..) h1) (by rw [h3]; exact h2)]; exact h3⟩⟩, Mt.mono h (fun x hx => hl x (List.mem_cons_of_mem _ hx)) k.2⟩
  | [], _ :: _, _, k => k.elim
  | _ :: _, [], _, k => k.elim
theorem Mt.len : ∀ {l m : List Ed}, Mt p l m → l.length = m.length
  | [], [], _ => rfl
  | x :: l, y :: m, k => by rw [List.length_cons, List.length_cons, k.2.len]
  | [], _ :: _, k => k.elim
  | _ :: _, [], k => k.elim
theorem from_in {l : List Ed} {n : Nat} (h : EdR n l) (s : Int) : ∀ x ∈ fromS l s, 0 ≤ x.dst → InR n x.dst := fun x hx => (h x (List.mem_filter.1 hx).1).2
theorem ClAt.mono (ha : EdR a.states.length a.edges) (h : ExtP a b p q) {s : Int} (hs : InR a.states.length s) (h0 : 0 ≤ toS p.1 s) (k : ClAt a b p s) : ClAt a b q s := by
  unfold ClAt at *
  rw [h.to s hs h0]
  exact ⟨k.1, Mt.mono h (from_in ha s) k.2⟩
/-- One more pair. -/
theorem put_ok (i : Inv a b p) {s t : Int} (hs : InR a.states.length s) (ht : InR b.states.length t) (h1 : toS p.1 s < 0) (h2 : toS p.2 t < 0) :
    Inv a b (putS' p.1 s t, putS' p.2 t s) ∧ ExtP a b p (putS' p.1 s t, putS' p.2 t s) ∧ toS (putS' p.1 s t) s = t ∧ toS (putS' p.2 t s) t = s := by
  have g1 : ∀ j, 0 ≤ j → toS (putS' p.1 s t) j = if j = s then t else toS p.1 j := fun j hj => toS_put (by rw [i.l1]; exact hs) hj
  have g2 : ∀ j, 0 ≤ j → toS (putS' p.2 t s) j = if j = t then s else toS p.2 j := fun j hj => toS_put (by rw [i.l2]; exact ht) hj
  refine ⟨⟨by rw [put_len]; exact i.l1, by rw [put_len]; exact i.l2, fun u hu h0 => ?_, fun u hu h0 => ?_, fun u hu h0 => ?_, fun u hu h0 => ?_⟩, ⟨fun u hu h0 => ?_, fun u hu h0 => ?_⟩, by rw [g1 s hs.1, if_pos rfl], by rw [g2 t ht.1, if_pos rfl]⟩
  · show InR b.states.length (toS (putS' p.1 s t) u) ∧ toS (putS' p.2 t s) (toS (putS' p.1 s t) u) = u
    have h0 : 0 ≤ toS (putS' p.1 s t) u := h0
    rw [g1 u hu.1] at h0 ⊢
    by_cases e : u = s
    · rw [if_pos e, g2 t ht.1, if_pos rfl]; exact ⟨ht, e.symm⟩
    · rw [if_neg e] at h0 ⊢
      obtain ⟨k1, k2⟩ := i.to u hu h0
      have ne : toS p.1 u ≠ t := fun e2 => by rw [e2] at k2; rw [k2] at h2; have := hu.1; omega
      rw [g2 _ k1.1, if_neg ne]; exact ⟨k1, k2⟩
  · show InR a.states.length (toS (putS' p.2 t s) u) ∧ toS (putS' p.1 s t) (toS (putS' p.2 t s) u) = u
    have h0 : 0 ≤ toS (putS' p.2 t s) u := h0
    rw [g2 u hu.1] at h0 ⊢
    by_cases e : u = t
    · rw [if_pos e, g1 s hs.1, if_pos rfl]; exact ⟨hs, e.symm⟩
    · rw [if_neg e] at h0 ⊢
      obtain ⟨k1, k2⟩ := i.fr u hu h0
      have ne : toS p.2 u ≠ s := fun e2 => by rw [e2] at k2; rw [k2] at h1; have := hu.1; omega
      rw [g1 _ k1.1, if_neg ne]; exact ⟨k1, k2⟩
  · have h0 : toS (putS' p.1 s t) u < 0 := h0
    show toS (putS' p.1 s t) u = -1
    rw [g1 u hu.1] at h0 ⊢
    by_cases e : u = s
    · rw [if_pos e] at h0; have := ht.1; omega
    · rw [if_neg e] at h0 ⊢; exact i.neg u hu h0
  · have h0 : toS (putS' p.2 t s) u < 0 := h0
    show toS (putS' p.2 t s) u = -1
    rw [g2 u hu.1] at h0 ⊢
    by_cases e : u = t
    · rw [if_pos e] at h0; have := hs.1; omega
    · rw [if_neg e] at h0 ⊢; exact i.neg2 u hu h0
  · show toS (putS' p.1 s t) u = _
    rw [g1 u hu.1, if_neg (fun e => by rw [e] at h0; omega)]
  · show toS (putS' p.2 t s) u = _
    rw [g2 u hu.1, if_neg (fun e => by rw [e] at h0; omega)]
theorem ext_put (i : Inv a b p) {s t : Int} (hs : InR a.states.length s) (ht : InR b.states.length t) (j : Inv a b q) (h : ExtP a b p q) (e : toS q.1 s = t) : ExtP a b (putS' p.1 s t, putS' p.2 t s) q := by
  have e2 : toS q.2 t = s := by have := (j.to s hs (by rw [e]; exact ht.1)).2; rw [e] at this; exact this
  refine ⟨fun u hu h0 => ?_, fun u hu h0 => ?_⟩
  · have h0 : 0 ≤ toS (putS' p.1 s t) u := h0
    show toS q.1 u = toS (putS' p.1 s t) u
    rw [toS_put (by rw [i.l1]; exact hs) hu.1] at h0 ⊢
    by_cases k : u = s
    · rw [if_pos k, k, e]
    · rw [if_neg k] at h0 ⊢; exact h.to u hu h0
  · have h0 : 0 ≤ toS (putS' p.2 t s) u := h0
    show toS q.2 u = toS (putS' p.2 t s) u
    rw [toS_put (by rw [i.l2]; exact ht) hu.1] at h0 ⊢
    by_cases k : u = t
    · rw [if_pos k, k, e2]
    · rw [if_neg k] at h0 ⊢; exact h.fr u hu h0

/-! The program. -/
def At2 (q : Pg) (s t : Int) : Prop := (s < 0 ∧ t < 0) ∨ (0 ≤ s ∧ 0 ≤ t ∧ toS q.1 s = t)
def NewCl (a b : Au) (p p' : Pg) : Prop := ∀ u, InR a.states.length u → 0 ≤ toS p'.1 u → 0 ≤ toS p.1 u ∨ ClAt a b p' u
/-- What pairing two states does. -/
def PairOk (a b : Au) (pr : Pg → Int → Int → Bool × Pg) (f : Nat) : Prop := ∀ p s t, Inv a b p → (0 ≤ s → InR a.states.length s) → (0 ≤ t → InR b.states.length t) → unp p.1 < f →
  ((pr p s t).1 = true → Inv a b (pr p s t).2 ∧ ExtP a b p (pr p s t).2 ∧ At2 (pr p s t).2 s t ∧ NewCl a b p (pr p s t).2) ∧
  (∀ q, Inv a b q → (∀ u, InR a.states.length u → 0 ≤ toS q.1 u → ClAt a b q u) → ExtP a b p q → At2 q s t → (pr p s t).1 = true ∧ ExtP a b (pr p s t).2 q)
theorem pairL_ok (ha : EdR a.states.length a.edges) {pr : Pg → Int → Int → Bool × Pg} {f : Nat} (H : PairOk a b pr f) : ∀ (l m : List Ed) (p : Pg), (∀ x ∈ l, 0 ≤ x.dst → InR a.states.length x.dst) → (∀ y ∈ m, 0 ≤ y.dst → InR b.states.length y.dst) → l.length = m.length → Inv a b p → unp p.1 < f →
    ((pairL pr l m p).1 = true → Inv a b (pairL pr l m p).2 ∧ ExtP a b p (pairL pr l m p).2 ∧ Mt (pairL pr l m p).2 l m ∧ NewCl a b p (pairL pr l m p).2) ∧
    (∀ q, Inv a b q → (∀ u, InR a.states.length u → 0 ≤ toS q.1 u → ClAt a b q u) → ExtP a b p q → Mt q l m → (pairL pr l m p).1 = true ∧ ExtP a b (pairL pr l m p).2 q)
  | [], [], p, _, _, _, i, _ => by
    unfold pairL
    exact ⟨fun _ => ⟨i, .refl _, trivial, fun u _ h => .inl h⟩, fun q _ _ h _ => ⟨rfl, h⟩⟩
  | [], _ :: _, _, _, _, h, _, _ => absurd h (by simp)
  | _ :: _, [], _, _, _, h, _, _ => absurd h (by simp)
  | x :: l, y :: m, p, hl, hm, hlen, i, hu => by
    obtain ⟨A, B⟩ := H p x.dst y.dst i (hl x (List.mem_cons_self ..)) (hm y (List.mem_cons_self ..)) hu
    unfold pairL
    cases hs : sameEd x y with
    | false =>
      simp only [Bool.not_false, ↓reduceIte]
      exact ⟨fun h => (Bool.false_ne_true h).elim, fun q _ _ _ h => absurd (hs.symm.trans h.1.1) (by decide)⟩
    | true =>
      cases hp : (pr p x.dst y.dst).1 with
      | false =>
        simp only [Bool.not_true, Bool.not_false, Bool.false_eq_true, ↓reduceIte]
        refine ⟨fun h => h.elim, fun q iq hq hx h => ?_⟩
        exact absurd (hp.symm.trans (B q iq hq hx h.1.2).1) (by decide)
      | true =>
        simp only [Bool.not_true, Bool.false_eq_true, ↓reduceIte]
        obtain ⟨i1, x1, a1, n1⟩ := A hp
        obtain ⟨A2, B2⟩ := pairL_ok ha H l m (pr p x.dst y.dst).2 (fun x hx => hl x (List.mem_cons_of_mem _ hx)) (fun x hx => hm x (List.mem_cons_of_mem _ hx)) (by simpa using hlen) i1 (Nat.lt_of_le_of_lt (x1.unp i i1) hu)
        refine ⟨fun h => ?_, fun q iq hq hx h => ?_⟩
        · obtain ⟨i2, x2, m2, n2⟩ := A2 h
          refine ⟨i2, x1.trans x2, ⟨⟨hs, a1.imp id fun ⟨k1, k2, k3⟩ => ⟨k1, k2, by rw [x2.to x.dst (hl x (List.mem_cons_self ..) k1) (by rw [k3]; exact k2)]; exact k3⟩⟩, m2⟩, fun u hu h0 => ?_⟩
          rcases n2 u hu h0 with k | k
          · rcases n1 u hu k with k' | k'
            · exact .inl k'
            · exact .inr (k'.mono ha x2 hu k)
          · exact .inr k
        · obtain ⟨_, x3⟩ := B q iq hq hx h.1.2
          exact B2 q iq hq x3 h.2
theorem pairD_ok (ha : EdR a.states.length a.edges) (hb : EdR b.states.length b.edges) : ∀ f, PairOk a b (pairD a b f) f
  | 0 => fun p s t _ _ _ h => absurd h (Nat.not_lt_zero _)
  | f + 1 => fun p s t i hs ht hu => by
    unfold pairD
    by_cases h1 : (decide (s < 0) != decide (t < 0)) = true
    · rw [if_pos h1]
      refine ⟨fun h => (Bool.false_ne_true h).elim, fun q _ _ _ h => ?_⟩
      exfalso
      rcases h with ⟨k1, k2⟩ | ⟨k1, k2, _⟩
      · rw [decide_eq_true k1, decide_eq_true k2] at h1; exact absurd h1 (by decide)
      · rw [decide_eq_false (show ¬ s < 0 by omega), decide_eq_false (show ¬ t < 0 by omega)] at h1; exact absurd h1 (by decide)
    · rw [if_neg h1]
      have hst : (s < 0 ∧ t < 0) ∨ (0 ≤ s ∧ 0 ≤ t) := by
        by_cases k1 : s < 0
        · by_cases k2 : t < 0
          · exact .inl ⟨k1, k2⟩
          · rw [decide_eq_true k1, decide_eq_false k2] at h1; exact absurd rfl h1
        · by_cases k2 : t < 0
          · rw [decide_eq_false k1, decide_eq_true k2] at h1; exact absurd rfl h1
          · exact .inr ⟨by omega, by omega⟩
      by_cases h2 : (decide (s < 0) || ((toS p.1 s == t) && (toS p.2 t == s))) = true
      · rw [if_pos h2]
        have at2 : At2 p s t := by
          rcases hst with h | ⟨k1, k2⟩
          · exact .inl h
          · rw [decide_eq_false (show ¬ s < 0 by omega), Bool.false_or, Bool.and_eq_true, beq_iff_eq, beq_iff_eq] at h2
            exact .inr ⟨k1, k2, h2.1⟩
        exact ⟨fun _ => ⟨i, .refl _, at2, fun u _ h => .inl h⟩, fun q _ _ h _ => ⟨rfl, h⟩⟩
      · rw [if_neg h2]
        have h0 : 0 ≤ s ∧ 0 ≤ t := by
          rcases hst with h | h
          · exfalso; apply h2; rw [decide_eq_true h.1]; rfl
          · exact h
        have hsr := hs h0.1
        have htr := ht h0.2
        have hne : ¬ (toS p.1 s = t ∧ toS p.2 t = s) := fun ⟨k1, k2⟩ => h2 (by rw [k1, k2]; simp)
        by_cases h3 : ((decide (0 ≤ toS p.1 s) || decide (0 ≤ toS p.2 t)) || !(sameGs (stS a s) (stS b t))) = true
        · rw [if_pos h3]
          refine ⟨fun h => (Bool.false_ne_true h).elim, fun q iq hq hx h => ?_⟩
          exfalso
          rcases h with ⟨k1, _⟩ | ⟨_, _, k⟩
          · omega
          · rw [Bool.or_eq_true, Bool.or_eq_true, decide_eq_true_eq, decide_eq_true_eq] at h3
            rcases h3 with (h3 | h3) | h3
            · have e := hx.to s hsr h3
              have e2 : toS p.1 s = t := by rw [← e]; exact k
              have := (i.to s hsr h3).2
              rw [e2] at this
              exact hne ⟨e2, this⟩
            · have e := hx.fr t htr h3
              have e2 := (iq.to s hsr (by rw [k]; exact h0.2)).2
              rw [k, e] at e2
              have := (i.fr t htr h3).2
              rw [e2] at this
              exact hne ⟨this, e2⟩
            · have := (hq s hsr (by rw [k]; exact h0.2)).1
              rw [k] at this
              rw [this] at h3
              exact absurd h3 (by decide)
        · rw [if_neg h3]
          rw [Bool.or_eq_true, Bool.or_eq_true, decide_eq_true_eq, decide_eq_true_eq, not_or, not_or, Bool.not_eq_true'] at h3
          have hg : sameGs (stS a s) (stS b t) = true := by simpa using h3.2
          have n1 : toS p.1 s < 0 := by omega
          have n2 : toS p.2 t < 0 := by omega
          obtain ⟨i1, x1, e1, e2⟩ := put_ok i hsr htr n1 n2
          by_cases h4 : (((fromS a.edges s).length : Int) != ((fromS b.edges t).length : Int)) = true
          · rw [if_pos h4]
            refine ⟨fun h => (Bool.false_ne_true h).elim, fun q iq hq hx h => ?_⟩
            exfalso
            rcases h with ⟨k1, _⟩ | ⟨_, _, k⟩
            · omega
            · have := (hq s hsr (by rw [k]; exact h0.2)).2.len
              rw [k] at this
              rw [this] at h4
              exact absurd h4 (by simp)
          · rw [if_neg h4]
            have hlen : (fromS a.edges s).length = (fromS b.edges t).length := by
              have : ((fromS a.edges s).length : Int) = ((fromS b.edges t).length : Int) := by simpa using h4
              omega
            have hup : unp (putS' p.1 s t) < f := by
              have := unp_put (l := p.1) (i := s.toNat) (v := t) n1 h0.2
              show unp (p.1.set s.toNat t) < f
              omega
            obtain ⟨A, B⟩ := pairL_ok ha (pairD_ok ha hb f) (fromS a.edges s) (fromS b.edges t) (putS' p.1 s t, putS' p.2 t s) (from_in ha s) (from_in hb t) hlen i1 hup
            refine ⟨fun h => ?_, fun q iq hq hx h => ?_⟩
            · obtain ⟨i2, x2, m2, n3⟩ := A h
              have es := x2.to s hsr (by show 0 ≤ toS (putS' p.1 s t) s; rw [e1]; exact h0.2)
              have es' : toS (pairL (pairD a b f) (fromS a.edges s) (fromS b.edges t) (putS' p.1 s t, putS' p.2 t s)).2.1 s = t := es.trans e1
              refine ⟨i2, x1.trans x2, .inr ⟨h0.1, h0.2, es'⟩, fun u hu h0u => ?_⟩
              rcases n3 u hu h0u with k | k
              · have k : 0 ≤ toS (putS' p.1 s t) u := k
                rw [toS_put (by rw [i.l1]; exact hsr) hu.1] at k
                by_cases eu : u = s
                · right
                  subst eu
                  unfold ClAt
                  rw [es']
                  exact ⟨hg, m2⟩
                · rw [if_neg eu] at k; exact .inl k
              · exact .inr k
            · rcases h with ⟨k1, _⟩ | ⟨_, _, k⟩
              · omega
              · have hm := (hq s hsr (by rw [k]; exact h0.2)).2
                rw [k] at hm
                exact B q iq hq (ext_put i hsr htr iq hx k) hm
theorem none_get (n : Nat) {s : Int} (h : InR n s) : toS (none1 n) s = -1 := by
  unfold toS none1
  simp only [List.getD_eq_getElem?_getD, List.getElem?_replicate, if_pos h.2]; rfl
theorem none_inv (a b : Au) : Inv a b (none1 a.states.length, none1 b.states.length) :=
  ⟨by simp [none1], by simp [none1], fun s hs h => by have h : 0 ≤ toS (none1 a.states.length) s := h; rw [none_get _ hs] at h; omega, fun s hs h => by have h : 0 ≤ toS (none1 b.states.length) s := h; rw [none_get _ hs] at h; omega, fun s hs _ => none_get _ hs, fun s hs _ => none_get _ hs⟩
abbrev isoD (a b : Au) : Bool × Pg := pairD a b (a.states.length + 1) (none1 a.states.length, none1 b.states.length) 0 0
/-! The reference. -/
/-- What is done is closed. -/
def DoneOk (a b : Au) (s : Pg × List Bool) : Prop := s.2.length = a.states.length ∧ ∀ u, InR a.states.length u → seenS s.2 u = true → 0 ≤ toS s.1.1 u ∧ ClAt a b s.1 u
abbrev isoQ (a b : Au) : Bool × Pg × List Bool := roundsR a b a.states.length ((putS' (none1 a.states.length) 0 0, putS' (none1 b.states.length) 0 0), List.replicate a.states.length false)
end Go.Proofs.YtoolcpnahmgnnaaDoor
