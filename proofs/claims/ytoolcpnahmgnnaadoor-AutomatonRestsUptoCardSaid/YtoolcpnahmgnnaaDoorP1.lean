/-
  The plain law of searching: the search and the rounds of the reference mark the same states. No program in sight. No condition.
-/
import Derived.Test.YtoolcpnahmgnnaaDoorM23
namespace Go.Proofs.YtoolcpnahmgnnaaDoor
open Go Go.Aw
set_option linter.unusedVariables false
set_option linter.unusedSimpArgs false

/-! Lists of marks. -/
def Sub (l m : List Bool) : Prop := l.length = m.length ∧ ∀ i, l.getD i false = true → m.getD i false = true
def unseen (l : List Bool) : Nat := l.countP (fun b => !b)
theorem Sub.refl (l : List Bool) : Sub l l := ⟨rfl, fun _ h => h⟩
theorem Sub.trans {a b c : List Bool} (h : Sub a b) (k : Sub b c) : Sub a c := ⟨h.1.trans k.1, fun i e => k.2 i (h.2 i e)⟩
theorem getD_set {l : List Bool} {i j : Nat} : (l.set i true).getD j false = (decide (i = j ∧ i < l.length) || l.getD j false) := by
  simp only [List.getD_eq_getElem?_getD, List.getElem?_set]
  by_cases h : i = j
  · subst h
    by_cases h2 : i < l.length
    · simp [h2]
    · simp [h2]
  · simp [h]
theorem mark_len (l : List Bool) (s : Int) : (markS l s).length = l.length := by unfold markS; simp
theorem mark_get (l : List Bool) (s : Int) (j : Nat) : (markS l s).getD j false = (decide (s.toNat = j ∧ s.toNat < l.length) || l.getD j false) := by unfold markS; exact getD_set
theorem Sub.mark (l : List Bool) (s : Int) : Sub l (markS l s) := ⟨(mark_len _ _).symm, fun i h => by rw [mark_get, h, Bool.or_true]⟩
theorem Sub.of_mark {l m : List Bool} {s : Int} (h : Sub l m) (k : s.toNat < l.length → m.getD s.toNat false = true) : Sub (markS l s) m := ⟨(mark_len _ _).trans h.1, fun i e => by
  rw [mark_get, Bool.or_eq_true, decide_eq_true_eq] at e
  rcases e with ⟨rfl, h2⟩ | e
  · exact k h2
  · exact h.2 i e⟩
theorem unseen_le : ∀ {l m : List Bool}, Sub l m → unseen m ≤ unseen l
  | [], [], _ => Nat.le_refl _
  | [], b :: r, h => absurd h.1 (by simp)
  | a :: r, [], h => absurd h.1 (by simp)
  | a :: r, b :: s, h => by
    have ih := unseen_le (l := r) (m := s) ⟨by have := h.1; simpa using this, fun i e => h.2 (i + 1) e⟩
    have h0 := h.2 0
    unfold unseen at *
    rw [List.countP_cons, List.countP_cons]
    cases a with
    | true =>
      have : b = true := h0 rfl
      rw [this]; simpa using ih
    | false => cases b <;> simp <;> omega
theorem unseen_mark : ∀ {l : List Bool} {i : Nat}, l.getD i false = false → i < l.length → unseen (l.set i true) + 1 = unseen l
  | [], i, _, h => absurd h (Nat.not_lt_zero _)
  | a :: r, 0, h, _ => by
    have : a = false := h
    subst this
    unfold unseen
    rw [List.set_cons_zero, List.countP_cons, List.countP_cons]; simp
  | a :: r, i + 1, h, hi => by
    have ih := unseen_mark (l := r) (i := i) h (by simpa using hi)
    unfold unseen at *
    rw [List.set_cons_succ, List.countP_cons, List.countP_cons]; omega
theorem unseen_bound (l : List Bool) : unseen l ≤ l.length := List.countP_le_length
/-! The search: the least set that contains the start and is closed. -/
/-- A set of states that is closed under 'next'. -/
def ClosedN (nx : Int → List Int) (T : List Bool) : Prop := ∀ s : Int, 0 ≤ s → seenS T s = true → ∀ t ∈ nx s, seenS T t = true
def InR (n : Nat) (s : Int) : Prop := 0 ≤ s ∧ s.toNat < n
variable {nx : Int → List Int} {n : Nat}
theorem seen_sub {l m : List Bool} (h : Sub l m) {s : Int} (k : seenS l s = true) : seenS m s = true := h.2 _ k
theorem visit_ok (hnx : ∀ s, InR n s → ∀ t ∈ nx s, InR n t) : ∀ (f : Nat) (seen : List Bool) (s : Int), seen.length = n → InR n s → unseen seen < f →
    (Sub seen (visitD nx f seen s) ∧ seenS (visitD nx f seen s) s = true ∧
      (∀ u : Int, 0 ≤ u → seenS (visitD nx f seen s) u = true → seenS seen u = true ∨ ∀ t ∈ nx u, seenS (visitD nx f seen s) t = true) ∧
      (∀ T, ClosedN nx T → Sub seen T → seenS T s = true → Sub (visitD nx f seen s) T))
  | 0, seen, s, _, _, h => absurd h (Nat.not_lt_zero _)
  | f + 1, seen, s, hl, hs, hf => by
    unfold visitD
    by_cases hsn : seenS seen s = true
    · rw [if_pos hsn]
      exact ⟨.refl _, hsn, fun u _ h => .inl h, fun T _ h _ => h⟩
    · rw [if_neg hsn]
      have hsf : seen.getD s.toNat false = false := by simpa [seenS] using hsn
      have hm := unseen_mark hsf (by rw [hl]; exact hs.2)
      -- the kids
      have key : ∀ (L : List Int) (cur : List Bool), (∀ t ∈ L, InR n t) → cur.length = n → unseen cur < f →
          (Sub cur (L.foldl (visitD nx f) cur) ∧ (∀ t ∈ L, seenS (L.foldl (visitD nx f) cur) t = true) ∧
            (∀ u : Int, 0 ≤ u → seenS (L.foldl (visitD nx f) cur) u = true → seenS cur u = true ∨ ∀ t ∈ nx u, seenS (L.foldl (visitD nx f) cur) t = true) ∧
            (∀ T, ClosedN nx T → Sub cur T → (∀ t ∈ L, seenS T t = true) → Sub (L.foldl (visitD nx f) cur) T)) := by
        intro L
        induction L with
        | nil => intro cur _ _ _; exact ⟨.refl _, fun t h => (List.not_mem_nil h).elim, fun u _ h => .inl h, fun T _ h _ => h⟩
        | cons a r ih =>
          intro cur hL hc hu
          obtain ⟨v1, v2, v3, v4⟩ := visit_ok hnx f cur a hc (hL a (List.mem_cons_self ..)) hu
          obtain ⟨i1, i2, i3, i4⟩ := ih (visitD nx f cur a) (fun t h => hL t (List.mem_cons_of_mem _ h)) (v1.1.symm.trans hc) (Nat.lt_of_le_of_lt (unseen_le v1) hu)
          rw [List.foldl_cons]
          refine ⟨v1.trans i1, fun t h => ?_, fun u h0 h => ?_, fun T hT hc hk => ?_⟩
          · rcases List.mem_cons.1 h with rfl | h
            · exact seen_sub i1 v2
            · exact i2 t h
          · rcases i3 u h0 h with h | h
            · rcases v3 u h0 h with h | h
              · exact .inl h
              · exact .inr fun t ht => seen_sub i1 (h t ht)
            · exact .inr h
          · exact i4 T hT (v4 T hT hc (hk a (List.mem_cons_self ..))) fun t h => hk t (List.mem_cons_of_mem _ h)
      obtain ⟨k1, k2, k3, k4⟩ := key (nx s) (markS seen s) (hnx s hs) ((mark_len _ _).trans hl) (by unfold markS; omega)
      have hms : seenS (markS seen s) s = true := by
        unfold seenS
        rw [mark_get, Bool.or_eq_true, decide_eq_true_eq]
        exact .inl ⟨rfl, by rw [hl]; exact hs.2⟩
      refine ⟨(Sub.mark _ _).trans k1, seen_sub k1 hms, fun u h0 h => ?_, fun T hT hc hk => ?_⟩
      · rcases k3 u h0 h with h | h
        · unfold seenS at h
          rw [mark_get, Bool.or_eq_true, decide_eq_true_eq] at h
          rcases h with ⟨h, _⟩ | h
          · have : u = s := by have := hs.1; omega
            subst this
            exact .inr k2
          · exact .inl h
        · exact .inr h
      · exact k4 T hT (hc.of_mark fun _ => hk) (hT s hs.1 hk)
theorem rep_get (n i : Nat) : (List.replicate n false).getD i false = false := by
  simp only [List.getD_eq_getElem?_getD, List.getElem?_replicate]
  split <;> rfl
theorem rep_sub {T : List Bool} (h : T.length = n) : Sub (List.replicate n false) T := ⟨by rw [List.length_replicate, h], fun i e => by rw [rep_get] at e; cases e⟩
/-- The search finds the least closed set that contains its start. -/
theorem found_ok (hnx : ∀ s, InR n s → ∀ t ∈ nx s, InR n t) (start : List Int) (hst : ∀ s ∈ start, InR n s) :
    (foundS n start nx).length = n ∧ (∀ s ∈ start, seenS (foundS n start nx) s = true) ∧ ClosedN nx (foundS n start nx) ∧
      ∀ T, ClosedN nx T → T.length = n → (∀ s ∈ start, seenS T s = true) → Sub (foundS n start nx) T := by
  have key : ∀ (L : List Int) (cur : List Bool), (∀ t ∈ L, InR n t) → cur.length = n → ClosedN nx cur →
      (Sub cur (L.foldl (visitD nx (n + 1)) cur) ∧ (∀ t ∈ L, seenS (L.foldl (visitD nx (n + 1)) cur) t = true) ∧ ClosedN nx (L.foldl (visitD nx (n + 1)) cur) ∧
        (∀ T, ClosedN nx T → Sub cur T → (∀ t ∈ L, seenS T t = true) → Sub (L.foldl (visitD nx (n + 1)) cur) T)) := by
    intro L
    induction L with
    | nil => intro cur _ _ hc; exact ⟨.refl _, fun t h => (List.not_mem_nil h).elim, hc, fun T _ h _ => h⟩
    | cons a r ih =>
      intro cur hL hc hcl
      obtain ⟨v1, v2, v3, v4⟩ := visit_ok hnx (n + 1) cur a hc (hL a (List.mem_cons_self ..)) (by have := unseen_bound cur; omega)
      have hcl2 : ClosedN nx (visitD nx (n + 1) cur a) := fun u h0 h t ht => by
        rcases v3 u h0 h with h | h
        · exact seen_sub v1 (hcl u h0 h t ht)
        · exact h t ht
      obtain ⟨i1, i2, i3, i4⟩ := ih (visitD nx (n + 1) cur a) (fun t h => hL t (List.mem_cons_of_mem _ h)) (v1.1.symm.trans hc) hcl2
      rw [List.foldl_cons]
      refine ⟨v1.trans i1, fun t h => ?_, i3, fun T hT hc hk => ?_⟩
      · rcases List.mem_cons.1 h with rfl | h
        · exact seen_sub i1 v2
        · exact i2 t h
      · exact i4 T hT (v4 T hT hc (hk a (List.mem_cons_self ..))) fun t h => hk t (List.mem_cons_of_mem _ h)
  obtain ⟨k1, k2, k3, k4⟩ := key start (List.replicate n false) hst (by simp) (fun u _ h => by unfold seenS at h; rw [rep_get] at h; cases h)
  exact ⟨k1.1.symm.trans (by simp), k2, k3, fun T hT hl hk => k4 T hT (rep_sub hl) hk⟩

/-! Rounds: a function that only adds marks is at rest after as many rounds as there are states. -/
theorem stepF_def (l : List Bool) (x : Ed) : stepF l x = if seenS l x.src && decide (0 ≤ x.dst) then markS l x.dst else l := rfl
theorem stepB_def (l : List Bool) (x : Ed) : stepB l x = if decide (x.dst < 0) || seenS l x.dst then markS l x.src else l := rfl
/-- The edges lead from and to states. -/
def EdR (n : Nat) (l : List Ed) : Prop := ∀ x ∈ l, InR n x.src ∧ (0 ≤ x.dst → InR n x.dst)
theorem nextF_mem {l : List Ed} {s t : Int} : t ∈ nextF l s ↔ ∃ x ∈ l, x.src = s ∧ 0 ≤ x.dst ∧ x.dst = t := by
  unfold nextF
  simp only [List.mem_map, List.mem_filter, Bool.and_eq_true, beq_iff_eq, decide_eq_true_eq]
  constructor
  · rintro ⟨x, ⟨h1, h2, h3⟩, h4⟩; exact ⟨x, h1, h2, h3, h4⟩
  · rintro ⟨x, h1, h2, h3, h4⟩; exact ⟨x, ⟨h1, h2, h3⟩, h4⟩
theorem nextB_mem {l : List Ed} {s t : Int} : t ∈ nextB l s ↔ ∃ x ∈ l, x.dst = s ∧ x.src = t := by
  unfold nextB
  simp only [List.mem_map, List.mem_filter, beq_iff_eq]
  constructor
  · rintro ⟨x, ⟨h1, h2⟩, h3⟩; exact ⟨x, h1, h2, h3⟩
  · rintro ⟨x, h1, h2, h3⟩; exact ⟨x, ⟨h1, h2⟩, h3⟩
theorem last_mem {l : List Ed} {t : Int} : t ∈ endsS l ↔ ∃ x ∈ l, x.dst < 0 ∧ x.src = t := by
  unfold endsS
  simp only [List.mem_map, List.mem_filter, decide_eq_true_eq]
  constructor
  · rintro ⟨x, ⟨h1, h2⟩, h3⟩; exact ⟨x, h1, h2, h3⟩
  · rintro ⟨x, h1, h2, h3⟩; exact ⟨x, ⟨h1, h2⟩, h3⟩
/-- Closed sets, in words of edges. -/
def CloF (l : List Ed) (T : List Bool) : Prop := ∀ x ∈ l, seenS T x.src = true → 0 ≤ x.dst → seenS T x.dst = true
def CloB (l : List Ed) (T : List Bool) : Prop := ∀ x ∈ l, (x.dst < 0 ∨ seenS T x.dst = true) → seenS T x.src = true
theorem closedF {l : List Ed} (h : EdR n l) {T : List Bool} : ClosedN (nextF l) T ↔ CloF l T := by
  constructor
  · intro c x hx hs hd
    exact c x.src (h x hx).1.1 hs _ (nextF_mem.2 ⟨x, hx, rfl, hd, rfl⟩)
  · intro c s _ hs t ht
    obtain ⟨x, hx, rfl, hd, rfl⟩ := nextF_mem.1 ht
    exact c x hx hs hd
/-- Reachable states: the least closed set with state 0. -/
theorem reach_ok {l : List Ed} (h : EdR n l) (hn : 0 < n) : (foundS n [0] (nextF l)).length = n ∧ seenS (foundS n [0] (nextF l)) 0 = true ∧ CloF l (foundS n [0] (nextF l)) ∧
    ∀ T, CloF l T → T.length = n → seenS T 0 = true → Sub (foundS n [0] (nextF l)) T := by
  obtain ⟨h1, h2, h3, h4⟩ := found_ok (n := n) (nx := nextF l) (fun s _ t ht => by obtain ⟨x, hx, _, hd, rfl⟩ := nextF_mem.1 ht; exact (h x hx).2 hd) [0] (fun s hs => by rw [List.mem_singleton.1 hs]; exact ⟨Int.le_refl _, hn⟩)
  exact ⟨h1, h2 0 (List.mem_singleton.2 rfl), (closedF h).1 h3, fun T hT hl h0 => h4 T ((closedF h).2 hT) hl fun s hs => by rw [List.mem_singleton.1 hs]; exact h0⟩
theorem useful_ok {l : List Ed} (h : EdR n l) : (foundS n (endsS l) (nextB l)).length = n ∧ CloB l (foundS n (endsS l) (nextB l)) ∧
    ∀ T, CloB l T → T.length = n → Sub (foundS n (endsS l) (nextB l)) T := by
  obtain ⟨h1, h2, h3, h4⟩ := found_ok (n := n) (nx := nextB l) (fun s _ t ht => by obtain ⟨x, hx, _, rfl⟩ := nextB_mem.1 ht; exact (h x hx).1) (endsS l) (fun s hs => by obtain ⟨x, hx, _, rfl⟩ := last_mem.1 hs; exact (h x hx).1)
  refine ⟨h1, ?_, fun T hT hl => h4 T ?_ hl ?_⟩
  · intro x hx hd
    by_cases hneg : x.dst < 0
    · exact h2 _ (last_mem.2 ⟨x, hx, hneg, rfl⟩)
    · rcases hd with hd | hd
      · exact absurd hd hneg
      · exact h3 x.dst (by omega) hd _ (nextB_mem.2 ⟨x, hx, rfl, rfl⟩)
  · intro s _ hs t ht
    obtain ⟨x, hx, rfl, rfl⟩ := nextB_mem.1 ht
    exact hT x hx (.inr hs)
  · intro s hs
    obtain ⟨x, hx, hd, rfl⟩ := last_mem.1 hs
    exact hT x hx (.inl hd)
end Go.Proofs.YtoolcpnahmgnnaaDoor
