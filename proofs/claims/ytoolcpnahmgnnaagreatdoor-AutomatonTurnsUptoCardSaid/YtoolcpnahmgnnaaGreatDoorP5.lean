/-
  The plain laws of automata with other numbers of their states, and of isomorphism both ways. No program in sight. No condition.
-/
import Derived.Test.YtoolcpnahmgnnaaGreatDoorP4
namespace Go.Proofs.YtoolcpnahmgnnaaGreatDoor
open Go Go.Aw
set_option linter.unusedVariables false
set_option linter.unusedSimpArgs false

theorem sameGu_iff (x y : Gu) : sameGu x y = true ↔ x = y := by
  unfold sameGu
  rw [Bool.and_eq_true, Bool.and_eq_true, Bool.and_eq_true, beq_iff_eq, beq_iff_eq, beq_iff_eq, sameS_iff]
  cases x; cases y
  simp only [Gu.mk.injEq]
  constructor
  · rintro ⟨⟨⟨h1, h2⟩, h3⟩, h4⟩; exact ⟨h1, h2, h3, h4⟩
  · rintro ⟨h1, h2, h3, h4⟩; exact ⟨⟨⟨h1, h2⟩, h3⟩, h4⟩
theorem allTwo_iff {α : Type} {f : α → α → Bool} (hf : ∀ x y, f x y = true ↔ x = y) : ∀ l m : List α, allTwo f l m = true ↔ l = m
  | [], [] => by simp [allTwo]
  | [], _ :: _ => by simp [allTwo]
  | _ :: _, [] => by simp [allTwo]
  | x :: r, y :: s => by
    unfold allTwo
    rw [Bool.and_eq_true, hf, allTwo_iff hf r s, List.cons.injEq]
theorem sameGs_iff (l m : List Gu) : sameGs l m = true ↔ l = m := allTwo_iff sameGu_iff l m
theorem sameEd_iff (x y : Ed) : sameEd x y = true ↔ ({ x with src := y.src, dst := y.dst } : Ed) = y := by
  unfold sameEd
  rw [Bool.and_eq_true, Bool.and_eq_true, Bool.and_eq_true, Bool.and_eq_true, Bool.and_eq_true, Bool.and_eq_true, Bool.and_eq_true, beq_iff_eq, beq_iff_eq, beq_iff_eq, beq_iff_eq, beq_iff_eq, beq_iff_eq, sameS_iff, allTwo_iff sameS_iff]
  cases x; cases y
  simp only [Ed.mk.injEq, true_and]
  constructor
  · rintro ⟨⟨⟨⟨⟨⟨⟨h1, h2⟩, h3⟩, h4⟩, h5⟩, h6⟩, h7⟩, h8⟩; exact ⟨h1, h2, h3, h5, h6, h4, h8, h7⟩
  · rintro ⟨h1, h2, h3, h5, h6, h4, h8, h7⟩; exact ⟨⟨⟨⟨⟨⟨⟨h1, h2⟩, h3⟩, h4⟩, h5⟩, h6⟩, h7⟩, h8⟩
theorem sameEd_symm {x y : Ed} (h : sameEd x y = true) : sameEd y x = true := by
  rw [sameEd_iff] at h ⊢
  rw [← h]
theorem sameEd_refl (x : Ed) (s d : Int) : sameEd x { x with src := s, dst := d } = true := (sameEd_iff _ _).2 rfl
theorem sameEdf_iff (x y : Ed) : sameEdf x y = true ↔ x = y := by
  unfold sameEdf
  rw [Bool.and_eq_true, Bool.and_eq_true, beq_iff_eq, beq_iff_eq, sameEd_iff]
  constructor
  · rintro ⟨⟨h1, h2⟩, h3⟩
    rw [← h1, ← h2] at h3
    exact h3
  · rintro rfl; exact ⟨⟨rfl, rfl⟩, rfl⟩
theorem sameAu_refl (a : Au) : sameAu a a = true := by
  unfold sameAu
  rw [(allTwo_iff sameGs_iff _ _).2 rfl, (allTwo_iff sameEdf_iff _ _).2 rfl]
  simp

/-! Both ways. -/
variable {a b : Au} {q : Pg}
theorem Mt.swap (i : Inv a b q) : ∀ {l m : List Ed}, (∀ x ∈ l, 0 ≤ x.dst → InR a.states.length x.dst) → Mt q l m → Mt (q.2, q.1) m l
  | [], [], _, _ => trivial
  | [], _ :: _, _, k => k.elim
  | _ :: _, [], _, k => k.elim
  | x :: l, y :: m, hl, k => ⟨⟨sameEd_symm k.1.1, k.1.2.imp And.symm fun ⟨h1, h2, h3⟩ => ⟨h2, h1, by
      have := (i.to x.dst (hl x (List.mem_cons_self ..) h1) (by rw [h3]; exact h2)).2
      rw [h3] at this; exact this⟩⟩, Mt.swap i (fun x hx => hl x (List.mem_cons_of_mem _ hx)) k.2⟩
theorem Full.swap (ha : Wf a) (h : Full a b q) : Full b a (q.2, q.1) := by
  have h0 : InR a.states.length 0 := ⟨Int.le_refl _, ha.pos⟩
  refine ⟨⟨h.inv.l2, h.inv.l1, h.inv.fr, h.inv.to, h.inv.neg2, h.inv.neg⟩, ?_, fun t ht h1 => ?_⟩
  · have := (h.inv.to 0 h0 (by rw [h.zero]; exact Int.le_refl _)).2
    rw [h.zero] at this; exact this
  · obtain ⟨k1, k2⟩ := h.inv.fr t ht h1
    obtain ⟨c1, c2⟩ := h.clo _ k1 (by rw [k2]; exact ht.1)
    rw [k2] at c1 c2
    exact ⟨by rw [sameGs_iff] at c1 ⊢; exact c1.symm, Mt.swap h.inv (from_in ha.edr _) c2⟩
theorem iso_swap (ha : Wf a) (hb : Wf b) : (isoD a b).1 = (isoD b a).1 ∧ ((isoD a b).1 = true → (isoD b a).2.1 = (isoD a b).2.2) := by
  obtain ⟨A, B⟩ := isoD_ok ha hb
  obtain ⟨C, D⟩ := isoD_ok hb ha
  have key : (isoD a b).1 = true → (isoD b a).1 = true ∧ (isoD b a).2.1 = (isoD a b).2.2 := fun h => by
    have f1 := A h
    obtain ⟨h2, x2⟩ := D _ (f1.swap ha)
    have f2 := C h2
    obtain ⟨_, x1⟩ := B _ (f2.swap hb)
    exact ⟨h2, (pg_eq f2.inv (f1.swap ha).inv x2 ⟨x1.fr, x1.to⟩).1⟩
  cases h1 : (isoD a b).1 with
  | true => exact ⟨(key h1).1.symm, fun _ => (key h1).2⟩
  | false =>
    refine ⟨?_, fun h => by cases h⟩
    cases h2 : (isoD b a).1 with
    | false => rfl
    | true => exact absurd (h1.symm.trans (B _ ((C h2).swap hb)).1) (by decide)
theorem Mt.all : ∀ {l m : List Ed}, Mt q l m → allTwo sameEd l m = true
  | [], [], _ => rfl
  | [], _ :: _, k => k.elim
  | _ :: _, [], k => k.elim
  | x :: l, y :: m, k => by unfold allTwo; rw [k.1.1, Mt.all k.2]; rfl
theorem Mt.mem : ∀ {l m : List Ed}, Mt q l m → ∀ x ∈ l, 0 ≤ x.dst → 0 ≤ toS q.1 x.dst
  | [], [], _, x, h => (List.not_mem_nil h).elim
  | [], _ :: _, k, _, _ => k.elim
  | _ :: _, [], k, _, _ => k.elim
  | x :: l, y :: m, k, z, h => fun h0 => by
    rcases List.mem_cons.1 h with rfl | h
    · rcases k.1.2 with ⟨k1, _⟩ | ⟨_, k2, k3⟩
      · omega
      · rw [k3]; exact k2
    · exact Mt.mem k.2 z h h0
/-- What is reachable is paired. -/
theorem full_reach (ha : Wf a) (h : Full a b q) {s : Int} (hs : InR a.states.length s) (hr : seenS (reachA a) s = true) : 0 ≤ toS q.1 s := by
  have hT : CloF a.edges (setL a.states.length fun s => 0 ≤ toS q.1 s) := by
    intro x hx hsx hd
    have e := ha.edr x hx
    rw [setL_get e.1] at hsx
    rw [setL_get (e.2 hd)]
    exact (h.clo _ e.1 hsx).2.mem x (List.mem_filter.2 ⟨hx, by simp⟩) hd
  have := seen_sub ((reach_ok ha.edr ha.pos).2.2.2 _ hT (setL_len _ _) ((setL_get ⟨Int.le_refl _, ha.pos⟩).2 (by rw [h.zero]; exact Int.le_refl _))) hr
  exact (setL_get hs).1 this

/-! Pairings that are given by a renumbering. -/
noncomputable def listI (n : Nat) (P : Int → Prop) (f : Int → Int) : List Int := by classical exact (List.range n).map fun (i : Nat) => if P (i : Int) then f (i : Int) else -1
theorem listI_len (n : Nat) (P : Int → Prop) (f : Int → Int) : (listI n P f).length = n := by unfold listI; simp
theorem listI_get {n : Nat} {P : Int → Prop} {f : Int → Int} {s : Int} (hs : InR n s) : (P s → toS (listI n P f) s = f s) ∧ (¬ P s → toS (listI n P f) s = -1) := by
  classical
  unfold toS listI
  have h2 := hs.2
  have h1 := hs.1
  have e : ((s.toNat : Nat) : Int) = s := by omega
  simp only [List.getD_eq_getElem?_getD, List.getElem?_map, List.getElem?_range h2, Option.map_some, Option.getD_some, e]
  exact ⟨fun h => by rw [if_pos h], fun h => by rw [if_neg h]⟩
abbrev mapE (σ : Int → Int) (s : Int) (x : Ed) : Ed := { x with src := s, dst := if decide (0 ≤ x.dst) then σ x.dst else x.dst }
noncomputable abbrev pgOf (n m : Nat) (P : Int → Prop) (σ τ : Int → Int) : Pg := (listI n P σ, listI m (fun t => InR n (τ t) ∧ P (τ t) ∧ σ (τ t) = t) τ)
theorem full_of (ha : Wf a) (P : Int → Prop) (σ τ : Int → Int) (h0 : P 0) (hz : σ 0 = 0) (hσ : ∀ s, InR a.states.length s → P s → InR b.states.length (σ s) ∧ τ (σ s) = s)
    (hP : ∀ x ∈ a.edges, P x.src → 0 ≤ x.dst → P x.dst) (hg : ∀ s, InR a.states.length s → P s → stS b (σ s) = stS a s)
    (hE : ∀ s, InR a.states.length s → P s → fromS b.edges (σ s) = (fromS a.edges s).map (mapE σ (σ s))) : Full a b (pgOf a.states.length b.states.length P σ τ) := by
  have g1 : ∀ {s : Int}, InR a.states.length s → P s → toS (pgOf a.states.length b.states.length P σ τ).1 s = σ s := fun hs hp => (listI_get hs).1 hp
  have g1n : ∀ {s : Int}, InR a.states.length s → ¬ P s → toS (pgOf a.states.length b.states.length P σ τ).1 s = -1 := fun hs hp => (listI_get hs).2 hp
  have g2 : ∀ {t : Int}, InR b.states.length t → (InR a.states.length (τ t) ∧ P (τ t) ∧ σ (τ t) = t) → toS (pgOf a.states.length b.states.length P σ τ).2 t = τ t := fun hs hp => (listI_get (P := fun t => InR a.states.length (τ t) ∧ P (τ t) ∧ σ (τ t) = t) (f := τ) hs).1 hp
  have g2n : ∀ {t : Int}, InR b.states.length t → ¬ (InR a.states.length (τ t) ∧ P (τ t) ∧ σ (τ t) = t) → toS (pgOf a.states.length b.states.length P σ τ).2 t = -1 := fun hs hp => (listI_get (P := fun t => InR a.states.length (τ t) ∧ P (τ t) ∧ σ (τ t) = t) (f := τ) hs).2 hp
  have i : Inv a b (pgOf a.states.length b.states.length P σ τ) := by
    refine ⟨listI_len _ _ _, listI_len _ (fun t => InR a.states.length (τ t) ∧ P (τ t) ∧ σ (τ t) = t) τ, fun s hs h => ?_, fun t ht h => ?_, fun s hs h => ?_, fun t ht h => ?_⟩
    · by_cases hp : P s
      · obtain ⟨k1, k2⟩ := hσ s hs hp
        rw [g1 hs hp]
        exact ⟨k1, by rw [g2 k1 (by rw [k2]; exact ⟨hs, hp, rfl⟩), k2]⟩
      · rw [g1n hs hp] at h; omega
    · by_cases hp : InR a.states.length (τ t) ∧ P (τ t) ∧ σ (τ t) = t
      · rw [g2 ht hp]
        exact ⟨hp.1, by rw [g1 hp.1 hp.2.1, hp.2.2]⟩
      · rw [g2n ht hp] at h; omega
    · by_cases hp : P s
      · rw [g1 hs hp] at h; have := (hσ s hs hp).1.1; omega
      · exact g1n hs hp
    · by_cases hp : InR a.states.length (τ t) ∧ P (τ t) ∧ σ (τ t) = t
      · rw [g2 ht hp] at h; have := hp.1.1; omega
      · exact g2n ht hp
  have h00 : InR a.states.length 0 := ⟨Int.le_refl _, ha.pos⟩
  refine ⟨i, (g1 h00 h0).trans hz, fun s hs h => ?_⟩
  by_cases hp : P s
  · unfold ClAt
    rw [g1 hs hp, hg s hs hp, hE s hs hp]
    refine ⟨(sameGs_iff _ _).2 rfl, ?_⟩
    have key : ∀ l : List Ed, (∀ x ∈ l, x ∈ a.edges ∧ x.src = s) → Mt (pgOf a.states.length b.states.length P σ τ) l (l.map (mapE σ (σ s))) := by
      intro l
      induction l with
      | nil => intro _; trivial
      | cons x r ih =>
        intro hl
        obtain ⟨hx, hsx⟩ := hl x (List.mem_cons_self ..)
        refine ⟨⟨sameEd_refl _ _ _, ?_⟩, ih fun y hy => hl y (List.mem_cons_of_mem _ hy)⟩
        by_cases hd : 0 ≤ x.dst
        · right
          have hpd := hP x hx (by rw [hsx]; exact hp) hd
          have hdr := (ha.edr x hx).2 hd
          have e : (mapE σ (σ s) x).dst = σ x.dst := if_pos (decide_eq_true hd)
          refine ⟨hd, by rw [e]; exact (hσ _ hdr hpd).1.1, by rw [g1 hdr hpd, e]⟩
        · left
          have e : (mapE σ (σ s) x).dst = x.dst := if_neg (by simpa using hd)
          exact ⟨by omega, by rw [e]; omega⟩
    exact key _ fun x hx => by
      obtain ⟨h1, h2⟩ := List.mem_filter.1 hx
      exact ⟨h1, by simpa using h2⟩
  · rw [g1n hs hp] at h; omega
/-- What pairing yields then. -/
theorem iso_of (ha : Wf a) (hb : Wf b) (P : Int → Prop) (σ τ : Int → Int) (hf : Full a b (pgOf a.states.length b.states.length P σ τ)) (hP : ∀ s, InR a.states.length s → P s → seenS (reachA a) s = true) :
    (isoD a b).1 = true ∧ ∀ s, InR a.states.length s → toS (isoD a b).2.1 s = if seenS (reachA a) s = true then σ s else -1 := by
  obtain ⟨A, B⟩ := isoD_ok ha hb
  obtain ⟨h1, x⟩ := B _ hf
  have f := A h1
  refine ⟨h1, fun s hs => ?_⟩
  by_cases hr : seenS (reachA a) s = true
  · rw [if_pos hr]
    have h0 := full_reach ha f hs hr
    have e := x.to s hs h0
    by_cases hp : P s
    · rw [← e]; exact (listI_get hs).1 hp
    · have e2 : toS (pgOf a.states.length b.states.length P σ τ).1 s = -1 := (listI_get hs).2 hp
      rw [e2] at e; omega
  · rw [if_neg hr]
    by_cases h0 : 0 ≤ toS (isoD a b).2.1 s
    · exfalso
      have e := x.to s hs h0
      have hp : ¬ P s := fun hp => hr (hP s hs hp)
      have e2 : toS (pgOf a.states.length b.states.length P σ τ).1 s = -1 := (listI_get hs).2 hp
      rw [e2] at e; omega
    · exact f.inv.neg s hs (by omega)
theorem iso_self (ha : Wf a) : (isoD a a).1 = true ∧ ∀ s, InR a.states.length s → toS (isoD a a).2.1 s = if seenS (reachA a) s = true then s else -1 := by
  refine iso_of ha ha (fun s => seenS (reachA a) s = true) id id ?_ fun s _ h => h
  refine full_of ha _ id id (reach_ok ha.edr ha.pos).2.1 rfl (fun s hs _ => ⟨hs, rfl⟩) (fun x hx h hd => reach_clo ha hx h hd) (fun _ _ _ => rfl) fun s hs _ => ?_
  have : ∀ x ∈ fromS a.edges s, mapE id (id s) x = x := fun x hx => by
    have h2 : x.src = s := by simpa using (List.mem_filter.1 hx).2
    have h3 : (if decide (0 ≤ x.dst) then id x.dst else x.dst) = x.dst := by split <;> rfl
    show ({ x with src := s, dst := if decide (0 ≤ x.dst) then id x.dst else x.dst } : Ed) = x
    rw [h3, ← h2]
  rw [List.map_congr_left this, List.map_id']; rfl

/-! The states but 0 in the opposite order. -/
def tn (n : Nat) (i : Int) : Int := if decide (i ≤ 0) then i else (n : Int) - i
theorem tn_in {n : Nat} {i : Int} (h : InR n i) : InR n (tn n i) := by
  unfold tn
  have h1 := h.1; have h2 := h.2
  split
  · exact h
  · rename_i k
    simp only [decide_eq_true_eq] at k
    exact ⟨by omega, by omega⟩
theorem tn_tn {n : Nat} {i : Int} (h : InR n i) : tn n (tn n i) = i := by
  unfold tn
  have h1 := h.1; have h2 := h.2
  by_cases k : i ≤ 0
  · rw [if_pos (decide_eq_true k), if_pos (decide_eq_true k)]
  · have e : (if decide (i ≤ 0) = true then i else (n : Int) - i) = n - i := if_neg (by simpa using k)
    rw [e, if_neg (by simp only [decide_eq_true_eq]; omega)]
    omega
theorem tn_neg {n : Nat} {i : Int} (h : i < 0) : tn n i = i := by unfold tn; rw [if_pos (decide_eq_true (by omega))]
theorem tn_zero (n : Nat) : tn n 0 = 0 := rfl
def turnE (n : Nat) (x : Ed) : Ed := { x with src := tn n x.src, dst := tn n x.dst }
def chunk (n : Nat) (l : List Ed) (i : Nat) : List Ed := (l.filter fun x => tn n x.src == (i : Int)).map (turnE n)
def turnS (a : Au) : Au := ⟨a.vars, a.scopes, (List.range a.states.length).map fun (j : Nat) => stS a (tn a.states.length (j : Int)), (List.range a.states.length).flatMap (chunk a.states.length a.edges)⟩
theorem turn_n (a : Au) : (turnS a).states.length = a.states.length := by unfold turnS; simp
theorem turn_st (a : Au) {s : Int} (hs : InR a.states.length s) : stS (turnS a) s = stS a (tn a.states.length s) := by
  have e : ((s.toNat : Nat) : Int) = s := by have := hs.1; omega
  show ((List.range a.states.length).map fun (j : Nat) => stS a (tn a.states.length (j : Int))).getD s.toNat [] = _
  simp only [List.getD_eq_getElem?_getD, List.getElem?_map, List.getElem?_range hs.2, Option.map_some, Option.getD_some, e]
theorem chunk_src {n : Nat} {l : List Ed} {i : Nat} : ∀ x ∈ chunk n l i, x.src = (i : Int) := fun x hx => by
  obtain ⟨y, hy, rfl⟩ := List.mem_map.1 hx
  have := (List.mem_filter.1 hy).2
  simpa [turnE] using this
theorem flat_one {α : Type} (g : Nat → List α) (i : Nat) (hg : ∀ j, j ≠ i → g j = []) : ∀ n, (List.range n).flatMap g = if i < n then g i else []
  | 0 => by simp
  | n + 1 => by
    rw [List.range_succ, List.flatMap_append, flat_one g i hg n]
    simp only [List.flatMap_cons, List.flatMap_nil, List.append_nil]
    by_cases h : i < n
    · rw [if_pos h, if_pos (by omega), hg n (by omega), List.append_nil]
    · rw [if_neg h]
      by_cases h2 : i = n
      · subst h2; rw [if_pos (by omega)]; rfl
      · rw [if_neg (by omega), hg n (by omega)]; rfl
theorem filter_flat {α : Type} (p : α → Bool) (g : Nat → List α) : ∀ l : List Nat, (l.flatMap g).filter p = l.flatMap fun i => (g i).filter p
  | [] => rfl
  | i :: r => by rw [List.flatMap_cons, List.filter_append, filter_flat p g r, List.flatMap_cons]
theorem turn_from (ha : Wf a) {s : Int} (hs : InR a.states.length s) : fromS (turnS a).edges (tn a.states.length s) = (fromS a.edges s).map (turnE a.states.length) := by
  have ht := tn_in hs
  unfold fromS turnS
  simp only
  rw [filter_flat]
  have h1 := flat_one (fun i => (chunk a.states.length a.edges i).filter fun x => x.src == tn a.states.length s) (tn a.states.length s).toNat (fun j hj => by
    rw [List.filter_eq_nil_iff]
    intro x hx
    rw [chunk_src x hx, beq_iff_eq]
    have := ht.1
    omega) a.states.length
  rw [h1, if_pos ht.2]
  have e : (((tn a.states.length s).toNat : Nat) : Int) = tn a.states.length s := by have := ht.1; omega
  rw [List.filter_eq_self.2 fun x hx => by rw [chunk_src x hx, e]; simp]
  unfold chunk
  rw [e]
  refine congrArg (List.map (turnE a.states.length)) (List.filter_congr fun x hx => ?_)
  have hx1 := (ha.edr x hx).1
  by_cases hk : x.src = s
  · rw [hk]; simp
  · have : tn a.states.length x.src ≠ tn a.states.length s := fun e2 => hk (by rw [← tn_tn hx1, e2, tn_tn hs])
    rw [beq_eq_false_iff_ne.2 this, beq_eq_false_iff_ne.2 hk]
theorem turn_mem {y : Ed} (h : y ∈ (turnS a).edges) : ∃ x ∈ a.edges, y = turnE a.states.length x := by
  obtain ⟨i, _, hi⟩ := List.mem_flatMap.1 h
  obtain ⟨x, hx, rfl⟩ := List.mem_map.1 hi
  exact ⟨x, (List.mem_filter.1 hx).1, rfl⟩
theorem mem_turn (ha : Wf a) {x : Ed} (hx : x ∈ a.edges) : turnE a.states.length x ∈ (turnS a).edges := by
  have ht := tn_in (ha.edr x hx).1
  refine List.mem_flatMap.2 ⟨(tn a.states.length x.src).toNat, List.mem_range.2 ht.2, List.mem_map.2 ⟨x, List.mem_filter.2 ⟨hx, ?_⟩, rfl⟩⟩
  rw [beq_iff_eq]
  have := ht.1
  omega
/-- Counting the edges by chunks. -/
theorem count_chunks {n : Nat} (P : Ed → Bool) : ∀ l : List Ed, (∀ x ∈ l, InR n x.src) → ((List.range n).map fun (i : Nat) => l.countP fun x => (tn n x.src == (i : Int)) && P x).sum = l.countP P
  | [], _ => by
    have : ∀ m, ((List.range m).map fun (i : Nat) => 0).sum = 0 := by
      intro m; induction m with
      | zero => rfl
      | succ m ih => rw [List.range_succ, List.map_append, List.sum_append, ih]; rfl
    simpa using this n
  | x :: r, h => by
    have ih := count_chunks P r fun y hy => h y (List.mem_cons_of_mem _ hy)
    have ht := tn_in (h x (List.mem_cons_self ..))
    have split : ∀ m, ((List.range m).map fun (i : Nat) => (x :: r).countP fun x => (tn n x.src == (i : Int)) && P x).sum = ((List.range m).map fun (i : Nat) => r.countP fun x => (tn n x.src == (i : Int)) && P x).sum + (if (tn n x.src).toNat < m ∧ P x = true then 1 else 0) := by
      intro m
      induction m with
      | zero => rfl
      | succ m ihm =>
        rw [List.range_succ, List.map_append, List.map_append, List.sum_append, List.sum_append, ihm]
        simp only [List.map_cons, List.map_nil, List.sum_cons, List.sum_nil, List.countP_cons, Nat.add_zero]
        have e : (tn n x.src == (m : Int)) = decide ((tn n x.src).toNat = m) := by
          rw [Bool.eq_iff_iff, beq_iff_eq, decide_eq_true_eq]
          have := ht.1
          omega
        rw [e]
        cases hP : P x with
        | false => simp
        | true =>
          by_cases h1 : (tn n x.src).toNat < m
          · have h2 : ¬ (tn n x.src).toNat = m := by omega
            have h3 : (tn n x.src).toNat < m + 1 := by omega
            simp [h1, h2, h3]
            omega
          · by_cases h2 : (tn n x.src).toNat = m
            · have h3 : (tn n x.src).toNat < m + 1 := by omega
              simp [h1, h2, h3]
              omega
            · have h3 : ¬ (tn n x.src).toNat < m + 1 := by omega
              simp [h1, h2, h3]
    rw [split n, ih, List.countP_cons]
    cases hP : P x with
    | false => simp
    | true => simp [ht.2]
theorem turn_count (ha : Wf a) (P : Ed → Bool) : (turnS a).edges.countP P = a.edges.countP fun x => P (turnE a.states.length x) := by
  rw [← count_chunks (n := a.states.length) (fun x => P (turnE a.states.length x)) a.edges fun x hx => (ha.edr x hx).1]
  have : ∀ l : List Nat, (l.flatMap (chunk a.states.length a.edges)).countP P = (l.map fun (i : Nat) => a.edges.countP fun x => (tn a.states.length x.src == (i : Int)) && P (turnE a.states.length x)).sum := by
    intro l
    induction l with
    | nil => rfl
    | cons i r ih =>
      rw [List.flatMap_cons, List.countP_append, ih, List.map_cons, List.sum_cons]
      congr 1
      unfold chunk
      rw [List.countP_map, List.countP_filter]
      congr 1
      funext x
      simp only [Function.comp, Bool.and_comm]
  exact this _
theorem asc_pair : ∀ (l : List Ed) (b : Int), List.Pairwise (fun x y : Ed => x.src ≤ y.src) l → (∀ x ∈ l, b ≤ x.src) → AscE b l
  | [], _, _, _ => trivial
  | x :: r, b, h, k => ⟨k x (List.mem_cons_self ..), asc_pair r x.src (List.pairwise_cons.1 h).2 (List.pairwise_cons.1 h).1⟩
theorem turn_wf (ha : Wf a) : Wf (turnS a) := by
  have hn := turn_n a
  refine ⟨ha.vars, ha.scopes, by rw [hn]; exact ha.pos, by rw [hn]; exact ha.most, ?_, fun s hs => ?_, fun y hy => ?_, ?_⟩
  · have := turn_count ha (fun _ => true)
    simp only [List.countP_true] at this
    rw [this]; exact ha.many
  · obtain ⟨j, hj, rfl⟩ := List.mem_map.1 hs
    have ht := tn_in (n := a.states.length) (i := (j : Int)) ⟨Int.natCast_nonneg _, by simpa using List.mem_range.1 hj⟩
    refine ha.gs _ ?_
    unfold stS
    rw [List.getD_eq_getElem?_getD, List.getElem?_eq_getElem ht.2]
    exact List.getElem_mem ht.2
  · obtain ⟨x, hx, rfl⟩ := turn_mem hy
    have e := ha.ed x hx
    have r := ha.edr x hx
    have t1 := tn_in r.1
    rw [hn]
    refine ⟨⟨t1.1, by have := t1.1; have := t1.2; show tn _ _ < _; omega⟩, ?_, e.var, e.type, e.rest⟩
    show -1 ≤ tn _ x.dst ∧ tn _ x.dst < _
    by_cases hd : 0 ≤ x.dst
    · have t2 := tn_in (r.2 hd)
      have := t2.1; have := t2.2
      exact ⟨by omega, by omega⟩
    · rw [tn_neg (by omega)]; exact e.dst
  · refine asc_pair _ _ ?_ fun x hx => ?_
    · have : ∀ m, List.Pairwise (fun x y : Ed => x.src ≤ y.src) ((List.range m).flatMap (chunk a.states.length a.edges)) ∧ ∀ x ∈ (List.range m).flatMap (chunk a.states.length a.edges), x.src < (m : Int) := by
        intro m
        induction m with
        | zero => exact ⟨List.Pairwise.nil, fun x hx => (List.not_mem_nil hx).elim⟩
        | succ m ih =>
          rw [List.range_succ, List.flatMap_append]
          simp only [List.flatMap_cons, List.flatMap_nil, List.append_nil]
          refine ⟨List.pairwise_append.2 ⟨ih.1, ?_, fun x hx y hy => ?_⟩, fun x hx => ?_⟩
          · have : ∀ l : List Ed, (∀ x ∈ l, x.src = (m : Int)) → List.Pairwise (fun x y : Ed => x.src ≤ y.src) l := by
              intro l
              induction l with
              | nil => intro _; exact List.Pairwise.nil
              | cons x r ihr =>
                intro h
                exact List.pairwise_cons.2 ⟨fun y hy => by rw [h x (List.mem_cons_self ..), h y (List.mem_cons_of_mem _ hy)]; exact Int.le_refl _, ihr fun y hy => h y (List.mem_cons_of_mem _ hy)⟩
            exact this _ chunk_src
          · have := ih.2 x hx
            rw [chunk_src y hy]; omega
          · rcases List.mem_append.1 hx with hx | hx
            · have := ih.2 x hx; omega
            · rw [chunk_src x hx]; omega
      exact (this a.states.length).1
    · obtain ⟨y, hy, rfl⟩ := turn_mem hx
      exact (tn_in (ha.edr y hy).1).1
theorem turnE_map {n : Nat} {x : Ed} {s : Int} (hs : x.src = s) : turnE n x = mapE (tn n) (tn n s) x := by
  have : (if decide (0 ≤ x.dst) then tn n x.dst else x.dst) = tn n x.dst := by
    by_cases hd : 0 ≤ x.dst
    · rw [if_pos (decide_eq_true hd)]
    · rw [if_neg (by simpa using hd), tn_neg (by omega)]
  show ({ x with src := tn n x.src, dst := tn n x.dst } : Ed) = { x with src := tn n s, dst := if decide (0 ≤ x.dst) then tn n x.dst else x.dst }
  rw [this, hs]
theorem iso_turn (ha : Wf a) : (isoD a (turnS a)).1 = true ∧ ∀ s, InR a.states.length s → toS (isoD a (turnS a)).2.1 s = if seenS (reachA a) s = true then tn a.states.length s else -1 := by
  refine iso_of ha (turn_wf ha) (fun s => seenS (reachA a) s = true) (tn a.states.length) (tn a.states.length) ?_ fun s _ h => h
  refine full_of ha _ (tn a.states.length) (tn a.states.length) (reach_ok ha.edr ha.pos).2.1 (tn_zero _) (fun s hs _ => ⟨by rw [turn_n]; exact tn_in hs, tn_tn hs⟩) (fun x hx h hd => reach_clo ha hx h hd) (fun s hs _ => by rw [turn_st a (tn_in hs), tn_tn hs]) fun s hs _ => ?_
  rw [turn_from ha hs]
  refine List.map_congr_left fun x hx => turnE_map ?_
  simpa using (List.mem_filter.1 hx).2
/-! What is kept of it. -/
theorem turn_reach (ha : Wf a) {s : Int} (hs : InR a.states.length s) : seenS (reachA (turnS a)) (tn a.states.length s) = seenS (reachA a) s := by
  have hb := turn_wf ha
  have hn := turn_n a
  rw [Bool.eq_iff_iff]
  constructor
  · intro h
    have hT : CloF (turnS a).edges (setL (turnS a).states.length fun t => seenS (reachA a) (tn a.states.length t) = true) := by
      intro y hy hsy hd
      obtain ⟨x, hx, rfl⟩ := turn_mem hy
      have e := hb.edr _ hy
      have r := ha.edr x hx
      rw [setL_get e.1] at hsy
      rw [setL_get (e.2 hd)]
      have hd0 : 0 ≤ x.dst := by
        by_cases k : 0 ≤ x.dst
        · exact k
        · have : (turnE a.states.length x).dst = x.dst := tn_neg (by omega)
          rw [this] at hd; exact hd
      have hsy : seenS (reachA a) (tn a.states.length (tn a.states.length x.src)) = true := hsy
      show seenS (reachA a) (tn a.states.length (tn a.states.length x.dst)) = true
      rw [tn_tn r.1] at hsy
      rw [tn_tn (r.2 hd0)]
      exact reach_clo ha hx hsy hd0
    have := seen_sub ((reach_ok hb.edr hb.pos).2.2.2 _ hT (setL_len _ _) ((setL_get ⟨Int.le_refl _, hb.pos⟩).2 (by rw [tn_zero]; exact (reach_ok ha.edr ha.pos).2.1))) h
    rw [setL_get (by rw [hn]; exact tn_in hs), tn_tn hs] at this
    exact this
  · intro h
    have hT : CloF a.edges (setL a.states.length fun s => seenS (reachA (turnS a)) (tn a.states.length s) = true) := by
      intro x hx hsx hd
      have r := ha.edr x hx
      rw [setL_get r.1] at hsx
      rw [setL_get (r.2 hd)]
      exact reach_clo hb (mem_turn ha hx) hsx (tn_in (r.2 hd)).1
    have := seen_sub ((reach_ok ha.edr ha.pos).2.2.2 _ hT (setL_len _ _) ((setL_get ⟨Int.le_refl _, ha.pos⟩).2 (by rw [tn_zero]; exact (reach_ok hb.edr hb.pos).2.1))) h
    exact (setL_get hs).1 this
theorem turn_useful (ha : Wf a) {s : Int} (hs : InR a.states.length s) : seenS (usefulA (turnS a)) (tn a.states.length s) = seenS (usefulA a) s := by
  have hb := turn_wf ha
  have hn := turn_n a
  rw [Bool.eq_iff_iff]
  constructor
  · intro h
    have hT : CloB (turnS a).edges (setL (turnS a).states.length fun t => seenS (usefulA a) (tn a.states.length t) = true) := by
      intro y hy hd
      obtain ⟨x, hx, rfl⟩ := turn_mem hy
      have e := hb.edr _ hy
      have r := ha.edr x hx
      rw [setL_get e.1]
      show seenS (usefulA a) (tn a.states.length (tn a.states.length x.src)) = true
      rw [tn_tn r.1]
      by_cases hneg : x.dst < 0
      · exact useful_clo ha hx (.inl hneg)
      · have hd0 : 0 ≤ x.dst := by omega
        have t2 := tn_in (r.2 hd0)
        rcases hd with hd | hd
        · have hd : tn a.states.length x.dst < 0 := hd
          have := t2.1; omega
        · rw [setL_get (by rw [hn]; exact t2)] at hd
          have hd : seenS (usefulA a) (tn a.states.length (tn a.states.length x.dst)) = true := hd
          rw [tn_tn (r.2 hd0)] at hd
          exact useful_clo ha hx (.inr hd)
    have := seen_sub ((useful_ok hb.edr).2.2 _ hT (setL_len _ _)) h
    rw [setL_get (by rw [hn]; exact tn_in hs), tn_tn hs] at this
    exact this
  · intro h
    have hT : CloB a.edges (setL a.states.length fun s => seenS (usefulA (turnS a)) (tn a.states.length s) = true) := by
      intro x hx hd
      have r := ha.edr x hx
      rw [setL_get r.1]
      refine useful_clo hb (mem_turn ha hx) ?_
      by_cases hneg : x.dst < 0
      · left; show tn a.states.length x.dst < 0; rw [tn_neg hneg]; exact hneg
      · right
        have hd0 : 0 ≤ x.dst := by omega
        have := hd.resolve_left hneg
        rw [setL_get (r.2 hd0)] at this
        exact this
    have := seen_sub ((useful_ok ha.edr).2.2 _ hT (setL_len _ _)) h
    exact (setL_get hs).1 this
theorem turn_kept (ha : Wf a) {s : Int} (hs : InR a.states.length s) : seenS (keptA (turnS a)) (tn a.states.length s) = seenS (keptA a) s := by
  rw [Bool.eq_iff_iff, kept_get ha hs, kept_get (turn_wf ha) (by rw [turn_n]; exact tn_in hs), turn_reach ha hs, turn_useful ha hs]
  refine or_congr ⟨fun h => ?_, fun h => by rw [h]; rfl⟩ Iff.rfl
  rw [← tn_tn hs, h]; rfl
theorem turn_keep (ha : Wf a) {x : Ed} (hx : x ∈ a.edges) : keepEdge (keptA (turnS a)) (turnE a.states.length x) = keepEdge (keptA a) x := by
  have r := ha.edr x hx
  unfold keepEdge
  show (seenS (keptA (turnS a)) (tn a.states.length x.src) && (decide (tn a.states.length x.dst < 0) || seenS (keptA (turnS a)) (tn a.states.length x.dst))) = _
  rw [turn_kept ha r.1]
  congr 1
  by_cases hd : 0 ≤ x.dst
  · have := (tn_in (r.2 hd)).1
    rw [turn_kept ha (r.2 hd), decide_eq_false (show ¬ tn a.states.length x.dst < 0 by omega), decide_eq_false (show ¬ x.dst < 0 by omega)]
  · rw [tn_neg (by omega), decide_eq_true (show x.dst < 0 by omega)]; rfl
theorem flip_count (l m : List Bool) (h : l.length = m.length) (k : ∀ i, i < l.length → m.getD i false = l.getD (if i = 0 then 0 else l.length - i) false) : m.countP id = l.countP id := by
  cases l with
  | nil =>
    cases m with
    | nil => rfl
    | cons b s => simp at h
  | cons a r =>
    have e : m = a :: r.reverse := by
      refine List.ext_getElem (by simpa using h.symm) fun i h1 h2 => ?_
      have h2 : i < (a :: r).length := by simpa using h2
      have e1 := k i h2
      rw [List.getD_eq_getElem?_getD, List.getElem?_eq_getElem h1, Option.getD_some] at e1
      rw [e1]
      cases i with
      | zero => rfl
      | succ i =>
        rw [if_neg (by omega), List.getElem_cons_succ, List.getElem_reverse]
        have h3 : (a :: r).length - (i + 1) = (r.length - 1 - i) + 1 := by simp only [List.length_cons] at h2 ⊢; omega
        have h4 : r.length - 1 - i < r.length := by simp only [List.length_cons] at h2; omega
        rw [h3, List.getD_cons_succ, List.getD_eq_getElem?_getD, List.getElem?_eq_getElem h4]; rfl
    rw [e, List.countP_cons, List.countP_cons, List.countP_reverse]
theorem turn_counts (ha : Wf a) : (trimA (turnS a)).states.length = (trimA a).states.length ∧ (trimA (turnS a)).edges.length = (trimA a).edges.length := by
  have hb := turn_wf ha
  have hn := turn_n a
  constructor
  · rw [trim_n (kept_kp hb), trim_n (kept_kp ha)]
    refine flip_count _ _ (by rw [kept_len ha, kept_len hb, hn]) fun i hi => ?_
    rw [kept_len ha] at hi ⊢
    have hs : InR a.states.length (i : Int) := ⟨Int.natCast_nonneg _, by simpa using hi⟩
    have := turn_kept ha (tn_in hs)
    rw [tn_tn hs] at this
    unfold seenS at this
    rw [Int.toNat_natCast] at this
    rw [this]
    congr 1
    unfold tn
    by_cases h0 : i = 0
    · subst h0; rfl
    · rw [if_neg (by simp only [decide_eq_true_eq]; omega), if_neg h0]; omega
  · show (((turnS a).edges.filter (keepEdge (keptA (turnS a)))).map (moveEdge (keptA (turnS a)))).length = ((a.edges.filter (keepEdge (keptA a))).map (moveEdge (keptA a))).length
    rw [List.length_map, List.length_map, ← List.countP_eq_length_filter, ← List.countP_eq_length_filter, turn_count ha]
    exact List.countP_congr fun x hx => by rw [turn_keep ha hx]
theorem iso_trims (ha : Wf a) : (isoD (trimA a) (trimA (turnS a))).1 = true := by
  classical
  have hb := turn_wf ha
  have hn := turn_n a
  have ka := kept_kp ha
  have kb := kept_kp hb
  have wa := trimA_wf ha
  have wb := trimA_wf hb
  -- back from a number
  let f : Int → Int := fun v => if h : InR (trimA a).states.length v then (number_onto ka h).choose else 0
  have hf : ∀ s, InR a.states.length s → seenS (keptA a) s = true → f (numberS (keptA a) s) = s := fun s hs hk => by
    have hv := number_in ka hk
    have e : f (numberS (keptA a) s) = (number_onto ka hv).choose := dif_pos hv
    obtain ⟨c1, c2, c3⟩ := (number_onto ka hv).choose_spec
    rw [e]
    exact number_inj c1.1 hs.1 c2 hk c3
  let g : Int → Int := fun v => if h : InR (trimA (turnS a)).states.length v then (number_onto kb h).choose else 0
  have hg : ∀ s, InR (turnS a).states.length s → seenS (keptA (turnS a)) s = true → g (numberS (keptA (turnS a)) s) = s := fun s hs hk => by
    have hv := number_in kb hk
    have e : g (numberS (keptA (turnS a)) s) = (number_onto kb hv).choose := dif_pos hv
    obtain ⟨c1, c2, c3⟩ := (number_onto kb hv).choose_spec
    rw [e]
    exact number_inj c1.1 hs.1 c2 hk c3
  have kt : ∀ s, InR a.states.length s → seenS (keptA a) s = true → seenS (keptA (turnS a)) (tn a.states.length s) = true := fun s hs hk => by rw [turn_kept ha hs]; exact hk
  have inb : ∀ s, InR a.states.length s → InR (turnS a).states.length (tn a.states.length s) := fun s hs => by rw [hn]; exact tn_in hs
  let σ : Int → Int := fun v => numberS (keptA (turnS a)) (tn a.states.length (f v))
  let τ : Int → Int := fun v => numberS (keptA a) (tn a.states.length (g v))
  have hσn : ∀ s, InR a.states.length s → seenS (keptA a) s = true → σ (numberS (keptA a) s) = numberS (keptA (turnS a)) (tn a.states.length s) := fun s hs hk => by
    show numberS (keptA (turnS a)) (tn a.states.length (f (numberS (keptA a) s))) = _
    rw [hf s hs hk]
  have full : Full (trimA a) (trimA (turnS a)) (pgOf (trimA a).states.length (trimA (turnS a)).states.length (fun _ => True) σ τ) := by
    refine full_of wa _ σ τ trivial ?_ (fun v hv _ => ?_) (fun _ _ _ _ => trivial) (fun v hv _ => ?_) (fun v hv _ => ?_)
    · have := hσn 0 ⟨Int.le_refl _, ha.pos⟩ ka.zero
      rw [number_zero] at this
      rw [this, tn_zero, number_zero]
    · obtain ⟨s, hs, hk, rfl⟩ := number_onto ka hv
      rw [hσn s hs hk]
      refine ⟨number_in kb (kt s hs hk), ?_⟩
      show numberS (keptA a) (tn a.states.length (g (numberS (keptA (turnS a)) (tn a.states.length s)))) = _
      rw [hg _ (inb s hs) (kt s hs hk), tn_tn hs]
    · obtain ⟨s, hs, hk, rfl⟩ := number_onto ka hv
      rw [hσn s hs hk, trim_st kb (kt s hs hk), trim_st ka hk, turn_st a (tn_in hs), tn_tn hs]
    · obtain ⟨s, hs, hk, rfl⟩ := number_onto ka hv
      rw [hσn s hs hk, trim_from hb (tn_in hs).1 (kt s hs hk), trim_from ha hs.1 hk, turn_from ha hs, List.filter_map, List.map_map, List.map_map]
      have e1 : (fromS a.edges s).filter (keepEdge (keptA (turnS a)) ∘ turnE a.states.length) = (fromS a.edges s).filter (keepEdge (keptA a)) := List.filter_congr fun x hx => turn_keep ha (List.mem_filter.1 hx).1
      rw [e1]
      refine List.map_congr_left fun x hx => ?_
      obtain ⟨hx1, hx2⟩ := List.mem_filter.1 hx
      obtain ⟨hx3, hx4⟩ := List.mem_filter.1 hx1
      have hsx : x.src = s := by simpa using hx4
      obtain ⟨k1, k2⟩ := keep_iff.1 hx2
      have r := ha.edr x hx3
      simp only [Function.comp]
      show moveEdge (keptA (turnS a)) (turnE a.states.length x) = mapE σ _ (moveEdge (keptA a) x)
      have ed : (moveEdge (keptA (turnS a)) (turnE a.states.length x)).dst = (mapE σ (numberS (keptA (turnS a)) (tn a.states.length s)) (moveEdge (keptA a) x)).dst := by
        rw [move_dst]
        show (if decide (0 ≤ tn a.states.length x.dst) then numberS (keptA (turnS a)) (tn a.states.length x.dst) else tn a.states.length x.dst) = if decide (0 ≤ (moveEdge (keptA a) x).dst) then σ (moveEdge (keptA a) x).dst else (moveEdge (keptA a) x).dst
        rw [move_dst]
        by_cases hd : 0 ≤ x.dst
        · have kd := k2.resolve_left (by omega)
          rw [if_pos (decide_eq_true (tn_in (r.2 hd)).1), if_pos (decide_eq_true hd), if_pos (decide_eq_true (number_in ka kd).1), hσn _ (r.2 hd) kd]
        · have e0 : (if decide (0 ≤ x.dst) = true then numberS (keptA a) x.dst else x.dst) = x.dst := if_neg (by simpa using hd)
          rw [e0, tn_neg (show x.dst < 0 by omega), if_neg (by simpa using hd), if_neg (by simpa using hd)]
      have es : (moveEdge (keptA (turnS a)) (turnE a.states.length x)).src = numberS (keptA (turnS a)) (tn a.states.length s) := by
        rw [move_src]
        show numberS _ (tn a.states.length x.src) = _
        rw [hsx]
      unfold moveEdge turnE mapE at *
      simp only [Ed.mk.injEq, true_and, and_true] at *
      exact ⟨es, ed⟩
  exact ((isoD_ok wa wb).2 _ full).1
end Go.Proofs.YtoolcpnahmgnnaaGreatDoor
