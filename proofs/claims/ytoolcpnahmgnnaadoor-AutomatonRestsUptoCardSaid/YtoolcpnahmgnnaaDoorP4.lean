/-
  The plain law of trimming: the trimmed automaton is well-formed, all its states are reachable, and useful but perhaps 0; it is trimmed. No program in sight. No condition.
-/
import Derived.Test.YtoolcpnahmgnnaaDoorP3
namespace Go.Proofs.YtoolcpnahmgnnaaDoor
open Go Go.Aw
set_option linter.unusedVariables false
set_option linter.unusedSimpArgs false

/-! Numbers of what is kept. -/
def cnt (k : List Bool) (i : Nat) : Nat := (k.take i).countP id
theorem cnt_zero (k : List Bool) : cnt k 0 = 0 := rfl
theorem cnt_cons (b : Bool) (r : List Bool) (i : Nat) : cnt (b :: r) (i + 1) = cnt r i + (if b then 1 else 0) := by
  unfold cnt
  rw [List.take_succ_cons, List.countP_cons]
  cases b <;> rfl
theorem cnt_mono (k : List Bool) : ∀ {i j : Nat}, i ≤ j → cnt k i ≤ cnt k j := by
  induction k with
  | nil => intro i j _; simp [cnt]
  | cons b r ih =>
    intro i j h
    cases i with
    | zero => rw [cnt_zero]; exact Nat.zero_le _
    | succ i =>
      obtain ⟨j, rfl⟩ : ∃ m, j = m + 1 := ⟨j - 1, by omega⟩
      rw [cnt_cons, cnt_cons]
      have := ih (i := i) (j := j) (by omega)
      omega
theorem cnt_lt (k : List Bool) : ∀ {i j : Nat}, i < j → k.getD i false = true → cnt k i < cnt k j := by
  induction k with
  | nil => intro i j _ h; simp at h
  | cons b r ih =>
    intro i j h hk
    obtain ⟨j, rfl⟩ : ∃ m, j = m + 1 := ⟨j - 1, by omega⟩
    cases i with
    | zero =>
      have hb : b = true := hk
      rw [cnt_zero, cnt_cons, hb]; simp
    | succ i =>
      have hk : r.getD i false = true := hk
      rw [cnt_cons, cnt_cons]
      have := ih (i := i) (j := j) (by omega) hk
      omega
theorem cnt_all (k : List Bool) : cnt k k.length = k.countP id := by unfold cnt; rw [List.take_length]
theorem getD_lt {k : List Bool} {i : Nat} (h : k.getD i false = true) : i < k.length := by
  by_cases hi : i < k.length
  · exact hi
  · rw [List.getD_eq_getElem?_getD, List.getElem?_eq_none (by omega)] at h; exact absurd h (by decide)
theorem cnt_below {k : List Bool} {i : Nat} (h : k.getD i false = true) : cnt k i < k.countP id := by rw [← cnt_all]; exact cnt_lt k (getD_lt h) h
theorem cnt_inj {k : List Bool} {i j : Nat} (hi : k.getD i false = true) (hj : k.getD j false = true) (h : cnt k i = cnt k j) : i = j := by
  rcases Nat.lt_trichotomy i j with h1 | h1 | h1
  · have := cnt_lt k h1 hi; omega
  · exact h1
  · have := cnt_lt k h1 hj; omega
theorem cnt_onto : ∀ (k : List Bool) (v : Nat), v < k.countP id → ∃ i, k.getD i false = true ∧ cnt k i = v
  | [], v, h => absurd h (by simp)
  | b :: r, v, h => by
    rw [List.countP_cons] at h
    cases b with
    | true =>
      cases v with
      | zero => exact ⟨0, rfl, rfl⟩
      | succ v =>
        obtain ⟨i, h1, h2⟩ := cnt_onto r v (by simpa using h)
        exact ⟨i + 1, h1, by rw [cnt_cons, h2]; rfl⟩
    | false =>
      obtain ⟨i, h1, h2⟩ := cnt_onto r v (by simpa using h)
      exact ⟨i + 1, h1, by rw [cnt_cons, h2]; rfl⟩
theorem keep_len : ∀ (k : List Bool) (l : List (List Gu)), k.length = l.length → (keepStates k l).length = k.countP id
  | [], [], _ => rfl
  | [], _ :: _, h => absurd h (by simp)
  | _ :: _, [], h => absurd h (by simp)
  | b :: r, s :: l, h => by
    have ih := keep_len r l (by simpa using h)
    unfold keepStates
    rw [List.countP_cons]
    cases b with
    | true => simp [ih]
    | false => simp [ih]
theorem keep_mem : ∀ (k : List Bool) (l : List (List Gu)) (s : List Gu), s ∈ keepStates k l → s ∈ l
  | [], _, s, h => by simp [keepStates] at h
  | _ :: _, [], s, h => by simp [keepStates] at h
  | b :: r, x :: l, s, h => by
    unfold keepStates at h
    cases b with
    | true =>
      rcases List.mem_cons.1 h with rfl | h
      · exact List.mem_cons_self ..
      · exact List.mem_cons_of_mem _ (keep_mem r l s h)
    | false => exact List.mem_cons_of_mem _ (keep_mem r l s h)
theorem number_cnt (k : List Bool) (s : Int) : numberS k s = (cnt k s.toNat : Int) := rfl
theorem number_inj {k : List Bool} {s t : Int} (h0 : 0 ≤ s) (h1 : 0 ≤ t) (hs : seenS k s = true) (ht : seenS k t = true) (h : numberS k s = numberS k t) : s = t := by
  rw [number_cnt, number_cnt] at h
  have := cnt_inj hs ht (by omega)
  omega

/-! What is kept. -/
variable {a : Au}
theorem zip_get : ∀ (r u : List Bool) (i : Nat), (List.zipWith (· && ·) r u).getD i false = (r.getD i false && u.getD i false)
  | [], u, i => by simp
  | b :: r, [], i => by simp
  | b :: r, c :: u, 0 => rfl
  | b :: r, c :: u, i + 1 => zip_get r u i
structure Kp (a : Au) (k : List Bool) : Prop where
  len : k.length = a.states.length
  zero : seenS k 0 = true
theorem kept_len (h : Wf a) : (keptA a).length = a.states.length := by
  unfold keptA keptS
  rw [mark_len, List.length_zipWith, show (reachA a).length = _ from (reach_ok h.edr h.pos).1, show (usefulA a).length = _ from (useful_ok h.edr).1]
  exact Nat.min_self _
theorem kept_get (h : Wf a) {s : Int} (hs : InR a.states.length s) : seenS (keptA a) s = true ↔ s = 0 ∨ (seenS (reachA a) s = true ∧ seenS (usefulA a) s = true) := by
  unfold seenS keptA keptS
  rw [mark_get, zip_get, Bool.or_eq_true, decide_eq_true_eq, Bool.and_eq_true]
  have hl : 0 < (List.zipWith (· && ·) (reachA a) (usefulA a)).length := by
    rw [List.length_zipWith, show (reachA a).length = _ from (reach_ok h.edr h.pos).1, show (usefulA a).length = _ from (useful_ok h.edr).1]
    have := h.pos
    omega
  constructor
  · rintro (⟨k, _⟩ | k)
    · left; have := hs.1; have : (0 : Int).toNat = s.toNat := k; omega
    · exact .inr k
  · rintro (rfl | k)
    · exact .inl ⟨rfl, hl⟩
    · exact .inr k
theorem kept_kp (h : Wf a) : Kp a (keptA a) := ⟨kept_len h, (kept_get h ⟨Int.le_refl _, h.pos⟩).2 (.inl rfl)⟩

/-! The trimmed automaton, for whatever is kept. -/
variable {k : List Bool}
theorem seen_in {n : Nat} (h : k.length = n) {s : Int} (h0 : 0 ≤ s) (hs : seenS k s = true) : InR n s := ⟨h0, by rw [← h]; exact getD_lt hs⟩
theorem trim_n (hk : Kp a k) : (trimBy k a).states.length = k.countP id := keep_len k a.states hk.len
theorem number_in (hk : Kp a k) {s : Int} (hs : seenS k s = true) : InR (trimBy k a).states.length (numberS k s) := by
  rw [trim_n hk, number_cnt]
  exact ⟨Int.natCast_nonneg _, by rw [Int.toNat_natCast]; exact cnt_below hs⟩
theorem number_zero (k : List Bool) : numberS k 0 = 0 := by rw [number_cnt]; rfl
theorem number_onto (hk : Kp a k) {v : Int} (hv : InR (trimBy k a).states.length v) : ∃ s, InR a.states.length s ∧ seenS k s = true ∧ numberS k s = v := by
  rw [trim_n hk] at hv
  obtain ⟨i, h1, h2⟩ := cnt_onto k v.toNat hv.2
  have hs : seenS k (i : Int) = true := by unfold seenS; simpa using h1
  refine ⟨(i : Int), seen_in hk.len (Int.natCast_nonneg _) hs, hs, ?_⟩
  rw [number_cnt, Int.toNat_natCast, h2]
  have := hv.1
  omega
theorem trim_mem {y : Ed} : y ∈ (trimBy k a).edges ↔ ∃ x ∈ a.edges, keepEdge k x = true ∧ moveEdge k x = y := by
  unfold trimBy
  simp only [List.mem_map, List.mem_filter]
  constructor
  · rintro ⟨x, ⟨h1, h2⟩, h3⟩; exact ⟨x, h1, h2, h3⟩
  · rintro ⟨x, h1, h2, h3⟩; exact ⟨x, ⟨h1, h2⟩, h3⟩
theorem keep_iff {x : Ed} : keepEdge k x = true ↔ seenS k x.src = true ∧ (x.dst < 0 ∨ seenS k x.dst = true) := by
  unfold keepEdge
  rw [Bool.and_eq_true, Bool.or_eq_true, decide_eq_true_eq]
theorem move_src (k : List Bool) (x : Ed) : (moveEdge k x).src = numberS k x.src := rfl
theorem move_dst (k : List Bool) (x : Ed) : (moveEdge k x).dst = if decide (0 ≤ x.dst) then numberS k x.dst else x.dst := rfl
theorem trim_wf (h : Wf a) (hk : Kp a k) : Wf (trimBy k a) := by
  have hn := trim_n hk
  have hc : k.countP id ≤ k.length := List.countP_le_length
  have h0 : 0 < k.countP id := Nat.lt_of_le_of_lt (Nat.zero_le _) (cnt_below hk.zero)
  refine ⟨h.vars, h.scopes, by rw [hn]; exact h0, by rw [hn]; have := h.most; have := hk.len; omega, ?_, fun s hs => h.gs s (keep_mem _ _ _ hs), fun y hy => ?_, ?_⟩
  · show (((a.edges.filter (keepEdge k)).map (moveEdge k)).length) ≤ 2048
    rw [List.length_map]
    have := List.length_filter_le (keepEdge k) a.edges
    have := h.many
    omega
  · obtain ⟨x, hx, hkx, rfl⟩ := trim_mem.1 hy
    have e := h.ed x hx
    obtain ⟨k1, k2⟩ := keep_iff.1 hkx
    have r1 := number_in hk k1
    refine ⟨⟨r1.1, by have := r1.1; have := r1.2; rw [move_src]; omega⟩, ?_, e.var, e.type, e.rest⟩
    rw [move_dst]
    by_cases hd : 0 ≤ x.dst
    · rw [if_pos (decide_eq_true hd)]
      have r2 := number_in hk (k2.resolve_left (by omega))
      have := r2.1; have := r2.2
      omega
    · rw [if_neg (by simpa using hd)]
      have := e.dst
      omega
  · refine AscE.map (f := moveEdge k) (c := 0) (b := 0) (fun x y hxy => ?_) (AscE.filter h.asc) (fun x hx => ?_)
    · rw [move_src, move_src, number_cnt, number_cnt]
      have := cnt_mono k (i := x.src.toNat) (j := y.src.toNat) (by omega)
      omega
    · rw [move_src, number_cnt]; exact Int.natCast_nonneg _
/-! Trimmed by what is reachable and useful. -/
/-- A set as a list of marks. -/
noncomputable def setL (n : Nat) (P : Int → Prop) : List Bool := by classical exact (List.range n).map fun (i : Nat) => decide (P (i : Int))
theorem setL_len (n : Nat) (P : Int → Prop) : (setL n P).length = n := by unfold setL; simp
theorem setL_get {n : Nat} {P : Int → Prop} {s : Int} (hs : InR n s) : seenS (setL n P) s = true ↔ P s := by
  classical
  unfold seenS setL
  have h2 := hs.2
  have h1 := hs.1
  have e : ((s.toNat : Nat) : Int) = s := by omega
  simp only [List.getD_eq_getElem?_getD, List.getElem?_map, List.getElem?_range h2, Option.map_some, Option.getD_some, e]
  exact ⟨fun h => of_decide_eq_true (by simpa using h), fun h => by simpa using h⟩
section
variable (h : Wf a)
include h
set_option linter.unusedSectionVars false
abbrev trimA (a : Au) : Au := trimBy (keptA a) a
theorem trimA_wf : Wf (trimA a) := trim_wf h (kept_kp h)
theorem reach_clo {x : Ed} (hx : x ∈ a.edges) (hs : seenS (reachA a) x.src = true) (hd : 0 ≤ x.dst) : seenS (reachA a) x.dst = true := (reach_ok h.edr h.pos).2.2.1 x hx hs hd
theorem useful_clo {x : Ed} (hx : x ∈ a.edges) (hd : x.dst < 0 ∨ seenS (usefulA a) x.dst = true) : seenS (usefulA a) x.src = true := (useful_ok h.edr).2.1 x hx hd
theorem kept_of {s : Int} (hs : InR a.states.length s) (h1 : seenS (reachA a) s = true) (h2 : seenS (usefulA a) s = true) : seenS (keptA a) s = true := (kept_get h hs).2 (.inr ⟨h1, h2⟩)
theorem kept_reach {s : Int} (hs : InR a.states.length s) (hk : seenS (keptA a) s = true) : seenS (reachA a) s = true := by
  rcases (kept_get h hs).1 hk with rfl | hk
  · exact (reach_ok h.edr h.pos).2.1
  · exact hk.1
/-- An edge that is kept, moved. -/
theorem edge_moved {x : Ed} (hx : x ∈ a.edges) (hs : seenS (keptA a) x.src = true) (hd : x.dst < 0 ∨ seenS (keptA a) x.dst = true) : moveEdge (keptA a) x ∈ (trimA a).edges := trim_mem.2 ⟨x, hx, keep_iff.2 ⟨hs, hd⟩, rfl⟩
theorem trim_reach {v : Int} (hv : InR (trimA a).states.length v) : seenS (reachA (trimA a)) v = true := by
  have hw := trimA_wf h
  obtain ⟨l', z', c', _⟩ := reach_ok hw.edr hw.pos
  have key : ∀ s, InR a.states.length s → seenS (reachA a) s = true → (s = 0 ∨ seenS (usefulA a) s = true) → seenS (reachA (trimA a)) (numberS (keptA a) s) = true := by
    intro s hs hr hu
    have hT : CloF a.edges (setL a.states.length fun s => seenS (reachA a) s = true ∧ ((s = 0 ∨ seenS (usefulA a) s = true) → seenS (reachA (trimA a)) (numberS (keptA a) s) = true)) := by
      intro x hx hsx hd
      have e := h.edr x hx
      have hdr := e.2 hd
      rw [setL_get e.1] at hsx
      rw [setL_get hdr]
      have r2 := reach_clo h hx hsx.1 hd
      refine ⟨r2, fun hu => ?_⟩
      rcases hu with h0 | hu
      · rw [h0, number_zero]; exact z'
      · have us := useful_clo h hx (.inr hu)
        have ks := kept_of h e.1 hsx.1 us
        have kd := kept_of h hdr r2 hu
        have m := edge_moved h hx ks (.inr kd)
        have := c' _ m (by rw [move_src]; exact hsx.2 (.inr us)) (by rw [move_dst, if_pos (decide_eq_true hd)]; exact (number_in (kept_kp h) kd).1)
        rw [move_dst, if_pos (decide_eq_true hd)] at this
        exact this
    have := (reach_ok h.edr h.pos).2.2.2 _ hT (setL_len _ _) ((setL_get ⟨Int.le_refl _, h.pos⟩).2 ⟨(reach_ok h.edr h.pos).2.1, fun _ => by rw [number_zero]; exact z'⟩)
    exact ((setL_get hs).1 (seen_sub this hr)).2 hu
  obtain ⟨s, hs, hk, rfl⟩ := number_onto (kept_kp h) hv
  refine key s hs (kept_reach h hs hk) ?_
  rcases (kept_get h hs).1 hk with hk | hk
  · exact .inl hk
  · exact .inr hk.2
/-- Useful in the trimmed automaton: useful before. -/
theorem trim_useful {s : Int} (hs : InR a.states.length s) (hk : seenS (keptA a) s = true) : seenS (usefulA (trimA a)) (numberS (keptA a) s) = true ↔ seenS (usefulA a) s = true := by
  have hw := trimA_wf h
  obtain ⟨l', c', m'⟩ := useful_ok hw.edr
  constructor
  · intro hu
    have hT : CloB (trimA a).edges (setL (trimA a).states.length fun v => ∀ s, InR a.states.length s → seenS (keptA a) s = true → numberS (keptA a) s = v → seenS (usefulA a) s = true) := by
      intro y hy hd
      obtain ⟨x, hx, hkx, rfl⟩ := trim_mem.1 hy
      obtain ⟨k1, k2⟩ := keep_iff.1 hkx
      have e := h.edr x hx
      rw [setL_get (hw.edr _ hy).1]
      intro t ht hkt hnt
      rw [move_src] at hnt
      have : t = x.src := number_inj ht.1 e.1.1 hkt k1 hnt
      subst this
      by_cases hneg : x.dst < 0
      · exact useful_clo h hx (.inl hneg)
      · have hd0 : 0 ≤ x.dst := by omega
        have kd := k2.resolve_left hneg
        rcases hd with hd | hd
        · rw [move_dst, if_pos (decide_eq_true hd0)] at hd
          have := (number_in (kept_kp h) kd).1
          omega
        · rw [move_dst, if_pos (decide_eq_true hd0), setL_get (number_in (kept_kp h) kd)] at hd
          exact useful_clo h hx (.inr (hd x.dst (e.2 hd0) kd rfl))
    have := seen_sub (m' _ hT (setL_len _ _)) hu
    exact (setL_get (number_in (kept_kp h) hk)).1 this s hs hk rfl
  · intro hu
    have hT : CloB a.edges (setL a.states.length fun s => seenS (usefulA a) s = true ∧ (seenS (reachA a) s = true → seenS (usefulA (trimA a)) (numberS (keptA a) s) = true)) := by
      intro x hx hd
      have e := h.edr x hx
      rw [setL_get e.1]
      by_cases hneg : x.dst < 0
      · have us := useful_clo h hx (.inl hneg)
        refine ⟨us, fun hr => ?_⟩
        have ks := kept_of h e.1 hr us
        have := c' _ (edge_moved h hx ks (.inl hneg)) (.inl (by rw [move_dst, if_neg (by simpa using hneg)]; exact hneg))
        exact this
      · have hd0 : 0 ≤ x.dst := by omega
        have hd := hd.resolve_left hneg
        rw [setL_get (e.2 hd0)] at hd
        have us := useful_clo h hx (.inr hd.1)
        refine ⟨us, fun hr => ?_⟩
        have rd := reach_clo h hx hr hd0
        have ks := kept_of h e.1 hr us
        have kd := kept_of h (e.2 hd0) rd hd.1
        have := c' _ (edge_moved h hx ks (.inr kd)) (.inr (by rw [move_dst, if_pos (decide_eq_true hd0)]; exact hd.2 rd))
        exact this
    have := seen_sub ((useful_ok h.edr).2.2 _ hT (setL_len _ _)) hu
    exact ((setL_get hs).1 this).2 (kept_reach h hs hk)
/-- If state 0 is not useful, nothing else is kept. -/
theorem kept_alone (h0 : seenS (usefulA a) 0 = false) {s : Int} (hs : InR a.states.length s) (hk : seenS (keptA a) s = true) : s = 0 := by
  rcases (kept_get h hs).1 hk with hk | ⟨hr, hu⟩
  · exact hk
  · exfalso
    -- what is reachable is not useful
    have hT : CloF a.edges (setL a.states.length fun s => seenS (usefulA a) s = false) := by
      intro x hx hsx hd
      have e := h.edr x hx
      rw [setL_get e.1] at hsx
      rw [setL_get (e.2 hd)]
      cases hud : seenS (usefulA a) x.dst with
      | false => rfl
      | true => rw [useful_clo h hx (.inr hud)] at hsx; cases hsx
    have := seen_sub ((reach_ok h.edr h.pos).2.2.2 _ hT (setL_len _ _) ((setL_get ⟨Int.le_refl _, h.pos⟩).2 h0)) hr
    rw [(setL_get hs).1 this] at hu
    cases hu
theorem trim_kept {v : Int} (hv : InR (trimA a).states.length v) : seenS (keptA (trimA a)) v = true := by
  have hw := trimA_wf h
  rw [kept_get hw hv]
  by_cases h0 : v = 0
  · exact .inl h0
  · right
    refine ⟨trim_reach h hv, ?_⟩
    obtain ⟨s, hs, hk, rfl⟩ := number_onto (kept_kp h) hv
    rw [trim_useful h hs hk]
    rcases (kept_get h hs).1 hk with rfl | hk
    · exact absurd (number_zero _) h0
    · exact hk.2
end
/-- Where all is kept nothing is moved. -/
theorem cnt_id : ∀ (k : List Bool) (i : Nat), i ≤ k.length → (∀ j, j < i → k.getD j false = true) → cnt k i = i
  | k, 0, _, _ => rfl
  | [], i + 1, h, _ => absurd h (by simp)
  | b :: r, i + 1, h, hk => by
    have hb : b = true := hk 0 (by omega)
    rw [cnt_cons, cnt_id r i (by simpa using h) (fun j hj => hk (j + 1) (by omega)), hb]; rfl
theorem keep_all : ∀ (k : List Bool) (l : List (List Gu)), k.length = l.length → (∀ j, j < k.length → k.getD j false = true) → keepStates k l = l
  | [], [], _, _ => rfl
  | [], _ :: _, h, _ => absurd h (by simp)
  | _ :: _, [], h, _ => absurd h (by simp)
  | b :: r, s :: l, h, hk => by
    have hb : b = true := hk 0 (by simp)
    subst hb
    unfold keepStates
    rw [if_pos rfl, keep_all r l (by simpa using h) fun j hj => hk (j + 1) (by simpa using hj)]
theorem trim_id {t : Au} (h : Wf t) {k : List Bool} (hl : k.length = t.states.length) (hk : ∀ v, InR t.states.length v → seenS k v = true) : trimBy k t = t := by
  have hj : ∀ j, j < k.length → k.getD j false = true := fun j hj => by
    have := hk (j : Int) ⟨Int.natCast_nonneg _, by rw [← hl]; simpa using hj⟩
    unfold seenS at this; simpa using this
  have hnum : ∀ s, InR t.states.length s → numberS k s = s := fun s hs => by
    rw [number_cnt, cnt_id k s.toNat (by rw [hl]; exact Nat.le_of_lt hs.2) (fun j h => hj j (by rw [hl]; exact Nat.lt_trans h hs.2))]
    have := hs.1
    omega
  unfold trimBy
  rw [keep_all k t.states hl hj]
  have e1 : t.edges.filter (keepEdge k) = t.edges := List.filter_eq_self.2 fun x hx => by
    have e := h.edr x hx
    rw [keep_iff]
    refine ⟨hk _ e.1, ?_⟩
    by_cases hd : x.dst < 0
    · exact .inl hd
    · exact .inr (hk _ (e.2 (by omega)))
  have e2 : t.edges.map (moveEdge k) = t.edges := by
    have : ∀ x ∈ t.edges, moveEdge k x = x := fun x hx => by
      have e := h.edr x hx
      unfold moveEdge
      rw [hnum _ e.1]
      by_cases hd : 0 ≤ x.dst
      · rw [if_pos (decide_eq_true hd), hnum _ (e.2 hd)]
      · rw [if_neg (by simpa using hd)]
    rw [List.map_congr_left this, List.map_id']
  rw [e1, e2]
theorem trim_twice (h : Wf a) : trimA (trimA a) = trimA a := trim_id (trimA_wf h) (kept_len (trimA_wf h)) fun v hv => trim_kept h hv

/-! Lists of numbers. -/
theorem nums_mem : ∀ (l : List Bool) (k : Nat) (v : Int), v ∈ numsGo k l ↔ ∃ i, l.getD i false = true ∧ v = ((k + i : Nat) : Int)
  | [], k, v => by simp [numsGo]
  | b :: r, k, v => by
    have ih := nums_mem r (k + 1) v
    unfold numsGo
    have key : (∃ i, (b :: r).getD i false = true ∧ v = ((k + i : Nat) : Int)) ↔ (b = true ∧ v = (k : Int)) ∨ ∃ i, r.getD i false = true ∧ v = ((k + 1 + i : Nat) : Int) := by
      constructor
      · rintro ⟨i, h1, h2⟩
        cases i with
        | zero => exact .inl ⟨h1, h2⟩
        | succ i => exact .inr ⟨i, h1, by rw [h2]; congr 1; omega⟩
      · rintro (⟨h1, h2⟩ | ⟨i, h1, h2⟩)
        · exact ⟨0, h1, h2⟩
        · exact ⟨i + 1, h1, by rw [h2]; congr 1; omega⟩
    rw [key]
    cases b with
    | true => simp only [↓reduceIte, List.mem_cons, ih, true_and]
    | false => simp only [Bool.false_eq_true, ↓reduceIte, ih, false_and, false_or]
theorem nums_len : ∀ (l : List Bool) (k : Nat), (numsGo k l).length = l.countP id
  | [], k => rfl
  | b :: r, k => by
    unfold numsGo
    rw [List.countP_cons]
    cases b with
    | true => simp [nums_len r (k + 1)]
    | false => simp [nums_len r (k + 1)]
theorem nums_has {l : List Bool} {s : Int} (h0 : 0 ≤ s) : (numsS l).contains s = seenS l s := by
  rw [Bool.eq_iff_iff, List.contains_iff_mem]
  unfold numsS
  rw [nums_mem]
  unfold seenS
  constructor
  · rintro ⟨i, h1, h2⟩
    have : s.toNat = i := by omega
    rw [this]; exact h1
  · intro h
    exact ⟨s.toNat, h, by omega⟩
theorem all_count : ∀ (l : List Bool), (∀ j, j < l.length → l.getD j false = true) → l.countP id = l.length
  | [], _ => rfl
  | b :: r, h => by
    have hb : b = true := h 0 (by simp)
    rw [List.countP_cons, all_count r fun j hj => h (j + 1) (by simpa using hj), hb]; simp
theorem one_count : ∀ (l : List Bool), l.getD 0 false = true → (∀ j, l.getD j false = true → j = 0) → l.countP id = 1
  | [], h, _ => by simp at h
  | b :: r, h, k => by
    have hb : b = true := h
    have hr : r.countP id = 0 := by
      rw [List.countP_eq_zero]
      intro c hc
      obtain ⟨i, hi, rfl⟩ := List.mem_iff_getElem.1 hc
      intro hc
      have : (b :: r).getD (i + 1) false = true := by
        show r.getD i false = true
        rw [List.getD_eq_getElem?_getD, List.getElem?_eq_getElem hi]; exact hc
      have := k _ this
      omega
    rw [List.countP_cons, hr, hb]; rfl
/-- What AutomatonRests says. -/
theorem rests (h : Wf a) : checkA (trimA a) = 0 ∧ trimA (trimA a) = trimA a ∧ 0 < (trimA a).states.length ∧ (numsS (reachA (trimA a))).length = (trimA a).states.length ∧
    ((numsS (usefulA (trimA a))).length = (trimA a).states.length ∨ (trimA a).states.length = 1) ∧ (numsS (usefulA a)).contains 0 = (numsS (usefulA (trimA a))).contains 0 ∧ (trimA a).states.length ≤ a.states.length := by
  have hw := trimA_wf h
  have hk := kept_kp h
  have h00 : InR a.states.length 0 := ⟨Int.le_refl _, h.pos⟩
  refine ⟨check_wf.2 hw, trim_twice h, hw.pos, ?_, ?_, ?_, ?_⟩
  · unfold numsS
    have hl : (reachA (trimA a)).length = (trimA a).states.length := (reach_ok hw.edr hw.pos).1
    rw [nums_len, all_count _ fun j hj => ?_, hl]
    have := trim_reach h (v := (j : Int)) ⟨Int.natCast_nonneg _, by rw [← hl]; simpa using hj⟩
    unfold seenS at this; simpa using this
  · cases h0 : seenS (usefulA a) 0 with
    | false =>
      right
      rw [trim_n hk]
      refine one_count _ hk.zero fun j hj => ?_
      have hs : seenS (keptA a) (j : Int) = true := by unfold seenS; simpa using hj
      have := kept_alone h h0 (seen_in hk.len (Int.natCast_nonneg _) hs) hs
      omega
    | true =>
      left
      have hl : (usefulA (trimA a)).length = (trimA a).states.length := (useful_ok hw.edr).1
      unfold numsS
      rw [nums_len, all_count _ fun j hj => ?_, hl]
      obtain ⟨s, hs, hks, e⟩ := number_onto hk (v := (j : Int)) ⟨Int.natCast_nonneg _, by rw [← hl]; simpa using hj⟩
      have : seenS (usefulA (trimA a)) (j : Int) = true := by
        rw [← e, trim_useful h hs hks]
        rcases (kept_get h hs).1 hks with rfl | hks
        · exact h0
        · exact hks.2
      unfold seenS at this; simpa using this
  · rw [nums_has (Int.le_refl _), nums_has (Int.le_refl _)]
    have := trim_useful h h00 hk.zero
    rw [number_zero] at this
    rw [Bool.eq_iff_iff]
    exact this.symm
  · rw [trim_n hk]
    have : (keptA a).countP id ≤ (keptA a).length := List.countP_le_length
    have := hk.len
    omega
end Go.Proofs.YtoolcpnahmgnnaaDoor
