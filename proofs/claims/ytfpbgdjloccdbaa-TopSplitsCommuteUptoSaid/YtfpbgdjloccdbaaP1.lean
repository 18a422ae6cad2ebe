/-
  Sorting in place is insertion: what is sorted is a permutation in ascending order. Events in order, each once. No condition.
-/
import Derived.Test.YtfpbgdjloccdbaaS03
namespace Go.Proofs.Ytfpbgdjloccdbaa
open Go Go.Aw
set_option linter.unusedVariables false
set_option linter.unusedSimpArgs false

section
variable {α : Type} {lt : α → α → Bool} {d : α}
def insR (lt : α → α → Bool) (x : α) : List α → List α
  | [] => [x]
  | y :: r => if lt x y then y :: insR lt x r else x :: y :: r
theorem insR_perm (x : α) : ∀ r : List α, (insR lt x r).Perm (x :: r)
  | [] => .refl _
  | y :: r => by
    rw [insR]
    split
    · exact ((insR_perm x r).cons y).trans (List.Perm.swap ..)
    · exact .refl _
theorem getD_app (d : α) (a : List α) (x : α) (b : List α) : ((a ++ x :: b)[a.length]?).getD d = x := by simp
theorem sw_app (d : α) (a : List α) (y x : α) (b : List α) : swS d (a ++ y :: x :: b) (a.length + 1) = a ++ x :: y :: b := by
  unfold swS
  have h1 : ((a ++ y :: x :: b)[a.length + 1 - 1]?).getD d = y := by simp
  have h2 : ((a ++ y :: x :: b)[a.length + 1]?).getD d = x := by
    rw [List.getElem?_append_right (by omega)]
    have : a.length + 1 - a.length = 1 := by omega
    rw [this]; rfl
  rw [h1, h2, List.set_append_right _ _ (by omega)]
  have e : a.length + 1 - a.length = 1 := by omega
  rw [e]
  show (a ++ (y :: y :: b)).set (a.length + 1 - 1) x = _
  rw [Nat.add_sub_cancel, List.set_append_right _ _ (Nat.le_refl _), Nat.sub_self]
  rfl
theorem inner_ins (x : α) : ∀ (r post : List α), innerS d lt r.length (r.reverse ++ x :: post) = (insR lt x r).reverse ++ post
  | [], post => rfl
  | y :: r, post => by
    have e0 : (y :: r).reverse ++ x :: post = r.reverse ++ y :: x :: post := by simp
    have hl : r.reverse.length = r.length := List.length_reverse ..
    have h1 : ((r.reverse ++ y :: x :: post)[r.length + 1]?).getD d = x := by
      rw [List.getElem?_append_right (by omega), hl]
      have : r.length + 1 - r.length = 1 := by omega
      rw [this]; rfl
    have h2 : ((r.reverse ++ y :: x :: post)[r.length]?).getD d = y := by
      have := getD_app d r.reverse y (x :: post)
      rwa [hl] at this
    rw [e0, List.length_cons, innerS, h1, h2, insR]
    cases hxy : lt x y with
    | false => simp
    | true =>
      have h3 := sw_app d r.reverse y x post
      rw [hl] at h3
      rw [if_pos rfl, if_pos rfl, h3, inner_ins x r (y :: post)]
      simp
theorem outer_ins : ∀ (rest r : List α), outerS d lt rest.length r.length (r.reverse ++ rest) = (rest.foldl (fun r x => insR lt x r) r).reverse
  | [], r => by simp [outerS]
  | x :: rest, r => by
    rw [List.length_cons, outerS, inner_ins]
    have hl : r.length + 1 = (insR lt x r).length := by have := (insR_perm (lt := lt) x r).length_eq; simpa using this.symm
    rw [hl, outer_ins rest (insR lt x r)]
    rfl
theorem sort_ins (l : List α) : sortS d lt l = (l.foldl (fun r x => insR lt x r) []).reverse := by
  cases l with
  | nil => rfl
  | cons a t =>
    have := outer_ins (d := d) (lt := lt) t [a]
    unfold sortS
    simpa [insR] using this
theorem fold_perm : ∀ (l r : List α), (l.foldl (fun r x => insR lt x r) r).Perm (l ++ r)
  | [], r => .refl _
  | x :: l, r => by
    rw [List.foldl_cons]
    refine (fold_perm l _).trans ?_
    exact ((insR_perm x r).append_left l).trans (List.perm_middle)
theorem sort_perm (l : List α) : (sortS d lt l).Perm l := by
  rw [sort_ins]
  refine (List.reverse_perm _).trans ?_
  simpa using fold_perm (lt := lt) l []
theorem insR_desc (has : ∀ a b, lt a b = true → lt b a = false) (htr : ∀ a b c, lt a b = false → lt b c = false → lt a c = false) (x : α) : ∀ r : List α, r.Pairwise (fun a b => lt a b = false) → (insR lt x r).Pairwise (fun a b => lt a b = false)
  | [], _ => by simp [insR]
  | y :: r, h => by
    rw [List.pairwise_cons] at h
    rw [insR]
    cases hxy : lt x y with
    | true =>
      rw [if_pos rfl, List.pairwise_cons]
      refine ⟨fun z hz => ?_, insR_desc has htr x r h.2⟩
      rcases List.mem_cons.1 ((insR_perm x r).mem_iff.1 hz) with rfl | hz
      · exact has _ _ hxy
      · exact h.1 z hz
    | false =>
      rw [if_neg (by decide), List.pairwise_cons, List.pairwise_cons]
      refine ⟨fun z hz => ?_, h⟩
      rcases List.mem_cons.1 hz with rfl | hz
      · exact hxy
      · exact htr x y z hxy (h.1 z hz)
theorem fold_desc (has : ∀ a b, lt a b = true → lt b a = false) (htr : ∀ a b c, lt a b = false → lt b c = false → lt a c = false) : ∀ (l r : List α), r.Pairwise (fun a b => lt a b = false) → (l.foldl (fun r x => insR lt x r) r).Pairwise (fun a b => lt a b = false)
  | [], r, h => h
  | x :: l, r, h => fold_desc has htr l _ (insR_desc has htr x r h)
theorem sort_asc (has : ∀ a b, lt a b = true → lt b a = false) (htr : ∀ a b c, lt a b = false → lt b c = false → lt a c = false) (l : List α) : (sortS d lt l).Pairwise (fun a b => lt b a = false) := by
  rw [sort_ins, List.pairwise_reverse]
  exact fold_desc has htr l [] .nil
end

/-! ### Events in order -/
def lexLt (a b : Ev) : Prop := a.time < b.time ∨ (a.time = b.time ∧ (a.source < b.source ∨ (a.source = b.source ∧ a.seq < b.seq)))
theorem cmpI_cases (a b : Int) : (a < b ∧ cmpI a b = -1) ∨ (a = b ∧ cmpI a b = 0) ∨ (b < a ∧ cmpI a b = 1) := by
  unfold cmpI
  by_cases h1 : a < b
  · exact .inl ⟨h1, by rw [if_pos (by simpa using h1)]⟩
  · by_cases h2 : b < a
    · exact .inr (.inr ⟨h2, by rw [if_neg (by simpa using h1), if_pos (by simpa using h2)]⟩)
    · exact .inr (.inl ⟨by omega, by rw [if_neg (by simpa using h1), if_neg (by simpa using h2)]⟩)
theorem evCmp_lt (a b : Ev) : evCmp a b < 0 ↔ lexLt a b := by
  unfold evCmp lexLt
  by_cases hs : sameRef a b = true
  · rw [if_pos hs]
    simp only [sameRef, Bool.and_eq_true, beq_iff_eq] at hs
    omega
  · rw [if_neg hs]
    simp only [orS]
    rcases cmpI_cases a.time b.time with ⟨h1, e1⟩ | ⟨h1, e1⟩ | ⟨h1, e1⟩ <;> rw [e1]
    · simp; omega
    · rcases cmpI_cases a.source b.source with ⟨h2, e2⟩ | ⟨h2, e2⟩ | ⟨h2, e2⟩ <;> rw [e2]
      · simp; omega
      · rcases cmpI_cases a.seq b.seq with ⟨h3, e3⟩ | ⟨h3, e3⟩ | ⟨h3, e3⟩ <;> rw [e3]
        · simp; omega
        · simp; omega
        · simp; omega
      · simp; omega
    · simp; omega
theorem evLt_iff (a b : Ev) : evLt a b = true ↔ lexLt a b := by unfold evLt; rw [decide_eq_true_eq, evCmp_lt]
theorem evLt_no (a b : Ev) : evLt a b = false ↔ ¬ lexLt a b := by rw [← evLt_iff]; cases evLt a b <;> simp
theorem lex_irr (a : Ev) : ¬ lexLt a a := by unfold lexLt; omega
theorem lex_asymm {a b : Ev} (h : lexLt a b) : ¬ lexLt b a := by unfold lexLt at *; omega
theorem lex_trans {a b c : Ev} (h : lexLt a b) (k : lexLt b c) : lexLt a c := by unfold lexLt at *; omega
theorem evLt_as (a b : Ev) (h : evLt a b = true) : evLt b a = false := by rw [evLt_iff] at h; rw [evLt_no]; exact lex_asymm h
theorem evLt_ntr (a b c : Ev) (h : evLt a b = false) (k : evLt b c = false) : evLt a c = false := by
  rw [evLt_no] at *
  unfold lexLt at *
  omega
theorem sameId_iff (a b : Ev) : sameId a b = true ↔ a.source = b.source ∧ a.seq = b.seq := by simp [sameId]
theorem sameId_no (a b : Ev) : sameId a b = false ↔ ¬ (a.source = b.source ∧ a.seq = b.seq) := by
  rw [← sameId_iff]; cases sameId a b <;> simp
theorem lex_of {a b : Ev} (h : ¬ lexLt b a) (hi : sameId a b = false) : lexLt a b := by
  rw [sameId_no] at hi
  unfold lexLt at *
  omega
/-- strictly ascending -/
abbrev SS (l : List Ev) : Prop := l.Pairwise lexLt
theorem ss_unique : ∀ {a b : List Ev}, SS a → SS b → (∀ e, e ∈ a ↔ e ∈ b) → a = b
  | [], [], _, _, _ => rfl
  | [], y :: b, _, _, h => by have := (h y).2 (by simp); simp at this
  | x :: a, [], _, _, h => by have := (h x).1 (by simp); simp at this
  | x :: a, y :: b, ha, hb, h => by
    rw [SS, List.pairwise_cons] at ha hb
    have hxy : x = y := by
      rcases List.mem_cons.1 ((h x).1 (by simp)) with e | h1
      · exact e
      · rcases List.mem_cons.1 ((h y).2 (by simp)) with e | h2
        · exact e.symm
        · exact absurd (ha.1 y h2) (lex_asymm (hb.1 x h1))
    subst hxy
    have ih := ss_unique ha.2 hb.2 fun e => ⟨fun he => by
      rcases List.mem_cons.1 ((h e).1 (by simp [he])) with rfl | h1
      · exact absurd (ha.1 _ he) (lex_irr _)
      · exact h1, fun he => by
      rcases List.mem_cons.1 ((h e).2 (by simp [he])) with rfl | h1
      · exact absurd (hb.1 _ he) (lex_irr _)
      · exact h1⟩
    rw [ih]
/-- no two of the same identity that differ -/
def Clean (l : List Ev) : Prop := ∀ e ∈ l, ∀ f ∈ l, sameId e f = true → e = f
theorem allTwo_eqV : ∀ {a b : List Vl}, allTwo eqV a b = true → a = b
  | [], [], _ => rfl
  | [], _ :: _, h => by cases h
  | _ :: _, [], h => by cases h
  | x :: r, y :: s, h => by
    rw [allTwo, Bool.and_eq_true] at h
    rw [(eqV_iff _ _).1 h.1, allTwo_eqV h.2]
theorem allTwo_self : ∀ a : List Vl, allTwo eqV a a = true
  | [] => rfl
  | x :: r => by rw [allTwo, (eqV_iff x x).2 rfl, allTwo_self r]; rfl
theorem equalS_eq {a b : Ev} (h : equalS a b = true) : a = b := by
  simp only [equalS, sameId, sameVs, Bool.and_eq_true, beq_iff_eq] at h
  obtain ⟨⟨⟨⟨h1, h2⟩, h3⟩, h4⟩, h5⟩ := h
  have := allTwo_eqV h5
  cases a; cases b; simp_all
theorem equalS_self (a : Ev) : equalS a a = true := by simp [equalS, sameId, sameVs, allTwo_self]
theorem equalR_self (a : Ev) : equalR a a = true := by simp [equalR, sameRef, sameVs, allTwo_self]
theorem sameEs_self : ∀ l : List Ev, sameEs l l = true
  | [] => rfl
  | x :: r => by
    have := sameEs_self r
    unfold sameEs at *
    rw [allTwo, equalR_self, this]; rfl
theorem sameId_self (a : Ev) : sameId a a = true := by simp [sameId]
theorem sameId_comm (a b : Ev) : sameId a b = sameId b a := by
  rw [Bool.eq_iff_iff, sameId_iff, sameId_iff]; omega
theorem once_spec : ∀ {l out D : List Ev}, out.Pairwise (fun a b => sameId a b = false) → onceS out l = some D → D.Pairwise (fun a b => sameId a b = false) ∧ (∀ e, e ∈ D ↔ e ∈ out ∨ e ∈ l)
  | [], out, D, h, hD => by
    simp only [onceS, Option.some.injEq] at hD; subst hD
    exact ⟨h, by simp⟩
  | x :: r, out, D, h, hD => by
    rw [onceS] at hD
    cases hf : out.find? (sameId x) with
    | some f =>
      rw [hf] at hD
      simp only at hD
      cases he : equalS f x with
      | false => rw [he] at hD; cases hD
      | true =>
        rw [he] at hD
        obtain ⟨h1, h2⟩ := once_spec h hD
        have hfx := equalS_eq he
        subst hfx
        have hm := List.mem_of_find?_eq_some hf
        refine ⟨h1, fun e => ?_⟩
        rw [h2]
        constructor
        · rintro (h | h)
          · exact .inl h
          · exact .inr (by simp [h])
        · rintro (h | h)
          · exact .inl h
          · rcases List.mem_cons.1 h with rfl | h
            · exact .inl hm
            · exact .inr h
    | none =>
      rw [hf] at hD
      have hn := List.find?_eq_none.1 hf
      have hp : (out ++ [x]).Pairwise (fun a b => sameId a b = false) := by
        rw [List.pairwise_append]
        refine ⟨h, by simp, fun a ha b hb => ?_⟩
        rw [List.mem_singleton.1 hb, sameId_comm]
        have := hn a ha
        simpa using this
      obtain ⟨h1, h2⟩ := once_spec hp hD
      refine ⟨h1, fun e => ?_⟩
      rw [h2]
      simp [or_assoc]
theorem once_some : ∀ {l out : List Ev}, Clean (out ++ l) → ∃ D, onceS out l = some D
  | [], out, _ => ⟨out, rfl⟩
  | x :: r, out, h => by
    rw [onceS]
    cases hf : out.find? (sameId x) with
    | some f =>
      have hm := List.mem_of_find?_eq_some hf
      have hs := List.find?_some hf
      have : x = f := h x (by simp) f (by simp [hm]) hs
      subst this
      simp only [equalS_self, if_true]
      exact once_some fun e he g hg => h e (by
        rcases List.mem_append.1 he with h1 | h1 <;> simp [h1]) g (by rcases List.mem_append.1 hg with h1 | h1 <;> simp [h1])
    | none =>
      exact once_some (by simpa using h)
theorem clean_of {l D : List Ev} (h : onceS [] l = some D) : Clean l := by
  obtain ⟨h1, h2⟩ := once_spec .nil h
  intro e he f hf hs
  have hed := (h2 e).2 (.inr he)
  have hfd := (h2 f).2 (.inr hf)
  obtain ⟨i, hi, rfl⟩ := List.getElem_of_mem hed
  obtain ⟨j, hj, rfl⟩ := List.getElem_of_mem hfd
  have key := List.pairwise_iff_getElem.1 h1
  rcases Nat.lt_trichotomy i j with hij | hij | hij
  · rw [key i j hi hj hij] at hs; cases hs
  · subst hij; rfl
  · rw [sameId_comm, key j i hj hi hij] at hs; cases hs
theorem sorted_spec {l s : List Ev} (h : sortedS l = some s) : SS s ∧ ∀ e, e ∈ s ↔ e ∈ l := by
  unfold sortedS at h
  cases hD : onceS [] l with
  | none => rw [hD] at h; cases h
  | some D =>
    rw [hD] at h
    simp only [Option.map_some, Option.some.injEq] at h
    obtain ⟨h1, h2⟩ := once_spec .nil hD
    have hp : s.Perm D := by rw [← h]; exact sort_perm D
    refine ⟨?_, fun e => by rw [hp.mem_iff, h2]; simp⟩
    have ha : s.Pairwise (fun a b => evLt b a = false) := by rw [← h]; exact sort_asc evLt_as evLt_ntr D
    have hd : s.Pairwise (fun a b => sameId a b = false) := hp.symm.pairwise h1 fun {x y} hxy => by rw [sameId_comm]; exact hxy
    exact ha.imp₂ (fun a b h1 h2 => lex_of ((evLt_no _ _).1 h1) h2) hd
theorem sorted_of {l : List Ev} (h : Clean l) : ∃ s, sortedS l = some s ∧ SS s ∧ ∀ e, e ∈ s ↔ e ∈ l := by
  obtain ⟨D, hD⟩ := once_some (l := l) (out := []) (by simpa using h)
  have hs : sortedS l = some (sortS ev0 evLt D) := by unfold sortedS; rw [hD]; rfl
  exact ⟨_, hs, sorted_spec hs⟩
theorem sorted_clean {l s : List Ev} (h : sortedS l = some s) : Clean l := by
  unfold sortedS at h
  cases hD : onceS [] l with
  | none => rw [hD] at h; cases h
  | some D => exact clean_of hD
theorem Clean.sub {l m : List Ev} (h : Clean l) (hs : ∀ e ∈ m, e ∈ l) : Clean m := fun e he f hf hi => h e (hs e he) f (hs f hf) hi
/-- what is sorted is what has the same members -/
theorem sorted_eq {l s : List Ev} (hc : Clean l) (hs : SS s) (hm : ∀ e, e ∈ s ↔ e ∈ l) : sortedS l = some s := by
  obtain ⟨s', h1, h2, h3⟩ := sorted_of hc
  rw [h1, ss_unique h2 hs fun e => (h3 e).trans (hm e).symm]
theorem stream_go : ∀ {l seen : List Ev}, SS (seen ++ l) → Clean (seen ++ l) → (∀ e ∈ l, placedS e = true) → streamGo seen l = 0
  | [], _, _, _, _ => rfl
  | x :: r, seen, hs, hc, hp => by
    have hlt : ∀ a ∈ seen, lexLt a x := fun a ha => (List.pairwise_append.1 hs).2.2 a ha x (by simp)
    have h0 : stepE seen x = 0 := by
      unfold stepE
      have h1 : prevBad seen x = false := by
        unfold prevBad
        cases hl : seen.getLast? with
        | none => rfl
        | some b =>
          have := (evCmp_lt b x).2 (hlt b (List.mem_of_getLast? hl))
          simp; omega
      have h2 : seen.any (sameId x) = false := by
        rw [Bool.eq_false_iff]
        intro h
        obtain ⟨a, ha, hi⟩ := List.any_eq_true.1 h
        have := hc x (by simp) a (by simp [ha]) hi
        subst this
        exact lex_irr _ (hlt _ ha)
      rw [hp x (by simp), h1, h2]; rfl
    have ih := stream_go (l := r) (seen := seen ++ [x]) (by simpa using hs) (by simpa using hc) fun e he => hp e (by simp [he])
    rw [streamGo, h0]
    simpa using ih
theorem stream_ok {l : List Ev} (hs : SS l) (hc : Clean l) (hp : ∀ e ∈ l, placedS e = true) (hl : l.length ≤ 4096) : streamS l = 0 := by
  unfold streamS
  rw [if_neg (by simp; omega)]
  exact stream_go (by simpa using hs) (by simpa using hc) hp
theorem all_ok {l : List Ev} (hp : ∀ e ∈ l, placedS e = true) (hl : l.length ≤ 4096) : allS l = 0 := by
  unfold allS
  have : (l.any fun e => !placedS e) = false := by
    rw [Bool.eq_false_iff]
    intro h
    obtain ⟨a, ha, hi⟩ := List.any_eq_true.1 h
    rw [hp a ha] at hi; cases hi
  rw [if_neg (by simp; omega), this]; rfl
end Go.Proofs.Ytfpbgdjloccdbaa
