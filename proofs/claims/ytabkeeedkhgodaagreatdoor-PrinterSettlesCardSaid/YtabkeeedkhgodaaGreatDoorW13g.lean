/-
  A well-formed node is written. No condition.
-/
import Derived.Test.YtabkeeedkhgodaaGreatDoorW13f
import Derived.Test.YtabkeeedkhgodaaGreatDoorQ0
import Derived.KernelRfl
namespace Go.Proofs.YtabkeeedkhgodaaGreatDoor
open Go Go.Aw
set_option linter.unusedVariables false
set_option linter.unusedSimpArgs false

/-- The text of a well-formed node is written. -/
theorem node_ok (b : Nat) (t : Syn) : ∀ p, checkC t p = 0 → medC t → 0 ≤ t.kind → t.kind ≤ 18 → t.kind ≠ 4 → NodeOK b t := by
  refine Syn.ind (P := fun t => ∀ p, checkC t p = 0 → medC t → 0 ≤ t.kind → t.kind ≤ 18 → t.kind ≠ 4 → NodeOK b t) (fun t ih p h hf k0 k18 k4 => ?_) t
  have hi := ok_num h
  have hi64 : -9223372036854775808 ≤ t.num ∧ t.num ≤ 9223372036854775807 := by omega
  obtain ⟨ho, _⟩ := ok_own h
  obtain ⟨_, hs, _, hfl⟩ := own_at ho
  have kid : ∀ (j : Nat) a, t.kids[j]? = some a → a.kind ≠ 4 → NodeOK b a := fun j a ha h4 => by
    obtain ⟨c, k⟩ := kid_ok h ha
    have kk := kid_kind k
    exact ih a (List.mem_of_getElem? ha) _ c (med_kid hf (List.mem_of_getElem? ha)) (by omega) kk.2 h4
  have kids : t.kind ≠ 3 → ∀ a ∈ t.kids, NodeOK b a := fun h3 a ha => by
    obtain ⟨j, hj⟩ := List.mem_iff_getElem?.1 ha
    refine kid j a hj ?_
    obtain ⟨c, k⟩ := kid_ok h hj
    unfold kidC at k
    rw [if_neg (show ¬ (t.kind == 3) = true by simpa using h3)] at k
    repeat' split at k
    all_goals first | (have := only_at k; omega) | (have := exp_at k; omega) | (have := pat_at k; omega)
  have hr : 0 ≤ t.kind ∧ t.kind ≤ 18 := ⟨k0, k18⟩
  have hcases : t.kind = 0 ∨ t.kind = 1 ∨ t.kind = 2 ∨ t.kind = 3 ∨ t.kind = 5 ∨ t.kind = 6 ∨ t.kind = 7 ∨ t.kind = 8 ∨ t.kind = 9 ∨ t.kind = 10 ∨ t.kind = 11 ∨ t.kind = 12 ∨ t.kind = 13 ∨ t.kind = 14 ∨ t.kind = 15 ∨ t.kind = 16 ∨ t.kind = 17 ∨ t.kind = 18 := by omega
  intro o v a ha R hb
  have e := writeC_eq t
  have wsn : (t.kids.map writeC == []) = true ↔ ¬ 0 < t.kids.length := by
    cases hq : t.kids <;> simp
  rcases hcases with hk | hk | hk | hk | hk | hk | hk | hk | hk | hk | hk | hk | hk | hk | hk | hk | hk | hk
  · skip
    have e2 : writeC t = (t.kids.map writeC).flatten := by rw [e]; unfold nodeT; rw [hk]; rfl
    rw [e2] at hb ⊢
    exact w_node b o v a ha R t _ 68 [] [.ptr [.val (.pointer (some ⟨b, 0, none⟩))]] hr (by rw [hk]; rfl) (by kernel_rfl) (w_program b o v a ha R t (kids (by omega)) hb)
  · skip
    have e2 : writeC t = [116, 121, 112, 101, 32] ++ t.text ++ [32, 123] ++ (if 0 < t.kids.length then [32] ++ joinC (t.kids.map writeC) ++ [32] else []) ++ [125, 10] := by
      rw [e]; unfold nodeT; rw [hk]
      show w_ttype ++ [32] ++ t.text ++ [32, 123] ++ (if (t.kids.map writeC == []) = true then [] else [32] ++ joinC (t.kids.map writeC) ++ [32]) ++ [125, 10] = _
      by_cases h0 : 0 < t.kids.length
      · rw [if_pos h0, if_neg (fun h => (wsn.1 h) h0)]; simp
      · rw [if_neg h0, if_pos (wsn.2 h0)]; simp
    rw [e2] at hb ⊢
    exact w_node b o v a ha R t _ 69 [.val (.pointer (some ⟨b, 0, none⟩))] [] hr (by rw [hk]; rfl) (by kernel_rfl) (w_decl b o v a ha R t (kids (by omega)) hb)
  · skip
    have e2 : writeC t = t.text ++ ([58, 32] : Str) ++ kindT t.num := by rw [e]; unfold nodeT; rw [hk]; rfl
    rw [e2] at hb ⊢
    exact w_node b o v a ha R t _ 70 [] [.ptr [.val (.pointer (some ⟨b, 0, none⟩))]] hr (by rw [hk]; rfl) (by kernel_rfl) (w_field b o v a ha R t (field_num hfl hk) hb)
  · skip
    obtain ⟨q0, q1, r, hq⟩ : ∃ q0 q1 r, t.kids = q0 :: q1 :: r := by
      unfold shapeC at hs
      rw [hk] at hs
      replace hs : decide (3 ≤ (t.kids.length : Int)) = true := hs
      simp only [decide_eq_true_eq] at hs
      match hq : t.kids with
      | [] => rw [hq] at hs; simp at hs
      | [x] => rw [hq] at hs; simp at hs
      | x :: y :: r => exact ⟨x, y, r, rfl⟩
    have no4 : ∀ (j : Nat) x, 1 ≤ j → t.kids[j]? = some x → x.kind ≠ 4 := fun j x hj hx => by
      obtain ⟨c, k⟩ := kid_ok h hx
      unfold kidC at k
      rw [hk] at k
      have e3 : ((j : Int) == 0) = false := by simp; omega
      simp only [e3] at k
      replace k : (if ((j : Int) == 1) = true then Pl.pats else Pl.exps).at x.kind = true := k
      split at k
      · have := pat_at k; omega
      · have := exp_at k; omega
    have hq1 : NodeOK b q1 := kid 1 q1 (by rw [hq]; rfl) (no4 1 q1 (Nat.le_refl _) (by rw [hq]; rfl))
    have hqr : ∀ x ∈ r, NodeOK b x := fun x hx => by
      obtain ⟨j, hj⟩ := List.mem_iff_getElem?.1 hx
      have hj2 : t.kids[j + 2]? = some x := by rw [hq]; simpa using hj
      exact kid (j + 2) x hj2 (no4 (j + 2) x (by omega) hj2)
    have e2 : writeC t = ([113, 117, 101, 114, 121, 32] : Str) ++ t.text ++ (if !(q0.text == []) then ([32, 98, 121, 32] : Str) ++ q0.text else []) ++ ([10, 109, 97, 116, 99, 104, 32] : Str) ++ writeC q1 ++ ([10, 114, 101, 116, 117, 114, 110, 32] : Str) ++ joinC (r.map writeC) ++ ([59, 10] : Str) := by
      rw [e]; unfold nodeT; rw [hk]
      show w_tquery ++ [32] ++ t.text ++ (if ((kidN t 0).text == []) = true then [] else [32] ++ w_by ++ [32] ++ (kidN t 0).text) ++ [10] ++ w_tmatch ++ [32] ++ (t.kids.map writeC).getD 1 [] ++ [10] ++ w_treturn ++ [32] ++ joinC ((t.kids.map writeC).drop 2) ++ [59, 10] = _
      have k0 : kidN t 0 = q0 := by unfold kidN; rw [hq]; rfl
      rw [k0, hq]
      show w_tquery ++ [32] ++ t.text ++ (if (q0.text == []) = true then [] else [32] ++ w_by ++ [32] ++ q0.text) ++ [10] ++ w_tmatch ++ [32] ++ writeC q1 ++ [10] ++ w_treturn ++ [32] ++ joinC (r.map writeC) ++ [59, 10] = _
      cases hc : (q0.text == [])
      · simp
      · simp
    rw [e2] at hb ⊢
    exact w_node b o v a ha R t _ 72 [.val (.pointer (some ⟨b, 0, none⟩))] [] hr (by rw [hk]; rfl) (by kernel_rfl) (w_query b o v a ha R t q0 q1 r hq hq1 hqr hb)
  · skip
    have e2 : writeC t = t.text ++ ([32] : Str) ++ t.name ++ (if h : 0 < t.kids.length then ([32, 105, 102, 32] : Str) ++ writeC t.kids[0] else []) := by
      rw [e]; unfold nodeT; rw [hk]
      show t.text ++ [32] ++ t.name ++ (if (t.kids.map writeC == []) = true then [] else [32] ++ w_tif ++ [32] ++ (t.kids.map writeC).getD 0 []) = _
      by_cases h0 : 0 < t.kids.length
      · rw [dif_pos h0, if_neg (fun h => (wsn.1 h) h0)]
        have : (t.kids.map writeC).getD 0 [] = writeC t.kids[0] := by rw [List.getD_eq_getElem?_getD, List.getElem?_map, List.getElem?_eq_getElem h0]; rfl
        rw [this]; simp
      · rw [dif_neg h0, if_pos (wsn.2 h0)]
    rw [e2] at hb ⊢
    exact w_node b o v a ha R t _ 73 [.val (.pointer (some ⟨b, 0, none⟩))] [] hr (by rw [hk]; rfl) (by kernel_rfl) (w_event b o v a ha R t (kids (by omega)) hb)
  · skip
    have e2 : writeC t = w_seq ++ ([40] : Str) ++ joinC (t.kids.map writeC) ++ (if t.kind == 11 then ([44, 32] : Str) ++ Lib.itoa t.num else []) ++ ([41] : Str) := by rw [e]; unfold nodeT; rw [hk]; rfl
    rw [e2] at hb ⊢
    exact w_node b o v a ha R t _ 122 [] [.ptr [.val (.pointer (some ⟨b, 0, none⟩))], .ptr [.str w_seq]] hr (by rw [hk]; rfl) (by kernel_rfl) (w_call1 b o v a ha R t w_seq hi64 (kids (by omega)) hb)
  · skip
    have e2 : writeC t = w_alt ++ ([40] : Str) ++ joinC (t.kids.map writeC) ++ (if t.kind == 11 then ([44, 32] : Str) ++ Lib.itoa t.num else []) ++ ([41] : Str) := by rw [e]; unfold nodeT; rw [hk]; rfl
    rw [e2] at hb ⊢
    exact w_node b o v a ha R t _ 122 [] [.ptr [.val (.pointer (some ⟨b, 0, none⟩))], .ptr [.str w_alt]] hr (by rw [hk]; rfl) (by kernel_rfl) (w_call1 b o v a ha R t w_alt hi64 (kids (by omega)) hb)
  · skip
    have e2 : writeC t = w_all ++ ([40] : Str) ++ joinC (t.kids.map writeC) ++ (if t.kind == 11 then ([44, 32] : Str) ++ Lib.itoa t.num else []) ++ ([41] : Str) := by rw [e]; unfold nodeT; rw [hk]; rfl
    rw [e2] at hb ⊢
    exact w_node b o v a ha R t _ 122 [] [.ptr [.val (.pointer (some ⟨b, 0, none⟩))], .ptr [.str w_all]] hr (by rw [hk]; rfl) (by kernel_rfl) (w_call1 b o v a ha R t w_all hi64 (kids (by omega)) hb)
  · skip
    have e2 : writeC t = w_plus ++ ([40] : Str) ++ joinC (t.kids.map writeC) ++ (if t.kind == 11 then ([44, 32] : Str) ++ Lib.itoa t.num else []) ++ ([41] : Str) := by rw [e]; unfold nodeT; rw [hk]; rfl
    rw [e2] at hb ⊢
    exact w_node b o v a ha R t _ 122 [] [.ptr [.val (.pointer (some ⟨b, 0, none⟩))], .ptr [.str w_plus]] hr (by rw [hk]; rfl) (by kernel_rfl) (w_call1 b o v a ha R t w_plus hi64 (kids (by omega)) hb)
  · skip
    have e2 : writeC t = w_lacks ++ ([40] : Str) ++ joinC (t.kids.map writeC) ++ (if t.kind == 11 then ([44, 32] : Str) ++ Lib.itoa t.num else []) ++ ([41] : Str) := by rw [e]; unfold nodeT; rw [hk]; rfl
    rw [e2] at hb ⊢
    exact w_node b o v a ha R t _ 122 [] [.ptr [.val (.pointer (some ⟨b, 0, none⟩))], .ptr [.str w_lacks]] hr (by rw [hk]; rfl) (by kernel_rfl) (w_call1 b o v a ha R t w_lacks hi64 (kids (by omega)) hb)
  · skip
    have e2 : writeC t = w_within ++ ([40] : Str) ++ joinC (t.kids.map writeC) ++ (if t.kind == 11 then ([44, 32] : Str) ++ Lib.itoa t.num else []) ++ ([41] : Str) := by rw [e]; unfold nodeT; rw [hk]; rfl
    rw [e2] at hb ⊢
    exact w_node b o v a ha R t _ 122 [] [.ptr [.val (.pointer (some ⟨b, 0, none⟩))], .ptr [.str w_within]] hr (by rw [hk]; rfl) (by kernel_rfl) (w_call1 b o v a ha R t w_within hi64 (kids (by omega)) hb)
  · skip
    have e2 : writeC t = w_twhere ++ ([40] : Str) ++ joinC (t.kids.map writeC) ++ (if t.kind == 11 then ([44, 32] : Str) ++ Lib.itoa t.num else []) ++ ([41] : Str) := by rw [e]; unfold nodeT; rw [hk]; rfl
    rw [e2] at hb ⊢
    exact w_node b o v a ha R t _ 122 [] [.ptr [.val (.pointer (some ⟨b, 0, none⟩))], .ptr [.str w_twhere]] hr (by rw [hk]; rfl) (by kernel_rfl) (w_call1 b o v a ha R t w_twhere hi64 (kids (by omega)) hb)
  · skip
    have e2 : writeC t = litT t := by rw [e]; unfold nodeT; rw [hk]; rfl
    rw [e2] at hb ⊢
    exact w_node b o v a ha R t _ 75 [.val (.pointer (some ⟨b, 0, none⟩))] [] hr (by rw [hk]; rfl) (by kernel_rfl) (w_constant b o v a ha R t hi64 (med_text hf).1 hb)
  · skip
    have e2 : writeC t = t.text ++ ([46] : Str) ++ t.name := by rw [e]; unfold nodeT; rw [hk]; rfl
    rw [e2] at hb ⊢
    exact w_node b o v a ha R t _ 76 [] [.ptr [.val (.pointer (some ⟨b, 0, none⟩))]] hr (by rw [hk]; rfl) (by kernel_rfl) (w_ref b o v a ha R t hb)
  · skip
    have e2 : writeC t = ([99, 111, 117, 110, 116, 40] : Str) ++ t.text ++ ([41] : Str) := by rw [e]; unfold nodeT; rw [hk]; rfl
    rw [e2] at hb ⊢
    exact w_node b o v a ha R t _ 77 [] [.ptr [.val (.pointer (some ⟨b, 0, none⟩))]] hr (by rw [hk]; rfl) (by kernel_rfl) (w_count b o v a ha R t hb)
  · skip
    have e2 : writeC t = aggT t.num ++ ([40] : Str) ++ t.text ++ ([46] : Str) ++ t.name ++ tailC (t.kids.map writeC) ++ ([41] : Str) := by
      rw [e]; unfold nodeT; rw [hk]
      show aggT t.num ++ [40] ++ t.text ++ [46] ++ t.name ++ (if (t.kids.map writeC == []) = true then [] else [44, 32] ++ (t.kids.map writeC).getD 0 []) ++ [41] = _
      unfold shapeC at hs
      rw [hk] at hs
      replace hs : (if (t.num == 1) = true then ((t.kids.length : Int) == 0) else ((t.kids.length : Int) == 1)) = true := hs
      have hl : t.kids.length ≤ 1 := by split at hs <;> (simp only [beq_iff_eq] at hs; omega)
      match hq : t.kids with
      | [] => rfl
      | [x] => simp [tailC]
      | x :: y :: r => rw [hq] at hl; simp at hl
    rw [e2] at hb ⊢
    exact w_node b o v a ha R t _ 78 [.val (.pointer (some ⟨b, 0, none⟩))] [] hr (by rw [hk]; rfl) (by kernel_rfl) (w_total b o v a ha R t (total_num hfl hk) (kids (by omega)) hb)
  · skip
    unfold shapeC at hs
    rw [hk] at hs
    replace hs : ((t.kids.length : Int) == 2) = true := hs
    obtain ⟨x0, x1, hq⟩ := kids_two (by simpa using hs)
    have e2 : writeC t = wrapT t x0 (writeC x0) ++ ([32] : Str) ++ operT t.num ++ ([32] : Str) ++ wrapT t x1 (writeC x1) := by
      rw [e]; unfold nodeT; rw [hk]
      show wrapT t (kidN t 0) ((t.kids.map writeC).getD 0 []) ++ [32] ++ operT t.num ++ [32] ++ wrapT t (kidN t 1) ((t.kids.map writeC).getD 1 []) = _
      have k0 : kidN t 0 = x0 := by unfold kidN; rw [hq]; rfl
      have k1 : kidN t 1 = x1 := by unfold kidN; rw [hq]; rfl
      rw [k0, k1, hq]; rfl
    rw [e2] at hb ⊢
    exact w_node b o v a ha R t _ 79 [.val (.pointer (some ⟨b, 0, none⟩))] [] hr (by rw [hk]; rfl) (by kernel_rfl) (w_binary b o v a ha R t x0 x1 (by rw [hq]; rfl) (by rw [hq]; rfl) (by have := bin_num hfl hk; omega) (kids (by omega) x0 (by rw [hq]; simp)) (kids (by omega) x1 (by rw [hq]; simp)) hb)
  · skip
    unfold shapeC at hs
    rw [hk] at hs
    replace hs : ((t.kids.length : Int) == 1) = true := hs
    obtain ⟨x0, hq⟩ := kids_one (by simpa using hs)
    have e2 : writeC t = ([110, 111, 116, 32] : Str) ++ wrapT t x0 (writeC x0) := by
      rw [e]; unfold nodeT; rw [hk]
      show w_tnot ++ [32] ++ wrapT t (kidN t 0) ((t.kids.map writeC).getD 0 []) = _
      have k0 : kidN t 0 = x0 := by unfold kidN; rw [hq]; rfl
      rw [k0, hq]; rfl
    rw [e2] at hb ⊢
    exact w_node b o v a ha R t _ 80 [] [.ptr [.val (.pointer (some ⟨b, 0, none⟩))]] hr (by rw [hk]; rfl) (by kernel_rfl) (w_not b o v a ha R t x0 (by rw [hq]; rfl) (kids (by omega) x0 (by rw [hq]; simp)) hb)

end Go.Proofs.YtabkeeedkhgodaaGreatDoor
