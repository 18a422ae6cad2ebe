/-
  Walks of layer 23: searching. No condition.
-/
import Derived.Test.YtoolcpnahmgnnaaDoorW9
import Derived.Test.YtoolcpnahmgnnaaDoorW6
import Derived.KernelRfl
namespace Go.Proofs.YtoolcpnahmgnnaaDoor
open Go Go.Aw
set_option linter.unusedVariables false
set_option linter.unusedSimpArgs false

theorem APure.arg1 {P : Program} {f : FuncId} {x y r : AV} {z : Nat} {es es' : List (List AV)} (h : es = es') (k : APure P f [x, .sl z es', y] r) : APure P f [x, .sl z es, y] r := h ▸ k
theorem leaveGo_at (s : Int) : ∀ (j : Nat) (l : List Ed) (k : Nat) (i : Int), (leaveGo s j l)[k]? = some i → ∃ m x, i = ((j + m : Nat) : Int) ∧ l[m]? = some x ∧ (fromS l s)[k]? = some x
  | _, [], k, i, h => by simp [leaveGo] at h
  | j, y :: r, k, i, h => by
    unfold leaveGo at h
    unfold fromS
    rw [List.filter_cons]
    by_cases hy : (y.src == s) = true
    · rw [if_pos hy] at h
      rw [if_pos hy]
      cases k with
      | zero =>
        rw [List.getElem?_cons_zero, Option.some.injEq] at h
        exact ⟨0, y, h.symm, rfl, rfl⟩
      | succ k =>
        rw [List.getElem?_cons_succ] at h
        obtain ⟨m, x, h1, h2, h3⟩ := leaveGo_at s (j + 1) r k i h
        exact ⟨m + 1, x, by rw [h1]; congr 1; omega, h2, h3⟩
    · rw [if_neg hy] at h
      rw [if_neg hy]
      obtain ⟨m, x, h1, h2, h3⟩ := leaveGo_at s (j + 1) r k i h
      exact ⟨m + 1, x, by rw [h1]; congr 1; omega, h2, h3⟩
theorem leave_at {s : Int} {l : List Ed} {k : Nat} {i : Int} (h : (leaveS l s)[k]? = some i) : 0 ≤ i ∧ ∃ x, l[i.toNat]? = some x ∧ (fromS l s)[k]? = some x ∧ i < (l.length : Int) := by
  obtain ⟨m, x, h1, h2, h3⟩ := leaveGo_at s 0 l k i h
  have hm := get_lt' h2
  subst h1
  refine ⟨by omega, x, ?_, h3, by omega⟩
  rw [show ((0 + m : Nat) : Int).toNat = m by omega]; exact h2
theorem leave_len (s : Int) : ∀ (j : Nat) (l : List Ed), (leaveGo s j l).length = (fromS l s).length
  | _, [] => rfl
  | j, y :: r => by
    have ih := leave_len s (j + 1) r
    unfold leaveGo fromS
    rw [List.filter_cons]
    split
    · rw [List.length_cons, ih]; rfl
    · exact ih
theorem nextF_eq (l : List Ed) (s : Int) : nextF l s = ((fromS l s).filter fun x => decide (0 ≤ x.dst)).map Ed.dst := by
  unfold nextF fromS
  rw [List.filter_filter]
  congr 2
  funext x
  exact Bool.and_comm _ _
def keepD (p : Ed → Bool) (f : Ed → Int) (l : List Ed) : List Int := (l.filter p).map f
theorem keepD_take {p : Ed → Bool} {f : Ed → Int} {l : List Ed} {k : Nat} {x : Ed} (h : l[k]? = some x) : keepD p f (l.take (k + 1)) = keepD p f (l.take k) ++ (if p x then [f x] else []) := by
  unfold keepD
  rw [take_get h, List.filter_append, List.map_append, List.filter_cons, List.filter_nil]
  split <;> rfl
theorem keepD_len (p : Ed → Bool) (f : Ed → Int) (l : List Ed) (k : Nat) : (keepD p f (l.take k)).length ≤ k := by
  unfold keepD
  rw [List.length_map]
  have := List.length_filter_le p (l.take k)
  rw [List.length_take] at this
  omega
theorem nextF_in {n : Nat} {l : List Ed} (h : EdR n l) (s : Int) : ∀ t ∈ nextF l s, InR n t := fun t ht => by
  unfold nextF at ht
  obtain ⟨x, hx, rfl⟩ := List.mem_map.1 ht
  obtain ⟨h1, h2⟩ := List.mem_filter.1 hx
  rw [Bool.and_eq_true, decide_eq_true_eq] at h2
  exact (h x h1).2 h2.2
theorem nextB_in {n : Nat} {l : List Ed} (h : EdR n l) (s : Int) : ∀ t ∈ nextB l s, InR n t := fun t ht => by
  unfold nextB at ht
  obtain ⟨x, hx, rfl⟩ := List.mem_map.1 ht
  exact (h x (List.mem_filter.1 hx).1).1
theorem ends_in {n : Nat} {l : List Ed} (h : EdR n l) : ∀ t ∈ endsS l, InR n t := fun t ht => by
  unfold endsS at ht
  obtain ⟨x, hx, rfl⟩ := List.mem_map.1 ht
  exact (h x (List.mem_filter.1 hx).1).1
theorem unseen_put {seen : List Bool} {s : Int} {f : Nat} (h : seenS seen s = false) (hs : s.toNat < seen.length) (hf : unseen seen < f + 1) : unseen (markS seen s) < f := by
  have := unseen_mark h hs
  unfold markS; omega
set_option maxRecDepth 20000 in
set_option maxHeartbeats 3200000 in
theorem a_found_1 (F : Nat) (hfn : fnB Tryd.prog F = true) (cap : List AV) (nx : Int → List Int) (n : Nat) (hn : n ≤ 1048576) (hnx : ∀ s, InR n s → ∀ t ∈ nx s, InR n t) (hcl : ∀ s, InR n s → APure Tryd.prog F (.int .i64 s :: cap) (.sl 1 ((nx s).map cI))) (bV bS : Nat) (R : List HO) (f : Nat) (seen : List Bool) (s : Int) (hl : seen.length = n) (hs : InR n s) (hf : unseen seen < f) : ACall Tryd.prog 69 (.box bV 124 [.fn (.func 69) [] [.ptr [.val (.slice (some ⟨bS, 0, none⟩) n n)], .ptr [.fn (.func F) [] cap], .val (.pointer (some ⟨bV, 0, none⟩))]] :: .box bS 4 (bB seen) :: R) [.int .i64 s, .ptr [.val (.slice (some ⟨bS, 0, none⟩) n n)], .ptr [.fn (.func F) [] cap], .val (.pointer (some ⟨bV, 0, none⟩))] (fun r H' => r = .tuple [] ∧ H' = .box bV 124 [.fn (.func 69) [] [.ptr [.val (.slice (some ⟨bS, 0, none⟩) n n)], .ptr [.fn (.func F) [] cap], .val (.pointer (some ⟨bV, 0, none⟩))]] :: .box bS 4 (bB (visitD nx f seen s)) :: R) := by
  induction f generalizing seen s
  · exact absurd hf (Nat.not_lt_zero _)
  rename_i f ih
  refine ACall.body (n := 26) tok Tryd.func69 rfl rfl rfl ?_
  refine AW.seq ?_
  refine AW.seq ?_
  refine AW.region ?_
  refine AOL.p (P_load_ptr (c := .val _) tok rfl rfl rfl) rfl ?_
  refine AOL.p (P_move (v := .int .i64 _) rfl) rfl ?_
  refine AOL.p (P_indexAddr_val tok rfl rfl rfl rfl rfl (hs.1) (hs.lt) (off1 _)) rfl ?_
  refine AOL.pk (P_load_box (k := 1) (c := .bool (seenS seen s)) tok rfl rfl rfl (bB_get (by rw [hl]; exact hs.2))) rfl rfl ?_
  refine AOL.nil ?_
  refine thenN ?_
  refine AW.cond (b := _) rfl (fun hc1 => ?_) (fun hc1 => ?_)
  · skip
    have h9 : (visitD nx (f + 1) seen s) = seen := by unfold visitD; rw [if_pos hc1]
    refine AW.ret ?_
    refine thenR ?_
    refine ⟨.inr rfl, [], .nil, _, .refl _, ?_⟩
    exact ⟨rfl, congrArg (fun x => .box bV 124 [.fn (.func 69) [] [.ptr [.val (.slice (some ⟨bS, 0, none⟩) n n)], .ptr [.fn (.func F) [] cap], .val (.pointer (some ⟨bV, 0, none⟩))]] :: .box bS 4 (bB x) :: R) h9.symm⟩
  · skip
    have h9 : (visitD nx (f + 1) seen s) = (nx s).foldl (visitD nx f) (markS seen s) := by rw [visitD, if_neg (by rw [hc1]; decide)]
    have hu := unseen_put hc1 (by rw [hl]; exact hs.2) hf
    refine AW.skip ?_
    refine thenN ?_
    refine AW.seq ?_
    refine AW.region ?_
    refine AOL.p (P_load_ptr (c := .val _) tok rfl rfl rfl) rfl ?_
    refine AOL.p (P_move (v := .int .i64 _) rfl) rfl ?_
    refine AOL.p (P_indexAddr_val tok rfl rfl rfl rfl rfl (hs.1) (hs.lt) (off1 _)) rfl ?_
    refine AOL.e (E_store (k := 1) (v := .bool _) (cs' := bB (markS seen s)) (H2 := _ :: _ :: _) tok rfl rfl rfl rfl rfl rfl (by rw [bB_len]; exact Nat.ble_eq_true_of_le (by show (s).toNat + 1 ≤ _; rw [hl]; exact hs.2)) (bB_mark (by rw [hl]; exact hs.2)) rfl) rfl ?_
    rintro _ _ ⟨rfl, rfl⟩
    refine AOL.nil ?_
    refine thenN ?_
    refine AW.seq ?_
    refine AW.region ?_
    refine AOL.p (P_load_ptr (c := .fn _ _ _) tok rfl rfl rfl) rfl ?_
    refine AOL.p (P_move (v := .int .i64 _) rfl) rfl ?_
    refine AOL.p (P_call hfn rfl rfl rfl (hcl s hs)) rfl ?_
    refine AOL.p (P_len_sl (n := (nx s).length) tok rfl rfl rfl (by simp)) rfl ?_
    refine AOL.p (P_move (v := .int .i64 _) rfl) rfl ?_
    refine AOL.nil ?_
    refine thenN ?_
    refine AW.block ?_
    refine AW.sllen 16 rfl fun hlen => ?_
    simp only [List.length_map, maxLen] at hlen
    refine AW.loopS (fun (q : Nat × List Bool) => (⟨[(3, .val (.pointer (some ⟨bV, 0, none⟩))), (16, .sl 1 ((nx s).map cI)), (17, .int .i64 (nx s).length), (18, .int .i64 (q.1 : Int))], .box bV 124 [.fn (.func 69) [] [.ptr [.val (.slice (some ⟨bS, 0, none⟩) n n)], .ptr [.fn (.func F) [] cap], .val (.pointer (some ⟨bV, 0, none⟩))]] :: .box bS 4 (bB q.2) :: R, 26⟩ : St)) (fun (q : Nat × List Bool) => q.1 ≤ (nx s).length ∧ q.2.length = n ∧ unseen q.2 < f ∧ (visitD nx (f + 1) seen s) = ((nx s).drop q.1).foldl (visitD nx f) q.2) (fun (q : Nat × List Bool) => (nx s).length - q.1) ((0, markS seen s)) ?_ (GS.weaken ⟨rfl, rfl, rfl, rfl, trivial⟩ (.refl _)) ?_
    · exact ⟨Nat.zero_le _, by rw [mark_len]; exact hl, hu, h9⟩
    · rintro q hR
      refine AW.seq ?_
      refine AW.region ?_
      refine AOL.p (P_lss rfl rfl) rfl ?_
      refine AOL.nil ?_
      refine thenN ?_
      refine AW.seq ?_
      refine AW.cond (b := _) rfl (fun hc2 => ?_) (fun hc2 => ?_)
      · skip
        obtain ⟨x, hx⟩ := get_lt2 (l := (nx s)) (k := q.1) (by have := of_decide_eq_true hc2; omega)
        have hltx := get_lt' hx
        have hmx := List.mem_of_getElem? hx
        have hg := hR.2.2.2
        rw [drop_cons hx, List.foldl_cons] at hg
        have hv := visit_ok hnx f q.2 x hR.2.1 (hnx s hs x hmx) hR.2.2.1
        refine AW.skip ?_
        refine thenN ?_
        refine AW.seq ?_
        refine AW.block ?_
        refine AW.seq ?_
        refine AW.region ?_
        refine AOL.p (P_indexAddr (c := [.int .i64 _]) tok rfl rfl rfl rfl rfl rfl (by omega) (cI_at hx)) rfl ?_
        refine AOL.p (P_load_ptr (c := .int .i64 _) tok rfl rfl rfl) rfl ?_
        refine AOL.p (P_assign (v := .int .i64 _) rfl) rfl ?_
        refine AOL.nil ?_
        refine thenN ?_
        refine AW.region ?_
        refine AOL.pk (P_load_box (k := 0) (c := .fn _ _ _) tok rfl rfl rfl rfl) rfl rfl ?_
        refine AOL.p (P_move (v := .int .i64 _) rfl) rfl ?_
        refine AOL.e (E_call (by kernel_rfl) rfl rfl rfl (ih q.2 x hR.2.1 (hnx s hs x hmx) hR.2.2.1)) rfl ?_
        rintro _ _ ⟨rfl, rfl⟩
        refine AOL.nil ?_
        refine blkN ?_
        refine thenN ?_
        refine AW.region ?_
        refine AOL.p (P_add rfl rfl rfl (by constructor <;> omega)) rfl ?_
        refine AOL.p (P_move (v := .int .i64 _) rfl) rfl ?_
        refine AOL.nil ?_
        refine thenN ?_
        refine ⟨(q.1 + 1, visitD nx f q.2 x), ?_, ?_, GS.weaken ⟨rfl, rfl, rfl, rfl, trivial⟩ (.refl _)⟩
        · exact ⟨hltx, by rw [← hv.1.1]; exact hR.2.1, Nat.lt_of_le_of_lt (unseen_le hv.1) hR.2.2.1, hg⟩
        · simp only; omega
      · skip
        have hk : (nx s).length ≤ q.1 := by have := of_decide_eq_false hc2; omega
        have hg := hR.2.2.2
        rw [List.drop_eq_nil_of_le hk] at hg
        refine AW.exit ?_
        refine thenE ?_
        refine thenE ?_
        refine blkHit ?_
        refine ⟨.inl rfl, [], .nil, _, .refl _, ?_⟩
        exact ⟨rfl, congrArg (fun x => .box bV 124 [.fn (.func 69) [] [.ptr [.val (.slice (some ⟨bS, 0, none⟩) n n)], .ptr [.fn (.func F) [] cap], .val (.pointer (some ⟨bV, 0, none⟩))]] :: .box bS 4 (bB x) :: R) hg.symm⟩
set_option maxRecDepth 20000 in
set_option maxHeartbeats 3200000 in
theorem a_found (a : Au) (st : List Int) (F : Nat) (hfn : fnB Tryd.prog F = true) (cap : List AV) (nx : Int → List Int) (hn : a.states.length ≤ 1048576) (hnx : ∀ s, InR a.states.length s → ∀ t ∈ nx s, InR a.states.length t) (hcl : ∀ s, InR a.states.length s → APure Tryd.prog F (.int .i64 s :: cap) (.sl 1 ((nx s).map cI))) (hst : ∀ s ∈ st, InR a.states.length s) : APure Tryd.prog 48 [.agg (cAu a), .sl 1 (st.map cI), .fn (.func F) [] cap] (.sl 1 ((foundS a.states.length st nx).map cB)) := by
  have hmx : 1048576 ≤ maxLen := by decide
  refine APure.body (n := 27) tok Tryd.func48 rfl rfl rfl fun H => ?_
  refine AW.seq ?_
  refine AW.region ?_
  refine AOL.p (P_box (v := .agg _) (cs := [.int .i64 _, .int .i64 _, _, _]) rfl rfl rfl) rfl ?_
  refine AOL.p (P_box (v := .fn _ _ _) (cs := [_]) rfl rfl rfl) rfl ?_
  refine AOL.p (P_assign_nil (z := 1) rfl) rfl ?_
  refine AOL.nil ?_
  refine thenN ?_
  refine AW.seq ?_
  refine AW.region ?_
  refine AOL.p (P_fieldAddr_ptr (cs' := [_, _]) tok rfl rfl rfl rfl rfl rfl) rfl ?_
  refine AOL.p (P_load_ptr (c := .sl _ _) tok rfl rfl rfl) rfl ?_
  refine AOL.p (P_len_sl (n := a.states.length) tok rfl rfl rfl (by simp)) rfl ?_
  refine AOL.e (E_makeSlice (n := a.states.length) tok rfl rfl rfl rfl rfl rfl rfl (by show 1 * a.states.length ≤ _; omega) (by omega)) rfl ?_
  rintro _ _ ⟨b14, rfl, rfl⟩
  refine AOL.e (E_alloc (l := [.sl 1 []]) (by kernel_rfl)) rfl ?_
  rintro _ _ ⟨b7, rfl, rfl⟩
  refine AOL.e (E_store (k := 0) (v := .val _) (cs' := [_]) (H2 := _ :: _ :: _) tok rfl rfl rfl rfl rfl rfl rfl rfl rfl) rfl ?_
  rintro _ _ ⟨rfl, rfl⟩
  refine AOL.ghost (GS.freeze (t := 7) 0 rfl rfl) ?_
  refine AOL.ghost (GS.cells 0 rfl (bB_zero a.states.length)) ?_
  refine AOL.nil ?_
  refine thenN ?_
  refine AW.seq ?_
  refine AW.region ?_
  refine AOL.e (E_alloc (l := [.val .nilFunc]) (by kernel_rfl)) rfl ?_
  rintro _ _ ⟨b8, rfl, rfl⟩
  refine AOL.nil ?_
  refine thenN ?_
  refine AW.seq ?_
  refine AW.region ?_
  refine AOL.p (P_makeFunc (l := []) (l' := [.ptr _, .ptr _, .val _]) rfl rfl) rfl ?_
  refine AOL.e (E_store (k := 0) (v := .fn _ _ _) (cs' := [_]) (H2 := _ :: _ :: _) tok rfl rfl rfl rfl rfl rfl rfl rfl rfl) rfl ?_
  rintro _ _ ⟨rfl, rfl⟩
  refine AOL.nil ?_
  refine thenN ?_
  refine AW.seq ?_
  refine AW.seq ?_
  refine AW.region ?_
  refine AOL.p (P_move (v := .sl _ _) rfl) rfl ?_
  refine AOL.p (P_len_sl (n := st.length) tok rfl rfl rfl (by simp)) rfl ?_
  refine AOL.p (P_move (v := .int .i64 _) rfl) rfl ?_
  refine AOL.nil ?_
  refine thenN ?_
  refine AW.block ?_
  refine AW.sllen 16 rfl fun hlen => ?_
  simp only [List.length_map, maxLen] at hlen
  refine AW.loopS (fun (q : Nat × List Bool) => (⟨[(7, .ptr [.val (.slice (some ⟨b14, 0, none⟩) a.states.length a.states.length)]), (8, .val (.pointer (some ⟨b8, 0, none⟩))), (16, .sl 1 (st.map cI)), (17, .int .i64 st.length), (18, .int .i64 (q.1 : Int))], .box b8 124 [.fn (.func 69) [] [.ptr [.val (.slice (some ⟨b14, 0, none⟩) a.states.length a.states.length)], .ptr [.fn (.func F) [] cap], .val (.pointer (some ⟨b8, 0, none⟩))]] :: .box b14 4 (bB q.2) :: H, 27⟩ : St)) (fun (q : Nat × List Bool) => q.1 ≤ st.length ∧ q.2.length = a.states.length ∧ (foundS a.states.length st nx) = (st.drop q.1).foldl (visitD nx (a.states.length + 1)) q.2) (fun (q : Nat × List Bool) => st.length - q.1) ((0, List.replicate a.states.length false)) ?_ (GS.weaken ⟨rfl, rfl, rfl, rfl, rfl, trivial⟩ (.refl _)) ?_
  · exact ⟨Nat.zero_le _, List.length_replicate .., rfl⟩
  · rintro q hR
    refine AW.seq ?_
    refine AW.region ?_
    refine AOL.p (P_lss rfl rfl) rfl ?_
    refine AOL.nil ?_
    refine thenN ?_
    refine AW.seq ?_
    refine AW.cond (b := _) rfl (fun hc1 => ?_) (fun hc1 => ?_)
    · skip
      obtain ⟨x, hx⟩ := get_lt2 (l := st) (k := q.1) (by have := of_decide_eq_true hc1; omega)
      have hltx := get_lt' hx
      have hmx := List.mem_of_getElem? hx
      have hg := hR.2.2
      rw [drop_cons hx, List.foldl_cons] at hg
      have hv := visit_ok hnx (a.states.length + 1) q.2 x hR.2.1 (hst x hmx) (by have := unseen_bound q.2; rw [hR.2.1] at this; omega)
      refine AW.skip ?_
      refine thenN ?_
      refine AW.seq ?_
      refine AW.block ?_
      refine AW.seq ?_
      refine AW.region ?_
      refine AOL.p (P_indexAddr (c := [.int .i64 _]) tok rfl rfl rfl rfl rfl rfl (by omega) (cI_at hx)) rfl ?_
      refine AOL.p (P_load_ptr (c := .int .i64 _) tok rfl rfl rfl) rfl ?_
      refine AOL.p (P_assign (v := .int .i64 _) rfl) rfl ?_
      refine AOL.nil ?_
      refine thenN ?_
      refine AW.region ?_
      refine AOL.pk (P_load_box (k := 0) (c := .fn _ _ _) tok rfl rfl rfl rfl) rfl rfl ?_
      refine AOL.p (P_move (v := .int .i64 _) rfl) rfl ?_
      refine AOL.e (E_call (by kernel_rfl) rfl rfl rfl (a_found_1 F hfn cap nx a.states.length hn hnx hcl b8 b14 H (a.states.length + 1) q.2 x hR.2.1 (hst x hmx) (by have := unseen_bound q.2; rw [hR.2.1] at this; omega))) rfl ?_
      rintro _ _ ⟨rfl, rfl⟩
      refine AOL.nil ?_
      refine blkN ?_
      refine thenN ?_
      refine AW.region ?_
      refine AOL.p (P_add rfl rfl rfl (by constructor <;> omega)) rfl ?_
      refine AOL.p (P_move (v := .int .i64 _) rfl) rfl ?_
      refine AOL.nil ?_
      refine thenN ?_
      refine ⟨(q.1 + 1, visitD nx (a.states.length + 1) q.2 x), ?_, ?_, GS.weaken ⟨rfl, rfl, rfl, rfl, rfl, trivial⟩ (.refl _)⟩
      · exact ⟨hltx, by rw [← hv.1.1]; exact hR.2.1, hg⟩
      · simp only; omega
    · skip
      have hk : st.length ≤ q.1 := by have := of_decide_eq_false hc1; omega
      have hg := hR.2.2
      rw [List.drop_eq_nil_of_le hk] at hg
      have hlp := hR.2.1
      refine AW.exit ?_
      refine thenE ?_
      refine thenE ?_
      refine blkHit ?_
      refine thenN ?_
      refine AW.seq ?_
      refine AW.region ?_
      refine AOL.p (P_load_ptr (c := .val _) tok rfl rfl rfl) rfl ?_
      refine AOL.ghost (GS.freezeSl (t := 26) (z := 1) (es := q.2.map cB) 1 rfl rfl (bB_flat _) (by rw [List.length_map, hlp]) (Nat.le_refl _) (by omega) (one_each (fun _ => rfl) _) slot_is) ?_
      refine AOL.p (P_assign (v := .sl _ _) rfl) rfl ?_
      refine AOL.nil ?_
      refine thenN ?_
      refine AW.ret ?_
      refine ⟨.inr rfl, [.sl _ _], .cons (.tmp _ _ rfl) <| .nil, .cons _ (.refl _), ?_⟩
      rw [hg]; rfl
set_option maxRecDepth 20000 in
set_option maxHeartbeats 1600000 in
theorem a_useful_1 (a : Au) (s : Int) (hm : a.edges.length ≤ 1048576) : APure Tryd.prog 50 [.int .i64 s, .ptr (cAu a)] (.sl 1 ((nextB a.edges s).map cI)) := by
  show APure _ _ _ (.sl 1 ((keepD (fun x => x.dst == s) Ed.src a.edges).map cI))
  refine APure.body (n := 25) tok Tryd.func50 rfl rfl rfl fun H => ?_
  refine AW.seq ?_
  refine AW.region ?_
  refine AOL.p (P_assign_nil (z := 1) rfl) rfl ?_
  refine AOL.nil ?_
  refine thenN ?_
  refine AW.seq ?_
  refine AW.region ?_
  refine AOL.p (P_assign (v := .val _) rfl) rfl ?_
  refine AOL.ghost (GS.row (t := 4) 3 1 rfl) ?_
  refine AOL.nil ?_
  refine thenN ?_
  refine AW.seq ?_
  refine AW.seq ?_
  refine AW.region ?_
  refine AOL.p (P_fieldAddr_ptr (cs' := [_]) tok rfl rfl rfl rfl rfl rfl) rfl ?_
  refine AOL.p (P_load_ptr (c := .sl _ _) tok rfl rfl rfl) rfl ?_
  refine AOL.p (P_len_sl (n := a.edges.length) tok rfl rfl rfl (by simp)) rfl ?_
  refine AOL.p (P_move (v := .int .i64 _) rfl) rfl ?_
  refine AOL.nil ?_
  refine thenN ?_
  refine AW.block ?_
  refine AW.sllen 8 rfl fun hlen => ?_
  simp only [List.length_map, maxLen] at hlen
  refine AW.loopS (fun (p : Nat × List (List AV) × Value) => (⟨[(0, .int .i64 s), (1, .ptr (cAu a)), (4, .row p.2.2 1 p.2.1), (8, .sl 17 (a.edges.map cEd)), (9, .int .i64 a.edges.length), (10, .int .i64 (p.1 : Int))], .row p.2.2 p.2.1.length 3 1 :: H, 25⟩ : St)) (fun (p : Nat × List (List AV) × Value) => p.1 ≤ a.edges.length ∧ p.2.1 = (keepD (fun x => x.dst == s) Ed.src (a.edges.take p.1)).map cI) (fun (p : Nat × List (List AV) × Value) => a.edges.length - p.1) ((0, [], .slice none 0 0)) ?_ (GS.weaken ⟨rfl, rfl, rfl, rfl, rfl, rfl, trivial⟩ (.refl _)) ?_
  · exact ⟨Nat.zero_le _, rfl⟩
  · rintro p hR
    have hsc : ∀ c ∈ p.2.1, scalars c = true := by rw [hR.2]; exact sc_map fun _ => rfl
    have hel : p.2.1.length ≤ p.1 := by rw [hR.2, List.length_map]; exact keepD_len _ _ _ _
    refine AW.seq ?_
    refine AW.region ?_
    refine AOL.p (P_lss rfl rfl) rfl ?_
    refine AOL.nil ?_
    refine thenN ?_
    refine AW.seq ?_
    refine AW.cond (b := _) rfl (fun hc1 => ?_) (fun hc1 => ?_)
    · skip
      obtain ⟨x, hx⟩ := get_lt2 (l := a.edges) (k := p.1) (by have := of_decide_eq_true hc1; omega)
      have hltx := get_lt' hx
      have hmx := List.mem_of_getElem? hx
      refine AW.skip ?_
      refine thenN ?_
      refine AW.seq ?_
      refine AW.block ?_
      refine AW.seq ?_
      refine AW.region ?_
      refine AOL.p (P_indexAddr (c := [.int .i64 _, .int .i64 _, .int .i64 _, .int .i64 _, .int .i64 _, _, .int .i64 _, .int .i64 _, .int .i64 _, .int .i64 _, .int .i64 _, .str _, _, _, _, _, _]) tok rfl rfl rfl rfl rfl rfl (by omega) (cEd_at hx)) rfl ?_
      refine AOL.p (P_load_ptr_agg (l := [.int .i64 _, .int .i64 _, .int .i64 _, .int .i64 _, .int .i64 _, _, .int .i64 _, .int .i64 _, .int .i64 _, .int .i64 _, .int .i64 _, .str _, _, _, _, _, _]) tok rfl rfl rfl rfl rfl) rfl ?_
      refine AOL.e (E_alloc (l := [.int .i64 0, .int .i64 0, .int .i64 0, .int .i64 0, .int .i64 0, .sl 8 [], .int .i64 0, .int .i64 0, .int .i64 0, .int .i64 0, .int .i64 0, .str [], .sl 1 [], .sl 1 [], .sl 8 [], .sl 2 [], .sl 1 []]) (by kernel_rfl)) rfl ?_
      rintro _ _ ⟨b6, rfl, rfl⟩
      refine AOL.e (E_store (k := 0) (v := .agg _) (cs' := [.int .i64 _, .int .i64 _, .int .i64 _, .int .i64 _, .int .i64 _, _, .int .i64 _, .int .i64 _, .int .i64 _, .int .i64 _, .int .i64 _, .str _, _, _, _, _, _]) (H2 := _ :: _ :: _) tok rfl rfl rfl rfl rfl rfl rfl rfl rfl) rfl ?_
      rintro _ _ ⟨rfl, rfl⟩
      refine AOL.ghost (GS.freeze (t := 6) 0 rfl rfl) ?_
      refine AOL.nil ?_
      refine thenN ?_
      refine AW.seq ?_
      refine AW.region ?_
      refine AOL.p (P_fieldAddr_ptr (cs' := [.int .i64 _, .int .i64 _, .int .i64 _, .int .i64 _, _, .int .i64 _, .int .i64 _, .int .i64 _, .int .i64 _, .int .i64 _, .str _, _, _, _, _, _]) tok rfl rfl rfl rfl rfl rfl) rfl ?_
      refine AOL.p (P_load_ptr (c := .int .i64 _) tok rfl rfl rfl) rfl ?_
      refine AOL.p (P_move (v := .int .i64 _) rfl) rfl ?_
      refine AOL.p (P_eql rfl rfl) rfl ?_
      refine AOL.nil ?_
      refine thenN ?_
      refine AW.cond (b := _) rfl (fun hc2 => ?_) (fun hc2 => ?_)
      · skip
        have hpx := hc2
        refine AW.region ?_
        refine AOL.p (P_move (v := .row _ _ _) rfl) rfl ?_
        refine AOL.p (P_fieldAddr_ptr (cs' := [.int .i64 _, .int .i64 _, .int .i64 _, .int .i64 _, .int .i64 _, _, .int .i64 _, .int .i64 _, .int .i64 _, .int .i64 _, .int .i64 _, .str _, _, _, _, _, _]) tok rfl rfl rfl rfl rfl rfl) rfl ?_
        refine AOL.p (P_load_ptr (c := .int .i64 _) tok rfl rfl rfl) rfl ?_
        refine AOL.p (P_buildSlice (es := [[.int .i64 _]]) tok rfl rfl rfl rfl rfl rfl rfl rfl rfl) rfl ?_
        refine AOL.e (E_append (k := 0) tok rfl rfl rfl rfl rfl rfl rfl rfl (sc_one rfl) (hsc) (by simp; omega) (by simp [maxLen]; omega)) rfl ?_
        rintro _ _ ⟨v22, rfl, rfl⟩
        refine AOL.p (P_assign (v := .row _ _ _) rfl) rfl ?_
        refine AOL.nil ?_
        refine blkN ?_
        refine thenN ?_
        refine AW.region ?_
        refine AOL.p (P_add rfl rfl rfl (by constructor <;> omega)) rfl ?_
        refine AOL.p (P_move (v := .int .i64 _) rfl) rfl ?_
        refine AOL.nil ?_
        refine thenN ?_
        refine ⟨(p.1 + 1, p.2.1 ++ [cI (Ed.src x)], v22), ?_, ?_, GS.weaken ⟨rfl, rfl, rfl, rfl, rfl, rfl, trivial⟩ (.refl _)⟩
        · exact ⟨hltx, by simp only; rw [keepD_take hx, if_pos hpx, List.map_append, hR.2]; rfl⟩
        · simp only; omega
      · skip
        have hpx := Bool.eq_false_iff.mp hc2
        refine AW.skip ?_
        refine blkN ?_
        refine thenN ?_
        refine AW.region ?_
        refine AOL.p (P_add rfl rfl rfl (by constructor <;> omega)) rfl ?_
        refine AOL.p (P_move (v := .int .i64 _) rfl) rfl ?_
        refine AOL.nil ?_
        refine thenN ?_
        refine ⟨(p.1 + 1, p.2.1, p.2.2), ?_, ?_, GS.weaken ⟨rfl, rfl, rfl, rfl, rfl, rfl, trivial⟩ (.refl _)⟩
        · exact ⟨hltx, by simp only; rw [keepD_take hx, if_neg hpx, List.append_nil, hR.2]⟩
        · simp only; omega
    · skip
      have hk : a.edges.length ≤ p.1 := by have := of_decide_eq_false hc1; omega
      refine AW.exit ?_
      refine thenE ?_
      refine thenE ?_
      refine blkHit ?_
      refine thenN ?_
      refine AW.seq ?_
      refine AW.region ?_
      refine AOL.ghost (GS.unrow 4 rfl) ?_
      refine AOL.p (P_move (v := .sl _ _) rfl) rfl ?_
      refine AOL.p (P_assign (v := .sl _ _) rfl) rfl ?_
      refine AOL.nil ?_
      refine thenN ?_
      refine AW.ret ?_
      refine ⟨.inr rfl, [.sl _ _], .cons (.tmp _ _ rfl) <| .nil, .cons _ (.refl _), ?_⟩
      rw [List.take_of_length_le hk] at hR
      exact congrArg (AV.sl 1) hR.2
theorem nextF_keep (l : List Ed) (s : Int) : nextF l s = keepD (fun x => decide (0 ≤ x.dst)) Ed.dst (fromS l s) := nextF_eq l s
set_option maxRecDepth 20000 in
set_option maxHeartbeats 1600000 in
theorem a_reachable_1 (a : Au) (s : Int) (hm : a.edges.length ≤ 1048576) : APure Tryd.prog 49 [.int .i64 s, .ptr (cAu a)] (.sl 1 ((nextF a.edges s).map cI)) := by
  rw [nextF_keep]
  refine APure.body (n := 30) tok Tryd.func49 rfl rfl rfl fun H => ?_
  refine AW.seq ?_
  refine AW.region ?_
  refine AOL.p (P_assign_nil (z := 1) rfl) rfl ?_
  refine AOL.nil ?_
  refine thenN ?_
  refine AW.seq ?_
  refine AW.region ?_
  refine AOL.p (P_assign (v := .val _) rfl) rfl ?_
  refine AOL.ghost (GS.row (t := 4) 3 1 rfl) ?_
  refine AOL.nil ?_
  refine thenN ?_
  refine AW.seq ?_
  refine AW.seq ?_
  refine AW.region ?_
  refine AOL.p (P_load_ptr_agg (l := [.int .i64 _, .int .i64 _, _, _]) tok rfl rfl rfl rfl rfl) rfl ?_
  refine AOL.p (P_move (v := .int .i64 _) rfl) rfl ?_
  refine AOL.p (P_callf (by kernel_rfl) rfl rfl (a_leaving a s hm)) rfl ?_
  refine AOL.p (P_len_sl (n := (fromS a.edges s).length) tok rfl rfl rfl (by rw [List.length_map]; exact leave_len s 0 a.edges)) rfl ?_
  refine AOL.p (P_move (v := .int .i64 _) rfl) rfl ?_
  refine AOL.nil ?_
  refine thenN ?_
  refine AW.block ?_
  refine AW.sllen 10 rfl fun hlen => ?_
  simp only [List.length_map, maxLen] at hlen
  have hlen2 : (fromS a.edges s).length ≤ 1048576 := Nat.le_trans (List.length_filter_le ..) hm
  refine AW.loopS (fun (p : Nat × List (List AV) × Value) => (⟨[(1, .ptr (cAu a)), (4, .row p.2.2 1 p.2.1), (10, .sl 1 ((leaveS a.edges s).map cI)), (11, .int .i64 (fromS a.edges s).length), (12, .int .i64 (p.1 : Int))], .row p.2.2 p.2.1.length 3 1 :: H, 30⟩ : St)) (fun (p : Nat × List (List AV) × Value) => p.1 ≤ (fromS a.edges s).length ∧ p.2.1 = (keepD (fun x => decide (0 ≤ x.dst)) Ed.dst ((fromS a.edges s).take p.1)).map cI) (fun (p : Nat × List (List AV) × Value) => (fromS a.edges s).length - p.1) ((0, [], .slice none 0 0)) ?_ (GS.weaken ⟨rfl, rfl, rfl, rfl, rfl, trivial⟩ (.refl _)) ?_
  · exact ⟨Nat.zero_le _, rfl⟩
  · rintro p hR
    have hsc : ∀ c ∈ p.2.1, scalars c = true := by rw [hR.2]; exact sc_map fun _ => rfl
    have hel : p.2.1.length ≤ p.1 := by rw [hR.2, List.length_map]; exact keepD_len _ _ _ _
    refine AW.seq ?_
    refine AW.region ?_
    refine AOL.p (P_lss rfl rfl) rfl ?_
    refine AOL.nil ?_
    refine thenN ?_
    refine AW.seq ?_
    refine AW.cond (b := _) rfl (fun hc1 => ?_) (fun hc1 => ?_)
    · skip
      obtain ⟨i, hi⟩ := get_lt2 (l := leaveS a.edges s) (k := p.1) (by have := of_decide_eq_true hc1; have := leave_len s 0 a.edges; unfold leaveS; omega)
      have hi9 := leave_at hi
      have hi0 := hi9.1
      refine hi9.2.elim fun x hx9 => ?_
      have hex := hx9.1
      have hx := hx9.2.1
      have hltx := get_lt' hx
      refine AW.skip ?_
      refine thenN ?_
      refine AW.seq ?_
      refine AW.block ?_
      refine AW.seq ?_
      refine AW.region ?_
      refine AOL.p (P_indexAddr (c := [.int .i64 _]) tok rfl rfl rfl rfl rfl rfl (by omega) (cI_at hi)) rfl ?_
      refine AOL.p (P_load_ptr (c := .int .i64 _) tok rfl rfl rfl) rfl ?_
      refine AOL.p (P_assign (v := .int .i64 _) rfl) rfl ?_
      refine AOL.nil ?_
      refine thenN ?_
      refine AW.seq ?_
      refine AW.region ?_
      refine AOL.p (P_fieldAddr_ptr (cs' := [_]) tok rfl rfl rfl rfl rfl rfl) rfl ?_
      refine AOL.p (P_load_ptr (c := .sl _ _) tok rfl rfl rfl) rfl ?_
      refine AOL.p (P_move (v := .int .i64 _) rfl) rfl ?_
      refine AOL.p (P_indexAddr (c := [.int .i64 _, .int .i64 _, .int .i64 _, .int .i64 _, .int .i64 _, _, .int .i64 _, .int .i64 _, .int .i64 _, .int .i64 _, .int .i64 _, .str _, _, _, _, _, _]) tok rfl rfl rfl rfl rfl rfl (hi0) (cEd_at hex)) rfl ?_
      refine AOL.p (P_fieldAddr_ptr (cs' := [.int .i64 _, .int .i64 _, .int .i64 _, .int .i64 _, _, .int .i64 _, .int .i64 _, .int .i64 _, .int .i64 _, .int .i64 _, .str _, _, _, _, _, _]) tok rfl rfl rfl rfl rfl rfl) rfl ?_
      refine AOL.p (P_load_ptr (c := .int .i64 _) tok rfl rfl rfl) rfl ?_
      refine AOL.p (P_assign (v := .int .i64 _) rfl) rfl ?_
      refine AOL.nil ?_
      refine thenN ?_
      refine AW.seq ?_
      refine AW.region ?_
      refine AOL.p (P_move (v := .int .i64 _) rfl) rfl ?_
      refine AOL.p (P_geq rfl rfl) rfl ?_
      refine AOL.nil ?_
      refine thenN ?_
      refine AW.cond (b := _) rfl (fun hc2 => ?_) (fun hc2 => ?_)
      · skip
        have hpx := hc2
        refine AW.region ?_
        refine AOL.p (P_move (v := .row _ _ _) rfl) rfl ?_
        refine AOL.p (P_move (v := .int .i64 _) rfl) rfl ?_
        refine AOL.p (P_buildSlice (es := [[.int .i64 _]]) tok rfl rfl rfl rfl rfl rfl rfl rfl rfl) rfl ?_
        refine AOL.e (E_append (k := 0) tok rfl rfl rfl rfl rfl rfl rfl rfl (sc_one rfl) (hsc) (by simp; omega) (by simp [maxLen]; omega)) rfl ?_
        rintro _ _ ⟨v27, rfl, rfl⟩
        refine AOL.p (P_assign (v := .row _ _ _) rfl) rfl ?_
        refine AOL.nil ?_
        refine blkN ?_
        refine thenN ?_
        refine AW.region ?_
        refine AOL.p (P_add rfl rfl rfl (by constructor <;> omega)) rfl ?_
        refine AOL.p (P_move (v := .int .i64 _) rfl) rfl ?_
        refine AOL.nil ?_
        refine thenN ?_
        refine ⟨(p.1 + 1, p.2.1 ++ [cI (Ed.dst x)], v27), ?_, ?_, GS.weaken ⟨rfl, rfl, rfl, rfl, rfl, trivial⟩ (.refl _)⟩
        · exact ⟨hltx, by simp only; rw [keepD_take hx, if_pos hpx, List.map_append, hR.2]; rfl⟩
        · simp only; omega
      · skip
        have hpx := Bool.eq_false_iff.mp hc2
        refine AW.skip ?_
        refine blkN ?_
        refine thenN ?_
        refine AW.region ?_
        refine AOL.p (P_add rfl rfl rfl (by constructor <;> omega)) rfl ?_
        refine AOL.p (P_move (v := .int .i64 _) rfl) rfl ?_
        refine AOL.nil ?_
        refine thenN ?_
        refine ⟨(p.1 + 1, p.2.1, p.2.2), ?_, ?_, GS.weaken ⟨rfl, rfl, rfl, rfl, rfl, trivial⟩ (.refl _)⟩
        · exact ⟨hltx, by simp only; rw [keepD_take hx, if_neg hpx, List.append_nil, hR.2]⟩
        · simp only; omega
    · skip
      have hk : (fromS a.edges s).length ≤ p.1 := by have := of_decide_eq_false hc1; omega
      refine AW.exit ?_
      refine thenE ?_
      refine thenE ?_
      refine blkHit ?_
      refine thenN ?_
      refine AW.seq ?_
      refine AW.region ?_
      refine AOL.ghost (GS.unrow 4 rfl) ?_
      refine AOL.p (P_move (v := .sl _ _) rfl) rfl ?_
      refine AOL.p (P_assign (v := .sl _ _) rfl) rfl ?_
      refine AOL.nil ?_
      refine thenN ?_
      refine AW.ret ?_
      refine ⟨.inr rfl, [.sl _ _], .cons (.tmp _ _ rfl) <| .nil, .cons _ (.refl _), ?_⟩
      rw [List.take_of_length_le hk] at hR
      exact congrArg (AV.sl 1) hR.2
set_option maxRecDepth 20000 in
set_option maxHeartbeats 400000 in
theorem a_reachable (a : Au) (h0 : 0 < a.states.length) (hn : a.states.length ≤ 1048576) (hm : a.edges.length ≤ 1048576) (hE : EdR a.states.length a.edges) : APure Tryd.prog 21 [.agg (cAu a)] (.sl 1 ((reachA a).map cB)) := by
  refine APure.body (n := 7) tok Tryd.func21 rfl rfl rfl fun H => ?_
  refine AW.seq ?_
  refine AW.region ?_
  refine AOL.p (P_box (v := .agg _) (cs := [.int .i64 _, .int .i64 _, _, _]) rfl rfl rfl) rfl ?_
  refine AOL.p (P_assign_nil (z := 1) rfl) rfl ?_
  refine AOL.nil ?_
  refine thenN ?_
  refine AW.seq ?_
  refine AW.region ?_
  refine AOL.p (P_load_ptr_agg (l := [.int .i64 _, .int .i64 _, _, _]) tok rfl rfl rfl rfl rfl) rfl ?_
  refine AOL.p (P_buildSlice (es := [[.int .i64 _]]) tok rfl rfl rfl rfl rfl rfl rfl rfl rfl) rfl ?_
  refine AOL.p (P_makeFunc (l := []) (l' := [.ptr _]) rfl rfl) rfl ?_
  refine AOL.p (P_callf (by kernel_rfl) rfl rfl (a_found a [0] 49 (by kernel_rfl) [.ptr (cAu a)] (fun s => nextF a.edges s) hn (fun s _ => nextF_in hE s) (fun s _ => a_reachable_1 a s hm) (fun s hs => by rw [List.mem_singleton.1 hs]; exact ⟨Int.le_refl _, h0⟩))) rfl ?_
  refine AOL.p (P_assign (v := .sl _ _) rfl) rfl ?_
  refine AOL.nil ?_
  refine thenN ?_
  refine AW.ret ?_
  refine ⟨.inr rfl, [.sl _ _], .cons (.tmp _ _ rfl) <| .nil, .refl _, ?_⟩
  rfl
set_option maxRecDepth 20000 in
set_option maxHeartbeats 1600000 in
theorem a_useful (a : Au) (hn : a.states.length ≤ 1048576) (hm : a.edges.length ≤ 1048576) (hE : EdR a.states.length a.edges) : APure Tryd.prog 22 [.agg (cAu a)] (.sl 1 ((usefulA a).map cB)) := by
  refine APure.body (n := 26) tok Tryd.func22 rfl rfl rfl fun H => ?_
  refine AW.seq ?_
  refine AW.region ?_
  refine AOL.p (P_box (v := .agg _) (cs := [.int .i64 _, .int .i64 _, _, _]) rfl rfl rfl) rfl ?_
  refine AOL.p (P_assign_nil (z := 1) rfl) rfl ?_
  refine AOL.nil ?_
  refine thenN ?_
  refine AW.seq ?_
  refine AW.region ?_
  refine AOL.p (P_assign (v := .val _) rfl) rfl ?_
  refine AOL.ghost (GS.row (t := 3) 3 1 rfl) ?_
  refine AOL.nil ?_
  refine thenN ?_
  refine AW.seq ?_
  refine AW.seq ?_
  refine AW.region ?_
  refine AOL.p (P_fieldAddr_ptr (cs' := [_]) tok rfl rfl rfl rfl rfl rfl) rfl ?_
  refine AOL.p (P_load_ptr (c := .sl _ _) tok rfl rfl rfl) rfl ?_
  refine AOL.p (P_len_sl (n := a.edges.length) tok rfl rfl rfl (by simp)) rfl ?_
  refine AOL.p (P_move (v := .int .i64 _) rfl) rfl ?_
  refine AOL.nil ?_
  refine thenN ?_
  refine AW.block ?_
  refine AW.sllen 7 rfl fun hlen => ?_
  simp only [List.length_map, maxLen] at hlen
  refine AW.loopS (fun (p : Nat × List (List AV) × Value) => (⟨[(1, .ptr (cAu a)), (3, .row p.2.2 1 p.2.1), (7, .sl 17 (a.edges.map cEd)), (8, .int .i64 a.edges.length), (9, .int .i64 (p.1 : Int))], .row p.2.2 p.2.1.length 3 1 :: H, 26⟩ : St)) (fun (p : Nat × List (List AV) × Value) => p.1 ≤ a.edges.length ∧ p.2.1 = (keepD (fun x => decide (x.dst < 0)) Ed.src (a.edges.take p.1)).map cI) (fun (p : Nat × List (List AV) × Value) => a.edges.length - p.1) ((0, [], .slice none 0 0)) ?_ (GS.weaken ⟨rfl, rfl, rfl, rfl, rfl, trivial⟩ (.refl _)) ?_
  · exact ⟨Nat.zero_le _, rfl⟩
  · rintro p hR
    have hsc : ∀ c ∈ p.2.1, scalars c = true := by rw [hR.2]; exact sc_map fun _ => rfl
    have hel : p.2.1.length ≤ p.1 := by rw [hR.2, List.length_map]; exact keepD_len _ _ _ _
    refine AW.seq ?_
    refine AW.region ?_
    refine AOL.p (P_lss rfl rfl) rfl ?_
    refine AOL.nil ?_
    refine thenN ?_
    refine AW.seq ?_
    refine AW.cond (b := _) rfl (fun hc1 => ?_) (fun hc1 => ?_)
    · skip
      obtain ⟨x, hx⟩ := get_lt2 (l := a.edges) (k := p.1) (by have := of_decide_eq_true hc1; omega)
      have hltx := get_lt' hx
      have hmx := List.mem_of_getElem? hx
      refine AW.skip ?_
      refine thenN ?_
      refine AW.seq ?_
      refine AW.block ?_
      refine AW.seq ?_
      refine AW.region ?_
      refine AOL.p (P_indexAddr (c := [.int .i64 _, .int .i64 _, .int .i64 _, .int .i64 _, .int .i64 _, _, .int .i64 _, .int .i64 _, .int .i64 _, .int .i64 _, .int .i64 _, .str _, _, _, _, _, _]) tok rfl rfl rfl rfl rfl rfl (by omega) (cEd_at hx)) rfl ?_
      refine AOL.p (P_load_ptr_agg (l := [.int .i64 _, .int .i64 _, .int .i64 _, .int .i64 _, .int .i64 _, _, .int .i64 _, .int .i64 _, .int .i64 _, .int .i64 _, .int .i64 _, .str _, _, _, _, _, _]) tok rfl rfl rfl rfl rfl) rfl ?_
      refine AOL.e (E_alloc (l := [.int .i64 0, .int .i64 0, .int .i64 0, .int .i64 0, .int .i64 0, .sl 8 [], .int .i64 0, .int .i64 0, .int .i64 0, .int .i64 0, .int .i64 0, .str [], .sl 1 [], .sl 1 [], .sl 8 [], .sl 2 [], .sl 1 []]) (by kernel_rfl)) rfl ?_
      rintro _ _ ⟨b5, rfl, rfl⟩
      refine AOL.e (E_store (k := 0) (v := .agg _) (cs' := [.int .i64 _, .int .i64 _, .int .i64 _, .int .i64 _, .int .i64 _, _, .int .i64 _, .int .i64 _, .int .i64 _, .int .i64 _, .int .i64 _, .str _, _, _, _, _, _]) (H2 := _ :: _ :: _) tok rfl rfl rfl rfl rfl rfl rfl rfl rfl) rfl ?_
      rintro _ _ ⟨rfl, rfl⟩
      refine AOL.ghost (GS.freeze (t := 5) 0 rfl rfl) ?_
      refine AOL.nil ?_
      refine thenN ?_
      refine AW.seq ?_
      refine AW.region ?_
      refine AOL.p (P_fieldAddr_ptr (cs' := [.int .i64 _, .int .i64 _, .int .i64 _, .int .i64 _, _, .int .i64 _, .int .i64 _, .int .i64 _, .int .i64 _, .int .i64 _, .str _, _, _, _, _, _]) tok rfl rfl rfl rfl rfl rfl) rfl ?_
      refine AOL.p (P_load_ptr (c := .int .i64 _) tok rfl rfl rfl) rfl ?_
      refine AOL.p (P_lss rfl rfl) rfl ?_
      refine AOL.nil ?_
      refine thenN ?_
      refine AW.cond (b := _) rfl (fun hc2 => ?_) (fun hc2 => ?_)
      · skip
        have hpx := hc2
        refine AW.region ?_
        refine AOL.p (P_move (v := .row _ _ _) rfl) rfl ?_
        refine AOL.p (P_fieldAddr_ptr (cs' := [.int .i64 _, .int .i64 _, .int .i64 _, .int .i64 _, .int .i64 _, _, .int .i64 _, .int .i64 _, .int .i64 _, .int .i64 _, .int .i64 _, .str _, _, _, _, _, _]) tok rfl rfl rfl rfl rfl rfl) rfl ?_
        refine AOL.p (P_load_ptr (c := .int .i64 _) tok rfl rfl rfl) rfl ?_
        refine AOL.p (P_buildSlice (es := [[.int .i64 _]]) tok rfl rfl rfl rfl rfl rfl rfl rfl rfl) rfl ?_
        refine AOL.e (E_append (k := 0) tok rfl rfl rfl rfl rfl rfl rfl rfl (sc_one rfl) (hsc) (by simp; omega) (by simp [maxLen]; omega)) rfl ?_
        rintro _ _ ⟨v20, rfl, rfl⟩
        refine AOL.p (P_assign (v := .row _ _ _) rfl) rfl ?_
        refine AOL.nil ?_
        refine blkN ?_
        refine thenN ?_
        refine AW.region ?_
        refine AOL.p (P_add rfl rfl rfl (by constructor <;> omega)) rfl ?_
        refine AOL.p (P_move (v := .int .i64 _) rfl) rfl ?_
        refine AOL.nil ?_
        refine thenN ?_
        refine ⟨(p.1 + 1, p.2.1 ++ [cI (Ed.src x)], v20), ?_, ?_, GS.weaken ⟨rfl, rfl, rfl, rfl, rfl, trivial⟩ (.refl _)⟩
        · exact ⟨hltx, by simp only; rw [keepD_take hx, if_pos hpx, List.map_append, hR.2]; rfl⟩
        · simp only; omega
      · skip
        have hpx := Bool.eq_false_iff.mp hc2
        refine AW.skip ?_
        refine blkN ?_
        refine thenN ?_
        refine AW.region ?_
        refine AOL.p (P_add rfl rfl rfl (by constructor <;> omega)) rfl ?_
        refine AOL.p (P_move (v := .int .i64 _) rfl) rfl ?_
        refine AOL.nil ?_
        refine thenN ?_
        refine ⟨(p.1 + 1, p.2.1, p.2.2), ?_, ?_, GS.weaken ⟨rfl, rfl, rfl, rfl, rfl, trivial⟩ (.refl _)⟩
        · exact ⟨hltx, by simp only; rw [keepD_take hx, if_neg hpx, List.append_nil, hR.2]⟩
        · simp only; omega
    · skip
      have hk : a.edges.length ≤ p.1 := by have := of_decide_eq_false hc1; omega
      refine AW.exit ?_
      refine thenE ?_
      refine thenE ?_
      refine blkHit ?_
      refine thenN ?_
      refine AW.seq ?_
      refine AW.region ?_
      refine AOL.p (P_load_ptr_agg (l := [.int .i64 _, .int .i64 _, _, _]) tok rfl rfl rfl rfl rfl) rfl ?_
      have hrw : p.2.1 = (endsS a.edges).map cI := by have h9 := hR.2; rw [List.take_of_length_le hk] at h9; exact h9
      refine AOL.ghost (GS.unrow 3 rfl) ?_
      refine AOL.p (P_move (v := .sl _ _) rfl) rfl ?_
      refine AOL.p (P_makeFunc (l := []) (l' := [.ptr _]) rfl rfl) rfl ?_
      refine AOL.p (P_callf (by kernel_rfl) rfl rfl (APure.arg1 hrw (a_found a (endsS a.edges) 50 (by kernel_rfl) [.ptr (cAu a)] (fun s => nextB a.edges s) hn (fun s _ => nextB_in hE s) (fun s _ => a_useful_1 a s hm) (ends_in hE)))) rfl ?_
      refine AOL.p (P_assign (v := .sl _ _) rfl) rfl ?_
      refine AOL.nil ?_
      refine thenN ?_
      refine AW.ret ?_
      refine ⟨.inr rfl, [.sl _ _], .cons (.tmp _ _ rfl) <| .nil, .cons _ (.refl _), ?_⟩
      rfl

end Go.Proofs.YtoolcpnahmgnnaaDoor
