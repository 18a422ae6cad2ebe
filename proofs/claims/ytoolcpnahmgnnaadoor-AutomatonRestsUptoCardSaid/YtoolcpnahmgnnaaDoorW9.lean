/-
  Walks of layer 23: copies. No condition.
-/
import Derived.Test.YtoolcpnahmgnnaaDoorW5
import Derived.KernelRfl
namespace Go.Proofs.YtoolcpnahmgnnaaDoor
open Go Go.Aw
set_option linter.unusedVariables false
set_option linter.unusedSimpArgs false

theorem take_succ_map {α β : Type} (f : α → β) {l : List α} {k : Nat} {x : α} (h : l[k]? = some x) : (l.take (k + 1)).map f = (l.take k).map f ++ [f x] := by
  rw [take_get h, List.map_append]; rfl
set_option maxRecDepth 20000 in
set_option maxHeartbeats 800000 in
theorem s_cloneI (l : List Int) (hl : l.length ≤ 1048576) : APure Tryd.prog 53 [.sl 1 (l.map cI)] (.sl 1 (l.map cI)) := by
  refine APure.body (n := 8) tok Tryd.func53 rfl rfl rfl fun H => ?_
  refine AW.seq ?_
  refine AW.region ?_
  refine AOL.p (P_assign_nil (z := 1) rfl) rfl ?_
  refine AOL.nil ?_
  refine thenN ?_
  refine AW.seq ?_
  refine AW.seq ?_
  refine AW.region ?_
  refine AOL.p (P_move (v := .sl _ _) rfl) rfl ?_
  refine AOL.e (E_eqNil tok rfl rfl rfl) rfl ?_
  rintro _ _ ⟨bn4, hbn4, rfl, rfl⟩
  refine AOL.nil ?_
  refine thenN ?_
  refine AW.cond (b := _) rfl (fun hc1 => ?_) (fun hc1 => ?_)
  · skip
    have h9 : l = [] := by simpa using hbn4 hc1
    refine AW.seq ?_
    refine AW.region ?_
    refine AOL.p (P_assign_nil (z := 1) rfl) rfl ?_
    refine AOL.nil ?_
    refine thenN ?_
    refine AW.ret ?_
    refine thenR ?_
    refine ⟨.inr rfl, [.sl _ _], .cons (.tmp _ _ rfl) <| .nil, .refl _, ?_⟩
    subst h9; rfl
  · skip
    refine AW.skip ?_
    refine thenN ?_
    refine AW.seq ?_
    refine AW.region ?_
    refine AOL.e (E_buildSlice (es := []) tok rfl rfl rfl rfl rfl rfl rfl rfl rfl) rfl ?_
    rintro _ _ ⟨v5, rfl, rfl⟩
    refine AOL.p (P_move (v := .sl _ _) rfl) rfl ?_
    refine AOL.e (E_append (k := 0) tok rfl rfl rfl rfl rfl rfl rfl rfl (sc_map fun _ => rfl) (sc_nil) (by simp; omega) (by simp [maxLen]; omega)) rfl ?_
    rintro _ _ ⟨v7, rfl, rfl⟩
    refine AOL.ghost (GS.unrow 7 rfl) ?_
    refine AOL.p (P_assign (v := .sl _ _) rfl) rfl ?_
    refine AOL.nil ?_
    refine thenN ?_
    refine AW.ret ?_
    refine ⟨.inr rfl, [.sl _ _], .cons (.tmp _ _ rfl) <| .nil, .cons _ (.refl _), ?_⟩
    rfl
set_option maxRecDepth 20000 in
set_option maxHeartbeats 800000 in
theorem s_cloneL (l : List Li) (hl : l.length ≤ 1048576) : APure Tryd.prog 54 [.sl 2 (l.map cLi)] (.sl 2 (l.map cLi)) := by
  refine APure.body (n := 8) tok Tryd.func54 rfl rfl rfl fun H => ?_
  refine AW.seq ?_
  refine AW.region ?_
  refine AOL.p (P_assign_nil (z := 2) rfl) rfl ?_
  refine AOL.nil ?_
  refine thenN ?_
  refine AW.seq ?_
  refine AW.seq ?_
  refine AW.region ?_
  refine AOL.p (P_move (v := .sl _ _) rfl) rfl ?_
  refine AOL.e (E_eqNil tok rfl rfl rfl) rfl ?_
  rintro _ _ ⟨bn4, hbn4, rfl, rfl⟩
  refine AOL.nil ?_
  refine thenN ?_
  refine AW.cond (b := _) rfl (fun hc1 => ?_) (fun hc1 => ?_)
  · skip
    have h9 : l = [] := by simpa using hbn4 hc1
    refine AW.seq ?_
    refine AW.region ?_
    refine AOL.p (P_assign_nil (z := 2) rfl) rfl ?_
    refine AOL.nil ?_
    refine thenN ?_
    refine AW.ret ?_
    refine thenR ?_
    refine ⟨.inr rfl, [.sl _ _], .cons (.tmp _ _ rfl) <| .nil, .refl _, ?_⟩
    subst h9; rfl
  · skip
    refine AW.skip ?_
    refine thenN ?_
    refine AW.seq ?_
    refine AW.region ?_
    refine AOL.e (E_buildSlice (es := []) tok rfl rfl rfl rfl rfl rfl rfl rfl rfl) rfl ?_
    rintro _ _ ⟨v5, rfl, rfl⟩
    refine AOL.p (P_move (v := .sl _ _) rfl) rfl ?_
    refine AOL.e (E_append (k := 0) tok rfl rfl rfl rfl rfl rfl rfl rfl (sc_map fun _ => rfl) (sc_nil) (by simp; omega) (by simp [maxLen]; omega)) rfl ?_
    rintro _ _ ⟨v7, rfl, rfl⟩
    refine AOL.ghost (GS.unrow 7 rfl) ?_
    refine AOL.p (P_assign (v := .sl _ _) rfl) rfl ?_
    refine AOL.nil ?_
    refine thenN ?_
    refine AW.ret ?_
    refine ⟨.inr rfl, [.sl _ _], .cons (.tmp _ _ rfl) <| .nil, .cons _ (.refl _), ?_⟩
    rfl
set_option maxRecDepth 20000 in
set_option maxHeartbeats 1600000 in
theorem a_copies0 (l : List Ex) (hl : l.length ≤ 1048576) (hc : ∀ x ∈ l, APure Tryd.prog 51 [.agg (cE x)] (.agg (cE x))) : APure Tryd.prog 52 [.sl 8 (l.map encE)] (.sl 8 (l.map encE)) := by
  refine APure.body (n := 19) tok Tryd.func52 rfl rfl rfl fun H => ?_
  refine AW.seq ?_
  refine AW.region ?_
  refine AOL.p (P_assign_nil (z := 8) rfl) rfl ?_
  refine AOL.nil ?_
  refine thenN ?_
  refine AW.seq ?_
  refine AW.region ?_
  refine AOL.p (P_assign (v := .val _) rfl) rfl ?_
  refine AOL.ghost (GS.row (t := 3) 45 8 rfl) ?_
  refine AOL.nil ?_
  refine thenN ?_
  refine AW.seq ?_
  refine AW.seq ?_
  refine AW.region ?_
  refine AOL.p (P_move (v := .sl _ _) rfl) rfl ?_
  refine AOL.p (P_len_sl (n := l.length) tok rfl rfl rfl (by simp)) rfl ?_
  refine AOL.p (P_move (v := .int .i64 _) rfl) rfl ?_
  refine AOL.nil ?_
  refine thenN ?_
  refine AW.block ?_
  refine AW.loopS (fun (p : Nat × List (List AV) × Value) => (⟨[(3, .row p.2.2 8 p.2.1), (6, .sl 8 (l.map encE)), (7, .int .i64 l.length), (8, .int .i64 (p.1 : Int))], .row p.2.2 p.2.1.length 45 8 :: H, 19⟩ : St)) (fun (p : Nat × List (List AV) × Value) => p.1 ≤ l.length ∧ p.2.1 = (l.take p.1).map encE) (fun (p : Nat × List (List AV) × Value) => l.length - p.1) ((0, [], .slice none 0 0)) ?_ (GS.weaken ⟨rfl, rfl, rfl, rfl, trivial⟩ (.refl _)) ?_
  · exact ⟨Nat.zero_le _, rfl⟩
  · rintro p hR
    have hsc : ∀ c ∈ p.2.1, scalars c = true := by rw [hR.2]; exact sc_map fun x => by rw [encE_eq]; rfl
    have hel : p.2.1.length = p.1 := by rw [hR.2, List.length_map, List.length_take]; omega
    refine AW.seq ?_
    refine AW.region ?_
    refine AOL.p (P_lss rfl rfl) rfl ?_
    refine AOL.nil ?_
    refine thenN ?_
    refine AW.seq ?_
    refine AW.cond (b := _) rfl (fun hc1 => ?_) (fun hc1 => ?_)
    · skip
      obtain ⟨x, hx⟩ := get_lt2 (l := l) (k := p.1) (by have := of_decide_eq_true hc1; omega)
      have hltx := get_lt' hx
      have hmx := List.mem_of_getElem? hx
      refine AW.skip ?_
      refine thenN ?_
      refine AW.seq ?_
      refine AW.block ?_
      refine AW.seq ?_
      refine AW.region ?_
      refine AOL.p (P_indexAddr (c := [.int .i64 _, _, .int .i64 _, .int .i64 _, .int .i64 _, .int .i64 _, .int .i64 _, .str _]) tok rfl rfl rfl rfl rfl rfl (by omega) (encE_at hx)) rfl ?_
      refine AOL.p (P_load_ptr_agg (l := [.int .i64 _, _, .int .i64 _, .int .i64 _, .int .i64 _, .int .i64 _, .int .i64 _, .str _]) tok rfl rfl rfl rfl rfl) rfl ?_
      refine AOL.e (E_alloc (l := [.int .i64 0, .sl 8 [], .int .i64 0, .int .i64 0, .int .i64 0, .int .i64 0, .int .i64 0, .str []]) (by kernel_rfl)) rfl ?_
      rintro _ _ ⟨b5, rfl, rfl⟩
      refine AOL.e (E_store (k := 0) (v := .agg _) (cs' := [.int .i64 _, _, .int .i64 _, .int .i64 _, .int .i64 _, .int .i64 _, .int .i64 _, .str _]) (H2 := _ :: _ :: _) tok rfl rfl rfl rfl rfl rfl rfl rfl rfl) rfl ?_
      rintro _ _ ⟨rfl, rfl⟩
      refine AOL.ghost (GS.freeze (t := 5) 0 rfl rfl) ?_
      refine AOL.nil ?_
      refine thenN ?_
      refine AW.region ?_
      refine AOL.p (P_move (v := .row _ _ _) rfl) rfl ?_
      refine AOL.p (P_load_ptr_agg (l := [.int .i64 _, _, .int .i64 _, .int .i64 _, .int .i64 _, .int .i64 _, .int .i64 _, .str _]) tok rfl rfl rfl rfl rfl) rfl ?_
      refine AOL.p (P_callf (by kernel_rfl) rfl rfl (hc x hmx)) rfl ?_
      refine AOL.p (P_buildSlice (es := [[.int .i64 _, _, .int .i64 _, .int .i64 _, .int .i64 _, .int .i64 _, .int .i64 _, .str _]]) tok rfl rfl rfl rfl rfl rfl rfl rfl rfl) rfl ?_
      refine AOL.e (E_append (k := 0) tok rfl rfl rfl rfl rfl rfl rfl rfl (sc_one rfl) (hsc) (by simp; omega) (by simp [maxLen]; omega)) rfl ?_
      rintro _ _ ⟨v16, rfl, rfl⟩
      refine AOL.p (P_assign (v := .row _ _ _) rfl) rfl ?_
      refine AOL.nil ?_
      refine blkN ?_
      refine thenN ?_
      refine AW.region ?_
      refine AOL.p (P_add rfl rfl rfl (by constructor <;> omega)) rfl ?_
      refine AOL.p (P_move (v := .int .i64 _) rfl) rfl ?_
      refine AOL.nil ?_
      refine thenN ?_
      refine ⟨(p.1 + 1, p.2.1 ++ [cE x], v16), ?_, ?_, GS.weaken ⟨rfl, rfl, rfl, rfl, trivial⟩ (.refl _)⟩
      · exact ⟨hltx, by simp only; rw [take_succ_map _ hx, hR.2, encE_eq]⟩
      · simp only; omega
    · skip
      have hk : l.length ≤ p.1 := by have := of_decide_eq_false hc1; omega
      refine AW.exit ?_
      refine thenE ?_
      refine thenE ?_
      refine blkHit ?_
      refine thenN ?_
      refine AW.seq ?_
      refine AW.region ?_
      refine AOL.ghost (GS.unrow 3 rfl) ?_
      refine AOL.p (P_move (v := .sl _ _) rfl) rfl ?_
      refine AOL.p (P_assign (v := .sl _ _) rfl) rfl ?_
      refine AOL.nil ?_
      refine thenN ?_
      refine AW.ret ?_
      refine ⟨.inr rfl, [.sl _ _], .cons (.tmp _ _ rfl) <| .nil, .cons _ (.refl _), ?_⟩
      rw [List.take_of_length_le hk] at hR
      exact congrArg (AV.sl 8) hR.2
set_option maxRecDepth 20000 in
set_option maxHeartbeats 800000 in
theorem a_copied (e : Ex) (hs : sizeN e ≤ 1048576) : APure Tryd.prog 51 [.agg (cE e)] (.agg (cE e)) := by
  revert hs
  induction e using Ex.ind
  rename_i e ih
  intro hs
  have hal := args_le e hs
  refine APure.body (n := 8) tok Tryd.func51 rfl rfl rfl fun H => ?_
  refine AW.seq ?_
  refine AW.region ?_
  refine AOL.e (E_box (v := .agg _) (cs := [.int .i64 _, _, .int .i64 _, .int .i64 _, .int .i64 _, .int .i64 _, .int .i64 _, .str _]) rfl rfl rfl) rfl ?_
  rintro _ _ ⟨b1, rfl, rfl⟩
  refine AOL.e (E_alloc (l := [.int .i64 0, .sl 8 [], .int .i64 0, .int .i64 0, .int .i64 0, .int .i64 0, .int .i64 0, .str []]) (by kernel_rfl)) rfl ?_
  rintro _ _ ⟨b2, rfl, rfl⟩
  refine AOL.nil ?_
  refine thenN ?_
  refine AW.seq ?_
  refine AW.region ?_
  refine AOL.p (P_fieldAddr_val tok rfl rfl rfl rfl rfl rfl) rfl ?_
  refine AOL.pk (P_load_box (k := 1) (c := .sl _ _) tok rfl rfl rfl rfl) rfl rfl ?_
  refine AOL.p (P_callf (by kernel_rfl) rfl rfl (a_copies0 e.args hal (fun x hx => ih x hx (by have := size_arg hx; omega)))) rfl ?_
  refine AOL.p (P_fieldAddr_val tok rfl rfl rfl rfl rfl rfl) rfl ?_
  refine AOL.e (E_store (k := 1) (v := .sl _ _) (cs' := [.int .i64 _, _, .int .i64 _, .int .i64 _, .int .i64 _, .int .i64 _, .int .i64 _, .str _]) (H2 := _ :: _ :: _) tok rfl rfl rfl rfl rfl rfl rfl rfl rfl) rfl ?_
  rintro _ _ ⟨rfl, rfl⟩
  refine AOL.nil ?_
  refine thenN ?_
  refine AW.seq ?_
  refine AW.region ?_
  refine AOL.pk (P_load_box_agg (k := 1) (l := [.int .i64 _, _, .int .i64 _, .int .i64 _, .int .i64 _, .int .i64 _, .int .i64 _, .str _]) tok rfl rfl rfl rfl rfl) rfl rfl ?_
  refine AOL.e (E_store (k := 0) (v := .agg _) (cs' := [.int .i64 _, _, .int .i64 _, .int .i64 _, .int .i64 _, .int .i64 _, .int .i64 _, .str _]) (H2 := _ :: _ :: _) tok rfl rfl rfl rfl rfl rfl rfl rfl rfl) rfl ?_
  rintro _ _ ⟨rfl, rfl⟩
  refine AOL.nil ?_
  refine thenN ?_
  refine AW.ret ?_
  refine ⟨.inr rfl, [.agg [.int .i64 _, _, .int .i64 _, .int .i64 _, .int .i64 _, .int .i64 _, .int .i64 _, .str _]], .cons (.box _ _ _ 0 _ _ _ _ rfl rfl rfl rfl rfl rfl) <| .nil, .cons _ (.cons _ (.refl _)), ?_⟩
  rfl
theorem a_copies (l : List Ex) (hl : l.length ≤ 1048576) (hs : ∀ x ∈ l, sizeN x ≤ 1048576) : APure Tryd.prog 52 [.sl 8 (l.map encE)] (.sl 8 (l.map encE)) := a_copies0 l hl fun x hx => a_copied x (hs x hx)
set_option maxRecDepth 20000 in
set_option maxHeartbeats 6400000 in
theorem a_own (x : Ed) (hs : EdSm x) : APure Tryd.prog 24 [.agg (cEd x)] (.agg (cEd x)) := by
  refine APure.body (n := 28) tok Tryd.func24 rfl rfl rfl fun H => ?_
  refine AW.seq ?_
  refine AW.region ?_
  refine AOL.e (E_box (v := .agg _) (cs := [.int .i64 _, .int .i64 _, .int .i64 _, .int .i64 _, .int .i64 _, _, .int .i64 _, .int .i64 _, .int .i64 _, .int .i64 _, .int .i64 _, .str _, _, _, _, _, _]) rfl rfl rfl) rfl ?_
  rintro _ _ ⟨b1, rfl, rfl⟩
  refine AOL.e (E_alloc (l := [.int .i64 0, .int .i64 0, .int .i64 0, .int .i64 0, .int .i64 0, .sl 8 [], .int .i64 0, .int .i64 0, .int .i64 0, .int .i64 0, .int .i64 0, .str [], .sl 1 [], .sl 1 [], .sl 8 [], .sl 2 [], .sl 1 []]) (by kernel_rfl)) rfl ?_
  rintro _ _ ⟨b2, rfl, rfl⟩
  refine AOL.nil ?_
  refine thenN ?_
  refine AW.seq ?_
  refine AW.draw mixed (fun H' => _ ∈ H') (List.mem_of_getElem? (i := 1) rfl) (by kernel_rfl) ?_
  refine Canon.pure _ _ 0 _ _ rfl (by kernel_rfl) (by kernel_rfl) rfl (.run rfl (P_fieldAddr_val tok rfl rfl rfl rfl rfl rfl)) ?_
  refine Canon.pure _ _ 1 _ _ rfl (by kernel_rfl) (by kernel_rfl) rfl (.run rfl (OpP.mem (fun k => P_load_box_agg (k := k) (l := [.int .i64 _, _, .int .i64 _, .int .i64 _, .int .i64 _, .int .i64 _, .int .i64 _, .str _]) tok rfl rfl rfl rfl rfl) (fun _ h => h))) ?_
  refine Canon.pure _ _ 2 _ _ rfl (by kernel_rfl) (by kernel_rfl) rfl (.run rfl (P_callf (by kernel_rfl) rfl rfl (a_copied x.cond hs.cond))) ?_
  refine Canon.pure _ _ 3 _ _ rfl (by kernel_rfl) (by kernel_rfl) rfl (.run rfl (P_fieldAddr_val tok rfl rfl rfl rfl rfl rfl)) ?_
  refine Canon.pure _ _ 4 _ _ rfl (by kernel_rfl) (by kernel_rfl) rfl (.run rfl (OpP.mem (fun k => P_load_box (k := k) (c := .sl _ _) tok rfl rfl rfl rfl) (fun _ h => h))) ?_
  refine Canon.pure _ _ 5 _ _ rfl (by kernel_rfl) (by kernel_rfl) rfl (.run rfl (P_callf (by kernel_rfl) rfl rfl (a_copies x.checks hs.k hs.checks))) ?_
  refine Canon.pure _ _ 6 _ _ rfl (by kernel_rfl) (by kernel_rfl) rfl (.run rfl (P_fieldAddr_val tok rfl rfl rfl rfl rfl rfl)) ?_
  refine Canon.eff _ _ 7 _ _ rfl (by kernel_rfl) rfl rfl (E_store (k := 1) (v := .agg _) (cs' := [.int .i64 _, .int .i64 _, .int .i64 _, .int .i64 _, .int .i64 _, _, .int .i64 _, .int .i64 _, .int .i64 _, .int .i64 _, .int .i64 _, .str _, _, _, _, _, _]) (H2 := _ :: _ :: _) tok rfl rfl rfl rfl rfl rfl rfl rfl rfl) (by rintro _ _ ⟨rfl, rfl⟩; simp) ?_
  rintro _ _ ⟨rfl, rfl⟩
  refine Canon.pure _ _ 8 _ _ rfl (by kernel_rfl) (by kernel_rfl) rfl (.run rfl (P_fieldAddr_val tok rfl rfl rfl rfl rfl rfl)) ?_
  refine Canon.last _ _ 9 _ _ rfl (by kernel_rfl) rfl rfl (E_store (k := 1) (v := .sl _ _) (cs' := [.int .i64 _, .int .i64 _, .int .i64 _, .int .i64 _, .int .i64 _, _, .int .i64 _, .int .i64 _, .int .i64 _, .int .i64 _, .int .i64 _, .str _, _, _, _, _, _]) (H2 := _ :: _ :: _) tok rfl rfl rfl rfl rfl rfl rfl rfl rfl) (by kernel_rfl) ?_
  rintro _ _ ⟨rfl, rfl⟩
  refine thenN ?_
  refine AW.cut (fun (_ : Unit) => (⟨[(1, .val (.pointer (some ⟨b1, 0, none⟩))), (2, .val (.pointer (some ⟨b2, 0, none⟩)))], .box b2 48 [.int .i64 0, .int .i64 0, .int .i64 0, .int .i64 0, .int .i64 0, .sl 8 [], .int .i64 0, .int .i64 0, .int .i64 0, .int .i64 0, .int .i64 0, .str [], .sl 1 [], .sl 1 [], .sl 8 [], .sl 2 [], .sl 1 []] :: .box b1 48 (cEd x) :: H, 28⟩ : St)) (fun (_ : Unit) => True) ?_ ?_
  · skip
    refine AW.draw mixed (fun H' => _ ∈ H') (List.mem_of_getElem? (i := 1) rfl) (by kernel_rfl) ?_
    refine Canon.pure _ _ 0 _ _ rfl (by kernel_rfl) (by kernel_rfl) rfl (.run rfl (P_fieldAddr_val tok rfl rfl rfl rfl rfl rfl)) ?_
    refine Canon.pure _ _ 1 _ _ rfl (by kernel_rfl) (by kernel_rfl) rfl (.run rfl (OpP.mem (fun k => P_load_box (k := k) (c := .sl _ _) tok rfl rfl rfl rfl) (fun _ h => h))) ?_
    refine Canon.pure _ _ 2 _ _ rfl (by kernel_rfl) (by kernel_rfl) rfl (.run rfl (P_callf (by kernel_rfl) rfl rfl (s_cloneI x.opens hs.o))) ?_
    refine Canon.pure _ _ 3 _ _ rfl (by kernel_rfl) (by kernel_rfl) rfl (.run rfl (P_fieldAddr_val tok rfl rfl rfl rfl rfl rfl)) ?_
    refine Canon.pure _ _ 4 _ _ rfl (by kernel_rfl) (by kernel_rfl) rfl (.run rfl (OpP.mem (fun k => P_load_box (k := k) (c := .sl _ _) tok rfl rfl rfl rfl) (fun _ h => h))) ?_
    refine Canon.pure _ _ 5 _ _ rfl (by kernel_rfl) (by kernel_rfl) rfl (.run rfl (P_callf (by kernel_rfl) rfl rfl (s_cloneI x.closes hs.c))) ?_
    refine Canon.pure _ _ 6 _ _ rfl (by kernel_rfl) (by kernel_rfl) rfl (.run rfl (P_fieldAddr_val tok rfl rfl rfl rfl rfl rfl)) ?_
    refine Canon.pure _ _ 7 _ _ rfl (by kernel_rfl) (by kernel_rfl) rfl (.run rfl (OpP.mem (fun k => P_load_box (k := k) (c := .sl _ _) tok rfl rfl rfl rfl) (fun _ h => h))) ?_
    refine Canon.pure _ _ 8 _ _ rfl (by kernel_rfl) (by kernel_rfl) rfl (.run rfl (P_callf (by kernel_rfl) rfl rfl (s_cloneI x.inside hs.i))) ?_
    refine Canon.pure _ _ 9 _ _ rfl (by kernel_rfl) (by kernel_rfl) rfl (.run rfl (P_fieldAddr_val tok rfl rfl rfl rfl rfl rfl)) ?_
    refine Canon.pure _ _ 10 _ _ rfl (by kernel_rfl) (by kernel_rfl) rfl (.run rfl (OpP.mem (fun k => P_load_box (k := k) (c := .sl _ _) tok rfl rfl rfl rfl) (fun _ h => h))) ?_
    refine Canon.pure _ _ 11 _ _ rfl (by kernel_rfl) (by kernel_rfl) rfl (.run rfl (P_callf (by kernel_rfl) rfl rfl (s_cloneL x.limits hs.l))) ?_
    refine Canon.pure _ _ 12 _ _ rfl (by kernel_rfl) (by kernel_rfl) rfl (.run rfl (P_fieldAddr_val tok rfl rfl rfl rfl rfl rfl)) ?_
    refine Canon.eff _ _ 13 _ _ rfl (by kernel_rfl) rfl rfl (E_store (k := 1) (v := .sl _ _) (cs' := [.int .i64 _, .int .i64 _, .int .i64 _, .int .i64 _, .int .i64 _, _, .int .i64 _, .int .i64 _, .int .i64 _, .int .i64 _, .int .i64 _, .str _, _, _, _, _, _]) (H2 := _ :: _ :: _) tok rfl rfl rfl rfl rfl rfl rfl rfl rfl) (by rintro _ _ ⟨rfl, rfl⟩; simp) ?_
    rintro _ _ ⟨rfl, rfl⟩
    refine Canon.pure _ _ 14 _ _ rfl (by kernel_rfl) (by kernel_rfl) rfl (.run rfl (P_fieldAddr_val tok rfl rfl rfl rfl rfl rfl)) ?_
    refine Canon.eff _ _ 15 _ _ rfl (by kernel_rfl) rfl rfl (E_store (k := 1) (v := .sl _ _) (cs' := [.int .i64 _, .int .i64 _, .int .i64 _, .int .i64 _, .int .i64 _, _, .int .i64 _, .int .i64 _, .int .i64 _, .int .i64 _, .int .i64 _, .str _, _, _, _, _, _]) (H2 := _ :: _ :: _) tok rfl rfl rfl rfl rfl rfl rfl rfl rfl) (by rintro _ _ ⟨rfl, rfl⟩; simp) ?_
    rintro _ _ ⟨rfl, rfl⟩
    refine Canon.pure _ _ 16 _ _ rfl (by kernel_rfl) (by kernel_rfl) rfl (.run rfl (P_fieldAddr_val tok rfl rfl rfl rfl rfl rfl)) ?_
    refine Canon.eff _ _ 17 _ _ rfl (by kernel_rfl) rfl rfl (E_store (k := 1) (v := .sl _ _) (cs' := [.int .i64 _, .int .i64 _, .int .i64 _, .int .i64 _, .int .i64 _, _, .int .i64 _, .int .i64 _, .int .i64 _, .int .i64 _, .int .i64 _, .str _, _, _, _, _, _]) (H2 := _ :: _ :: _) tok rfl rfl rfl rfl rfl rfl rfl rfl rfl) (by rintro _ _ ⟨rfl, rfl⟩; simp) ?_
    rintro _ _ ⟨rfl, rfl⟩
    refine Canon.pure _ _ 18 _ _ rfl (by kernel_rfl) (by kernel_rfl) rfl (.run rfl (P_fieldAddr_val tok rfl rfl rfl rfl rfl rfl)) ?_
    refine Canon.last _ _ 19 _ _ rfl (by kernel_rfl) rfl rfl (E_store (k := 1) (v := .sl _ _) (cs' := [.int .i64 _, .int .i64 _, .int .i64 _, .int .i64 _, .int .i64 _, _, .int .i64 _, .int .i64 _, .int .i64 _, .int .i64 _, .int .i64 _, .str _, _, _, _, _, _]) (H2 := _ :: _ :: _) tok rfl rfl rfl rfl rfl rfl rfl rfl rfl) (by kernel_rfl) ?_
    rintro _ _ ⟨rfl, rfl⟩
    refine thenN ?_
    refine ⟨(), ?_, GS.weaken ⟨rfl, rfl, trivial⟩ (.refl _)⟩
    trivial
  · rintro _ _
    refine AW.seq ?_
    refine AW.region ?_
    refine AOL.pk (P_load_box_agg (k := 1) (l := [.int .i64 _, .int .i64 _, .int .i64 _, .int .i64 _, .int .i64 _, _, .int .i64 _, .int .i64 _, .int .i64 _, .int .i64 _, .int .i64 _, .str _, _, _, _, _, _]) tok rfl rfl rfl rfl rfl) rfl rfl ?_
    refine AOL.e (E_store (k := 0) (v := .agg _) (cs' := [.int .i64 _, .int .i64 _, .int .i64 _, .int .i64 _, .int .i64 _, _, .int .i64 _, .int .i64 _, .int .i64 _, .int .i64 _, .int .i64 _, .str _, _, _, _, _, _]) (H2 := _ :: _ :: _) tok rfl rfl rfl rfl rfl rfl rfl rfl rfl) rfl ?_
    rintro _ _ ⟨rfl, rfl⟩
    refine AOL.nil ?_
    refine thenN ?_
    refine AW.ret ?_
    refine ⟨.inr rfl, [.agg [.int .i64 _, .int .i64 _, .int .i64 _, .int .i64 _, .int .i64 _, _, .int .i64 _, .int .i64 _, .int .i64 _, .int .i64 _, .int .i64 _, .str _, _, _, _, _, _]], .cons (.box _ _ _ 0 _ _ _ _ rfl rfl rfl rfl rfl rfl) <| .nil, .cons _ (.cons _ (.refl _)), ?_⟩
    rfl
set_option maxRecDepth 20000 in
set_option maxHeartbeats 1600000 in
theorem a_ownGuards (l : List Gu) (hl : l.length ≤ 1048576) (hs : ∀ g ∈ l, sizeN g.cond ≤ 1048576) : APure Tryd.prog 23 [.sl 11 (l.map cGu)] (.sl 11 (l.map cGu)) := by
  refine APure.body (n := 22) tok Tryd.func23 rfl rfl rfl fun H => ?_
  refine AW.seq ?_
  refine AW.region ?_
  refine AOL.p (P_assign_nil (z := 11) rfl) rfl ?_
  refine AOL.nil ?_
  refine thenN ?_
  refine AW.seq ?_
  refine AW.region ?_
  refine AOL.p (P_assign (v := .val _) rfl) rfl ?_
  refine AOL.ghost (GS.row (t := 3) 68 11 rfl) ?_
  refine AOL.nil ?_
  refine thenN ?_
  refine AW.seq ?_
  refine AW.seq ?_
  refine AW.region ?_
  refine AOL.p (P_move (v := .sl _ _) rfl) rfl ?_
  refine AOL.p (P_len_sl (n := l.length) tok rfl rfl rfl (by simp)) rfl ?_
  refine AOL.p (P_move (v := .int .i64 _) rfl) rfl ?_
  refine AOL.nil ?_
  refine thenN ?_
  refine AW.block ?_
  refine AW.loopS (fun (p : Nat × List (List AV) × Value) => (⟨[(3, .row p.2.2 11 p.2.1), (6, .sl 11 (l.map cGu)), (7, .int .i64 l.length), (8, .int .i64 (p.1 : Int))], .row p.2.2 p.2.1.length 68 11 :: H, 22⟩ : St)) (fun (p : Nat × List (List AV) × Value) => p.1 ≤ l.length ∧ p.2.1 = (l.take p.1).map cGu) (fun (p : Nat × List (List AV) × Value) => l.length - p.1) ((0, [], .slice none 0 0)) ?_ (GS.weaken ⟨rfl, rfl, rfl, rfl, trivial⟩ (.refl _)) ?_
  · exact ⟨Nat.zero_le _, rfl⟩
  · rintro p hR
    have hsc : ∀ c ∈ p.2.1, scalars c = true := by rw [hR.2]; exact sc_map fun x => by rfl
    have hel : p.2.1.length = p.1 := by rw [hR.2, List.length_map, List.length_take]; omega
    refine AW.seq ?_
    refine AW.region ?_
    refine AOL.p (P_lss rfl rfl) rfl ?_
    refine AOL.nil ?_
    refine thenN ?_
    refine AW.seq ?_
    refine AW.cond (b := _) rfl (fun hc1 => ?_) (fun hc1 => ?_)
    · skip
      obtain ⟨x, hx⟩ := get_lt2 (l := l) (k := p.1) (by have := of_decide_eq_true hc1; omega)
      have hltx := get_lt' hx
      have hmx := List.mem_of_getElem? hx
      refine AW.skip ?_
      refine thenN ?_
      refine AW.seq ?_
      refine AW.block ?_
      refine AW.seq ?_
      refine AW.region ?_
      refine AOL.p (P_indexAddr (c := [.int .i64 _, .int .i64 _, .int .i64 _, .int .i64 _, _, .int .i64 _, .int .i64 _, .int .i64 _, .int .i64 _, .int .i64 _, .str _]) tok rfl rfl rfl rfl rfl rfl (by omega) (cGu_at hx)) rfl ?_
      refine AOL.p (P_load_ptr_agg (l := [.int .i64 _, .int .i64 _, .int .i64 _, .int .i64 _, _, .int .i64 _, .int .i64 _, .int .i64 _, .int .i64 _, .int .i64 _, .str _]) tok rfl rfl rfl rfl rfl) rfl ?_
      refine AOL.e (E_alloc (l := [.int .i64 0, .int .i64 0, .int .i64 0, .int .i64 0, .sl 8 [], .int .i64 0, .int .i64 0, .int .i64 0, .int .i64 0, .int .i64 0, .str []]) (by kernel_rfl)) rfl ?_
      rintro _ _ ⟨b5, rfl, rfl⟩
      refine AOL.e (E_store (k := 0) (v := .agg _) (cs' := [.int .i64 _, .int .i64 _, .int .i64 _, .int .i64 _, _, .int .i64 _, .int .i64 _, .int .i64 _, .int .i64 _, .int .i64 _, .str _]) (H2 := _ :: _ :: _) tok rfl rfl rfl rfl rfl rfl rfl rfl rfl) rfl ?_
      rintro _ _ ⟨rfl, rfl⟩
      refine AOL.nil ?_
      refine thenN ?_
      refine AW.seq ?_
      refine AW.region ?_
      refine AOL.p (P_fieldAddr_val tok rfl rfl rfl rfl rfl rfl) rfl ?_
      refine AOL.pk (P_load_box_agg (k := 0) (l := [.int .i64 _, _, .int .i64 _, .int .i64 _, .int .i64 _, .int .i64 _, .int .i64 _, .str _]) tok rfl rfl rfl rfl rfl) rfl rfl ?_
      refine AOL.p (P_callf (by kernel_rfl) rfl rfl (a_copied x.cond (hs x hmx))) rfl ?_
      refine AOL.p (P_fieldAddr_val tok rfl rfl rfl rfl rfl rfl) rfl ?_
      refine AOL.e (E_store (k := 0) (v := .agg _) (cs' := [.int .i64 _, .int .i64 _, .int .i64 _, .int .i64 _, _, .int .i64 _, .int .i64 _, .int .i64 _, .int .i64 _, .int .i64 _, .str _]) (H2 := _ :: _ :: _) tok rfl rfl rfl rfl rfl rfl rfl rfl rfl) rfl ?_
      rintro _ _ ⟨rfl, rfl⟩
      refine AOL.nil ?_
      refine thenN ?_
      refine AW.region ?_
      refine AOL.p (P_move (v := .row _ _ _) rfl) rfl ?_
      refine AOL.pk (P_load_box_agg (k := 0) (l := [.int .i64 _, .int .i64 _, .int .i64 _, .int .i64 _, _, .int .i64 _, .int .i64 _, .int .i64 _, .int .i64 _, .int .i64 _, .str _]) tok rfl rfl rfl rfl rfl) rfl rfl ?_
      refine AOL.p (P_buildSlice (es := [[.int .i64 _, .int .i64 _, .int .i64 _, .int .i64 _, _, .int .i64 _, .int .i64 _, .int .i64 _, .int .i64 _, .int .i64 _, .str _]]) tok rfl rfl rfl rfl rfl rfl rfl rfl rfl) rfl ?_
      refine AOL.e (E_append (k := 1) tok rfl rfl rfl rfl rfl rfl rfl rfl (sc_one rfl) (hsc) (by simp; omega) (by simp [maxLen]; omega)) rfl ?_
      rintro _ _ ⟨v19, rfl, rfl⟩
      refine AOL.p (P_assign (v := .row _ _ _) rfl) rfl ?_
      refine AOL.nil ?_
      refine blkN ?_
      refine thenN ?_
      refine AW.region ?_
      refine AOL.p (P_add rfl rfl rfl (by constructor <;> omega)) rfl ?_
      refine AOL.p (P_move (v := .int .i64 _) rfl) rfl ?_
      refine AOL.nil ?_
      refine thenN ?_
      refine ⟨(p.1 + 1, p.2.1 ++ [cGu x], v19), ?_, ?_, GS.weaken ⟨rfl, rfl, rfl, rfl, trivial⟩ (.cons _ (.refl _))⟩
      · exact ⟨hltx, by simp only; rw [take_succ_map _ hx, hR.2]⟩
      · simp only; omega
    · skip
      have hk : l.length ≤ p.1 := by have := of_decide_eq_false hc1; omega
      refine AW.exit ?_
      refine thenE ?_
      refine thenE ?_
      refine blkHit ?_
      refine thenN ?_
      refine AW.seq ?_
      refine AW.region ?_
      refine AOL.ghost (GS.unrow 3 rfl) ?_
      refine AOL.p (P_move (v := .sl _ _) rfl) rfl ?_
      refine AOL.p (P_assign (v := .sl _ _) rfl) rfl ?_
      refine AOL.nil ?_
      refine thenN ?_
      refine AW.ret ?_
      refine ⟨.inr rfl, [.sl _ _], .cons (.tmp _ _ rfl) <| .nil, .cons _ (.refl _), ?_⟩
      rw [List.take_of_length_le hk] at hR
      exact congrArg (AV.sl 11) hR.2

end Go.Proofs.YtoolcpnahmgnnaaDoor
