/-
  Walks of layer 23: the text of an automaton in the reference. No condition.
-/
import Derived.Test.YtoolcpnahmgnnaaGreatDoorW18
import Derived.KernelRfl
namespace Go.Proofs.YtoolcpnahmgnnaaGreatDoor
open Go Go.Aw
set_option linter.unusedVariables false
set_option linter.unusedSimpArgs false

theorem APure.arg2 {P : Program} {f : FuncId} {x r : AV} {z : Nat} {es es' : List (List AV)} (h : es = es') (k : APure P f [x, .sl z es'] r) : APure P f [x, .sl z es] r := h ▸ k
theorem st_shape (t : Str) (i : Nat) (l : List Gu) : ((t ++ ([115, 116, 97, 116, 101, 32] ++ Lib.itoa (i : Int))) ++ (l.flatMap fun g => numbersT sGuard [g.scope, g.type, g.var])) ++ [10] = t ++ stateT i l := by
  rw [stateT_eq]; simp [sState]
set_option maxRecDepth 20000 in
set_option maxHeartbeats 12800000 in
theorem r_Format (a : Au) (sa : Sm a) (ia : Im a) : APure Tryz.prog 16 [.agg (cAu a)] (.tuple [.str (formatS a).1, .int .i64 (formatS a).2]) := by
  refine APure.body (n := 144) tok Tryz.func16 rfl rfl rfl fun H => ?_
  refine AW.seq ?_
  refine AW.region ?_
  refine AOL.p (P_box (v := .agg _) (cs := [.int .i64 _, .int .i64 _, _, _]) rfl rfl rfl) rfl ?_
  refine AOL.p (P_assign (v := .str _) rfl) rfl ?_
  refine AOL.p (P_assign (v := .int .i64 _) rfl) rfl ?_
  refine AOL.nil ?_
  refine thenN ?_
  refine AW.seq ?_
  refine AW.seq ?_
  refine AW.region ?_
  refine AOL.p (P_load_ptr_agg (l := [.int .i64 _, .int .i64 _, _, _]) tok rfl rfl rfl rfl rfl) rfl ?_
  refine AOL.p (P_callf (by kernel_rfl) rfl rfl (r_Check a sa)) rfl ?_
  refine AOL.p (P_assign (v := .int .i64 _) rfl) rfl ?_
  refine AOL.nil ?_
  refine thenN ?_
  refine AW.seq ?_
  refine AW.region ?_
  refine AOL.p (P_move (v := .int .i64 _) rfl) rfl ?_
  refine AOL.p (P_neq rfl rfl) rfl ?_
  refine AOL.nil ?_
  refine thenN ?_
  refine AW.cond (b := _) rfl (fun hc1 => ?_) (fun hc1 => ?_)
  · skip
    have h9 := format_err hc1
    refine AW.seq ?_
    refine AW.region ?_
    refine AOL.p (P_move (v := .int .i64 _) rfl) rfl ?_
    refine AOL.p (P_assign (v := .str _) rfl) rfl ?_
    refine AOL.p (P_assign (v := .int .i64 _) rfl) rfl ?_
    refine AOL.nil ?_
    refine thenN ?_
    refine AW.ret ?_
    refine thenR ?_
    refine ⟨.inr rfl, [.str _, .int .i64 _], .cons (.tmp _ _ rfl) <| .cons (.tmp _ _ rfl) <| .nil, .refl _, ?_⟩
    rw [h9]; rfl
  · skip
    have h9 := format_ok hc1
    have hw : Wf a := check_wf.1 (by simpa using hc1)
    have hN := hw.most
    have hM := hw.many
    have hwl := whole_len sa ia hN hM
    refine AW.skip ?_
    refine thenN ?_
    refine AW.seq ?_
    refine AW.region ?_
    refine AOL.p (P_assign (v := .str _) rfl) rfl ?_
    refine AOL.nil ?_
    refine thenN ?_
    refine AW.seq ?_
    refine AW.seq ?_
    refine AW.region ?_
    refine AOL.p (P_assign (v := .int .i64 _) rfl) rfl ?_
    refine AOL.nil ?_
    refine thenN ?_
    refine AW.block ?_
    refine AW.loopS (fun (p : Nat × Str) => (⟨[(1, .ptr (cAu a)), (5, .str p.2), (6, .int .i64 (p.1 : Int))], H, 144⟩ : St)) (fun (p : Nat × Str) => p.1 ≤ a.states.length ∧ wholeT a = p.2 ++ fmtGo a p.1 (a.states.drop p.1)) (fun (p : Nat × Str) => a.states.length - p.1) ((0, [])) ?_ (GS.weaken ⟨rfl, rfl, rfl, trivial⟩ (.refl _)) ?_
    · exact ⟨Nat.zero_le _, rfl⟩
    · rintro p hR
      have hpl := pre_len hR.2 hwl
      refine AW.seq ?_
      refine AW.seq ?_
      refine AW.region ?_
      refine AOL.p (P_move (v := .int .i64 _) rfl) rfl ?_
      refine AOL.p (P_fieldAddr_ptr (cs' := [_, _]) tok rfl rfl rfl rfl rfl rfl) rfl ?_
      refine AOL.p (P_load_ptr (c := .sl _ _) tok rfl rfl rfl) rfl ?_
      refine AOL.p (P_len_sl (n := a.states.length) tok rfl rfl rfl (by simp)) rfl ?_
      refine AOL.p (P_lss rfl rfl) rfl ?_
      refine AOL.nil ?_
      refine thenN ?_
      refine AW.cond (b := _) rfl (fun hc2 => ?_) (fun hc2 => ?_)
      · skip
        obtain ⟨s, hs⟩ := get_lt2 (l := a.states) (k := p.1) (by have := of_decide_eq_true hc2; omega)
        have hlts := get_lt' hs
        have hsm := List.mem_of_getElem? hs
        have hsl := (sa.g s hsm).1
        have hst := whole_step hR.2 hs
        have hdi := itoa_le (I64_nat (n := p.1) (by omega))
        refine AW.skip ?_
        refine thenN ?_
        refine AW.seq ?_
        refine AW.block ?_
        refine AW.seq ?_
        refine AW.region ?_
        refine AOL.p (P_move (v := .str _) rfl) rfl ?_
        refine AOL.p (P_move (v := .int .i64 _) rfl) rfl ?_
        refine AOL.p (P_callf (by kernel_rfl) rfl rfl (r_Decimal (p.1 : Int) (I64_nat (by omega)))) rfl ?_
        refine AOL.p (P_add_str rfl rfl rfl (by simp only [List.length_append, List.length_cons, List.length_nil]; unfold maxLen; omega)) rfl ?_
        refine AOL.p (P_add_str rfl rfl rfl (by simp only [List.length_append, List.length_cons, List.length_nil]; unfold maxLen; omega)) rfl ?_
        refine AOL.p (P_assign (v := .str _) rfl) rfl ?_
        refine AOL.nil ?_
        refine thenN ?_
        refine AW.seq ?_
        refine AW.seq ?_
        refine AW.region ?_
        refine AOL.p (P_assign (v := .int .i64 _) rfl) rfl ?_
        refine AOL.nil ?_
        refine thenN ?_
        refine AW.block ?_
        refine AW.loopS (fun (q : Nat × Str) => (⟨[(1, .ptr (cAu a)), (5, .str q.2), (6, .int .i64 (p.1 : Int)), (7, .int .i64 (q.1 : Int))], H, 144⟩ : St)) (fun (q : Nat × Str) => q.1 ≤ s.length ∧ q.2 = (p.2 ++ ([115, 116, 97, 116, 101, 32] ++ Lib.itoa (p.1 : Int))) ++ (s.take q.1).flatMap (fun g : Gu => numbersT sGuard [g.scope, g.type, g.var])) (fun (q : Nat × Str) => s.length - q.1) ((0, p.2 ++ ([115, 116, 97, 116, 101, 32] ++ Lib.itoa (p.1 : Int)))) ?_ (GS.weaken ⟨rfl, rfl, rfl, rfl, trivial⟩ (.refl _)) ?_
        · exact ⟨Nat.zero_le _, (List.append_nil _).symm⟩
        · rintro q hR2
          have hql : q.2.length ≤ 200000000000000 := by rw [hR2.2]; have h1 := flat_len (f := (fun g : Gu => numbersT sGuard [g.scope, g.type, g.var])) (n := 73) (l := s.take q.1) (fun g hg => guard_len (ia.g s hsm g (List.mem_of_mem_take hg))); simp only [List.length_append, List.length_cons, List.length_nil, List.length_take] at h1 ⊢; omega
          refine AW.seq ?_
          refine AW.seq ?_
          refine AW.region ?_
          refine AOL.p (P_move (v := .int .i64 _) rfl) rfl ?_
          refine AOL.p (P_fieldAddr_ptr (cs' := [_, _]) tok rfl rfl rfl rfl rfl rfl) rfl ?_
          refine AOL.p (P_load_ptr (c := .sl _ _) tok rfl rfl rfl) rfl ?_
          refine AOL.p (P_move (v := .int .i64 _) rfl) rfl ?_
          refine AOL.p (P_indexAddr (c := [_]) tok rfl rfl rfl rfl rfl rfl (by omega) (cSt_at hs)) rfl ?_
          refine AOL.p (P_fieldAddr_ptr (cs' := [_]) tok rfl rfl rfl rfl rfl rfl) rfl ?_
          refine AOL.p (P_load_ptr (c := .sl _ _) tok rfl rfl rfl) rfl ?_
          refine AOL.p (P_len_sl (n := s.length) tok rfl rfl rfl (by simp)) rfl ?_
          refine AOL.p (P_lss rfl rfl) rfl ?_
          refine AOL.nil ?_
          refine thenN ?_
          refine AW.cond (b := _) rfl (fun hc3 => ?_) (fun hc3 => ?_)
          · skip
            obtain ⟨g, hg⟩ := get_lt2 (l := s) (k := q.1) (by have := of_decide_eq_true hc3; omega)
            have hltg := get_lt' hg
            have hgi := ia.g s hsm g (List.mem_of_getElem? hg)
            have hgl := guard_len hgi
            refine AW.skip ?_
            refine thenN ?_
            refine AW.seq ?_
            refine AW.block ?_
            refine AW.seq ?_
            refine AW.region ?_
            refine AOL.p (P_fieldAddr_ptr (cs' := [_, _]) tok rfl rfl rfl rfl rfl rfl) rfl ?_
            refine AOL.p (P_load_ptr (c := .sl _ _) tok rfl rfl rfl) rfl ?_
            refine AOL.p (P_move (v := .int .i64 _) rfl) rfl ?_
            refine AOL.p (P_indexAddr (c := [_]) tok rfl rfl rfl rfl rfl rfl (by omega) (cSt_at hs)) rfl ?_
            refine AOL.p (P_fieldAddr_ptr (cs' := [_]) tok rfl rfl rfl rfl rfl rfl) rfl ?_
            refine AOL.p (P_load_ptr (c := .sl _ _) tok rfl rfl rfl) rfl ?_
            refine AOL.p (P_move (v := .int .i64 _) rfl) rfl ?_
            refine AOL.p (P_indexAddr (c := [.int .i64 _, .int .i64 _, .int .i64 _, .int .i64 _, _, .int .i64 _, .int .i64 _, .int .i64 _, .int .i64 _, .int .i64 _, .str _]) tok rfl rfl rfl rfl rfl rfl (by omega) (cGu_at hg)) rfl ?_
            refine AOL.p (P_load_ptr_agg (l := [.int .i64 _, .int .i64 _, .int .i64 _, .int .i64 _, _, .int .i64 _, .int .i64 _, .int .i64 _, .int .i64 _, .int .i64 _, .str _]) tok rfl rfl rfl rfl rfl) rfl ?_
            refine AOL.e (E_alloc (l := [.int .i64 0, .int .i64 0, .int .i64 0, .int .i64 0, .sl 8 [], .int .i64 0, .int .i64 0, .int .i64 0, .int .i64 0, .int .i64 0, .str []]) (by kernel_rfl)) rfl ?_
            rintro _ _ ⟨b8, rfl, rfl⟩
            refine AOL.e (E_store (k := 0) (v := .agg _) (cs' := [.int .i64 _, .int .i64 _, .int .i64 _, .int .i64 _, _, .int .i64 _, .int .i64 _, .int .i64 _, .int .i64 _, .int .i64 _, .str _]) (H2 := _ :: _) tok rfl rfl rfl rfl rfl rfl rfl rfl rfl) rfl ?_
            rintro _ _ ⟨rfl, rfl⟩
            refine AOL.ghost (GS.freeze (t := 8) 0 rfl rfl) ?_
            refine AOL.nil ?_
            refine thenN ?_
            refine AW.region ?_
            refine AOL.p (P_move (v := .str _) rfl) rfl ?_
            refine AOL.p (P_fieldAddr_ptr (cs' := [.int .i64 _, .int .i64 _, .int .i64 _, .int .i64 _, _, .int .i64 _, .int .i64 _, .int .i64 _, .int .i64 _, .int .i64 _, .str _]) tok rfl rfl rfl rfl rfl rfl) rfl ?_
            refine AOL.p (P_load_ptr (c := .int .i64 _) tok rfl rfl rfl) rfl ?_
            refine AOL.p (P_fieldAddr_ptr (cs' := [.int .i64 _, .int .i64 _, .int .i64 _, _, .int .i64 _, .int .i64 _, .int .i64 _, .int .i64 _, .int .i64 _, .str _]) tok rfl rfl rfl rfl rfl rfl) rfl ?_
            refine AOL.p (P_load_ptr (c := .int .i64 _) tok rfl rfl rfl) rfl ?_
            refine AOL.p (P_fieldAddr_ptr (cs' := [.int .i64 _, .int .i64 _, _, .int .i64 _, .int .i64 _, .int .i64 _, .int .i64 _, .int .i64 _, .str _]) tok rfl rfl rfl rfl rfl rfl) rfl ?_
            refine AOL.p (P_load_ptr (c := .int .i64 _) tok rfl rfl rfl) rfl ?_
            refine AOL.p (P_buildSlice (es := [[.int .i64 _], [.int .i64 _], [.int .i64 _]]) tok rfl rfl rfl rfl rfl rfl rfl rfl rfl) rfl ?_
            refine AOL.p (P_callf (by kernel_rfl) rfl rfl (r_numbers sGuard [g.scope, g.type, g.var] (three_i64 hgi.1 hgi.2.1 hgi.2.2) (by decide) (by simp))) rfl ?_
            refine AOL.p (P_add_str rfl rfl rfl (by simp only [List.length_append, List.length_cons, List.length_nil]; unfold maxLen; omega)) rfl ?_
            refine AOL.p (P_assign (v := .str _) rfl) rfl ?_
            refine AOL.nil ?_
            refine blkN ?_
            refine thenN ?_
            refine AW.region ?_
            refine AOL.p (P_move (v := .int .i64 _) rfl) rfl ?_
            refine AOL.p (P_add rfl rfl rfl (by constructor <;> omega)) rfl ?_
            refine AOL.p (P_assign (v := .int .i64 _) rfl) rfl ?_
            refine AOL.nil ?_
            refine thenN ?_
            refine ⟨(q.1 + 1, q.2 ++ numbersT sGuard [g.scope, g.type, g.var]), ?_, ?_, GS.weaken ⟨rfl, rfl, rfl, rfl, trivial⟩ (.refl _)⟩
            · exact ⟨hltg, by simp only; rw [flat_take _ hg, ← List.append_assoc, hR2.2]⟩
            · simp only; omega
          · skip
            have hkg : s.length ≤ q.1 := by have := of_decide_eq_false hc3; omega
            have hqt : q.2 ++ [10] = p.2 ++ stateT p.1 s := by rw [hR2.2, List.take_of_length_le hkg, st_shape]
            refine AW.exit ?_
            refine thenE ?_
            refine thenE ?_
            refine blkHit ?_
            refine thenN ?_
            refine AW.seq ?_
            refine AW.region ?_
            refine AOL.p (P_move (v := .str _) rfl) rfl ?_
            refine AOL.p (P_add_str rfl rfl rfl (by simp only [List.length_append, List.length_cons, List.length_nil]; unfold maxLen; omega)) rfl ?_
            refine AOL.p (P_assign (v := .str _) rfl) rfl ?_
            refine AOL.nil ?_
            refine thenN ?_
            refine AW.seq ?_
            refine AW.region ?_
            refine AOL.p (P_load_ptr_agg (l := [.int .i64 _, .int .i64 _, _, _]) tok rfl rfl rfl rfl rfl) rfl ?_
            refine AOL.p (P_move (v := .int .i64 _) rfl) rfl ?_
            refine AOL.p (P_callf (by kernel_rfl) rfl rfl (r_From a (p.1 : Int) sa.m)) rfl ?_
            refine AOL.p (P_assign (v := .sl _ _) rfl) rfl ?_
            refine AOL.nil ?_
            refine thenN ?_
            refine AW.seq ?_
            refine AW.region ?_
            refine AOL.p (P_assign (v := .int .i64 _) rfl) rfl ?_
            refine AOL.nil ?_
            refine thenN ?_
            refine AW.block ?_
            have hlen2 : (fromS a.edges (p.1 : Int)).length ≤ 2048 := Nat.le_trans (List.length_filter_le ..) hM
            refine AW.loopS (fun (u : Nat × Str) => (⟨[(1, .ptr (cAu a)), (5, .str u.2), (6, .int .i64 (p.1 : Int)), (9, .sl 17 ((fromS a.edges (p.1 : Int)).map cEd)), (10, .int .i64 (u.1 : Int))], H, 144⟩ : St)) (fun (u : Nat × Str) => u.1 ≤ (fromS a.edges (p.1 : Int)).length ∧ u.2 = (p.2 ++ stateT p.1 s) ++ ((fromS a.edges (p.1 : Int)).take u.1).flatMap edgeT) (fun (u : Nat × Str) => (fromS a.edges (p.1 : Int)).length - u.1) ((0, q.2 ++ [10])) ?_ (GS.weaken ⟨rfl, rfl, rfl, rfl, rfl, trivial⟩ (.refl _)) ?_
            · exact ⟨Nat.zero_le _, hqt.trans (List.append_nil _).symm⟩
            · rintro u hR3
              have hul : u.2.length ≤ 120000000000000 := pre_len (u := ((fromS a.edges (p.1 : Int)).drop u.1).flatMap edgeT ++ fmtGo a (p.1 + 1) (a.states.drop (p.1 + 1))) (by rw [hR3.2, hst, flat_split edgeT _ u.1]; simp only [List.append_assoc]) hwl
              refine AW.seq ?_
              refine AW.seq ?_
              refine AW.region ?_
              refine AOL.p (P_move (v := .int .i64 _) rfl) rfl ?_
              refine AOL.p (P_move (v := .sl _ _) rfl) rfl ?_
              refine AOL.p (P_len_sl (n := (fromS a.edges (p.1 : Int)).length) tok rfl rfl rfl (by simp)) rfl ?_
              refine AOL.p (P_lss rfl rfl) rfl ?_
              refine AOL.nil ?_
              refine thenN ?_
              refine AW.cond (b := _) rfl (fun hc4 => ?_) (fun hc4 => ?_)
              · skip
                obtain ⟨x, hx⟩ := get_lt2 (l := (fromS a.edges (p.1 : Int))) (k := u.1) (by have := of_decide_eq_true hc4; omega)
                have hltx := get_lt' hx
                have hme := (List.mem_filter.1 (List.mem_of_getElem? hx)).1
                have hix := ia.e x hme
                have hex := sa.e x hme
                have hk1 := hex.o
                have hk2 := hex.c
                have hk3 := hex.i
                have hk4 := hex.l
                have hk5 := hex.k
                refine AW.skip ?_
                refine thenN ?_
                refine AW.seq ?_
                refine AW.block ?_
                refine AW.seq ?_
                refine AW.region ?_
                refine AOL.p (P_move (v := .sl _ _) rfl) rfl ?_
                refine AOL.p (P_move (v := .int .i64 _) rfl) rfl ?_
                refine AOL.p (P_indexAddr (c := [.int .i64 _, .int .i64 _, .int .i64 _, .int .i64 _, .int .i64 _, _, .int .i64 _, .int .i64 _, .int .i64 _, .int .i64 _, .int .i64 _, .str _, _, _, _, _, _]) tok rfl rfl rfl rfl rfl rfl (by omega) (cEd_at hx)) rfl ?_
                refine AOL.p (P_load_ptr_agg (l := [.int .i64 _, .int .i64 _, .int .i64 _, .int .i64 _, .int .i64 _, _, .int .i64 _, .int .i64 _, .int .i64 _, .int .i64 _, .int .i64 _, .str _, _, _, _, _, _]) tok rfl rfl rfl rfl rfl) rfl ?_
                refine AOL.e (E_alloc (l := [.int .i64 0, .int .i64 0, .int .i64 0, .int .i64 0, .int .i64 0, .sl 8 [], .int .i64 0, .int .i64 0, .int .i64 0, .int .i64 0, .int .i64 0, .str [], .sl 1 [], .sl 1 [], .sl 8 [], .sl 2 [], .sl 1 []]) (by kernel_rfl)) rfl ?_
                rintro _ _ ⟨b11, rfl, rfl⟩
                refine AOL.e (E_store (k := 0) (v := .agg _) (cs' := [.int .i64 _, .int .i64 _, .int .i64 _, .int .i64 _, .int .i64 _, _, .int .i64 _, .int .i64 _, .int .i64 _, .int .i64 _, .int .i64 _, .str _, _, _, _, _, _]) (H2 := _ :: _) tok rfl rfl rfl rfl rfl rfl rfl rfl rfl) rfl ?_
                rintro _ _ ⟨rfl, rfl⟩
                refine AOL.ghost (GS.freeze (t := 11) 0 rfl rfl) ?_
                refine AOL.nil ?_
                refine thenN ?_
                refine AW.seq ?_
                refine AW.region ?_
                refine AOL.p (P_assign (v := .val _) rfl) rfl ?_
                refine AOL.ghost (GS.row (t := 12) 3 1 rfl) ?_
                refine AOL.nil ?_
                refine thenN ?_
                refine AW.seq ?_
                refine AW.seq ?_
                refine AW.region ?_
                refine AOL.p (P_assign (v := .int .i64 _) rfl) rfl ?_
                refine AOL.nil ?_
                refine thenN ?_
                refine AW.block ?_
                refine AW.loopS (fun (z : Nat × List (List AV) × Value) => (⟨[(1, .ptr (cAu a)), (5, .str u.2), (6, .int .i64 (p.1 : Int)), (9, .sl 17 ((fromS a.edges (p.1 : Int)).map cEd)), (10, .int .i64 (u.1 : Int)), (11, .ptr (cEd x)), (12, .row z.2.2 1 z.2.1), (13, .int .i64 (z.1 : Int))], .row z.2.2 z.2.1.length 3 1 :: H, 144⟩ : St)) (fun (z : Nat × List (List AV) × Value) => z.1 ≤ x.limits.length ∧ z.2.1 = (limI (x.limits.take z.1)).map cI) (fun (z : Nat × List (List AV) × Value) => x.limits.length - z.1) ((0, [], .slice none 0 0)) ?_ (GS.weaken ⟨rfl, rfl, rfl, rfl, rfl, rfl, rfl, rfl, trivial⟩ (.refl _)) ?_
                · exact ⟨Nat.zero_le _, rfl⟩
                · rintro z hR4
                  have hsc : ∀ c ∈ z.2.1, scalars c = true := by rw [hR4.2]; exact sc_map fun _ => rfl
                  have hel : z.2.1.length ≤ 2 * z.1 := by rw [hR4.2, List.length_map, limI_len, List.length_take]; omega
                  refine AW.seq ?_
                  refine AW.seq ?_
                  refine AW.region ?_
                  refine AOL.p (P_move (v := .int .i64 _) rfl) rfl ?_
                  refine AOL.p (P_fieldAddr_ptr (cs' := [_, _]) tok rfl rfl rfl rfl rfl rfl) rfl ?_
                  refine AOL.p (P_load_ptr (c := .sl _ _) tok rfl rfl rfl) rfl ?_
                  refine AOL.p (P_len_sl (n := x.limits.length) tok rfl rfl rfl (by simp)) rfl ?_
                  refine AOL.p (P_lss rfl rfl) rfl ?_
                  refine AOL.nil ?_
                  refine thenN ?_
                  refine AW.cond (b := _) rfl (fun hc5 => ?_) (fun hc5 => ?_)
                  · skip
                    obtain ⟨y, hy⟩ := get_lt2 (l := x.limits) (k := z.1) (by have := of_decide_eq_true hc5; omega)
                    have hlty := get_lt' hy
                    refine AW.skip ?_
                    refine thenN ?_
                    refine AW.seq ?_
                    refine AW.block ?_
                    refine AW.draw mixed (fun _ => True) trivial (by kernel_rfl) ?_
                    refine Canon.pure _ _ 0 _ _ rfl (by kernel_rfl) (by kernel_rfl) rfl (.run rfl (P_move (v := .row _ _ _) rfl)) ?_
                    refine Canon.pure _ _ 1 _ _ rfl (by kernel_rfl) (by kernel_rfl) rfl (.run rfl (P_fieldAddr_ptr (cs' := [_, _]) tok rfl rfl rfl rfl rfl rfl)) ?_
                    refine Canon.pure _ _ 2 _ _ rfl (by kernel_rfl) (by kernel_rfl) rfl (.run rfl (P_load_ptr (c := .sl _ _) tok rfl rfl rfl)) ?_
                    refine Canon.pure _ _ 3 _ _ rfl (by kernel_rfl) (by kernel_rfl) rfl (.run rfl (P_move (v := .int .i64 _) rfl)) ?_
                    refine Canon.pure _ _ 4 _ _ rfl (by kernel_rfl) (by kernel_rfl) rfl (.run rfl (P_indexAddr (c := [.int .i64 _, .int .i64 _]) tok rfl rfl rfl rfl rfl rfl (by omega) (cLi_at hy))) ?_
                    refine Canon.pure _ _ 5 _ _ rfl (by kernel_rfl) (by kernel_rfl) rfl (.run rfl (P_fieldAddr_ptr (cs' := [.int .i64 _, .int .i64 _]) tok rfl rfl rfl rfl rfl rfl)) ?_
                    refine Canon.pure _ _ 6 _ _ rfl (by kernel_rfl) (by kernel_rfl) rfl (.run rfl (P_load_ptr (c := .int .i64 _) tok rfl rfl rfl)) ?_
                    refine Canon.pure _ _ 7 _ _ rfl (by kernel_rfl) (by kernel_rfl) rfl (.run rfl (P_fieldAddr_ptr (cs' := [_, _]) tok rfl rfl rfl rfl rfl rfl)) ?_
                    refine Canon.pure _ _ 8 _ _ rfl (by kernel_rfl) (by kernel_rfl) rfl (.run rfl (P_load_ptr (c := .sl _ _) tok rfl rfl rfl)) ?_
                    refine Canon.pure _ _ 9 _ _ rfl (by kernel_rfl) (by kernel_rfl) rfl (.run rfl (P_move (v := .int .i64 _) rfl)) ?_
                    refine Canon.pure _ _ 10 _ _ rfl (by kernel_rfl) (by kernel_rfl) rfl (.run rfl (P_indexAddr (c := [.int .i64 _, .int .i64 _]) tok rfl rfl rfl rfl rfl rfl (by omega) (cLi_at hy))) ?_
                    refine Canon.pure _ _ 11 _ _ rfl (by kernel_rfl) (by kernel_rfl) rfl (.run rfl (P_fieldAddr_ptr (cs' := [.int .i64 _]) tok rfl rfl rfl rfl rfl rfl)) ?_
                    refine Canon.pure _ _ 12 _ _ rfl (by kernel_rfl) (by kernel_rfl) rfl (.run rfl (P_load_ptr (c := .int .i64 _) tok rfl rfl rfl)) ?_
                    refine Canon.pure _ _ 13 _ _ rfl (by kernel_rfl) (by kernel_rfl) rfl (.run rfl (P_buildSlice (es := [[.int .i64 _], [.int .i64 _]]) tok rfl rfl rfl rfl rfl rfl rfl rfl rfl)) ?_
                    refine Canon.eff _ _ 14 _ _ rfl (by kernel_rfl) rfl rfl (E_append (k := 0) tok rfl rfl rfl rfl rfl rfl rfl rfl (sc_two rfl rfl) (hsc) (by simp; omega) (by simp [maxLen]; omega)) (fun _ _ _ => trivial) ?_
                    rintro _ _ ⟨v97, rfl, rfl⟩
                    refine Canon.pure _ _ 15 _ _ rfl (by kernel_rfl) (by kernel_rfl) rfl (.run rfl (P_assign (v := .row _ _ _) rfl)) ?_
                    refine Canon.done _ _ (by kernel_rfl) ?_
                    refine blkN ?_
                    refine thenN ?_
                    refine AW.region ?_
                    refine AOL.p (P_move (v := .int .i64 _) rfl) rfl ?_
                    refine AOL.p (P_add rfl rfl rfl (by constructor <;> omega)) rfl ?_
                    refine AOL.p (P_assign (v := .int .i64 _) rfl) rfl ?_
                    refine AOL.nil ?_
                    refine thenN ?_
                    refine ⟨(z.1 + 1, z.2.1 ++ [[.int .i64 y.scope], [.int .i64 y.span]], v97), ?_, ?_, GS.weaken ⟨rfl, rfl, rfl, rfl, rfl, rfl, rfl, rfl, trivial⟩ (.refl _)⟩
                    · exact ⟨hlty, by simp only; rw [limI_take hy, List.map_append, hR4.2]; rfl⟩
                    · simp only; omega
                  · skip
                    have hkz : x.limits.length ≤ z.1 := by have := of_decide_eq_false hc5; omega
                    have hqe : z.2.1 = (limI x.limits).map cI := by have h := hR4.2; rw [List.take_of_length_le hkz] at h; exact h
                    have hd1 := itoa_le hix.var
                    have hd2 := itoa_le hix.type
                    have hd3 := itoa_le hix.dst
                    have hd4 := itoa_le (I64_nat (n := x.checks.length) hk5)
                    have hn1 := numbersT_len (w := sOpens) (by decide) hix.o
                    have hn2 := numbersT_len (w := sCloses) (by decide) hix.c
                    have hn3 := numbersT_len (w := sInside) (by decide) hix.i
                    have hn4 := numbersT_len (w := sLimits) (by decide) hix.l
                    rw [limI_len] at hn4
                    have hsh := edge_shape u.2 x
                    refine AW.exit ?_
                    refine thenE ?_
                    refine thenE ?_
                    refine blkHit ?_
                    refine thenN ?_
                    refine AW.seq ?_
                    refine AW.ghost (GS.unrow 12 rfl) ?_
                    refine AW.draw mixed (fun _ => True) trivial (by kernel_rfl) ?_
                    refine Canon.pure _ _ 0 _ _ rfl (by kernel_rfl) (by kernel_rfl) rfl (.run rfl (P_move (v := .str _) rfl)) ?_
                    refine Canon.pure _ _ 1 _ _ rfl (by kernel_rfl) (by kernel_rfl) rfl (.run rfl (P_fieldAddr_ptr (cs' := [.int .i64 _, .int .i64 _, .int .i64 _, _, .int .i64 _, .int .i64 _, .int .i64 _, .int .i64 _, .int .i64 _, .str _, _, _, _, _, _]) tok rfl rfl rfl rfl rfl rfl)) ?_
                    refine Canon.pure _ _ 2 _ _ rfl (by kernel_rfl) (by kernel_rfl) rfl (.run rfl (P_load_ptr (c := .int .i64 _) tok rfl rfl rfl)) ?_
                    refine Canon.pure _ _ 3 _ _ rfl (by kernel_rfl) (by kernel_rfl) rfl (.run rfl (P_callf (by kernel_rfl) rfl rfl (r_Decimal x.var hix.var))) ?_
                    refine Canon.pure _ _ 4 _ _ rfl (by kernel_rfl) (by kernel_rfl) rfl (.run rfl (P_add_str rfl rfl rfl (by simp only [List.length_append, List.length_cons, List.length_nil]; unfold maxLen; omega))) ?_
                    refine Canon.pure _ _ 5 _ _ rfl (by kernel_rfl) (by kernel_rfl) rfl (.run rfl (P_add_str rfl rfl rfl (by simp only [List.length_append, List.length_cons, List.length_nil]; unfold maxLen; omega))) ?_
                    refine Canon.pure _ _ 6 _ _ rfl (by kernel_rfl) (by kernel_rfl) rfl (.run rfl (P_fieldAddr_ptr (cs' := [.int .i64 _, .int .i64 _, _, .int .i64 _, .int .i64 _, .int .i64 _, .int .i64 _, .int .i64 _, .str _, _, _, _, _, _]) tok rfl rfl rfl rfl rfl rfl)) ?_
                    refine Canon.pure _ _ 7 _ _ rfl (by kernel_rfl) (by kernel_rfl) rfl (.run rfl (P_load_ptr (c := .int .i64 _) tok rfl rfl rfl)) ?_
                    refine Canon.pure _ _ 8 _ _ rfl (by kernel_rfl) (by kernel_rfl) rfl (.run rfl (P_callf (by kernel_rfl) rfl rfl (r_Decimal x.type hix.type))) ?_
                    refine Canon.pure _ _ 9 _ _ rfl (by kernel_rfl) (by kernel_rfl) rfl (.run rfl (P_add_str rfl rfl rfl (by simp only [List.length_append, List.length_cons, List.length_nil]; unfold maxLen; omega))) ?_
                    refine Canon.pure _ _ 10 _ _ rfl (by kernel_rfl) (by kernel_rfl) rfl (.run rfl (P_add_str rfl rfl rfl (by simp only [List.length_append, List.length_cons, List.length_nil]; unfold maxLen; omega))) ?_
                    refine Canon.pure _ _ 11 _ _ rfl (by kernel_rfl) (by kernel_rfl) rfl (.run rfl (P_fieldAddr_ptr (cs' := [.int .i64 _, .int .i64 _, .int .i64 _, .int .i64 _, _, .int .i64 _, .int .i64 _, .int .i64 _, .int .i64 _, .int .i64 _, .str _, _, _, _, _, _]) tok rfl rfl rfl rfl rfl rfl)) ?_
                    refine Canon.pure _ _ 12 _ _ rfl (by kernel_rfl) (by kernel_rfl) rfl (.run rfl (P_load_ptr (c := .int .i64 _) tok rfl rfl rfl)) ?_
                    refine Canon.pure _ _ 13 _ _ rfl (by kernel_rfl) (by kernel_rfl) rfl (.run rfl (P_callf (by kernel_rfl) rfl rfl (r_Decimal x.dst hix.dst))) ?_
                    refine Canon.pure _ _ 14 _ _ rfl (by kernel_rfl) (by kernel_rfl) rfl (.run rfl (P_add_str rfl rfl rfl (by simp only [List.length_append, List.length_cons, List.length_nil]; unfold maxLen; omega))) ?_
                    refine Canon.pure _ _ 15 _ _ rfl (by kernel_rfl) (by kernel_rfl) rfl (.run rfl (P_add_str rfl rfl rfl (by simp only [List.length_append, List.length_cons, List.length_nil]; unfold maxLen; omega))) ?_
                    refine Canon.pure _ _ 16 _ _ rfl (by kernel_rfl) (by kernel_rfl) rfl (.run rfl (P_assign (v := .str _) rfl)) ?_
                    refine Canon.done _ _ (by kernel_rfl) ?_
                    refine thenN ?_
                    refine AW.seq ?_
                    refine AW.draw mixed (fun _ => True) trivial (by kernel_rfl) ?_
                    refine Canon.pure _ _ 0 _ _ rfl (by kernel_rfl) (by kernel_rfl) rfl (.run rfl (P_move (v := .str _) rfl)) ?_
                    refine Canon.pure _ _ 1 _ _ rfl (by kernel_rfl) (by kernel_rfl) rfl (.run rfl (P_fieldAddr_ptr (cs' := [_, _, _, _, _]) tok rfl rfl rfl rfl rfl rfl)) ?_
                    refine Canon.pure _ _ 2 _ _ rfl (by kernel_rfl) (by kernel_rfl) rfl (.run rfl (P_load_ptr (c := .sl _ _) tok rfl rfl rfl)) ?_
                    refine Canon.pure _ _ 3 _ _ rfl (by kernel_rfl) (by kernel_rfl) rfl (.run rfl (P_callf (by kernel_rfl) rfl rfl (r_numbers sOpens x.opens hix.o (by decide) (by omega)))) ?_
                    refine Canon.pure _ _ 4 _ _ rfl (by kernel_rfl) (by kernel_rfl) rfl (.run rfl (P_fieldAddr_ptr (cs' := [_, _, _, _]) tok rfl rfl rfl rfl rfl rfl)) ?_
                    refine Canon.pure _ _ 5 _ _ rfl (by kernel_rfl) (by kernel_rfl) rfl (.run rfl (P_load_ptr (c := .sl _ _) tok rfl rfl rfl)) ?_
                    refine Canon.pure _ _ 6 _ _ rfl (by kernel_rfl) (by kernel_rfl) rfl (.run rfl (P_callf (by kernel_rfl) rfl rfl (r_numbers sCloses x.closes hix.c (by decide) (by omega)))) ?_
                    refine Canon.pure _ _ 7 _ _ rfl (by kernel_rfl) (by kernel_rfl) rfl (.run rfl (P_add_str rfl rfl rfl (by simp only [List.length_append, List.length_cons, List.length_nil]; unfold maxLen; omega))) ?_
                    refine Canon.pure _ _ 8 _ _ rfl (by kernel_rfl) (by kernel_rfl) rfl (.run rfl (P_fieldAddr_ptr (cs' := [_]) tok rfl rfl rfl rfl rfl rfl)) ?_
                    refine Canon.pure _ _ 9 _ _ rfl (by kernel_rfl) (by kernel_rfl) rfl (.run rfl (P_load_ptr (c := .sl _ _) tok rfl rfl rfl)) ?_
                    refine Canon.pure _ _ 10 _ _ rfl (by kernel_rfl) (by kernel_rfl) rfl (.run rfl (P_callf (by kernel_rfl) rfl rfl (r_numbers sInside x.inside hix.i (by decide) (by omega)))) ?_
                    refine Canon.pure _ _ 11 _ _ rfl (by kernel_rfl) (by kernel_rfl) rfl (.run rfl (P_add_str rfl rfl rfl (by simp only [List.length_append, List.length_cons, List.length_nil]; unfold maxLen; omega))) ?_
                    refine Canon.pure _ _ 12 _ _ rfl (by kernel_rfl) (by kernel_rfl) rfl (.run rfl (P_move (v := .sl _ _) rfl)) ?_
                    refine Canon.pure _ _ 13 _ _ rfl (by kernel_rfl) (by kernel_rfl) rfl (.run rfl (P_callf (by kernel_rfl) rfl rfl (APure.arg2 hqe (r_numbers sLimits (limI x.limits) hix.l (by decide) (by rw [limI_len]; omega))))) ?_
                    refine Canon.pure _ _ 14 _ _ rfl (by kernel_rfl) (by kernel_rfl) rfl (.run rfl (P_add_str rfl rfl rfl (by simp only [List.length_append, List.length_cons, List.length_nil]; unfold maxLen; omega))) ?_
                    refine Canon.pure _ _ 15 _ _ rfl (by kernel_rfl) (by kernel_rfl) rfl (.run rfl (P_add_str rfl rfl rfl (by simp only [List.length_append, List.length_cons, List.length_nil]; unfold maxLen; omega))) ?_
                    refine Canon.pure _ _ 16 _ _ rfl (by kernel_rfl) (by kernel_rfl) rfl (.run rfl (P_assign (v := .str _) rfl)) ?_
                    refine Canon.done _ _ (by kernel_rfl) ?_
                    refine thenN ?_
                    refine AW.seq ?_
                    refine AW.seq ?_
                    refine AW.region ?_
                    refine AOL.p (P_fieldAddr_ptr (cs' := [_, _, _]) tok rfl rfl rfl rfl rfl rfl) rfl ?_
                    refine AOL.p (P_load_ptr (c := .sl _ _) tok rfl rfl rfl) rfl ?_
                    refine AOL.p (P_len_sl (n := x.checks.length) tok rfl rfl rfl (by simp)) rfl ?_
                    refine AOL.p (P_gtr rfl rfl) rfl ?_
                    refine AOL.nil ?_
                    refine thenN ?_
                    refine AW.cond (b := _) rfl (fun hc6 => ?_) (fun hc6 => ?_)
                    · skip
                      rw [chk_yes hc6] at hsh
                      refine AW.region ?_
                      refine AOL.p (P_move (v := .str _) rfl) rfl ?_
                      refine AOL.p (P_fieldAddr_ptr (cs' := [_, _, _]) tok rfl rfl rfl rfl rfl rfl) rfl ?_
                      refine AOL.p (P_load_ptr (c := .sl _ _) tok rfl rfl rfl) rfl ?_
                      refine AOL.p (P_len_sl (n := x.checks.length) tok rfl rfl rfl (by simp)) rfl ?_
                      refine AOL.p (P_callf (by kernel_rfl) rfl rfl (r_Decimal (x.checks.length : Int) (I64_nat hk5))) rfl ?_
                      refine AOL.p (P_add_str rfl rfl rfl (by simp only [List.length_append, List.length_cons, List.length_nil]; unfold maxLen; omega)) rfl ?_
                      refine AOL.p (P_add_str rfl rfl rfl (by simp only [List.length_append, List.length_cons, List.length_nil]; unfold maxLen; omega)) rfl ?_
                      refine AOL.p (P_assign (v := .str _) rfl) rfl ?_
                      refine AOL.nil ?_
                      refine thenN ?_
                      refine AW.region ?_
                      refine AOL.p (P_move (v := .str _) rfl) rfl ?_
                      refine AOL.p (P_add_str rfl rfl rfl (by simp only [List.length_append, List.length_cons, List.length_nil]; unfold maxLen; omega)) rfl ?_
                      refine AOL.p (P_assign (v := .str _) rfl) rfl ?_
                      refine AOL.nil ?_
                      refine blkN ?_
                      refine thenN ?_
                      refine AW.region ?_
                      refine AOL.p (P_move (v := .int .i64 _) rfl) rfl ?_
                      refine AOL.p (P_add rfl rfl rfl (by constructor <;> omega)) rfl ?_
                      refine AOL.p (P_assign (v := .int .i64 _) rfl) rfl ?_
                      refine AOL.nil ?_
                      refine thenN ?_
                      refine ⟨(u.1 + 1, u.2 ++ edgeT x), ?_, ?_, GS.weaken ⟨rfl, congrArg AV.str hsh, rfl, rfl, rfl, trivial⟩ (.cons _ (.refl _))⟩
                      · exact ⟨hltx, by simp only; rw [flat_take edgeT hx, hR3.2]; simp only [List.append_assoc]⟩
                      · simp only; omega
                    · skip
                      rw [chk_no hc6, List.append_nil] at hsh
                      refine AW.skip ?_
                      refine thenN ?_
                      refine AW.region ?_
                      refine AOL.p (P_move (v := .str _) rfl) rfl ?_
                      refine AOL.p (P_add_str rfl rfl rfl (by simp only [List.length_append, List.length_cons, List.length_nil]; unfold maxLen; omega)) rfl ?_
                      refine AOL.p (P_assign (v := .str _) rfl) rfl ?_
                      refine AOL.nil ?_
                      refine blkN ?_
                      refine thenN ?_
                      refine AW.region ?_
                      refine AOL.p (P_move (v := .int .i64 _) rfl) rfl ?_
                      refine AOL.p (P_add rfl rfl rfl (by constructor <;> omega)) rfl ?_
                      refine AOL.p (P_assign (v := .int .i64 _) rfl) rfl ?_
                      refine AOL.nil ?_
                      refine thenN ?_
                      refine ⟨(u.1 + 1, u.2 ++ edgeT x), ?_, ?_, GS.weaken ⟨rfl, congrArg AV.str hsh, rfl, rfl, rfl, trivial⟩ (.cons _ (.refl _))⟩
                      · exact ⟨hltx, by simp only; rw [flat_take edgeT hx, hR3.2]; simp only [List.append_assoc]⟩
                      · simp only; omega
              · skip
                have hkl : (fromS a.edges (p.1 : Int)).length ≤ u.1 := by have := of_decide_eq_false hc4; omega
                refine AW.exit ?_
                refine thenE ?_
                refine thenE ?_
                refine blkHit ?_
                refine blkN ?_
                refine thenN ?_
                refine AW.region ?_
                refine AOL.p (P_move (v := .int .i64 _) rfl) rfl ?_
                refine AOL.p (P_add rfl rfl rfl (by constructor <;> omega)) rfl ?_
                refine AOL.p (P_assign (v := .int .i64 _) rfl) rfl ?_
                refine AOL.nil ?_
                refine thenN ?_
                refine ⟨(p.1 + 1, u.2), ?_, ?_, GS.weaken ⟨rfl, rfl, rfl, trivial⟩ (.refl _)⟩
                · refine ⟨hlts, ?_⟩
                  simp only
                  rw [hR3.2, List.take_of_length_le hkl, hst]; simp only [List.append_assoc]
                · simp only; omega
      · skip
        have hk : a.states.length ≤ p.1 := by have := of_decide_eq_false hc2; omega
        have hpt : p.2 = wholeT a := by have h := hR.2; rw [List.drop_eq_nil_of_le hk] at h; rw [h]; exact (List.append_nil _).symm
        refine AW.exit ?_
        refine thenE ?_
        refine thenE ?_
        refine blkHit ?_
        refine thenN ?_
        refine AW.seq ?_
        refine AW.region ?_
        refine AOL.p (P_move (v := .str _) rfl) rfl ?_
        refine AOL.p (P_assign (v := .str _) rfl) rfl ?_
        refine AOL.p (P_assign (v := .int .i64 _) rfl) rfl ?_
        refine AOL.nil ?_
        refine thenN ?_
        refine AW.ret ?_
        refine ⟨.inr rfl, [.str _, .int .i64 _], .cons (.tmp _ _ rfl) <| .cons (.tmp _ _ rfl) <| .nil, .refl _, ?_⟩
        rw [h9, hpt]; rfl

end Go.Proofs.YtoolcpnahmgnnaaGreatDoor
