/-
  Walks of layer 23: trimming in the reference; edges, reachable and useful states. No condition.
-/
import Derived.Test.YtoolcpnahmgnnaaGreatDoorW11
import Derived.Test.YtoolcpnahmgnnaaGreatDoorW8
import Derived.KernelRfl
namespace Go.Proofs.YtoolcpnahmgnnaaGreatDoor
open Go Go.Aw
set_option linter.unusedVariables false
set_option linter.unusedSimpArgs false

theorem edges_err {a : Au} {s : Int} (h : (checkA a != 0) = true) : edgesS a s = ([], checkA a) := by unfold edgesS; rw [if_pos h]
theorem edges_none {a : Au} {s : Int} (h : (checkA a != 0) = false) (k : (!(inS s a.states.length)) = true) : edgesS a s = ([], 6) := by unfold edgesS; rw [if_neg (by rw [h]; decide), if_pos k]
theorem edges_ok {a : Au} {s : Int} (h : (checkA a != 0) = false) (k : (!(inS s a.states.length)) = false) : edgesS a s = (fromS a.edges s, 0) := by unfold edgesS; rw [if_neg (by rw [h]; decide), if_neg (by rw [k]; decide)]
set_option maxRecDepth 20000 in
set_option maxHeartbeats 1600000 in
theorem a_Edges (a : Au) (s : Int) (hs : Sm a) : APure Tryz.prog 24 [.agg (cAu a), .int .i64 s] (.tuple [.sl 17 ((edgesS a s).1.map cEd), .int .i64 (edgesS a s).2]) := by
  refine APure.body (n := 40) tok Tryz.func24 rfl rfl rfl fun H => ?_
  refine AW.seq ?_
  refine AW.region ?_
  refine AOL.p (P_box (v := .agg _) (cs := [.int .i64 _, .int .i64 _, _, _]) rfl rfl rfl) rfl ?_
  refine AOL.p (P_assign_nil (z := 17) rfl) rfl ?_
  refine AOL.p (P_assign (v := .int .i64 _) rfl) rfl ?_
  refine AOL.nil ?_
  refine thenN ?_
  refine AW.seq ?_
  refine AW.seq ?_
  refine AW.region ?_
  refine AOL.p (P_load_ptr_agg (l := [.int .i64 _, .int .i64 _, _, _]) tok rfl rfl rfl rfl rfl) rfl ?_
  refine AOL.p (P_callf (by kernel_rfl) rfl rfl (a_Check a hs)) rfl ?_
  refine AOL.p (P_assign (v := .int .i64 _) rfl) rfl ?_
  refine AOL.nil ?_
  refine thenN ?_
  refine AW.seq ?_
  refine AW.region ?_
  refine AOL.p (P_move (v := .int .i64 _) rfl) rfl ?_
  refine AOL.p (P_neq rfl rfl) rfl ?_
  refine AOL.nil ?_
  refine thenN ?_
  refine AW.cond (b := _) rfl (fun hc1 => ?_) (fun hc1 => ?_)
  · skip
    have h9 := edges_err (s := s) hc1
    refine AW.seq ?_
    refine AW.region ?_
    refine AOL.p (P_move (v := .int .i64 _) rfl) rfl ?_
    refine AOL.p (P_assign_nil (z := 17) rfl) rfl ?_
    refine AOL.p (P_assign (v := .int .i64 _) rfl) rfl ?_
    refine AOL.nil ?_
    refine thenN ?_
    refine AW.ret ?_
    refine thenR ?_
    refine ⟨.inr rfl, [.sl _ _, .int .i64 _], .cons (.tmp _ _ rfl) <| .cons (.tmp _ _ rfl) <| .nil, .refl _, ?_⟩
    rw [h9]; rfl
  · skip
    refine AW.skip ?_
    refine thenN ?_
    refine AW.seq ?_
    refine AW.seq ?_
    refine AW.region ?_
    refine AOL.p (P_move (v := .int .i64 _) rfl) rfl ?_
    refine AOL.p (P_fieldAddr_ptr (cs' := [_, _]) tok rfl rfl rfl rfl rfl rfl) rfl ?_
    refine AOL.p (P_load_ptr (c := .sl _ _) tok rfl rfl rfl) rfl ?_
    refine AOL.p (P_len_sl (n := a.states.length) tok rfl rfl rfl (by simp)) rfl ?_
    refine AOL.p (P_callf (by kernel_rfl) rfl rfl (a_within s a.states.length)) rfl ?_
    refine AOL.p (P_not rfl) rfl ?_
    refine AOL.nil ?_
    refine thenN ?_
    refine AW.cond (b := _) rfl (fun hc2 => ?_) (fun hc2 => ?_)
    · skip
      have h9 := edges_none hc1 hc2
      refine AW.seq ?_
      refine AW.region ?_
      refine AOL.p (P_assign_nil (z := 17) rfl) rfl ?_
      refine AOL.p (P_assign (v := .int .i64 _) rfl) rfl ?_
      refine AOL.nil ?_
      refine thenN ?_
      refine AW.ret ?_
      refine thenR ?_
      refine ⟨.inr rfl, [.sl _ _, .int .i64 _], .cons (.tmp _ _ rfl) <| .cons (.tmp _ _ rfl) <| .nil, .refl _, ?_⟩
      rw [h9]; rfl
    · skip
      have h9 := edges_ok hc1 hc2
      refine AW.skip ?_
      refine thenN ?_
      refine AW.seq ?_
      refine AW.region ?_
      refine AOL.p (P_assign (v := .val _) rfl) rfl ?_
      refine AOL.ghost (GS.row (t := 7) 66 17 rfl) ?_
      refine AOL.nil ?_
      refine thenN ?_
      refine AW.seq ?_
      refine AW.seq ?_
      refine AW.region ?_
      refine AOL.p (P_load_ptr_agg (l := [.int .i64 _, .int .i64 _, _, _]) tok rfl rfl rfl rfl rfl) rfl ?_
      refine AOL.p (P_move (v := .int .i64 _) rfl) rfl ?_
      refine AOL.p (P_callf (by kernel_rfl) rfl rfl (a_leaving a s hs.m)) rfl ?_
      refine AOL.p (P_len_sl (n := (fromS a.edges s).length) tok rfl rfl rfl (by rw [List.length_map]; exact leave_len s 0 a.edges)) rfl ?_
      refine AOL.p (P_move (v := .int .i64 _) rfl) rfl ?_
      refine AOL.nil ?_
      refine thenN ?_
      refine AW.block ?_
      have hlen2 : (fromS a.edges s).length ≤ 1048576 := Nat.le_trans (List.length_filter_le ..) hs.m
      refine AW.loopS (fun (p : Nat × List (List AV) × Value) => (⟨[(2, .ptr (cAu a)), (7, .row p.2.2 17 p.2.1), (23, .sl 1 ((leaveS a.edges s).map cI)), (24, .int .i64 (fromS a.edges s).length), (25, .int .i64 (p.1 : Int))], .row p.2.2 p.2.1.length 66 17 :: H, 40⟩ : St)) (fun (p : Nat × List (List AV) × Value) => p.1 ≤ (fromS a.edges s).length ∧ p.2.1 = ((fromS a.edges s).take p.1).map cEd) (fun (p : Nat × List (List AV) × Value) => (fromS a.edges s).length - p.1) ((0, [], .slice none 0 0)) ?_ (GS.weaken ⟨rfl, rfl, rfl, rfl, rfl, trivial⟩ (.refl _)) ?_
      · exact ⟨Nat.zero_le _, rfl⟩
      · rintro p hR
        have hsc : ∀ c ∈ p.2.1, scalars c = true := by rw [hR.2]; exact sc_map fun _ => rfl
        have hel : p.2.1.length = p.1 := by rw [hR.2, List.length_map, List.length_take]; omega
        refine AW.seq ?_
        refine AW.region ?_
        refine AOL.p (P_lss rfl rfl) rfl ?_
        refine AOL.nil ?_
        refine thenN ?_
        refine AW.seq ?_
        refine AW.cond (b := _) rfl (fun hc3 => ?_) (fun hc3 => ?_)
        · skip
          obtain ⟨i, hi⟩ := get_lt2 (l := leaveS a.edges s) (k := p.1) (by have := of_decide_eq_true hc3; have := leave_len s 0 a.edges; unfold leaveS; omega)
          have hi9 := leave_at hi
          have hi0 := hi9.1
          refine hi9.2.elim fun x hx9 => ?_
          have hex := hx9.1
          have hx := hx9.2.1
          have hltx := get_lt' hx
          have hme := List.mem_of_getElem? hex
          refine AW.skip ?_
          refine thenN ?_
          refine AW.seq ?_
          refine AW.block ?_
          refine AW.seq ?_
          refine AW.region ?_
          refine AOL.p (P_indexAddr (c := [.int .i64 _]) tok rfl rfl rfl rfl rfl rfl (by omega) (cI_at hi)) rfl ?_
          refine AOL.p (P_load_ptr (c := .int .i64 _) tok rfl rfl rfl) rfl ?_
          refine AOL.p (P_assign (v := .int .i64 _) rfl) rfl ?_
          refine AOL.nil ?_
          refine thenN ?_
          refine AW.region ?_
          refine AOL.p (P_move (v := .row _ _ _) rfl) rfl ?_
          refine AOL.p (P_fieldAddr_ptr (cs' := [_]) tok rfl rfl rfl rfl rfl rfl) rfl ?_
          refine AOL.p (P_load_ptr (c := .sl _ _) tok rfl rfl rfl) rfl ?_
          refine AOL.p (P_move (v := .int .i64 _) rfl) rfl ?_
          refine AOL.p (P_indexAddr (c := [.int .i64 _, .int .i64 _, .int .i64 _, .int .i64 _, .int .i64 _, _, .int .i64 _, .int .i64 _, .int .i64 _, .int .i64 _, .int .i64 _, .str _, _, _, _, _, _]) tok rfl rfl rfl rfl rfl rfl (hi0) (cEd_at hex)) rfl ?_
          refine AOL.p (P_load_ptr_agg (l := [.int .i64 _, .int .i64 _, .int .i64 _, .int .i64 _, .int .i64 _, _, .int .i64 _, .int .i64 _, .int .i64 _, .int .i64 _, .int .i64 _, .str _, _, _, _, _, _]) tok rfl rfl rfl rfl rfl) rfl ?_
          refine AOL.p (P_callf (by kernel_rfl) rfl rfl (a_own x (hs.e x hme))) rfl ?_
          refine AOL.p (P_buildSlice (es := [[.int .i64 _, .int .i64 _, .int .i64 _, .int .i64 _, .int .i64 _, _, .int .i64 _, .int .i64 _, .int .i64 _, .int .i64 _, .int .i64 _, .str _, _, _, _, _, _]]) tok rfl rfl rfl rfl rfl rfl rfl rfl rfl) rfl ?_
          refine AOL.e (E_append (k := 0) tok rfl rfl rfl rfl rfl rfl rfl rfl (sc_one rfl) (hsc) (by simp; omega) (by simp [maxLen]; omega)) rfl ?_
          rintro _ _ ⟨v37, rfl, rfl⟩
          refine AOL.p (P_assign (v := .row _ _ _) rfl) rfl ?_
          refine AOL.nil ?_
          refine blkN ?_
          refine thenN ?_
          refine AW.region ?_
          refine AOL.p (P_add rfl rfl rfl (by constructor <;> omega)) rfl ?_
          refine AOL.p (P_move (v := .int .i64 _) rfl) rfl ?_
          refine AOL.nil ?_
          refine thenN ?_
          refine ⟨(p.1 + 1, p.2.1 ++ [cEd x], v37), ?_, ?_, GS.weaken ⟨rfl, rfl, rfl, rfl, rfl, trivial⟩ (.refl _)⟩
          · exact ⟨hltx, by simp only; rw [take_succ_map _ hx, hR.2]⟩
          · simp only; omega
        · skip
          have hk : (fromS a.edges s).length ≤ p.1 := by have := of_decide_eq_false hc3; omega
          refine AW.exit ?_
          refine thenE ?_
          refine thenE ?_
          refine blkHit ?_
          refine thenN ?_
          refine AW.seq ?_
          refine AW.region ?_
          refine AOL.p (P_move (v := .row _ _ _) rfl) rfl ?_
          refine AOL.ghost (GS.unrow 39 rfl) ?_
          refine AOL.p (P_assign (v := .sl _ _) rfl) rfl ?_
          refine AOL.p (P_assign (v := .int .i64 _) rfl) rfl ?_
          refine AOL.nil ?_
          refine thenN ?_
          refine AW.ret ?_
          refine ⟨.inr rfl, [.sl _ _, .int .i64 _], .cons (.tmp _ _ rfl) <| .cons (.tmp _ _ rfl) <| .nil, .cons _ (.refl _), ?_⟩
          have h8 := hR.2
          rw [List.take_of_length_le hk] at h8
          rw [h9, h8]; rfl
set_option maxRecDepth 20000 in
set_option maxHeartbeats 800000 in
theorem a_Reachable (a : Au) (hs : Sm a) : APure Tryz.prog 22 [.agg (cAu a)] (.tuple [.sl 1 ((reachableS a).1.map cI), .int .i64 (reachableS a).2]) := by
  have hsn := hs.n
  have hsm := hs.m
  refine APure.body (n := 13) tok Tryz.func22 rfl rfl rfl fun H => ?_
  refine AW.seq ?_
  refine AW.region ?_
  refine AOL.p (P_box (v := .agg _) (cs := [.int .i64 _, .int .i64 _, _, _]) rfl rfl rfl) rfl ?_
  refine AOL.p (P_assign_nil (z := 1) rfl) rfl ?_
  refine AOL.p (P_assign (v := .int .i64 _) rfl) rfl ?_
  refine AOL.nil ?_
  refine thenN ?_
  refine AW.seq ?_
  refine AW.seq ?_
  refine AW.region ?_
  refine AOL.p (P_load_ptr_agg (l := [.int .i64 _, .int .i64 _, _, _]) tok rfl rfl rfl rfl rfl) rfl ?_
  refine AOL.p (P_callf (by kernel_rfl) rfl rfl (a_Check a hs)) rfl ?_
  refine AOL.p (P_assign (v := .int .i64 _) rfl) rfl ?_
  refine AOL.nil ?_
  refine thenN ?_
  refine AW.seq ?_
  refine AW.region ?_
  refine AOL.p (P_move (v := .int .i64 _) rfl) rfl ?_
  refine AOL.p (P_neq rfl rfl) rfl ?_
  refine AOL.nil ?_
  refine thenN ?_
  refine AW.cond (b := _) rfl (fun hc1 => ?_) (fun hc1 => ?_)
  · skip
    have h9 : reachableS a = ([], checkA a) := by unfold reachableS; rw [if_pos hc1]
    refine AW.seq ?_
    refine AW.region ?_
    refine AOL.p (P_move (v := .int .i64 _) rfl) rfl ?_
    refine AOL.p (P_assign_nil (z := 1) rfl) rfl ?_
    refine AOL.p (P_assign (v := .int .i64 _) rfl) rfl ?_
    refine AOL.nil ?_
    refine thenN ?_
    refine AW.ret ?_
    refine thenR ?_
    refine ⟨.inr rfl, [.sl _ _, .int .i64 _], .cons (.tmp _ _ rfl) <| .cons (.tmp _ _ rfl) <| .nil, .refl _, ?_⟩
    rw [h9]; rfl
  · skip
    have h9 : reachableS a = (numsS (reachA a), 0) := by unfold reachableS; rw [if_neg (by rw [hc1]; decide)]
    have hw : Wf a := check_wf.1 (by simpa using hc1)
    have hE := hw.edr
    have hpos := hw.pos
    refine AW.skip ?_
    refine thenN ?_
    refine AW.seq ?_
    refine AW.region ?_
    refine AOL.p (P_load_ptr_agg (l := [.int .i64 _, .int .i64 _, _, _]) tok rfl rfl rfl rfl rfl) rfl ?_
    refine AOL.p (P_callf (by kernel_rfl) rfl rfl (a_reachable a hpos hsn hsm hE)) rfl ?_
    refine AOL.p (P_callf (by kernel_rfl) rfl rfl (a_numbers _ (by have := hw.most; rw [show (reachA a).length = a.states.length from (reach_ok hw.edr hw.pos).1]; omega))) rfl ?_
    refine AOL.p (P_assign (v := .sl _ _) rfl) rfl ?_
    refine AOL.p (P_assign (v := .int .i64 _) rfl) rfl ?_
    refine AOL.nil ?_
    refine thenN ?_
    refine AW.ret ?_
    refine ⟨.inr rfl, [.sl _ _, .int .i64 _], .cons (.tmp _ _ rfl) <| .cons (.tmp _ _ rfl) <| .nil, .refl _, ?_⟩
    rw [h9]; rfl
set_option maxRecDepth 20000 in
set_option maxHeartbeats 800000 in
theorem a_Useful (a : Au) (hs : Sm a) : APure Tryz.prog 27 [.agg (cAu a)] (.tuple [.sl 1 ((usefulS a).1.map cI), .int .i64 (usefulS a).2]) := by
  have hsn := hs.n
  have hsm := hs.m
  refine APure.body (n := 13) tok Tryz.func27 rfl rfl rfl fun H => ?_
  refine AW.seq ?_
  refine AW.region ?_
  refine AOL.p (P_box (v := .agg _) (cs := [.int .i64 _, .int .i64 _, _, _]) rfl rfl rfl) rfl ?_
  refine AOL.p (P_assign_nil (z := 1) rfl) rfl ?_
  refine AOL.p (P_assign (v := .int .i64 _) rfl) rfl ?_
  refine AOL.nil ?_
  refine thenN ?_
  refine AW.seq ?_
  refine AW.seq ?_
  refine AW.region ?_
  refine AOL.p (P_load_ptr_agg (l := [.int .i64 _, .int .i64 _, _, _]) tok rfl rfl rfl rfl rfl) rfl ?_
  refine AOL.p (P_callf (by kernel_rfl) rfl rfl (a_Check a hs)) rfl ?_
  refine AOL.p (P_assign (v := .int .i64 _) rfl) rfl ?_
  refine AOL.nil ?_
  refine thenN ?_
  refine AW.seq ?_
  refine AW.region ?_
  refine AOL.p (P_move (v := .int .i64 _) rfl) rfl ?_
  refine AOL.p (P_neq rfl rfl) rfl ?_
  refine AOL.nil ?_
  refine thenN ?_
  refine AW.cond (b := _) rfl (fun hc1 => ?_) (fun hc1 => ?_)
  · skip
    have h9 : usefulS a = ([], checkA a) := by unfold usefulS; rw [if_pos hc1]
    refine AW.seq ?_
    refine AW.region ?_
    refine AOL.p (P_move (v := .int .i64 _) rfl) rfl ?_
    refine AOL.p (P_assign_nil (z := 1) rfl) rfl ?_
    refine AOL.p (P_assign (v := .int .i64 _) rfl) rfl ?_
    refine AOL.nil ?_
    refine thenN ?_
    refine AW.ret ?_
    refine thenR ?_
    refine ⟨.inr rfl, [.sl _ _, .int .i64 _], .cons (.tmp _ _ rfl) <| .cons (.tmp _ _ rfl) <| .nil, .refl _, ?_⟩
    rw [h9]; rfl
  · skip
    have h9 : usefulS a = (numsS (usefulA a), 0) := by unfold usefulS; rw [if_neg (by rw [hc1]; decide)]
    have hw : Wf a := check_wf.1 (by simpa using hc1)
    have hE := hw.edr
    have hpos := hw.pos
    refine AW.skip ?_
    refine thenN ?_
    refine AW.seq ?_
    refine AW.region ?_
    refine AOL.p (P_load_ptr_agg (l := [.int .i64 _, .int .i64 _, _, _]) tok rfl rfl rfl rfl rfl) rfl ?_
    refine AOL.p (P_callf (by kernel_rfl) rfl rfl (a_useful a hsn hsm hE)) rfl ?_
    refine AOL.p (P_callf (by kernel_rfl) rfl rfl (a_numbers _ (by have := hw.most; rw [show (usefulA a).length = a.states.length from (useful_ok hw.edr).1]; omega))) rfl ?_
    refine AOL.p (P_assign (v := .sl _ _) rfl) rfl ?_
    refine AOL.p (P_assign (v := .int .i64 _) rfl) rfl ?_
    refine AOL.nil ?_
    refine thenN ?_
    refine AW.ret ?_
    refine ⟨.inr rfl, [.sl _ _, .int .i64 _], .cons (.tmp _ _ rfl) <| .cons (.tmp _ _ rfl) <| .nil, .refl _, ?_⟩
    rw [h9]; rfl
end Go.Proofs.YtoolcpnahmgnnaaGreatDoor
