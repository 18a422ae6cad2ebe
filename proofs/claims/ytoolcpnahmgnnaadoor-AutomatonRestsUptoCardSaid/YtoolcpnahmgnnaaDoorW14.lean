/-
  Walks of layer 23: isomorphism. No condition.
-/
import Derived.Test.YtoolcpnahmgnnaaDoorW13
import Derived.Test.YtoolcpnahmgnnaaDoorW8
import Derived.KernelRfl
namespace Go.Proofs.YtoolcpnahmgnnaaDoor
open Go Go.Aw
set_option linter.unusedVariables false
set_option linter.unusedSimpArgs false

def isoP (a b : Au) : Pg := if (a.vars != b.vars) || (a.scopes != b.scopes) then (none1 a.states.length, none1 b.states.length) else (isoD a b).2
theorem isoP_yes {a b : Au} (h : ((a.vars != b.vars) || (a.scopes != b.scopes)) = false) : isoP a b = (isoD a b).2 := if_neg (by rw [h]; decide)
theorem isoP_no {a b : Au} (h : ((a.vars != b.vars) || (a.scopes != b.scopes)) = true) : isoP a b = (none1 a.states.length, none1 b.states.length) := if_pos h
theorem not_gF {b : Bool} (h : ¬ allG [(b, false)]) : b = true := by
  cases b with
  | true => rfl
  | false => exact absurd (fun p hp => by rw [List.mem_singleton.1 hp]) h
theorem two_at {a b : Au} (sa : Sm a) (sb : Sm b) {k : Nat} (h : k < 2) : ∃ x, [cAu a, cAu b][k]? = some (cAu x) ∧ Sm x ∧ ((k = 0 ∧ x = a) ∨ (k = 1 ∧ x = b)) := by
  match k, h with
  | 0, _ => exact ⟨a, rfl, sa, .inl ⟨rfl, rfl⟩⟩
  | 1, _ => exact ⟨b, rfl, sb, .inr ⟨rfl, rfl⟩⟩
  | k + 2, h => exact absurd h (by omega)
theorem isoS_err {a b x : Au} {k : Nat} (h1 : (k = 0 ∧ x = a) ∨ (k = 1 ∧ x = b)) (h2 : 1 ≤ k → checkA a = 0) (h : (checkA x != 0) = true) : isoS a b = ([], false, checkA x) := by
  rcases h1 with ⟨_, rfl⟩ | ⟨hk, rfl⟩
  · unfold isoS; exact if_pos h
  · unfold isoS; rw [h2 (by omega)]; exact (if_neg (by decide)).trans (if_pos h)
theorem isoS_no {a b : Au} (ha : checkA a = 0) (hb : checkA b = 0) (h : (((a.vars != b.vars) || (a.scopes != b.scopes)) || !((isoD a b).1)) = true) : isoS a b = ([], false, 0) := by
  unfold isoS; rw [ha, hb]; exact (if_neg (by decide)).trans ((if_neg (by decide)).trans (if_pos h))
theorem isoS_yes {a b : Au} (ha : checkA a = 0) (hb : checkA b = 0) (h : (((a.vars != b.vars) || (a.scopes != b.scopes)) || !((isoD a b).1)) = false) : isoS a b = ((isoD a b).2.1, true, 0) := by
  unfold isoS; rw [ha, hb]; exact (if_neg (by decide)).trans ((if_neg (by decide)).trans (if_neg (Bool.eq_false_iff.mp h)))
theorem unp_none (n : Nat) : unp (none1 n) < n + 1 := by
  have := unp_bound (none1 n)
  unfold none1 at this ⊢
  rw [List.length_replicate] at this; omega
set_option maxRecDepth 20000 in
set_option maxHeartbeats 12800000 in
theorem a_Isomorphic (a b : Au) (sa : Sm a) (sb : Sm b) : APure Tryd.prog 19 [.agg (cAu a), .agg (cAu b)] (.tuple [.sl 1 ((isoS a b).1.map cI), .bool (isoS a b).2.1, .int .i64 (isoS a b).2.2]) := by
  refine APure.body (n := 60) tok Tryd.func19 rfl rfl rfl fun H => ?_
  refine AW.seq ?_
  refine AW.region ?_
  refine AOL.p (P_box (v := .agg _) (cs := [.int .i64 _, .int .i64 _, _, _]) rfl rfl rfl) rfl ?_
  refine AOL.p (P_box (v := .agg _) (cs := [.int .i64 _, .int .i64 _, _, _]) rfl rfl rfl) rfl ?_
  refine AOL.p (P_assign_nil (z := 1) rfl) rfl ?_
  refine AOL.p (P_assign (v := .bool _) rfl) rfl ?_
  refine AOL.p (P_assign (v := .int .i64 _) rfl) rfl ?_
  refine AOL.nil ?_
  refine thenN ?_
  refine AW.seq ?_
  refine AW.seq ?_
  refine AW.region ?_
  refine AOL.p (P_load_ptr_agg (l := [.int .i64 _, .int .i64 _, _, _]) tok rfl rfl rfl rfl rfl) rfl ?_
  refine AOL.p (P_load_ptr_agg (l := [.int .i64 _, .int .i64 _, _, _]) tok rfl rfl rfl rfl rfl) rfl ?_
  refine AOL.p (P_buildSlice (es := [[.int .i64 _, .int .i64 _, _, _], [.int .i64 _, .int .i64 _, _, _]]) tok rfl rfl rfl rfl rfl rfl rfl rfl rfl) rfl ?_
  refine AOL.p (P_len_sl (n := 2) tok rfl rfl rfl (rfl)) rfl ?_
  refine AOL.p (P_move (v := .int .i64 _) rfl) rfl ?_
  refine AOL.nil ?_
  refine thenN ?_
  refine AW.block ?_
  refine AW.loopS (fun (k : Nat) => (⟨[(2, .ptr (cAu a)), (3, .ptr (cAu b)), (13, .sl 4 [cAu a, cAu b]), (14, .int .i64 2), (15, .int .i64 (k : Int))], H, 60⟩ : St)) (fun (k : Nat) => k ≤ 2 ∧ (1 ≤ k → checkA a = 0) ∧ (2 ≤ k → checkA b = 0)) (fun (k : Nat) => 2 - k) (0) ?_ (GS.weaken ⟨rfl, rfl, rfl, rfl, rfl, trivial⟩ (.refl _)) ?_
  · exact ⟨by decide, fun h => absurd h (by decide), fun h => absurd h (by decide)⟩
  · rintro k hR
    refine AW.seq ?_
    refine AW.region ?_
    refine AOL.p (P_lss rfl rfl) rfl ?_
    refine AOL.nil ?_
    refine thenN ?_
    refine AW.seq ?_
    refine AW.cond (b := _) rfl (fun hc1 => ?_) (fun hc1 => ?_)
    · skip
      have hk2 : k < 2 := by have := of_decide_eq_true hc1; omega
      refine (two_at sa sb hk2).elim fun x hx9 => ?_
      have hx := hx9.1
      have hsx := hx9.2.1
      have hxk := hx9.2.2
      refine AW.skip ?_
      refine thenN ?_
      refine AW.seq ?_
      refine AW.block ?_
      refine AW.seq ?_
      refine AW.region ?_
      refine AOL.p (P_indexAddr (c := [.int .i64 _, .int .i64 _, _, _]) tok rfl rfl rfl rfl rfl rfl (by omega) (hx)) rfl ?_
      refine AOL.p (P_load_ptr_agg (l := [.int .i64 _, .int .i64 _, _, _]) tok rfl rfl rfl rfl rfl) rfl ?_
      refine AOL.e (E_alloc (l := [.int .i64 0, .int .i64 0, .sl 1 [], .sl 17 []]) (by kernel_rfl)) rfl ?_
      rintro _ _ ⟨b8, rfl, rfl⟩
      refine AOL.e (E_store (k := 0) (v := .agg _) (cs' := [.int .i64 _, .int .i64 _, _, _]) (H2 := _ :: _) tok rfl rfl rfl rfl rfl rfl rfl rfl rfl) rfl ?_
      rintro _ _ ⟨rfl, rfl⟩
      refine AOL.ghost (GS.freeze (t := 8) 0 rfl rfl) ?_
      refine AOL.nil ?_
      refine thenN ?_
      refine AW.seq ?_
      refine AW.region ?_
      refine AOL.p (P_load_ptr_agg (l := [.int .i64 _, .int .i64 _, _, _]) tok rfl rfl rfl rfl rfl) rfl ?_
      refine AOL.p (P_callf (by kernel_rfl) rfl rfl (a_Check x hsx)) rfl ?_
      refine AOL.p (P_assign (v := .int .i64 _) rfl) rfl ?_
      refine AOL.nil ?_
      refine thenN ?_
      refine AW.seq ?_
      refine AW.region ?_
      refine AOL.p (P_move (v := .int .i64 _) rfl) rfl ?_
      refine AOL.p (P_neq rfl rfl) rfl ?_
      refine AOL.nil ?_
      refine thenN ?_
      refine AW.cond (b := _) rfl (fun hc2 => ?_) (fun hc2 => ?_)
      · skip
        have h9 := isoS_err hxk hR.2.1 hc2
        refine AW.seq ?_
        refine AW.region ?_
        refine AOL.p (P_move (v := .int .i64 _) rfl) rfl ?_
        refine AOL.p (P_assign_nil (z := 1) rfl) rfl ?_
        refine AOL.p (P_assign (v := .bool _) rfl) rfl ?_
        refine AOL.p (P_assign (v := .int .i64 _) rfl) rfl ?_
        refine AOL.nil ?_
        refine thenN ?_
        refine AW.ret ?_
        refine blkR ?_
        refine thenR ?_
        refine thenR ?_
        refine blkR ?_
        refine thenR ?_
        refine ⟨.inr rfl, [.sl _ _, .bool _, .int .i64 _], .cons (.tmp _ _ rfl) <| .cons (.tmp _ _ rfl) <| .cons (.tmp _ _ rfl) <| .nil, .refl _, ?_⟩
        rw [h9]; rfl
      · skip
        have hx0 : checkA x = 0 := by simpa using hc2
        refine AW.skip ?_
        refine blkN ?_
        refine thenN ?_
        refine AW.region ?_
        refine AOL.p (P_add rfl rfl rfl (by constructor <;> omega)) rfl ?_
        refine AOL.p (P_move (v := .int .i64 _) rfl) rfl ?_
        refine AOL.nil ?_
        refine thenN ?_
        refine ⟨k + 1, ?_, ?_, GS.weaken ⟨rfl, rfl, rfl, rfl, rfl, trivial⟩ (.refl _)⟩
        · refine ⟨by omega, fun _ => ?_, fun h => ?_⟩
          · rcases hxk with ⟨h1, h2⟩ | ⟨h1, h2⟩
            · rw [← h2]; exact hx0
            · exact hR.2.1 (by omega)
          · rcases hxk with ⟨h1, h2⟩ | ⟨h1, h2⟩
            · omega
            · rw [← h2]; exact hx0
        · omega
    · skip
      have hk2 : 2 ≤ k := by have := of_decide_eq_false hc1; omega
      have hca := hR.2.1 (by omega)
      have hcb := hR.2.2 hk2
      have hwa : Wf a := check_wf.1 hca
      have hwb : Wf b := check_wf.1 hcb
      refine AW.exit ?_
      refine thenE ?_
      refine thenE ?_
      refine blkHit ?_
      refine thenN ?_
      refine AW.cut (fun (u : Nat × Nat) => (⟨[(2, .ptr (cAu a)), (3, .ptr (cAu b)), (10, .ptr [.int .i64 a.vars, .int .i64 a.scopes, .sl 1 (a.states.map cSt), .sl 17 (a.edges.map cEd), .int .i64 b.vars, .int .i64 b.scopes, .sl 1 (b.states.map cSt), .sl 17 (b.edges.map cEd), .val (.slice (some ⟨u.1, 0, none⟩) a.states.length a.states.length), .val (.slice (some ⟨u.2, 0, none⟩) b.states.length b.states.length)])], .box u.1 3 (bI ((none1 a.states.length, none1 b.states.length) : Pg).1) :: .box u.2 3 (bI ((none1 a.states.length, none1 b.states.length) : Pg).2) :: H, 60⟩ : St)) (fun (u : Nat × Nat) => True) ?_ ?_
      · skip
        refine AW.draw mixed (fun _ => True) trivial (by kernel_rfl) ?_
        refine Canon.pure _ _ 0 _ _ rfl (by kernel_rfl) (by kernel_rfl) rfl (.run rfl (P_load_ptr_agg (l := [.int .i64 _, .int .i64 _, _, _]) tok rfl rfl rfl rfl rfl)) ?_
        refine Canon.pure _ _ 1 _ _ rfl (by kernel_rfl) (by kernel_rfl) rfl (.run rfl (P_load_ptr_agg (l := [.int .i64 _, .int .i64 _, _, _]) tok rfl rfl rfl rfl rfl)) ?_
        refine Canon.pure _ _ 2 _ _ rfl (by kernel_rfl) (by kernel_rfl) rfl (.run rfl (P_buildSlice (es := [[.int .i64 _]]) tok rfl rfl rfl rfl rfl rfl rfl rfl rfl)) ?_
        refine Canon.pure _ _ 3 _ _ rfl (by kernel_rfl) (by kernel_rfl) rfl (.run rfl (P_fieldAddr_ptr (cs' := [_, _]) tok rfl rfl rfl rfl rfl rfl)) ?_
        refine Canon.pure _ _ 4 _ _ rfl (by kernel_rfl) (by kernel_rfl) rfl (.run rfl (P_load_ptr (c := .sl _ _) tok rfl rfl rfl)) ?_
        refine Canon.pure _ _ 5 _ _ rfl (by kernel_rfl) (by kernel_rfl) rfl (.run rfl (P_len_sl (n := a.states.length) tok rfl rfl rfl (by simp))) ?_
        refine Canon.pure _ _ 7 _ _ rfl (by kernel_rfl) (by kernel_rfl) rfl (.run rfl (P_buildSlice (es := [[.int .i64 _]]) tok rfl rfl rfl rfl rfl rfl rfl rfl rfl)) ?_
        refine Canon.pure _ _ 8 _ _ rfl (by kernel_rfl) (by kernel_rfl) rfl (.run rfl (P_fieldAddr_ptr (cs' := [_, _]) tok rfl rfl rfl rfl rfl rfl)) ?_
        refine Canon.pure _ _ 9 _ _ rfl (by kernel_rfl) (by kernel_rfl) rfl (.run rfl (P_load_ptr (c := .sl _ _) tok rfl rfl rfl)) ?_
        refine Canon.pure _ _ 10 _ _ rfl (by kernel_rfl) (by kernel_rfl) rfl (.run rfl (P_len_sl (n := b.states.length) tok rfl rfl rfl (by simp))) ?_
        refine Canon.eff _ _ 6 _ _ rfl (by kernel_rfl) rfl rfl (E_callf (by kernel_rfl) rfl rfl (s_repeat _ a.states.length hwa.pos sa.n)) (fun _ _ _ => trivial) ?_
        rintro _ _ ⟨b31, rfl, rfl⟩
        refine Canon.eff _ _ 11 _ _ rfl (by kernel_rfl) rfl rfl (E_callf (by kernel_rfl) rfl rfl (s_repeat _ b.states.length hwb.pos sb.n)) (fun _ _ _ => trivial) ?_
        rintro _ _ ⟨b36, rfl, rfl⟩
        refine Canon.pure _ _ 12 _ _ rfl (by kernel_rfl) (by kernel_rfl) rfl (.run rfl (P_build (l := [.int .i64 _, .int .i64 _, _, _, .int .i64 _, .int .i64 _, _, _, _, _]) tok rfl rfl rfl)) ?_
        refine Canon.pure _ _ 13 _ _ rfl (by kernel_rfl) (by kernel_rfl) rfl (.run rfl (P_box (v := .agg _) (cs := [.int .i64 _, .int .i64 _, _, _, .int .i64 _, .int .i64 _, _, _, _, _]) rfl rfl rfl)) ?_
        refine Canon.pure _ _ 14 _ _ rfl (by kernel_rfl) (by kernel_rfl) rfl (.run rfl (P_assign (v := .ptr _) rfl)) ?_
        refine Canon.done _ _ (by kernel_rfl) ?_
        refine thenN ?_
        refine ⟨(b31, b36), ?_, GS.trans (GS.perm (List.Perm.swap _ _ _)) (GS.weaken ⟨rfl, rfl, rfl, trivial⟩ (.refl _))⟩
        trivial
      · rintro u _
        have ihS : ∀ h : ((a.vars != b.vars) || (a.scopes != b.scopes)) = false, ACall Tryd.prog 47 (.box u.1 3 (bI ((none1 a.states.length, none1 b.states.length) : Pg).1) :: .box u.2 3 (bI ((none1 a.states.length, none1 b.states.length) : Pg).2) :: H) [.ptr [.int .i64 a.vars, .int .i64 a.scopes, .sl 1 (a.states.map cSt), .sl 17 (a.edges.map cEd), .int .i64 b.vars, .int .i64 b.scopes, .sl 1 (b.states.map cSt), .sl 17 (b.edges.map cEd), .val (.slice (some ⟨u.1, 0, none⟩) a.states.length a.states.length), .val (.slice (some ⟨u.2, 0, none⟩) b.states.length b.states.length)], .int .i64 0, .int .i64 0] (fun r H' => r = .bool (isoD a b).1 ∧ H' = .box u.1 3 (bI (isoP a b).1) :: .box u.2 3 (bI (isoP a b).2) :: H) := fun h => by rw [isoP_yes h]; exact a_pair u.1 u.2 a b sa sb hwa.edr hwb.edr H (a.states.length + 1) ((none1 a.states.length, none1 b.states.length) : Pg) 0 0 (none_inv a b) (fun _ => ⟨Int.le_refl _, hwa.pos⟩) (fun _ => ⟨Int.le_refl _, hwb.pos⟩) (unp_none _)
        refine AW.seq ?_
        refine AW.seq ?_
        refine AW.region ?_
        refine AOL.p (P_fieldAddr_ptr (cs' := [.int .i64 _, .int .i64 _, _, _]) tok rfl rfl rfl rfl rfl rfl) rfl ?_
        refine AOL.p (P_load_ptr (c := .int .i64 _) tok rfl rfl rfl) rfl ?_
        refine AOL.p (P_fieldAddr_ptr (cs' := [.int .i64 _, .int .i64 _, _, _]) tok rfl rfl rfl rfl rfl rfl) rfl ?_
        refine AOL.p (P_load_ptr (c := .int .i64 _) tok rfl rfl rfl) rfl ?_
        refine AOL.p (P_neq rfl rfl) rfl ?_
        refine AOL.p (P_move (v := .bool _) rfl) rfl ?_
        refine AOL.g (y := .ptr _) _ [] rfl (EntL.all trivial) (fun hG => P_fieldAddr_ptr (cs' := [.int .i64 _, _, _]) tok rfl rfl rfl rfl rfl rfl) rfl ?_
        refine AOL.g (y := .int .i64 _) _ [(45, _)] rfl (EntL.all ⟨Ent.self _ _, trivial⟩) (fun hG => P_load_ptr (c := .int .i64 _) tok rfl rfl rfl) rfl ?_
        refine AOL.g (y := .ptr _) _ [] rfl (EntL.all trivial) (fun hG => P_fieldAddr_ptr (cs' := [.int .i64 _, _, _]) tok rfl rfl rfl rfl rfl rfl) rfl ?_
        refine AOL.g (y := .int .i64 _) _ [(47, _)] rfl (EntL.all ⟨Ent.self _ _, trivial⟩) (fun hG => P_load_ptr (c := .int .i64 _) tok rfl rfl rfl) rfl ?_
        refine AOL.g (y := .bool _) _ [(46, _), (48, _)] rfl (EntL.all ⟨Ent.self _ _, Ent.self _ _, trivial⟩) (fun hG => P_neq rfl rfl) rfl ?_
        refine AOL.p (P_pick_or rfl rfl rfl) rfl ?_
        refine AOL.p (P_move (v := .bool _) rfl) rfl ?_
        refine AOL.g (y := .ptr _) _ [] rfl (EntL.all trivial) (fun hG => P_move (v := .ptr _) rfl) rfl ?_
        refine AOL.ge _ [(52, _)] rfl (EntL.all ⟨Ent.self _ _, trivial⟩) (fun hG => E_callf (by kernel_rfl) rfl rfl (ihS (wf1 hG))) (fun hG => congrArg (fun q : Pg => HO.box u.1 3 (bI q.1) :: HO.box u.2 3 (bI q.2) :: H) (isoP_no (not_gF hG)).symm) rfl ?_
        refine AOL.g (y := .bool _) _ [(53, _)] rfl (EntL.all ⟨Ent.self _ _, trivial⟩) (fun hG => P_not rfl) rfl ?_
        refine AOL.p (P_pick_or rfl rfl rfl) rfl ?_
        refine AOL.nil ?_
        refine thenN ?_
        refine AW.cond (b := _) rfl (fun hc3 => ?_) (fun hc3 => ?_)
        · skip
          have h9 := isoS_no hca hcb hc3
          refine AW.seq ?_
          refine AW.region ?_
          refine AOL.p (P_assign_nil (z := 1) rfl) rfl ?_
          refine AOL.p (P_assign (v := .bool _) rfl) rfl ?_
          refine AOL.p (P_assign (v := .int .i64 _) rfl) rfl ?_
          refine AOL.nil ?_
          refine thenN ?_
          refine AW.ret ?_
          refine thenR ?_
          refine ⟨.inr rfl, [.sl _ _, .bool _, .int .i64 _], .cons (.tmp _ _ rfl) <| .cons (.tmp _ _ rfl) <| .cons (.tmp _ _ rfl) <| .nil, .cons _ (.cons _ (.refl _)), ?_⟩
          rw [h9]; rfl
        · skip
          have h9 := isoS_yes hca hcb hc3
          have h31 := Bool.or_eq_false_iff.1 hc3
          have hip := isoP_yes h31.1
          have hd1 : (isoD a b).1 = true := by simpa using h31.2
          have hpl : (isoP a b).1.length = a.states.length := by rw [hip]; exact ((pairD_ok hwa.edr hwb.edr _ _ 0 0 (none_inv a b) (fun _ => ⟨Int.le_refl _, hwa.pos⟩) (fun _ => ⟨Int.le_refl _, hwb.pos⟩) (unp_none _)).1 hd1).1.l1
          refine AW.skip ?_
          refine thenN ?_
          refine AW.seq ?_
          refine AW.region ?_
          refine AOL.p (P_move (v := .ptr _) rfl) rfl ?_
          refine AOL.p (P_nilCheck_ptr rfl) rfl ?_
          refine AOL.p (P_fieldAddr_ptr (cs' := [_, _]) tok rfl rfl rfl rfl rfl rfl) rfl ?_
          refine AOL.p (P_load_ptr (c := .val _) tok rfl rfl rfl) rfl ?_
          refine AOL.ghost (GS.freezeSl (t := 59) (z := 1) (es := (isoP a b).1.map cI) 0 rfl rfl (bI_flat _) (by rw [List.length_map]; exact hpl.symm) (Nat.le_refl _) (by have := sa.n; unfold maxLen; omega) (one_each (fun _ => rfl) _) slot_is) ?_
          skip
          refine AOL.p (P_assign (v := .sl _ _) rfl) rfl ?_
          refine AOL.p (P_assign (v := .bool _) rfl) rfl ?_
          refine AOL.p (P_assign (v := .int .i64 _) rfl) rfl ?_
          refine AOL.nil ?_
          refine thenN ?_
          refine AW.ret ?_
          refine ⟨.inr rfl, [.sl _ _, .bool _, .int .i64 _], .cons (.tmp _ _ rfl) <| .cons (.tmp _ _ rfl) <| .cons (.tmp _ _ rfl) <| .nil, .cons _ (.refl _), ?_⟩
          rw [h9, hip]; rfl
theorem sameAu_no {a b : Au} (h : (((a.vars != b.vars) || (a.scopes != b.scopes)) || ((a.states.length : Int) != (b.states.length : Int))) = true) : sameAu a b = false := by
  unfold sameAu
  cases h1 : (a.vars == b.vars)
  · rfl
  cases h2 : (a.scopes == b.scopes)
  · rfl
  rw [bne, bne, h1, h2] at h
  rw [allTwo_len sameGs (ne_len (by simpa using h))]; rfl
theorem sameAu_tail {a b : Au} (h : (((a.vars != b.vars) || (a.scopes != b.scopes)) || ((a.states.length : Int) != (b.states.length : Int))) = false) : sameAu a b = (allTwo sameGs a.states b.states && allTwo sameEdf a.edges b.edges) ∧ a.states.length = b.states.length := by
  rw [Bool.or_eq_false_iff, Bool.or_eq_false_iff] at h
  obtain ⟨⟨h1, h2⟩, h3⟩ := h
  rw [bne, Bool.not_eq_false'] at h1 h2
  unfold sameAu
  rw [h1, h2]
  exact ⟨rfl, eq_len h3⟩
set_option maxRecDepth 20000 in
set_option maxHeartbeats 1600000 in
theorem r_Same (a b : Au) (sa : Sm a) : APure Tryd.prog 10 [.agg (cAu a), .agg (cAu b)] (.bool (sameAu a b)) := by
  have hsn := sa.n
  refine APure.body (n := 53) tok Tryd.func10 rfl rfl rfl fun H => ?_
  refine AW.seq ?_
  refine AW.region ?_
  refine AOL.p (P_box (v := .agg _) (cs := [.int .i64 _, .int .i64 _, _, _]) rfl rfl rfl) rfl ?_
  refine AOL.p (P_box (v := .agg _) (cs := [.int .i64 _, .int .i64 _, _, _]) rfl rfl rfl) rfl ?_
  refine AOL.p (P_assign (v := .bool _) rfl) rfl ?_
  refine AOL.nil ?_
  refine thenN ?_
  refine AW.seq ?_
  refine AW.seq ?_
  refine AW.region ?_
  refine AOL.p (P_fieldAddr_ptr (cs' := [.int .i64 _, .int .i64 _, _, _]) tok rfl rfl rfl rfl rfl rfl) rfl ?_
  refine AOL.p (P_load_ptr (c := .int .i64 _) tok rfl rfl rfl) rfl ?_
  refine AOL.p (P_fieldAddr_ptr (cs' := [.int .i64 _, .int .i64 _, _, _]) tok rfl rfl rfl rfl rfl rfl) rfl ?_
  refine AOL.p (P_load_ptr (c := .int .i64 _) tok rfl rfl rfl) rfl ?_
  refine AOL.p (P_neq rfl rfl) rfl ?_
  refine AOL.p (P_move (v := .bool _) rfl) rfl ?_
  refine AOL.g (y := .ptr _) _ [] rfl (EntL.all trivial) (fun hG => P_fieldAddr_ptr (cs' := [.int .i64 _, _, _]) tok rfl rfl rfl rfl rfl rfl) rfl ?_
  refine AOL.g (y := .int .i64 _) _ [(12, _)] rfl (EntL.all ⟨Ent.self _ _, trivial⟩) (fun hG => P_load_ptr (c := .int .i64 _) tok rfl rfl rfl) rfl ?_
  refine AOL.g (y := .ptr _) _ [] rfl (EntL.all trivial) (fun hG => P_fieldAddr_ptr (cs' := [.int .i64 _, _, _]) tok rfl rfl rfl rfl rfl rfl) rfl ?_
  refine AOL.g (y := .int .i64 _) _ [(14, _)] rfl (EntL.all ⟨Ent.self _ _, trivial⟩) (fun hG => P_load_ptr (c := .int .i64 _) tok rfl rfl rfl) rfl ?_
  refine AOL.g (y := .bool _) _ [(13, _), (15, _)] rfl (EntL.all ⟨Ent.self _ _, Ent.self _ _, trivial⟩) (fun hG => P_neq rfl rfl) rfl ?_
  refine AOL.p (P_pick_or rfl rfl rfl) rfl ?_
  refine AOL.p (P_move (v := .bool _) rfl) rfl ?_
  refine AOL.g (y := .ptr _) _ [] rfl (EntL.all trivial) (fun hG => P_fieldAddr_ptr (cs' := [_, _]) tok rfl rfl rfl rfl rfl rfl) rfl ?_
  refine AOL.g (y := .sl _ _) _ [(19, _)] rfl (EntL.all ⟨Ent.self _ _, trivial⟩) (fun hG => P_load_ptr (c := .sl _ _) tok rfl rfl rfl) rfl ?_
  refine AOL.g (y := .int .i64 _) _ [(20, _)] rfl (EntL.all ⟨Ent.self _ _, trivial⟩) (fun hG => P_len_sl (n := a.states.length) tok rfl rfl rfl (by simp)) rfl ?_
  refine AOL.g (y := .ptr _) _ [] rfl (EntL.all trivial) (fun hG => P_fieldAddr_ptr (cs' := [_, _]) tok rfl rfl rfl rfl rfl rfl) rfl ?_
  refine AOL.g (y := .sl _ _) _ [(22, _)] rfl (EntL.all ⟨Ent.self _ _, trivial⟩) (fun hG => P_load_ptr (c := .sl _ _) tok rfl rfl rfl) rfl ?_
  refine AOL.g (y := .int .i64 _) _ [(23, _)] rfl (EntL.all ⟨Ent.self _ _, trivial⟩) (fun hG => P_len_sl (n := b.states.length) tok rfl rfl rfl (by simp)) rfl ?_
  refine AOL.g (y := .bool _) _ [(21, _), (24, _)] rfl (EntL.all ⟨Ent.self _ _, Ent.self _ _, trivial⟩) (fun hG => P_neq rfl rfl) rfl ?_
  refine AOL.p (P_pick_or rfl rfl rfl) rfl ?_
  refine AOL.nil ?_
  refine thenN ?_
  refine AW.cond (b := _) rfl (fun hc1 => ?_) (fun hc1 => ?_)
  · skip
    have h9 := sameAu_no hc1
    refine AW.seq ?_
    refine AW.region ?_
    refine AOL.p (P_assign (v := .bool _) rfl) rfl ?_
    refine AOL.nil ?_
    refine thenN ?_
    refine AW.ret ?_
    refine thenR ?_
    refine ⟨.inr rfl, [.bool _], .cons (.tmp _ _ rfl) <| .nil, .refl _, ?_⟩
    rw [h9]; rfl
  · skip
    have h98 := sameAu_tail hc1
    have h9 := h98.1
    have hlm := h98.2
    refine AW.skip ?_
    refine thenN ?_
    refine AW.seq ?_
    refine AW.seq ?_
    refine AW.region ?_
    refine AOL.p (P_assign (v := .int .i64 _) rfl) rfl ?_
    refine AOL.nil ?_
    refine thenN ?_
    refine AW.block ?_
    refine AW.loopS (fun (k : Nat) => (⟨[(2, .ptr (cAu a)), (3, .ptr (cAu b)), (5, .int .i64 (k : Int))], H, 53⟩ : St)) (fun (k : Nat) => k ≤ a.states.length ∧ allTwo sameGs a.states b.states = allTwo sameGs (a.states.drop k) (b.states.drop k)) (fun (k : Nat) => a.states.length - k) (0) ?_ (GS.weaken ⟨rfl, rfl, rfl, trivial⟩ (.refl _)) ?_
    · exact ⟨Nat.zero_le _, rfl⟩
    · rintro k hR
      refine AW.seq ?_
      refine AW.seq ?_
      refine AW.region ?_
      refine AOL.p (P_move (v := .int .i64 _) rfl) rfl ?_
      refine AOL.p (P_fieldAddr_ptr (cs' := [_, _]) tok rfl rfl rfl rfl rfl rfl) rfl ?_
      refine AOL.p (P_load_ptr (c := .sl _ _) tok rfl rfl rfl) rfl ?_
      refine AOL.p (P_len_sl (n := a.states.length) tok rfl rfl rfl (by simp)) rfl ?_
      refine AOL.p (P_lss rfl rfl) rfl ?_
      refine AOL.nil ?_
      refine thenN ?_
      refine AW.cond (b := _) rfl (fun hc2 => ?_) (fun hc2 => ?_)
      · skip
        obtain ⟨x, hx⟩ := get_lt2 (l := a.states) (k := k) (by have := of_decide_eq_true hc2; omega)
        have hltx := get_lt' hx
        have hmx := List.mem_of_getElem? hx
        obtain ⟨y, hy⟩ := get_lt2 (l := b.states) (k := k) (by omega)
        have hg := hR.2
        rw [allTwo_drop _ hx hy] at hg
        refine AW.skip ?_
        refine thenN ?_
        refine AW.seq ?_
        refine AW.block ?_
        refine AW.seq ?_
        refine AW.draw mixed (fun _ => True) trivial (by kernel_rfl) ?_
        refine Canon.pure _ _ 0 _ _ rfl (by kernel_rfl) (by kernel_rfl) rfl (.run rfl (P_fieldAddr_ptr (cs' := [_, _]) tok rfl rfl rfl rfl rfl rfl)) ?_
        refine Canon.pure _ _ 1 _ _ rfl (by kernel_rfl) (by kernel_rfl) rfl (.run rfl (P_load_ptr (c := .sl _ _) tok rfl rfl rfl)) ?_
        refine Canon.pure _ _ 2 _ _ rfl (by kernel_rfl) (by kernel_rfl) rfl (.run rfl (P_move (v := .int .i64 _) rfl)) ?_
        refine Canon.pure _ _ 3 _ _ rfl (by kernel_rfl) (by kernel_rfl) rfl (.run rfl (P_indexAddr (c := [_]) tok rfl rfl rfl rfl rfl rfl (by omega) (cSt_at hx))) ?_
        refine Canon.pure _ _ 4 _ _ rfl (by kernel_rfl) (by kernel_rfl) rfl (.run rfl (P_fieldAddr_ptr (cs' := [_]) tok rfl rfl rfl rfl rfl rfl)) ?_
        refine Canon.pure _ _ 5 _ _ rfl (by kernel_rfl) (by kernel_rfl) rfl (.run rfl (P_load_ptr (c := .sl _ _) tok rfl rfl rfl)) ?_
        refine Canon.pure _ _ 6 _ _ rfl (by kernel_rfl) (by kernel_rfl) rfl (.run rfl (P_fieldAddr_ptr (cs' := [_, _]) tok rfl rfl rfl rfl rfl rfl)) ?_
        refine Canon.pure _ _ 7 _ _ rfl (by kernel_rfl) (by kernel_rfl) rfl (.run rfl (P_load_ptr (c := .sl _ _) tok rfl rfl rfl)) ?_
        refine Canon.pure _ _ 8 _ _ rfl (by kernel_rfl) (by kernel_rfl) rfl (.run rfl (P_move (v := .int .i64 _) rfl)) ?_
        refine Canon.pure _ _ 9 _ _ rfl (by kernel_rfl) (by kernel_rfl) rfl (.run rfl (P_indexAddr (c := [_]) tok rfl rfl rfl rfl rfl rfl (by omega) (cSt_at hy))) ?_
        refine Canon.pure _ _ 10 _ _ rfl (by kernel_rfl) (by kernel_rfl) rfl (.run rfl (P_fieldAddr_ptr (cs' := [_]) tok rfl rfl rfl rfl rfl rfl)) ?_
        refine Canon.pure _ _ 11 _ _ rfl (by kernel_rfl) (by kernel_rfl) rfl (.run rfl (P_load_ptr (c := .sl _ _) tok rfl rfl rfl)) ?_
        refine Canon.pure _ _ 12 _ _ rfl (by kernel_rfl) (by kernel_rfl) rfl (.run rfl (P_callf (by kernel_rfl) rfl rfl (r22_Guards x y (sa.g x hmx)))) ?_
        refine Canon.pure _ _ 13 _ _ rfl (by kernel_rfl) (by kernel_rfl) rfl (.run rfl (P_not rfl)) ?_
        refine Canon.done _ _ (by kernel_rfl) ?_
        refine thenN ?_
        refine AW.cond (b := _) rfl (fun hc3 => ?_) (fun hc3 => ?_)
        · skip
          rw [not_t hc3, Bool.false_and] at hg
          rw [hg, Bool.false_and] at h9
          refine AW.seq ?_
          refine AW.region ?_
          refine AOL.p (P_assign (v := .bool _) rfl) rfl ?_
          refine AOL.nil ?_
          refine thenN ?_
          refine AW.ret ?_
          refine blkR ?_
          refine thenR ?_
          refine thenR ?_
          refine blkR ?_
          refine thenR ?_
          refine ⟨.inr rfl, [.bool _], .cons (.tmp _ _ rfl) <| .nil, .refl _, ?_⟩
          rw [h9]; rfl
        · skip
          rw [not_f hc3, Bool.true_and] at hg
          refine AW.skip ?_
          refine blkN ?_
          refine thenN ?_
          refine AW.region ?_
          refine AOL.p (P_move (v := .int .i64 _) rfl) rfl ?_
          refine AOL.p (P_add rfl rfl rfl (by constructor <;> omega)) rfl ?_
          refine AOL.p (P_assign (v := .int .i64 _) rfl) rfl ?_
          refine AOL.nil ?_
          refine thenN ?_
          refine ⟨k + 1, ?_, ?_, GS.weaken ⟨rfl, rfl, rfl, trivial⟩ (.refl _)⟩
          · exact ⟨hltx, hg⟩
          · omega
      · skip
        have hk : a.states.length ≤ k := by have := of_decide_eq_false hc2; omega
        have hg := hR.2
        rw [allTwo_end _ hk hlm] at hg
        rw [hg, Bool.true_and] at h9
        refine AW.exit ?_
        refine thenE ?_
        refine thenE ?_
        refine blkHit ?_
        refine thenN ?_
        refine AW.seq ?_
        refine AW.region ?_
        refine AOL.p (P_fieldAddr_ptr (cs' := [_]) tok rfl rfl rfl rfl rfl rfl) rfl ?_
        refine AOL.p (P_load_ptr (c := .sl _ _) tok rfl rfl rfl) rfl ?_
        refine AOL.p (P_fieldAddr_ptr (cs' := [_]) tok rfl rfl rfl rfl rfl rfl) rfl ?_
        refine AOL.p (P_load_ptr (c := .sl _ _) tok rfl rfl rfl) rfl ?_
        refine AOL.p (P_callf (by kernel_rfl) rfl rfl (r22_Edges a.edges b.edges sa.m sa.e)) rfl ?_
        refine AOL.p (P_assign (v := .bool _) rfl) rfl ?_
        refine AOL.nil ?_
        refine thenN ?_
        refine AW.ret ?_
        refine ⟨.inr rfl, [.bool _], .cons (.tmp _ _ rfl) <| .nil, .refl _, ?_⟩
        rw [h9]; rfl
def fewE (e : Ex) : Bool := decide (sizeN e ≤ 200 ∧ depthN e ≤ 100)
def fewG (l : List Gu) : Bool := l.all fun g => fewE g.cond
theorem all_drop {α : Type} {l : List α} {k : Nat} {a : α} (f : α → Bool) (h : l[k]? = some a) : (l.drop k).all f = (f a && (l.drop (k + 1)).all f) := by
  rw [drop_cons h, List.all_cons]
theorem r_FewE (e : Ex) (hs : sizeN e ≤ 1048576) : APure Tryd.prog 13 [.agg (cE e)] (.bool (fewE e)) := c34 e hs
set_option maxRecDepth 20000 in
set_option maxHeartbeats 800000 in
theorem r_few (l : List Gu) (hs : GsSm l) : APure Tryd.prog 12 [.sl 11 (l.map cGu)] (.bool (fewG l)) := by
  have hll := hs.1
  refine APure.body (n := 17) tok Tryd.func12 rfl rfl rfl fun H => ?_
  refine AW.seq ?_
  refine AW.region ?_
  refine AOL.p (P_assign (v := .bool _) rfl) rfl ?_
  refine AOL.nil ?_
  refine thenN ?_
  refine AW.seq ?_
  refine AW.seq ?_
  refine AW.region ?_
  refine AOL.p (P_assign (v := .int .i64 _) rfl) rfl ?_
  refine AOL.nil ?_
  refine thenN ?_
  refine AW.block ?_
  refine AW.loopS (fun (k : Nat) => (⟨[(0, .sl 11 (l.map cGu)), (3, .int .i64 (k : Int))], H, 17⟩ : St)) (fun (k : Nat) => k ≤ l.length ∧ fewG l = (l.drop k).all fun g => fewE g.cond) (fun (k : Nat) => l.length - k) (0) ?_ (GS.weaken ⟨rfl, rfl, trivial⟩ (.refl _)) ?_
  · exact ⟨Nat.zero_le _, rfl⟩
  · rintro k hR
    refine AW.seq ?_
    refine AW.seq ?_
    refine AW.region ?_
    refine AOL.p (P_move (v := .int .i64 _) rfl) rfl ?_
    refine AOL.p (P_move (v := .sl _ _) rfl) rfl ?_
    refine AOL.p (P_len_sl (n := l.length) tok rfl rfl rfl (by simp)) rfl ?_
    refine AOL.p (P_lss rfl rfl) rfl ?_
    refine AOL.nil ?_
    refine thenN ?_
    refine AW.cond (b := _) rfl (fun hc1 => ?_) (fun hc1 => ?_)
    · skip
      obtain ⟨x, hx⟩ := get_lt2 (l := l) (k := k) (by have := of_decide_eq_true hc1; omega)
      have hltx := get_lt' hx
      have hmx := List.mem_of_getElem? hx
      have hg := hR.2
      rw [all_drop _ hx] at hg
      refine AW.skip ?_
      refine thenN ?_
      refine AW.seq ?_
      refine AW.block ?_
      refine AW.seq ?_
      refine AW.region ?_
      refine AOL.p (P_move (v := .sl _ _) rfl) rfl ?_
      refine AOL.p (P_move (v := .int .i64 _) rfl) rfl ?_
      refine AOL.p (P_indexAddr (c := [.int .i64 _, .int .i64 _, .int .i64 _, .int .i64 _, _, .int .i64 _, .int .i64 _, .int .i64 _, .int .i64 _, .int .i64 _, .str _]) tok rfl rfl rfl rfl rfl rfl (by omega) (cGu_at hx)) rfl ?_
      refine AOL.p (P_fieldAddr_ptr (cs' := [.int .i64 _, _, .int .i64 _, .int .i64 _, .int .i64 _, .int .i64 _, .int .i64 _, .str _]) tok rfl rfl rfl rfl rfl rfl) rfl ?_
      refine AOL.p (P_load_ptr_agg (l := [.int .i64 _, _, .int .i64 _, .int .i64 _, .int .i64 _, .int .i64 _, .int .i64 _, .str _]) tok rfl rfl rfl rfl rfl) rfl ?_
      refine AOL.p (P_callf (by kernel_rfl) rfl rfl (r_FewE x.cond (hs.2 x hmx))) rfl ?_
      refine AOL.p (P_not rfl) rfl ?_
      refine AOL.nil ?_
      refine thenN ?_
      refine AW.cond (b := _) rfl (fun hc2 => ?_) (fun hc2 => ?_)
      · skip
        rw [not_t hc2, Bool.false_and] at hg
        refine AW.seq ?_
        refine AW.region ?_
        refine AOL.p (P_assign (v := .bool _) rfl) rfl ?_
        refine AOL.nil ?_
        refine thenN ?_
        refine AW.ret ?_
        refine blkR ?_
        refine thenR ?_
        refine thenR ?_
        refine blkR ?_
        refine thenR ?_
        refine ⟨.inr rfl, [.bool _], .cons (.tmp _ _ rfl) <| .nil, .refl _, ?_⟩
        rw [hg]; rfl
      · skip
        rw [not_f hc2, Bool.true_and] at hg
        refine AW.skip ?_
        refine blkN ?_
        refine thenN ?_
        refine AW.region ?_
        refine AOL.p (P_move (v := .int .i64 _) rfl) rfl ?_
        refine AOL.p (P_add rfl rfl rfl (by constructor <;> omega)) rfl ?_
        refine AOL.p (P_assign (v := .int .i64 _) rfl) rfl ?_
        refine AOL.nil ?_
        refine thenN ?_
        refine ⟨k + 1, ?_, ?_, GS.weaken ⟨rfl, rfl, trivial⟩ (.refl _)⟩
        · exact ⟨hltx, hg⟩
        · omega
    · skip
      have hk2 : l.length ≤ k := by have := of_decide_eq_false hc1; omega
      have hg := hR.2
      rw [List.drop_eq_nil_of_le hk2] at hg
      refine AW.exit ?_
      refine thenE ?_
      refine thenE ?_
      refine blkHit ?_
      refine thenN ?_
      refine AW.seq ?_
      refine AW.region ?_
      refine AOL.p (P_assign (v := .bool _) rfl) rfl ?_
      refine AOL.nil ?_
      refine thenN ?_
      refine AW.ret ?_
      refine ⟨.inr rfl, [.bool _], .cons (.tmp _ _ rfl) <| .nil, .refl _, ?_⟩
      rw [hg]; rfl
def stOk (s : List Gu) : Bool := !(((decide (12 < (s.length : Int)) && decide ((s.length : Int) ≤ 64)) || decide (70 < (s.length : Int))) || !(fewG s))
def edHead (x : Ed) : Bool := ((((!(fewE x.cond) || decide (8 < (x.checks.length : Int))) || decide (12 < (x.opens.length : Int))) || decide (12 < (x.closes.length : Int))) || decide (12 < (x.inside.length : Int))) || decide (12 < (x.limits.length : Int))
def edOk (x : Ed) : Bool := !(edHead x) && x.checks.all fewE
def fewA (a : Au) : Bool := ((a.states.take 30).all stOk && (a.edges.take 60).all edOk) && (decide ((a.states.length : Int) ≤ 20) && decide ((a.edges.length : Int) ≤ 40))
theorem few_at {α : Type} {l : List α} {k n : Nat} {x : α} (h : (decide ((k : Int) < (l.length : Int)) && decide ((k : Int) < (n : Int))) = true) (hx : l[k]? = some x) : (l.take n)[k]? = some x := by
  rw [Bool.and_eq_true, decide_eq_true_eq, decide_eq_true_eq] at h
  rw [List.getElem?_take, if_pos (by omega)]; exact hx
theorem few_end {α : Type} {l : List α} {k n : Nat} (f : α → Bool) (h : (decide ((k : Int) < (l.length : Int)) && decide ((k : Int) < (n : Int))) = false) : ((l.take n).drop k).all f = true := by
  rw [List.drop_eq_nil_of_le]
  · rfl
  · rw [List.length_take]
    rw [Bool.and_eq_false_iff, decide_eq_false_iff_not, decide_eq_false_iff_not] at h
    omega
set_option maxRecDepth 20000 in
set_option maxHeartbeats 6400000 in
theorem r_Few (a : Au) (sa : Sm a) : APure Tryd.prog 4 [.agg (cAu a)] (.bool (fewA a)) := by
  have hsn := sa.n
  have hsm := sa.m
  refine APure.body (n := 130) tok Tryd.func4 rfl rfl rfl fun H => ?_
  refine AW.seq ?_
  refine AW.region ?_
  refine AOL.p (P_box (v := .agg _) (cs := [.int .i64 _, .int .i64 _, _, _]) rfl rfl rfl) rfl ?_
  refine AOL.p (P_assign (v := .bool _) rfl) rfl ?_
  refine AOL.nil ?_
  refine thenN ?_
  refine AW.seq ?_
  refine AW.seq ?_
  refine AW.region ?_
  refine AOL.p (P_assign (v := .int .i64 _) rfl) rfl ?_
  refine AOL.nil ?_
  refine thenN ?_
  refine AW.block ?_
  refine AW.loopS (fun (k : Nat) => (⟨[(1, .ptr (cAu a)), (3, .int .i64 (k : Int))], H, 130⟩ : St)) (fun (k : Nat) => k ≤ a.states.length ∧ (a.states.take 30).all stOk = ((a.states.take 30).drop k).all stOk) (fun (k : Nat) => a.states.length - k) (0) ?_ (GS.weaken ⟨rfl, rfl, trivial⟩ (.refl _)) ?_
  · exact ⟨Nat.zero_le _, rfl⟩
  · rintro k hR
    refine AW.seq ?_
    refine AW.seq ?_
    refine AW.region ?_
    refine AOL.p (P_move (v := .int .i64 _) rfl) rfl ?_
    refine AOL.p (P_fieldAddr_ptr (cs' := [_, _]) tok rfl rfl rfl rfl rfl rfl) rfl ?_
    refine AOL.p (P_load_ptr (c := .sl _ _) tok rfl rfl rfl) rfl ?_
    refine AOL.p (P_len_sl (n := a.states.length) tok rfl rfl rfl (by simp)) rfl ?_
    refine AOL.p (P_lss rfl rfl) rfl ?_
    refine AOL.p (P_move (v := .bool _) rfl) rfl ?_
    refine AOL.g (y := .int .i64 _) _ [] rfl (EntL.all trivial) (fun hG => P_move (v := .int .i64 _) rfl) rfl ?_
    refine AOL.g (y := .bool _) _ [(13, _)] rfl (EntL.all ⟨Ent.self _ _, trivial⟩) (fun hG => P_lss rfl rfl) rfl ?_
    refine AOL.p (P_pick_and rfl rfl rfl) rfl ?_
    refine AOL.nil ?_
    refine thenN ?_
    refine AW.cond (b := _) rfl (fun hc1 => ?_) (fun hc1 => ?_)
    · skip
      have hlt3 : k < a.states.length := by have h := (Bool.and_eq_true _ _ ▸ hc1 : _ ∧ _).1; have := of_decide_eq_true h; omega
      obtain ⟨x, hx⟩ := get_lt2 (l := a.states) (k := k) hlt3
      have hmx := List.mem_of_getElem? hx
      have hg := hR.2
      rw [all_drop stOk (few_at (n := 30) hc1 hx)] at hg
      refine AW.skip ?_
      refine thenN ?_
      refine AW.seq ?_
      refine AW.block ?_
      refine AW.seq ?_
      refine AW.region ?_
      refine AOL.p (P_fieldAddr_ptr (cs' := [_, _]) tok rfl rfl rfl rfl rfl rfl) rfl ?_
      refine AOL.p (P_load_ptr (c := .sl _ _) tok rfl rfl rfl) rfl ?_
      refine AOL.p (P_move (v := .int .i64 _) rfl) rfl ?_
      refine AOL.p (P_indexAddr (c := [_]) tok rfl rfl rfl rfl rfl rfl (by omega) (cSt_at hx)) rfl ?_
      refine AOL.p (P_fieldAddr_ptr (cs' := [_]) tok rfl rfl rfl rfl rfl rfl) rfl ?_
      refine AOL.p (P_load_ptr (c := .sl _ _) tok rfl rfl rfl) rfl ?_
      refine AOL.p (P_len_sl (n := x.length) tok rfl rfl rfl (by simp)) rfl ?_
      refine AOL.p (P_gtr rfl rfl) rfl ?_
      refine AOL.p (P_move (v := .bool _) rfl) rfl ?_
      refine AOL.g (y := .ptr _) _ [] rfl (EntL.all trivial) (fun hG => P_fieldAddr_ptr (cs' := [_, _]) tok rfl rfl rfl rfl rfl rfl) rfl ?_
      refine AOL.g (y := .sl _ _) _ [(27, _)] rfl (EntL.all ⟨Ent.self _ _, trivial⟩) (fun hG => P_load_ptr (c := .sl _ _) tok rfl rfl rfl) rfl ?_
      refine AOL.g (y := .int .i64 _) _ [] rfl (EntL.all trivial) (fun hG => P_move (v := .int .i64 _) rfl) rfl ?_
      refine AOL.g (y := .ptr _) _ [(28, _), (29, _)] rfl (EntL.all ⟨Ent.self _ _, Ent.self _ _, trivial⟩) (fun hG => P_indexAddr (c := [_]) tok rfl rfl rfl rfl rfl rfl (by omega) (cSt_at hx)) rfl ?_
      refine AOL.g (y := .ptr _) _ [(30, _)] rfl (EntL.all ⟨Ent.self _ _, trivial⟩) (fun hG => P_fieldAddr_ptr (cs' := [_]) tok rfl rfl rfl rfl rfl rfl) rfl ?_
      refine AOL.g (y := .sl _ _) _ [(31, _)] rfl (EntL.all ⟨Ent.self _ _, trivial⟩) (fun hG => P_load_ptr (c := .sl _ _) tok rfl rfl rfl) rfl ?_
      refine AOL.g (y := .int .i64 _) _ [(32, _)] rfl (EntL.all ⟨Ent.self _ _, trivial⟩) (fun hG => P_len_sl (n := x.length) tok rfl rfl rfl (by simp)) rfl ?_
      refine AOL.g (y := .bool _) _ [(33, _)] rfl (EntL.all ⟨Ent.self _ _, trivial⟩) (fun hG => P_leq rfl rfl) rfl ?_
      refine AOL.p (P_pick_and rfl rfl rfl) rfl ?_
      refine AOL.p (P_move (v := .bool _) rfl) rfl ?_
      refine AOL.g (y := .ptr _) _ [] rfl (EntL.all trivial) (fun hG => P_fieldAddr_ptr (cs' := [_, _]) tok rfl rfl rfl rfl rfl rfl) rfl ?_
      refine AOL.g (y := .sl _ _) _ [(37, _)] rfl (EntL.all ⟨Ent.self _ _, trivial⟩) (fun hG => P_load_ptr (c := .sl _ _) tok rfl rfl rfl) rfl ?_
      refine AOL.g (y := .int .i64 _) _ [] rfl (EntL.all trivial) (fun hG => P_move (v := .int .i64 _) rfl) rfl ?_
      refine AOL.g (y := .ptr _) _ [(38, _), (39, _)] rfl (EntL.all ⟨Ent.self _ _, Ent.self _ _, trivial⟩) (fun hG => P_indexAddr (c := [_]) tok rfl rfl rfl rfl rfl rfl (by omega) (cSt_at hx)) rfl ?_
      refine AOL.g (y := .ptr _) _ [(40, _)] rfl (EntL.all ⟨Ent.self _ _, trivial⟩) (fun hG => P_fieldAddr_ptr (cs' := [_]) tok rfl rfl rfl rfl rfl rfl) rfl ?_
      refine AOL.g (y := .sl _ _) _ [(41, _)] rfl (EntL.all ⟨Ent.self _ _, trivial⟩) (fun hG => P_load_ptr (c := .sl _ _) tok rfl rfl rfl) rfl ?_
      refine AOL.g (y := .int .i64 _) _ [(42, _)] rfl (EntL.all ⟨Ent.self _ _, trivial⟩) (fun hG => P_len_sl (n := x.length) tok rfl rfl rfl (by simp)) rfl ?_
      refine AOL.g (y := .bool _) _ [(43, _)] rfl (EntL.all ⟨Ent.self _ _, trivial⟩) (fun hG => P_gtr rfl rfl) rfl ?_
      refine AOL.p (P_pick_or rfl rfl rfl) rfl ?_
      refine AOL.p (P_move (v := .bool _) rfl) rfl ?_
      refine AOL.g (y := .ptr _) _ [] rfl (EntL.all trivial) (fun hG => P_fieldAddr_ptr (cs' := [_, _]) tok rfl rfl rfl rfl rfl rfl) rfl ?_
      refine AOL.g (y := .sl _ _) _ [(47, _)] rfl (EntL.all ⟨Ent.self _ _, trivial⟩) (fun hG => P_load_ptr (c := .sl _ _) tok rfl rfl rfl) rfl ?_
      refine AOL.g (y := .int .i64 _) _ [] rfl (EntL.all trivial) (fun hG => P_move (v := .int .i64 _) rfl) rfl ?_
      refine AOL.g (y := .ptr _) _ [(48, _), (49, _)] rfl (EntL.all ⟨Ent.self _ _, Ent.self _ _, trivial⟩) (fun hG => P_indexAddr (c := [_]) tok rfl rfl rfl rfl rfl rfl (by omega) (cSt_at hx)) rfl ?_
      refine AOL.g (y := .ptr _) _ [(50, _)] rfl (EntL.all ⟨Ent.self _ _, trivial⟩) (fun hG => P_fieldAddr_ptr (cs' := [_]) tok rfl rfl rfl rfl rfl rfl) rfl ?_
      refine AOL.g (y := .sl _ _) _ [(51, _)] rfl (EntL.all ⟨Ent.self _ _, trivial⟩) (fun hG => P_load_ptr (c := .sl _ _) tok rfl rfl rfl) rfl ?_
      refine AOL.g (y := .bool _) _ [(52, _)] rfl (EntL.all ⟨Ent.self _ _, trivial⟩) (fun hG => P_callf (by kernel_rfl) rfl rfl (r_few x (sa.g x hmx))) rfl ?_
      refine AOL.g (y := .bool _) _ [(53, _)] rfl (EntL.all ⟨Ent.self _ _, trivial⟩) (fun hG => P_not rfl) rfl ?_
      refine AOL.p (P_pick_or rfl rfl rfl) rfl ?_
      refine AOL.nil ?_
      refine thenN ?_
      refine AW.cond (b := _) rfl (fun hc2 => ?_) (fun hc2 => ?_)
      · skip
        have hb2 : stOk x = false := by unfold stOk; rw [hc2]; rfl
        rw [hb2, Bool.false_and] at hg
        have h9 : fewA a = false := by unfold fewA; rw [hg]; rfl
        refine AW.seq ?_
        refine AW.region ?_
        refine AOL.p (P_assign (v := .bool _) rfl) rfl ?_
        refine AOL.nil ?_
        refine thenN ?_
        refine AW.ret ?_
        refine blkR ?_
        refine thenR ?_
        refine thenR ?_
        refine blkR ?_
        refine thenR ?_
        refine ⟨.inr rfl, [.bool _], .cons (.tmp _ _ rfl) <| .nil, .refl _, ?_⟩
        rw [h9]; rfl
      · skip
        have hb2 : stOk x = true := by unfold stOk; rw [hc2]; rfl
        rw [hb2, Bool.true_and] at hg
        refine AW.skip ?_
        refine blkN ?_
        refine thenN ?_
        refine AW.region ?_
        refine AOL.p (P_move (v := .int .i64 _) rfl) rfl ?_
        refine AOL.p (P_add rfl rfl rfl (by constructor <;> omega)) rfl ?_
        refine AOL.p (P_assign (v := .int .i64 _) rfl) rfl ?_
        refine AOL.nil ?_
        refine thenN ?_
        refine ⟨k + 1, ?_, ?_, GS.weaken ⟨rfl, rfl, trivial⟩ (.refl _)⟩
        · exact ⟨hlt3, hg⟩
        · omega
    · skip
      have hA : (a.states.take 30).all stOk = true := hR.2.trans (few_end (n := 30) stOk hc1)
      refine AW.exit ?_
      refine thenE ?_
      refine thenE ?_
      refine blkHit ?_
      refine thenN ?_
      refine AW.seq ?_
      refine AW.seq ?_
      refine AW.region ?_
      refine AOL.p (P_assign (v := .int .i64 _) rfl) rfl ?_
      refine AOL.nil ?_
      refine thenN ?_
      refine AW.block ?_
      refine AW.loopS (fun (k : Nat) => (⟨[(1, .ptr (cAu a)), (4, .int .i64 (k : Int))], H, 130⟩ : St)) (fun (k : Nat) => k ≤ a.edges.length ∧ (a.edges.take 60).all edOk = ((a.edges.take 60).drop k).all edOk) (fun (k : Nat) => a.edges.length - k) (0) ?_ (GS.weaken ⟨rfl, rfl, trivial⟩ (.refl _)) ?_
      · exact ⟨Nat.zero_le _, rfl⟩
      · rintro k hR2
        refine AW.seq ?_
        refine AW.seq ?_
        refine AW.region ?_
        refine AOL.p (P_move (v := .int .i64 _) rfl) rfl ?_
        refine AOL.p (P_fieldAddr_ptr (cs' := [_]) tok rfl rfl rfl rfl rfl rfl) rfl ?_
        refine AOL.p (P_load_ptr (c := .sl _ _) tok rfl rfl rfl) rfl ?_
        refine AOL.p (P_len_sl (n := a.edges.length) tok rfl rfl rfl (by simp)) rfl ?_
        refine AOL.p (P_lss rfl rfl) rfl ?_
        refine AOL.p (P_move (v := .bool _) rfl) rfl ?_
        refine AOL.g (y := .int .i64 _) _ [] rfl (EntL.all trivial) (fun hG => P_move (v := .int .i64 _) rfl) rfl ?_
        refine AOL.g (y := .bool _) _ [(62, _)] rfl (EntL.all ⟨Ent.self _ _, trivial⟩) (fun hG => P_lss rfl rfl) rfl ?_
        refine AOL.p (P_pick_and rfl rfl rfl) rfl ?_
        refine AOL.nil ?_
        refine thenN ?_
        refine AW.cond (b := _) rfl (fun hc3 => ?_) (fun hc3 => ?_)
        · skip
          have hlt3 : k < a.edges.length := by have h := (Bool.and_eq_true _ _ ▸ hc3 : _ ∧ _).1; have := of_decide_eq_true h; omega
          obtain ⟨x, hx⟩ := get_lt2 (l := a.edges) (k := k) hlt3
          have hmx := List.mem_of_getElem? hx
          have hex := sa.e x hmx
          have hck := hex.k
          have hg := hR2.2
          rw [all_drop edOk (few_at (n := 60) hc3 hx)] at hg
          refine AW.skip ?_
          refine thenN ?_
          refine AW.seq ?_
          refine AW.block ?_
          refine AW.seq ?_
          refine AW.region ?_
          refine AOL.p (P_fieldAddr_ptr (cs' := [_]) tok rfl rfl rfl rfl rfl rfl) rfl ?_
          refine AOL.p (P_load_ptr (c := .sl _ _) tok rfl rfl rfl) rfl ?_
          refine AOL.p (P_move (v := .int .i64 _) rfl) rfl ?_
          refine AOL.p (P_indexAddr (c := [.int .i64 _, .int .i64 _, .int .i64 _, .int .i64 _, .int .i64 _, _, .int .i64 _, .int .i64 _, .int .i64 _, .int .i64 _, .int .i64 _, .str _, _, _, _, _, _]) tok rfl rfl rfl rfl rfl rfl (by omega) (cEd_at hx)) rfl ?_
          refine AOL.p (P_load_ptr_agg (l := [.int .i64 _, .int .i64 _, .int .i64 _, .int .i64 _, .int .i64 _, _, .int .i64 _, .int .i64 _, .int .i64 _, .int .i64 _, .int .i64 _, .str _, _, _, _, _, _]) tok rfl rfl rfl rfl rfl) rfl ?_
          refine AOL.e (E_alloc (l := [.int .i64 0, .int .i64 0, .int .i64 0, .int .i64 0, .int .i64 0, .sl 8 [], .int .i64 0, .int .i64 0, .int .i64 0, .int .i64 0, .int .i64 0, .str [], .sl 1 [], .sl 1 [], .sl 8 [], .sl 2 [], .sl 1 []]) (by kernel_rfl)) rfl ?_
          rintro _ _ ⟨b5, rfl, rfl⟩
          refine AOL.e (E_store (k := 0) (v := .agg _) (cs' := [.int .i64 _, .int .i64 _, .int .i64 _, .int .i64 _, .int .i64 _, _, .int .i64 _, .int .i64 _, .int .i64 _, .int .i64 _, .int .i64 _, .str _, _, _, _, _, _]) (H2 := _ :: _) tok rfl rfl rfl rfl rfl rfl rfl rfl rfl) rfl ?_
          rintro _ _ ⟨rfl, rfl⟩
          refine AOL.ghost (GS.freeze (t := 5) 0 rfl rfl) ?_
          refine AOL.nil ?_
          refine thenN ?_
          refine AW.seq ?_
          refine AW.seq ?_
          refine AW.region ?_
          refine AOL.p (P_fieldAddr_ptr (cs' := [.int .i64 _, _, .int .i64 _, .int .i64 _, .int .i64 _, .int .i64 _, .int .i64 _, .str _, _, _, _, _, _]) tok rfl rfl rfl rfl rfl rfl) rfl ?_
          refine AOL.p (P_load_ptr_agg (l := [.int .i64 _, _, .int .i64 _, .int .i64 _, .int .i64 _, .int .i64 _, .int .i64 _, .str _]) tok rfl rfl rfl rfl rfl) rfl ?_
          refine AOL.p (P_callf (by kernel_rfl) rfl rfl (r_FewE x.cond hex.cond)) rfl ?_
          refine AOL.p (P_not rfl) rfl ?_
          refine AOL.p (P_move (v := .bool _) rfl) rfl ?_
          refine AOL.g (y := .ptr _) _ [] rfl (EntL.all trivial) (fun hG => P_fieldAddr_ptr (cs' := [_, _, _]) tok rfl rfl rfl rfl rfl rfl) rfl ?_
          refine AOL.g (y := .sl _ _) _ [(77, _)] rfl (EntL.all ⟨Ent.self _ _, trivial⟩) (fun hG => P_load_ptr (c := .sl _ _) tok rfl rfl rfl) rfl ?_
          refine AOL.g (y := .int .i64 _) _ [(78, _)] rfl (EntL.all ⟨Ent.self _ _, trivial⟩) (fun hG => P_len_sl (n := x.checks.length) tok rfl rfl rfl (by simp)) rfl ?_
          refine AOL.g (y := .bool _) _ [(79, _)] rfl (EntL.all ⟨Ent.self _ _, trivial⟩) (fun hG => P_gtr rfl rfl) rfl ?_
          refine AOL.p (P_pick_or rfl rfl rfl) rfl ?_
          refine AOL.p (P_move (v := .bool _) rfl) rfl ?_
          refine AOL.g (y := .ptr _) _ [] rfl (EntL.all trivial) (fun hG => P_fieldAddr_ptr (cs' := [_, _, _, _, _]) tok rfl rfl rfl rfl rfl rfl) rfl ?_
          refine AOL.g (y := .sl _ _) _ [(83, _)] rfl (EntL.all ⟨Ent.self _ _, trivial⟩) (fun hG => P_load_ptr (c := .sl _ _) tok rfl rfl rfl) rfl ?_
          refine AOL.g (y := .int .i64 _) _ [(84, _)] rfl (EntL.all ⟨Ent.self _ _, trivial⟩) (fun hG => P_len_sl (n := x.opens.length) tok rfl rfl rfl (by simp)) rfl ?_
          refine AOL.g (y := .bool _) _ [(85, _)] rfl (EntL.all ⟨Ent.self _ _, trivial⟩) (fun hG => P_gtr rfl rfl) rfl ?_
          refine AOL.p (P_pick_or rfl rfl rfl) rfl ?_
          refine AOL.p (P_move (v := .bool _) rfl) rfl ?_
          refine AOL.g (y := .ptr _) _ [] rfl (EntL.all trivial) (fun hG => P_fieldAddr_ptr (cs' := [_, _, _, _]) tok rfl rfl rfl rfl rfl rfl) rfl ?_
          refine AOL.g (y := .sl _ _) _ [(89, _)] rfl (EntL.all ⟨Ent.self _ _, trivial⟩) (fun hG => P_load_ptr (c := .sl _ _) tok rfl rfl rfl) rfl ?_
          refine AOL.g (y := .int .i64 _) _ [(90, _)] rfl (EntL.all ⟨Ent.self _ _, trivial⟩) (fun hG => P_len_sl (n := x.closes.length) tok rfl rfl rfl (by simp)) rfl ?_
          refine AOL.g (y := .bool _) _ [(91, _)] rfl (EntL.all ⟨Ent.self _ _, trivial⟩) (fun hG => P_gtr rfl rfl) rfl ?_
          refine AOL.p (P_pick_or rfl rfl rfl) rfl ?_
          refine AOL.p (P_move (v := .bool _) rfl) rfl ?_
          refine AOL.g (y := .ptr _) _ [] rfl (EntL.all trivial) (fun hG => P_fieldAddr_ptr (cs' := [_]) tok rfl rfl rfl rfl rfl rfl) rfl ?_
          refine AOL.g (y := .sl _ _) _ [(95, _)] rfl (EntL.all ⟨Ent.self _ _, trivial⟩) (fun hG => P_load_ptr (c := .sl _ _) tok rfl rfl rfl) rfl ?_
          refine AOL.g (y := .int .i64 _) _ [(96, _)] rfl (EntL.all ⟨Ent.self _ _, trivial⟩) (fun hG => P_len_sl (n := x.inside.length) tok rfl rfl rfl (by simp)) rfl ?_
          refine AOL.g (y := .bool _) _ [(97, _)] rfl (EntL.all ⟨Ent.self _ _, trivial⟩) (fun hG => P_gtr rfl rfl) rfl ?_
          refine AOL.p (P_pick_or rfl rfl rfl) rfl ?_
          refine AOL.p (P_move (v := .bool _) rfl) rfl ?_
          refine AOL.g (y := .ptr _) _ [] rfl (EntL.all trivial) (fun hG => P_fieldAddr_ptr (cs' := [_, _]) tok rfl rfl rfl rfl rfl rfl) rfl ?_
          refine AOL.g (y := .sl _ _) _ [(101, _)] rfl (EntL.all ⟨Ent.self _ _, trivial⟩) (fun hG => P_load_ptr (c := .sl _ _) tok rfl rfl rfl) rfl ?_
          refine AOL.g (y := .int .i64 _) _ [(102, _)] rfl (EntL.all ⟨Ent.self _ _, trivial⟩) (fun hG => P_len_sl (n := x.limits.length) tok rfl rfl rfl (by simp)) rfl ?_
          refine AOL.g (y := .bool _) _ [(103, _)] rfl (EntL.all ⟨Ent.self _ _, trivial⟩) (fun hG => P_gtr rfl rfl) rfl ?_
          refine AOL.p (P_pick_or rfl rfl rfl) rfl ?_
          refine AOL.nil ?_
          refine thenN ?_
          refine AW.cond (b := _) rfl (fun hc4 => ?_) (fun hc4 => ?_)
          · skip
            have hb2 : edOk x = false := by unfold edOk edHead; rw [hc4]; rfl
            rw [hb2, Bool.false_and] at hg
            have h9 : fewA a = false := by unfold fewA; rw [hA, hg]; rfl
            refine AW.seq ?_
            refine AW.region ?_
            refine AOL.p (P_assign (v := .bool _) rfl) rfl ?_
            refine AOL.nil ?_
            refine thenN ?_
            refine AW.ret ?_
            refine thenR ?_
            refine blkR ?_
            refine thenR ?_
            refine thenR ?_
            refine blkR ?_
            refine thenR ?_
            refine ⟨.inr rfl, [.bool _], .cons (.tmp _ _ rfl) <| .nil, .refl _, ?_⟩
            rw [h9]; rfl
          · skip
            have hb2 : edOk x = x.checks.all fewE := by unfold edOk edHead; rw [hc4]; rfl
            refine AW.skip ?_
            refine thenN ?_
            refine AW.seq ?_
            refine AW.region ?_
            refine AOL.p (P_assign (v := .int .i64 _) rfl) rfl ?_
            refine AOL.nil ?_
            refine thenN ?_
            refine AW.block ?_
            refine AW.loopS (fun (j : Nat) => (⟨[(1, .ptr (cAu a)), (4, .int .i64 (k : Int)), (5, .ptr (cEd x)), (6, .int .i64 (j : Int))], H, 130⟩ : St)) (fun (j : Nat) => j ≤ x.checks.length ∧ x.checks.all fewE = (x.checks.drop j).all fewE) (fun (j : Nat) => x.checks.length - j) (0) ?_ (GS.weaken ⟨rfl, rfl, rfl, rfl, trivial⟩ (.refl _)) ?_
            · exact ⟨Nat.zero_le _, rfl⟩
            · rintro j hR3
              refine AW.seq ?_
              refine AW.seq ?_
              refine AW.region ?_
              refine AOL.p (P_move (v := .int .i64 _) rfl) rfl ?_
              refine AOL.p (P_fieldAddr_ptr (cs' := [_, _, _]) tok rfl rfl rfl rfl rfl rfl) rfl ?_
              refine AOL.p (P_load_ptr (c := .sl _ _) tok rfl rfl rfl) rfl ?_
              refine AOL.p (P_len_sl (n := x.checks.length) tok rfl rfl rfl (by simp)) rfl ?_
              refine AOL.p (P_lss rfl rfl) rfl ?_
              refine AOL.nil ?_
              refine thenN ?_
              refine AW.cond (b := _) rfl (fun hc5 => ?_) (fun hc5 => ?_)
              · skip
                obtain ⟨u, hu⟩ := get_lt2 (l := x.checks) (k := j) (by have := of_decide_eq_true hc5; omega)
                have hltu := get_lt' hu
                have hmu := List.mem_of_getElem? hu
                have hg3 := hR3.2
                rw [all_drop fewE hu] at hg3
                refine AW.skip ?_
                refine thenN ?_
                refine AW.seq ?_
                refine AW.block ?_
                refine AW.seq ?_
                refine AW.region ?_
                refine AOL.p (P_fieldAddr_ptr (cs' := [_, _, _]) tok rfl rfl rfl rfl rfl rfl) rfl ?_
                refine AOL.p (P_load_ptr (c := .sl _ _) tok rfl rfl rfl) rfl ?_
                refine AOL.p (P_move (v := .int .i64 _) rfl) rfl ?_
                refine AOL.p (P_indexAddr (c := [.int .i64 _, _, .int .i64 _, .int .i64 _, .int .i64 _, .int .i64 _, .int .i64 _, .str _]) tok rfl rfl rfl rfl rfl rfl (by omega) (encE_at hu)) rfl ?_
                refine AOL.p (P_load_ptr_agg (l := [.int .i64 _, _, .int .i64 _, .int .i64 _, .int .i64 _, .int .i64 _, .int .i64 _, .str _]) tok rfl rfl rfl rfl rfl) rfl ?_
                refine AOL.p (P_callf (by kernel_rfl) rfl rfl (r_FewE u (hex.checks u hmu))) rfl ?_
                refine AOL.p (P_not rfl) rfl ?_
                refine AOL.nil ?_
                refine thenN ?_
                refine AW.cond (b := _) rfl (fun hc6 => ?_) (fun hc6 => ?_)
                · skip
                  rw [not_t hc6, Bool.false_and] at hg3
                  rw [hb2, hg3, Bool.false_and] at hg
                  have h9 : fewA a = false := by unfold fewA; rw [hA, hg]; rfl
                  refine AW.seq ?_
                  refine AW.region ?_
                  refine AOL.p (P_assign (v := .bool _) rfl) rfl ?_
                  refine AOL.nil ?_
                  refine thenN ?_
                  refine AW.ret ?_
                  refine blkR ?_
                  refine thenR ?_
                  refine thenR ?_
                  refine blkR ?_
                  refine blkR ?_
                  refine thenR ?_
                  refine thenR ?_
                  refine blkR ?_
                  refine thenR ?_
                  refine ⟨.inr rfl, [.bool _], .cons (.tmp _ _ rfl) <| .nil, .refl _, ?_⟩
                  rw [h9]; rfl
                · skip
                  rw [not_f hc6, Bool.true_and] at hg3
                  refine AW.skip ?_
                  refine blkN ?_
                  refine thenN ?_
                  refine AW.region ?_
                  refine AOL.p (P_move (v := .int .i64 _) rfl) rfl ?_
                  refine AOL.p (P_add rfl rfl rfl (by constructor <;> omega)) rfl ?_
                  refine AOL.p (P_assign (v := .int .i64 _) rfl) rfl ?_
                  refine AOL.nil ?_
                  refine thenN ?_
                  refine ⟨j + 1, ?_, ?_, GS.weaken ⟨rfl, rfl, rfl, rfl, trivial⟩ (.refl _)⟩
                  · exact ⟨hltu, hg3⟩
                  · omega
              · skip
                have hk3 : x.checks.length ≤ j := by have := of_decide_eq_false hc5; omega
                have hg3 := hR3.2
                rw [List.drop_eq_nil_of_le hk3] at hg3
                rw [hb2, hg3] at hg
                refine AW.exit ?_
                refine thenE ?_
                refine thenE ?_
                refine blkHit ?_
                refine blkN ?_
                refine thenN ?_
                refine AW.region ?_
                refine AOL.p (P_move (v := .int .i64 _) rfl) rfl ?_
                refine AOL.p (P_add rfl rfl rfl (by constructor <;> omega)) rfl ?_
                refine AOL.p (P_assign (v := .int .i64 _) rfl) rfl ?_
                refine AOL.nil ?_
                refine thenN ?_
                refine ⟨k + 1, ?_, ?_, GS.weaken ⟨rfl, rfl, trivial⟩ (.refl _)⟩
                · exact ⟨hlt3, hg⟩
                · omega
        · skip
          have hB : (a.edges.take 60).all edOk = true := hR2.2.trans (few_end (n := 60) edOk hc3)
          have h9 : fewA a = (decide ((a.states.length : Int) ≤ 20) && decide ((a.edges.length : Int) ≤ 40)) := by unfold fewA; rw [hA, hB]; rfl
          refine AW.exit ?_
          refine thenE ?_
          refine thenE ?_
          refine blkHit ?_
          refine thenN ?_
          refine AW.seq ?_
          refine AW.region ?_
          refine AOL.p (P_fieldAddr_ptr (cs' := [_, _]) tok rfl rfl rfl rfl rfl rfl) rfl ?_
          refine AOL.p (P_load_ptr (c := .sl _ _) tok rfl rfl rfl) rfl ?_
          refine AOL.p (P_len_sl (n := a.states.length) tok rfl rfl rfl (by simp)) rfl ?_
          refine AOL.p (P_leq rfl rfl) rfl ?_
          refine AOL.p (P_move (v := .bool _) rfl) rfl ?_
          refine AOL.g (y := .ptr _) _ [] rfl (EntL.all trivial) (fun hG => P_fieldAddr_ptr (cs' := [_]) tok rfl rfl rfl rfl rfl rfl) rfl ?_
          refine AOL.g (y := .sl _ _) _ [(125, _)] rfl (EntL.all ⟨Ent.self _ _, trivial⟩) (fun hG => P_load_ptr (c := .sl _ _) tok rfl rfl rfl) rfl ?_
          refine AOL.g (y := .int .i64 _) _ [(126, _)] rfl (EntL.all ⟨Ent.self _ _, trivial⟩) (fun hG => P_len_sl (n := a.edges.length) tok rfl rfl rfl (by simp)) rfl ?_
          refine AOL.g (y := .bool _) _ [(127, _)] rfl (EntL.all ⟨Ent.self _ _, trivial⟩) (fun hG => P_leq rfl rfl) rfl ?_
          refine AOL.p (P_pick_and rfl rfl rfl) rfl ?_
          refine AOL.p (P_assign (v := .bool _) rfl) rfl ?_
          refine AOL.nil ?_
          refine thenN ?_
          refine AW.ret ?_
          refine ⟨.inr rfl, [.bool _], .cons (.tmp _ _ rfl) <| .nil, .refl _, ?_⟩
          rw [h9]; rfl

end Go.Proofs.YtoolcpnahmgnnaaDoor
