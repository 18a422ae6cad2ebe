/-
  Walks of layer 23: isomorphism in the reference. No condition.
-/
import Derived.Test.YtoolcpnahmgnnaaGreatDoorW14
import Derived.Test.YtoolcpnahmgnnaaGreatDoorW8
import Derived.KernelRfl
namespace Go.Proofs.YtoolcpnahmgnnaaGreatDoor
open Go Go.Aw
set_option linter.unusedVariables false
set_option linter.unusedSimpArgs false

set_option maxRecDepth 20000 in
set_option maxHeartbeats 1600000 in
theorem r_noneB (H : List HO) (n : Nat) (hn : n ≤ 1048576) : ACall Tryz.prog 59 H [.int .i64 (n : Int)] (fun r H' => ∃ b, r = .val (.slice (some ⟨b, 0, none⟩) n n) ∧ H' = .box b 3 (bI (none1 n)) :: H) := by
  have hmx : 1048576 ≤ maxLen := by decide
  refine ACall.body (n := 16) tok Tryz.func59 rfl rfl rfl ?_
  refine AW.seq ?_
  refine AW.region ?_
  refine AOL.p (P_assign_nil (z := 1) rfl) rfl ?_
  refine AOL.nil ?_
  refine thenN ?_
  refine AW.seq ?_
  refine AW.region ?_
  refine AOL.p (P_move (v := .int .i64 _) rfl) rfl ?_
  refine AOL.e (E_makeSlice (n := n) tok rfl rfl rfl rfl rfl rfl rfl (by show 8 * n ≤ _; omega) (by omega)) rfl ?_
  rintro _ _ ⟨b6, rfl, rfl⟩
  refine AOL.p (P_assign (v := .val _) rfl) rfl ?_
  refine AOL.ghost (GS.cells 0 rfl (bI_zero n)) ?_
  refine AOL.nil ?_
  refine thenN ?_
  refine AW.seq ?_
  refine AW.seq ?_
  refine AW.region ?_
  refine AOL.p (P_assign (v := .int .i64 _) rfl) rfl ?_
  refine AOL.nil ?_
  refine thenN ?_
  refine AW.block ?_
  refine AW.loopS (fun (p : Nat × List Int) => (⟨[(0, .int .i64 (n : Int)), (3, .val (.slice (some ⟨b6, 0, none⟩) n n)), (4, .int .i64 (p.1 : Int))], .box b6 3 (bI p.2) :: H, 16⟩ : St)) (fun (p : Nat × List Int) => p.1 ≤ n ∧ p.2.length = n ∧ p.2 = List.replicate p.1 (-1) ++ List.replicate (n - p.1) 0) (fun (p : Nat × List Int) => n - p.1) ((0, List.replicate n 0)) ?_ (GS.weaken ⟨rfl, rfl, rfl, trivial⟩ (.refl _)) ?_
  · exact ⟨Nat.zero_le _, List.length_replicate .., by simp⟩
  · rintro p hR
    refine AW.seq ?_
    refine AW.seq ?_
    refine AW.region ?_
    refine AOL.p (P_move (v := .int .i64 _) rfl) rfl ?_
    refine AOL.p (P_move (v := .int .i64 _) rfl) rfl ?_
    refine AOL.p (P_lss rfl rfl) rfl ?_
    refine AOL.nil ?_
    refine thenN ?_
    refine AW.cond (b := _) rfl (fun hc1 => ?_) (fun hc1 => ?_)
    · skip
      have hlt : p.1 < n := by have := of_decide_eq_true hc1; omega
      refine AW.skip ?_
      refine thenN ?_
      refine AW.seq ?_
      refine AW.block ?_
      refine AW.region ?_
      refine AOL.p (P_move (v := .val _) rfl) rfl ?_
      refine AOL.p (P_move (v := .int .i64 _) rfl) rfl ?_
      refine AOL.p (P_indexAddr_val tok rfl rfl rfl rfl rfl (by omega) (by omega) (off1 _)) rfl ?_
      refine AOL.e (E_store (k := 0) (v := .int .i64 _) (cs' := bI (putS' p.2 p.1 (-1))) (H2 := _ :: _) tok rfl rfl rfl rfl rfl rfl (by rw [bI_len, hR.2.1]; exact Nat.ble_eq_true_of_le (by show (p.1 : Int).toNat + 1 ≤ _; omega)) (bI_put (by rw [hR.2.1]; omega)) rfl) rfl ?_
      rintro _ _ ⟨rfl, rfl⟩
      refine AOL.nil ?_
      refine blkN ?_
      refine thenN ?_
      refine AW.region ?_
      refine AOL.p (P_move (v := .int .i64 _) rfl) rfl ?_
      refine AOL.p (P_add rfl rfl rfl (by constructor <;> omega)) rfl ?_
      refine AOL.p (P_assign (v := .int .i64 _) rfl) rfl ?_
      refine AOL.nil ?_
      refine thenN ?_
      refine ⟨(p.1 + 1, putS' p.2 p.1 (-1)), ?_, ?_, GS.weaken ⟨rfl, rfl, rfl, trivial⟩ (.refl _)⟩
      · exact ⟨hlt, by rw [put_len]; exact hR.2.1, by simp only; rw [hR.2.2]; exact none_step hlt⟩
      · simp only; omega
    · skip
      have hk : p.1 = n := by have := of_decide_eq_false hc1; omega
      refine AW.exit ?_
      refine thenE ?_
      refine thenE ?_
      refine blkHit ?_
      refine thenN ?_
      refine AW.seq ?_
      refine AW.region ?_
      refine AOL.p (P_move (v := .val _) rfl) rfl ?_
      refine AOL.p (P_assign (v := .val _) rfl) rfl ?_
      refine AOL.nil ?_
      refine thenN ?_
      refine AW.ret ?_
      refine ⟨.inr rfl, [.val _], .cons (.tmp _ _ rfl) <| .nil, _, .refl _, ?_⟩
      have h8 := hR.2.2
      rw [hk, Nat.sub_self, List.replicate_zero, List.append_nil] at h8
      exact ⟨b6, rfl, congrArg (fun l => HO.box b6 3 (bI l) :: H) h8⟩
theorem isoR_a {a b : Au} (h : (checkA a != 0) = true) : isoR a b = ([], false, checkA a) := by unfold isoR; exact if_pos h
theorem isoR_b {a b : Au} (ha : (checkA a != 0) = false) (h : (checkA b != 0) = true) : isoR a b = ([], false, checkA b) := by unfold isoR; exact (if_neg (Bool.eq_false_iff.mp ha)).trans (if_pos h)
theorem isoR_v {a b : Au} (ha : (checkA a != 0) = false) (hb : (checkA b != 0) = false) (h : ((a.vars != b.vars) || (a.scopes != b.scopes)) = true) : isoR a b = ([], false, 0) := by
  unfold isoR; exact (if_neg (Bool.eq_false_iff.mp ha)).trans ((if_neg (Bool.eq_false_iff.mp hb)).trans (if_pos h))
theorem isoR_no {a b : Au} (ha : (checkA a != 0) = false) (hb : (checkA b != 0) = false) (h : ((a.vars != b.vars) || (a.scopes != b.scopes)) = false) (k : (isoQ a b).1 = false) : isoR a b = ([], false, 0) := by
  unfold isoR; exact (if_neg (Bool.eq_false_iff.mp ha)).trans ((if_neg (Bool.eq_false_iff.mp hb)).trans ((if_neg (Bool.eq_false_iff.mp h)).trans (if_pos (by rw [show (roundsR a b a.states.length ((putS' (none1 a.states.length) 0 0, putS' (none1 b.states.length) 0 0), List.replicate a.states.length false)).1 = false from k]; rfl))))
theorem isoR_yes {a b : Au} {q : Pg × List Bool} (ha : (checkA a != 0) = false) (hb : (checkA b != 0) = false) (h : ((a.vars != b.vars) || (a.scopes != b.scopes)) = false) (k : isoQ a b = (true, q)) : isoR a b = (q.1.1, true, 0) := by
  have k' : roundsR a b a.states.length ((putS' (none1 a.states.length) 0 0, putS' (none1 b.states.length) 0 0), List.replicate a.states.length false) = (true, q) := k
  unfold isoR
  refine (if_neg (Bool.eq_false_iff.mp ha)).trans ((if_neg (Bool.eq_false_iff.mp hb)).trans ((if_neg (Bool.eq_false_iff.mp h)).trans ?_))
  simp only [k']
  rfl
theorem round_step {a b : Au} {n : Nat} {i : Int} {s : Pg × List Bool} (h : (decide (0 ≤ toS s.1.1 i) && !(seenS s.2 i)) = false) : roundR a b (n + 1) i s = roundR a b n (i + 1) s := by rw [roundR]; exact if_neg (Bool.eq_false_iff.mp h)
theorem round_fail {a b : Au} {n : Nat} {i : Int} {s : Pg × List Bool} (h : (decide (0 ≤ toS s.1.1 i) && !(seenS s.2 i)) = true) (k : (!((matchR a b s.1 i).1)) = true) : roundR a b (n + 1) i s = (false, s) := by rw [roundR]; exact (if_pos h).trans (if_pos k)
theorem round_go {a b : Au} {n : Nat} {i : Int} {s : Pg × List Bool} (h : (decide (0 ≤ toS s.1.1 i) && !(seenS s.2 i)) = true) (k : (!((matchR a b s.1 i).1)) = false) : roundR a b (n + 1) i s = roundR a b n (i + 1) ((matchR a b s.1 i).2, markS s.2 i) := by rw [roundR]; exact (if_pos h).trans (if_neg (Bool.eq_false_iff.mp k))
theorem rounds_fail {a b : Au} {n : Nat} {s : Pg × List Bool} (h : (roundR a b a.states.length 0 s).1 = false) : roundsR a b (n + 1) s = (false, s) := by rw [roundsR]; exact if_pos (by rw [h]; rfl)
theorem rounds_go {a b : Au} {n : Nat} {s q : Pg × List Bool} (h : roundR a b a.states.length 0 s = (true, q)) : roundsR a b (n + 1) s = roundsR a b n q := by rw [roundsR, h]; rfl
theorem less {n k : Nat} (h : k < n) : n - k = (n - (k + 1)) + 1 := by omega
theorem put00 {a b : Au} (ha : 0 < a.states.length) (hb : 0 < b.states.length) : Inv a b (putS' (none1 a.states.length) 0 0, putS' (none1 b.states.length) 0 0) := by
  have ha0 : InR a.states.length 0 := ⟨Int.le_refl _, ha⟩
  have hb0 : InR b.states.length 0 := ⟨Int.le_refl _, hb⟩
  exact (put_ok (none_inv a b) ha0 hb0 (by show toS (none1 a.states.length) 0 < 0; rw [none_get _ ha0]; decide) (by show toS (none1 b.states.length) 0 < 0; rw [none_get _ hb0]; decide)).1
set_option maxRecDepth 20000 in
set_option maxHeartbeats 12800000 in
theorem r_Isomorphic0 (a b : Au) (sa : Sm a) (sb : Sm b) : APure Tryz.prog 19 [.agg (cAu a), .agg (cAu b)] (.tuple [.sl 1 ((isoR a b).1.map cI), .bool (isoR a b).2.1, .int .i64 (isoR a b).2.2]) := by
  have hmx : 1048576 ≤ maxLen := by decide
  have hsn := sa.n
  refine APure.body (n := 89) tok Tryz.func19 rfl rfl rfl fun H => ?_
  refine AW.seq ?_
  refine AW.region ?_
  refine AOL.p (P_box (v := .agg _) (cs := [.int .i64 _, .int .i64 _, _, _]) rfl rfl rfl) rfl ?_
  refine AOL.p (P_box (v := .agg _) (cs := [.int .i64 _, .int .i64 _, _, _]) rfl rfl rfl) rfl ?_
  refine AOL.p (P_assign_nil (z := 1) rfl) rfl ?_
  refine AOL.p (P_assign (v := .bool _) rfl) rfl ?_
  refine AOL.p (P_assign (v := .int .i64 _) rfl) rfl ?_
  refine AOL.nil ?_
  refine thenN ?_
  refine AW.seq ?_
  refine AW.seq ?_
  refine AW.region ?_
  refine AOL.p (P_load_ptr_agg (l := [.int .i64 _, .int .i64 _, _, _]) tok rfl rfl rfl rfl rfl) rfl ?_
  refine AOL.p (P_callf (by kernel_rfl) rfl rfl (r_Check a sa)) rfl ?_
  refine AOL.p (P_assign (v := .int .i64 _) rfl) rfl ?_
  refine AOL.nil ?_
  refine thenN ?_
  refine AW.seq ?_
  refine AW.region ?_
  refine AOL.p (P_move (v := .int .i64 _) rfl) rfl ?_
  refine AOL.p (P_neq rfl rfl) rfl ?_
  refine AOL.nil ?_
  refine thenN ?_
  refine AW.cond (b := _) rfl (fun hc1 => ?_) (fun hc1 => ?_)
  · skip
    have h9 := isoR_a (b := b) hc1
    refine AW.seq ?_
    refine AW.region ?_
    refine AOL.p (P_move (v := .int .i64 _) rfl) rfl ?_
    refine AOL.p (P_assign_nil (z := 1) rfl) rfl ?_
    refine AOL.p (P_assign (v := .bool _) rfl) rfl ?_
    refine AOL.p (P_assign (v := .int .i64 _) rfl) rfl ?_
    refine AOL.nil ?_
    refine thenN ?_
    refine AW.ret ?_
    refine thenR ?_
    refine ⟨.inr rfl, [.sl _ _, .bool _, .int .i64 _], .cons (.tmp _ _ rfl) <| .cons (.tmp _ _ rfl) <| .cons (.tmp _ _ rfl) <| .nil, .refl _, ?_⟩
    rw [h9]; rfl
  · skip
    refine AW.skip ?_
    refine thenN ?_
    refine AW.seq ?_
    refine AW.seq ?_
    refine AW.region ?_
    refine AOL.p (P_load_ptr_agg (l := [.int .i64 _, .int .i64 _, _, _]) tok rfl rfl rfl rfl rfl) rfl ?_
    refine AOL.p (P_callf (by kernel_rfl) rfl rfl (r_Check b sb)) rfl ?_
    refine AOL.p (P_assign (v := .int .i64 _) rfl) rfl ?_
    refine AOL.nil ?_
    refine thenN ?_
    refine AW.seq ?_
    refine AW.region ?_
    refine AOL.p (P_move (v := .int .i64 _) rfl) rfl ?_
    refine AOL.p (P_neq rfl rfl) rfl ?_
    refine AOL.nil ?_
    refine thenN ?_
    refine AW.cond (b := _) rfl (fun hc2 => ?_) (fun hc2 => ?_)
    · skip
      have h9 := isoR_b hc1 hc2
      refine AW.seq ?_
      refine AW.region ?_
      refine AOL.p (P_move (v := .int .i64 _) rfl) rfl ?_
      refine AOL.p (P_assign_nil (z := 1) rfl) rfl ?_
      refine AOL.p (P_assign (v := .bool _) rfl) rfl ?_
      refine AOL.p (P_assign (v := .int .i64 _) rfl) rfl ?_
      refine AOL.nil ?_
      refine thenN ?_
      refine AW.ret ?_
      refine thenR ?_
      refine ⟨.inr rfl, [.sl _ _, .bool _, .int .i64 _], .cons (.tmp _ _ rfl) <| .cons (.tmp _ _ rfl) <| .cons (.tmp _ _ rfl) <| .nil, .refl _, ?_⟩
      rw [h9]; rfl
    · skip
      have hwa : Wf a := check_wf.1 (by simpa using hc1)
      have hwb : Wf b := check_wf.1 (by simpa using hc2)
      have hpa := hwa.pos
      have hpb := hwb.pos
      refine AW.skip ?_
      refine thenN ?_
      refine AW.seq ?_
      refine AW.seq ?_
      refine AW.region ?_
      refine AOL.p (P_fieldAddr_ptr (cs' := [.int .i64 _, .int .i64 _, _, _]) tok rfl rfl rfl rfl rfl rfl) rfl ?_
      refine AOL.p (P_load_ptr (c := .int .i64 _) tok rfl rfl rfl) rfl ?_
      refine AOL.p (P_fieldAddr_ptr (cs' := [.int .i64 _, .int .i64 _, _, _]) tok rfl rfl rfl rfl rfl rfl) rfl ?_
      refine AOL.p (P_load_ptr (c := .int .i64 _) tok rfl rfl rfl) rfl ?_
      refine AOL.p (P_neq rfl rfl) rfl ?_
      refine AOL.p (P_move (v := .bool _) rfl) rfl ?_
      refine AOL.g (y := .ptr _) _ [] rfl (EntL.all trivial) (fun hG => P_fieldAddr_ptr (cs' := [.int .i64 _, _, _]) tok rfl rfl rfl rfl rfl rfl) rfl ?_
      refine AOL.g (y := .int .i64 _) _ [(30, _)] rfl (EntL.all ⟨Ent.self _ _, trivial⟩) (fun hG => P_load_ptr (c := .int .i64 _) tok rfl rfl rfl) rfl ?_
      refine AOL.g (y := .ptr _) _ [] rfl (EntL.all trivial) (fun hG => P_fieldAddr_ptr (cs' := [.int .i64 _, _, _]) tok rfl rfl rfl rfl rfl rfl) rfl ?_
      refine AOL.g (y := .int .i64 _) _ [(32, _)] rfl (EntL.all ⟨Ent.self _ _, trivial⟩) (fun hG => P_load_ptr (c := .int .i64 _) tok rfl rfl rfl) rfl ?_
      refine AOL.g (y := .bool _) _ [(31, _), (33, _)] rfl (EntL.all ⟨Ent.self _ _, Ent.self _ _, trivial⟩) (fun hG => P_neq rfl rfl) rfl ?_
      refine AOL.p (P_pick_or rfl rfl rfl) rfl ?_
      refine AOL.nil ?_
      refine thenN ?_
      refine AW.cond (b := _) rfl (fun hc3 => ?_) (fun hc3 => ?_)
      · skip
        have h9 := isoR_v hc1 hc2 hc3
        refine AW.seq ?_
        refine AW.region ?_
        refine AOL.p (P_assign_nil (z := 1) rfl) rfl ?_
        refine AOL.p (P_assign (v := .bool _) rfl) rfl ?_
        refine AOL.p (P_assign (v := .int .i64 _) rfl) rfl ?_
        refine AOL.nil ?_
        refine thenN ?_
        refine AW.ret ?_
        refine thenR ?_
        refine ⟨.inr rfl, [.sl _ _, .bool _, .int .i64 _], .cons (.tmp _ _ rfl) <| .cons (.tmp _ _ rfl) <| .cons (.tmp _ _ rfl) <| .nil, .refl _, ?_⟩
        rw [h9]; rfl
      · skip
        refine AW.skip ?_
        refine thenN ?_
        refine AW.cut (fun (u : Nat × Nat) => (⟨[(2, .ptr (cAu a)), (3, .ptr (cAu b)), (9, .val (.slice (some ⟨u.1, 0, none⟩) a.states.length a.states.length)), (10, .val (.slice (some ⟨u.2, 0, none⟩) b.states.length b.states.length))], .box u.1 3 (bI ((none1 a.states.length, none1 b.states.length) : Pg).1) :: .box u.2 3 (bI ((none1 a.states.length, none1 b.states.length) : Pg).2) :: H, 89⟩ : St)) (fun (u : Nat × Nat) => True) ?_ ?_
        · skip
          refine AW.draw mixed (fun _ => True) trivial (by kernel_rfl) ?_
          refine Canon.pure _ _ 0 _ _ rfl (by kernel_rfl) (by kernel_rfl) rfl (.run rfl (P_fieldAddr_ptr (cs' := [_, _]) tok rfl rfl rfl rfl rfl rfl)) ?_
          refine Canon.pure _ _ 1 _ _ rfl (by kernel_rfl) (by kernel_rfl) rfl (.run rfl (P_load_ptr (c := .sl _ _) tok rfl rfl rfl)) ?_
          refine Canon.pure _ _ 2 _ _ rfl (by kernel_rfl) (by kernel_rfl) rfl (.run rfl (P_len_sl (n := a.states.length) tok rfl rfl rfl (by simp))) ?_
          refine Canon.pure _ _ 4 _ _ rfl (by kernel_rfl) (by kernel_rfl) rfl (.run rfl (P_fieldAddr_ptr (cs' := [_, _]) tok rfl rfl rfl rfl rfl rfl)) ?_
          refine Canon.pure _ _ 5 _ _ rfl (by kernel_rfl) (by kernel_rfl) rfl (.run rfl (P_load_ptr (c := .sl _ _) tok rfl rfl rfl)) ?_
          refine Canon.pure _ _ 6 _ _ rfl (by kernel_rfl) (by kernel_rfl) rfl (.run rfl (P_len_sl (n := b.states.length) tok rfl rfl rfl (by simp))) ?_
          refine Canon.eff _ _ 3 _ _ rfl (by kernel_rfl) rfl rfl (E_callf (by kernel_rfl) rfl rfl (r_noneB _ a.states.length sa.n)) (fun _ _ _ => trivial) ?_
          rintro _ _ ⟨b39, rfl, rfl⟩
          refine Canon.eff _ _ 7 _ _ rfl (by kernel_rfl) rfl rfl (E_callf (by kernel_rfl) rfl rfl (r_noneB _ b.states.length sb.n)) (fun _ _ _ => trivial) ?_
          rintro _ _ ⟨b43, rfl, rfl⟩
          refine Canon.pure _ _ 8 _ _ rfl (by kernel_rfl) (by kernel_rfl) rfl (.run rfl (P_assign (v := .val _) rfl)) ?_
          refine Canon.pure _ _ 9 _ _ rfl (by kernel_rfl) (by kernel_rfl) rfl (.run rfl (P_assign (v := .val _) rfl)) ?_
          refine Canon.done _ _ (by kernel_rfl) ?_
          refine thenN ?_
          refine ⟨(b39, b43), ?_, GS.trans (GS.perm (List.Perm.swap _ _ _)) (GS.weaken ⟨rfl, rfl, rfl, rfl, trivial⟩ (.refl _))⟩
          trivial
        · rintro u _
          refine AW.seq ?_
          refine AW.region ?_
          refine AOL.p (P_move (v := .val _) rfl) rfl ?_
          refine AOL.p (P_move (v := .val _) rfl) rfl ?_
          refine AOL.p (P_indexAddr_val tok rfl rfl rfl rfl rfl (by decide) (by omega) (off1 _)) rfl ?_
          refine AOL.e (E_store (k := 0) (v := .int .i64 _) (cs' := bI (putS' (none1 a.states.length) 0 0)) (H2 := _ :: _ :: _) tok rfl rfl rfl rfl rfl rfl (by rw [bI_len]; unfold none1; rw [List.length_replicate]; exact Nat.ble_eq_true_of_le (by show 0 + 1 ≤ _; omega)) (bI_put (by unfold none1; rw [List.length_replicate]; exact hwa.pos)) rfl) rfl ?_
          rintro _ _ ⟨rfl, rfl⟩
          refine AOL.p (P_indexAddr_val tok rfl rfl rfl rfl rfl (by decide) (by omega) (off1 _)) rfl ?_
          refine AOL.e (E_store (k := 1) (v := .int .i64 _) (cs' := bI (putS' (none1 b.states.length) 0 0)) (H2 := _ :: _ :: _) tok rfl rfl rfl rfl rfl rfl (by rw [bI_len]; unfold none1; rw [List.length_replicate]; exact Nat.ble_eq_true_of_le (by show 0 + 1 ≤ _; omega)) (bI_put (by unfold none1; rw [List.length_replicate]; exact hwb.pos)) rfl) rfl ?_
          rintro _ _ ⟨rfl, rfl⟩
          refine AOL.nil ?_
          refine thenN ?_
          refine AW.seq ?_
          refine AW.region ?_
          refine AOL.p (P_fieldAddr_ptr (cs' := [_, _]) tok rfl rfl rfl rfl rfl rfl) rfl ?_
          refine AOL.p (P_load_ptr (c := .sl _ _) tok rfl rfl rfl) rfl ?_
          refine AOL.p (P_len_sl (n := a.states.length) tok rfl rfl rfl (by simp)) rfl ?_
          refine AOL.e (E_makeSlice (n := a.states.length) tok rfl rfl rfl rfl rfl rfl rfl (by show 1 * a.states.length ≤ _; omega) (by omega)) rfl ?_
          rintro _ _ ⟨b51, rfl, rfl⟩
          refine AOL.p (P_assign (v := .val _) rfl) rfl ?_
          refine AOL.ghost (GS.cells 0 rfl (bB_zero a.states.length)) ?_
          refine AOL.nil ?_
          refine thenN ?_
          refine AW.seq ?_
          refine AW.seq ?_
          refine AW.region ?_
          refine AOL.p (P_assign (v := .int .i64 _) rfl) rfl ?_
          refine AOL.ghost (GS.perm (.trans (.swap _ _ _) (.cons _ (.swap _ _ _)))) ?_
          refine AOL.nil ?_
          refine thenN ?_
          refine AW.block ?_
          refine AW.loopS (fun (o : Nat × Pg × List Bool) => (⟨[(2, .ptr (cAu a)), (3, .ptr (cAu b)), (9, .val (.slice (some ⟨u.1, 0, none⟩) a.states.length a.states.length)), (10, .val (.slice (some ⟨u.2, 0, none⟩) b.states.length b.states.length)), (11, .val (.slice (some ⟨b51, 0, none⟩) a.states.length a.states.length)), (12, .int .i64 (o.1 : Int))], .box u.1 3 (bI o.2.1.1) :: .box u.2 3 (bI o.2.1.2) :: .box b51 4 (bB o.2.2) :: H, 89⟩ : St)) (fun (o : Nat × Pg × List Bool) => o.1 ≤ a.states.length ∧ Inv a b o.2.1 ∧ o.2.2.length = a.states.length ∧ isoQ a b = roundsR a b (a.states.length - o.1) o.2) (fun (o : Nat × Pg × List Bool) => a.states.length - o.1) ((0, (putS' (none1 a.states.length) 0 0, putS' (none1 b.states.length) 0 0), List.replicate a.states.length false)) ?_ (GS.weaken ⟨rfl, rfl, rfl, rfl, rfl, rfl, trivial⟩ (.refl _)) ?_
          · exact ⟨Nat.zero_le _, put00 hpa hpb, List.length_replicate .., rfl⟩
          · rintro o hR
            refine AW.seq ?_
            refine AW.seq ?_
            refine AW.region ?_
            refine AOL.p (P_move (v := .int .i64 _) rfl) rfl ?_
            refine AOL.p (P_fieldAddr_ptr (cs' := [_, _]) tok rfl rfl rfl rfl rfl rfl) rfl ?_
            refine AOL.p (P_load_ptr (c := .sl _ _) tok rfl rfl rfl) rfl ?_
            refine AOL.p (P_len_sl (n := a.states.length) tok rfl rfl rfl (by simp)) rfl ?_
            refine AOL.p (P_lss rfl rfl) rfl ?_
            refine AOL.nil ?_
            refine thenN ?_
            refine AW.cond (b := _) rfl (fun hc4 => ?_) (fun hc4 => ?_)
            · skip
              have hlt4 : o.1 < a.states.length := by have := of_decide_eq_true hc4; omega
              have hq4 := hR.2.2.2
              rw [less hlt4] at hq4
              refine AW.skip ?_
              refine thenN ?_
              refine AW.seq ?_
              refine AW.block ?_
              refine AW.seq ?_
              refine AW.region ?_
              refine AOL.p (P_assign (v := .int .i64 _) rfl) rfl ?_
              refine AOL.nil ?_
              refine thenN ?_
              refine AW.block ?_
              refine AW.loopS (fun (q : Nat × Pg × List Bool) => (⟨[(2, .ptr (cAu a)), (3, .ptr (cAu b)), (9, .val (.slice (some ⟨u.1, 0, none⟩) a.states.length a.states.length)), (10, .val (.slice (some ⟨u.2, 0, none⟩) b.states.length b.states.length)), (11, .val (.slice (some ⟨b51, 0, none⟩) a.states.length a.states.length)), (12, .int .i64 (o.1 : Int)), (13, .int .i64 (q.1 : Int))], .box u.1 3 (bI q.2.1.1) :: .box u.2 3 (bI q.2.1.2) :: .box b51 4 (bB q.2.2) :: H, 89⟩ : St)) (fun (q : Nat × Pg × List Bool) => q.1 ≤ a.states.length ∧ Inv a b q.2.1 ∧ q.2.2.length = a.states.length ∧ roundR a b a.states.length 0 o.2 = roundR a b (a.states.length - q.1) q.1 q.2) (fun (q : Nat × Pg × List Bool) => a.states.length - q.1) ((0, o.2)) ?_ (GS.weaken ⟨rfl, rfl, rfl, rfl, rfl, rfl, rfl, trivial⟩ (.refl _)) ?_
              · exact ⟨Nat.zero_le _, hR.2.1, hR.2.2.1, rfl⟩
              · rintro q hR2
                refine AW.seq ?_
                refine AW.seq ?_
                refine AW.region ?_
                refine AOL.p (P_move (v := .int .i64 _) rfl) rfl ?_
                refine AOL.p (P_fieldAddr_ptr (cs' := [_, _]) tok rfl rfl rfl rfl rfl rfl) rfl ?_
                refine AOL.p (P_load_ptr (c := .sl _ _) tok rfl rfl rfl) rfl ?_
                refine AOL.p (P_len_sl (n := a.states.length) tok rfl rfl rfl (by simp)) rfl ?_
                refine AOL.p (P_lss rfl rfl) rfl ?_
                refine AOL.nil ?_
                refine thenN ?_
                refine AW.cond (b := _) rfl (fun hc5 => ?_) (fun hc5 => ?_)
                · skip
                  have hlt5 : q.1 < a.states.length := by have := of_decide_eq_true hc5; omega
                  have hqn : InR a.states.length (q.1 : Int) := ⟨by omega, hlt5⟩
                  have hq5 := hR2.2.2.2
                  rw [less hlt5] at hq5
                  refine AW.skip ?_
                  refine thenN ?_
                  refine AW.seq ?_
                  refine AW.block ?_
                  refine AW.seq ?_
                  refine AW.region ?_
                  refine AOL.p (P_move (v := .val _) rfl) rfl ?_
                  refine AOL.p (P_move (v := .int .i64 _) rfl) rfl ?_
                  refine AOL.p (P_indexAddr_val tok rfl rfl rfl rfl rfl (by omega) (by omega) (off1 _)) rfl ?_
                  refine AOL.pk (P_load_box (k := 0) (c := .int .i64 (toS q.2.1.1 q.1)) tok rfl rfl rfl (bI_get (by rw [hR2.2.1.l1]; exact hlt5))) rfl rfl ?_
                  refine AOL.p (P_geq rfl rfl) rfl ?_
                  refine AOL.p (P_move (v := .bool _) rfl) rfl ?_
                  refine AOL.g (y := .val _) _ [] rfl (EntL.all trivial) (fun hG => P_move (v := .val _) rfl) rfl ?_
                  refine AOL.g (y := .int .i64 _) _ [] rfl (EntL.all trivial) (fun hG => P_move (v := .int .i64 _) rfl) rfl ?_
                  refine AOL.g (y := .val _) _ [(72, _), (73, _)] rfl (EntL.all ⟨Ent.self _ _, Ent.self _ _, trivial⟩) (fun hG => P_indexAddr_val tok rfl rfl rfl rfl rfl (by omega) (by omega) (off1 _)) rfl ?_
                  refine AOL.gk (y := .bool _) _ [(74, _)] rfl (EntL.all ⟨Ent.self _ _, trivial⟩) (fun hG => P_load_box (k := 2) (c := .bool (seenS q.2.2 q.1)) tok rfl rfl rfl (bB_get (by rw [hR2.2.2.1]; exact hlt5))) rfl rfl ?_
                  refine AOL.g (y := .bool _) _ [(75, _)] rfl (EntL.all ⟨Ent.self _ _, trivial⟩) (fun hG => P_not rfl) rfl ?_
                  refine AOL.p (P_pick_and rfl rfl rfl) rfl ?_
                  refine AOL.nil ?_
                  refine thenN ?_
                  refine AW.cond (b := _) rfl (fun hc6 => ?_) (fun hc6 => ?_)
                  · skip
                    have h0q : 0 ≤ toS q.2.1.1 q.1 := of_decide_eq_true (Bool.and_eq_true _ _ ▸ hc6 : _ ∧ _).1
                    refine AW.seq ?_
                    refine AW.seq ?_
                    refine AW.region ?_
                    refine AOL.p (P_load_ptr_agg (l := [.int .i64 _, .int .i64 _, _, _]) tok rfl rfl rfl rfl rfl) rfl ?_
                    refine AOL.p (P_load_ptr_agg (l := [.int .i64 _, .int .i64 _, _, _]) tok rfl rfl rfl rfl rfl) rfl ?_
                    refine AOL.p (P_move (v := .val _) rfl) rfl ?_
                    refine AOL.p (P_move (v := .val _) rfl) rfl ?_
                    refine AOL.p (P_move (v := .int .i64 _) rfl) rfl ?_
                    refine AOL.e (E_callf (by kernel_rfl) rfl rfl (r_match u.1 u.2 a b sa sb hwa.edr hwb.edr q.2.1 hR2.2.1 q.1 hqn h0q _)) rfl ?_
                    rintro _ _ ⟨rfl, rfl⟩
                    refine AOL.p (P_not rfl) rfl ?_
                    refine AOL.nil ?_
                    refine thenN ?_
                    refine AW.cond (b := _) rfl (fun hc7 => ?_) (fun hc7 => ?_)
                    · skip
                      rw [round_fail hc6 hc7] at hq5
                      have hf : (roundR a b a.states.length 0 o.2).1 = false := by rw [hq5]
                      rw [rounds_fail hf] at hq4
                      have h9 := isoR_no hc1 hc2 hc3 (by rw [hq4])
                      refine AW.seq ?_
                      refine AW.region ?_
                      refine AOL.p (P_assign_nil (z := 1) rfl) rfl ?_
                      refine AOL.p (P_assign (v := .bool _) rfl) rfl ?_
                      refine AOL.p (P_assign (v := .int .i64 _) rfl) rfl ?_
                      refine AOL.nil ?_
                      refine thenN ?_
                      refine AW.ret ?_
                      refine thenR ?_
                      refine blkR ?_
                      refine thenR ?_
                      refine thenR ?_
                      refine blkR ?_
                      refine blkR ?_
                      refine thenR ?_
                      refine thenR ?_
                      refine blkR ?_
                      refine thenR ?_
                      refine ⟨.inr rfl, [.sl _ _, .bool _, .int .i64 _], .cons (.tmp _ _ rfl) <| .cons (.tmp _ _ rfl) <| .cons (.tmp _ _ rfl) <| .nil, .cons _ (.cons _ (.cons _ (.refl _))), ?_⟩
                      rw [h9]; rfl
                    · skip
                      rw [round_go hc6 hc7] at hq5
                      have hmt : (matchR a b q.2.1 q.1).1 = true := by simpa using hc7
                      have hok := ((match_ok hwa.edr hwb.edr hR2.2.1 hqn h0q).1 hmt).1
                      refine AW.skip ?_
                      refine thenN ?_
                      refine AW.region ?_
                      refine AOL.p (P_move (v := .val _) rfl) rfl ?_
                      refine AOL.p (P_move (v := .int .i64 _) rfl) rfl ?_
                      refine AOL.p (P_indexAddr_val tok rfl rfl rfl rfl rfl (by omega) (by omega) (off1 _)) rfl ?_
                      refine AOL.e (E_store (k := 2) (v := .bool _) (cs' := bB (markS q.2.2 q.1)) (H2 := _ :: _ :: _ :: _) tok rfl rfl rfl rfl rfl rfl (by rw [bB_len, hR2.2.2.1]; exact Nat.ble_eq_true_of_le (by show q.1 + 1 ≤ _; omega)) (bB_mark (by rw [hR2.2.2.1]; exact hlt5)) rfl) rfl ?_
                      rintro _ _ ⟨rfl, rfl⟩
                      refine AOL.nil ?_
                      refine blkN ?_
                      refine thenN ?_
                      refine AW.region ?_
                      refine AOL.p (P_move (v := .int .i64 _) rfl) rfl ?_
                      refine AOL.p (P_add rfl rfl rfl (by constructor <;> omega)) rfl ?_
                      refine AOL.p (P_assign (v := .int .i64 _) rfl) rfl ?_
                      refine AOL.nil ?_
                      refine thenN ?_
                      refine ⟨(q.1 + 1, (matchR a b q.2.1 q.1).2, markS q.2.2 q.1), ?_, ?_, GS.weaken ⟨rfl, rfl, rfl, rfl, rfl, rfl, rfl, trivial⟩ (.refl _)⟩
                      · exact ⟨hlt5, hok, by rw [mark_len]; exact hR2.2.2.1, hq5⟩
                      · simp only; omega
                  · skip
                    rw [round_step hc6] at hq5
                    refine AW.skip ?_
                    refine blkN ?_
                    refine thenN ?_
                    refine AW.region ?_
                    refine AOL.p (P_move (v := .int .i64 _) rfl) rfl ?_
                    refine AOL.p (P_add rfl rfl rfl (by constructor <;> omega)) rfl ?_
                    refine AOL.p (P_assign (v := .int .i64 _) rfl) rfl ?_
                    refine AOL.nil ?_
                    refine thenN ?_
                    refine ⟨(q.1 + 1, q.2), ?_, ?_, GS.weaken ⟨rfl, rfl, rfl, rfl, rfl, rfl, rfl, trivial⟩ (.refl _)⟩
                    · exact ⟨hlt5, hR2.2.1, hR2.2.2.1, hq5⟩
                    · simp only; omega
                · skip
                  have hq : a.states.length - q.1 = 0 := by have := of_decide_eq_false hc5; omega
                  have hq5 := hR2.2.2.2
                  rw [hq] at hq5
                  have hq6 : roundR a b a.states.length 0 o.2 = (true, q.2) := hq5
                  rw [rounds_go hq6] at hq4
                  refine AW.exit ?_
                  refine thenE ?_
                  refine thenE ?_
                  refine blkHit ?_
                  refine blkN ?_
                  refine thenN ?_
                  refine AW.region ?_
                  refine AOL.p (P_move (v := .int .i64 _) rfl) rfl ?_
                  refine AOL.p (P_add rfl rfl rfl (by constructor <;> omega)) rfl ?_
                  refine AOL.p (P_assign (v := .int .i64 _) rfl) rfl ?_
                  refine AOL.nil ?_
                  refine thenN ?_
                  refine ⟨(o.1 + 1, q.2), ?_, ?_, GS.weaken ⟨rfl, rfl, rfl, rfl, rfl, rfl, trivial⟩ (.refl _)⟩
                  · exact ⟨hlt4, hR2.2.1, hR2.2.2.1, hq4⟩
                  · simp only; omega
            · skip
              have ho : a.states.length - o.1 = 0 := by have := of_decide_eq_false hc4; omega
              have hq4 := hR.2.2.2
              rw [ho] at hq4
              have h9 := isoR_yes hc1 hc2 hc3 hq4
              have hol := hR.2.1.l1
              refine AW.exit ?_
              refine thenE ?_
              refine thenE ?_
              refine blkHit ?_
              refine thenN ?_
              refine AW.seq ?_
              refine AW.region ?_
              refine AOL.p (P_move (v := .val _) rfl) rfl ?_
              refine AOL.ghost (GS.freezeSl (t := 88) (z := 1) (es := o.2.1.1.map cI) 0 rfl rfl (bI_flat _) (by rw [List.length_map]; exact hol.symm) (Nat.le_refl _) (by unfold maxLen; omega) (one_each (fun _ => rfl) _) slot_is) ?_
              skip
              refine AOL.p (P_assign (v := .sl _ _) rfl) rfl ?_
              refine AOL.p (P_assign (v := .bool _) rfl) rfl ?_
              refine AOL.p (P_assign (v := .int .i64 _) rfl) rfl ?_
              refine AOL.nil ?_
              refine thenN ?_
              refine AW.ret ?_
              refine ⟨.inr rfl, [.sl _ _, .bool _, .int .i64 _], .cons (.tmp _ _ rfl) <| .cons (.tmp _ _ rfl) <| .cons (.tmp _ _ rfl) <| .nil, .cons _ (.cons _ (.refl _)), ?_⟩
              rw [h9]; rfl
theorem r_Isomorphic (a b : Au) (sa : Sm a) (sb : Sm b) : APure Tryz.prog 19 [.agg (cAu a), .agg (cAu b)] (.tuple [.sl 1 ((isoS a b).1.map cI), .bool (isoS a b).2.1, .int .i64 (isoS a b).2.2]) := by
  rw [iso_eq]; exact r_Isomorphic0 a b sa sb

end Go.Proofs.YtoolcpnahmgnnaaGreatDoor
