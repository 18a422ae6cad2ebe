/-
  Walks of layer 8: the variables. No condition.
-/
import Derived.Test.YtkkacfnkjiijkaaM8
import Derived.Test.YtkkacfnkjiijkaaW18
import Derived.Test.YtkkacfnkjiijkaaW4
import Derived.KernelRfl
namespace Go.Proofs.Ytkkacfnkjiijkaa
open Go Go.Aw
set_option linter.unusedVariables false
set_option linter.unusedSimpArgs false

theorem own_take {l : List Ex} {k : Nat} {a : Ex} (h : l[k]? = some a) : (l.take (k + 1)).flatMap usedS = (l.take k).flatMap usedS ++ usedS a := by rw [take_get h]; simp
theorem own_yes {e : Ex} (h : ((usesS e.op).1 && decide (0 ≤ e.var) && decide (e.var < 16)) = true) : ownS e = [e.var.toNat] ∧ 0 ≤ e.var ∧ e.var < 16 := by
  unfold ownS; rw [if_pos h]
  simp only [Bool.and_eq_true, decide_eq_true_eq] at h
  exact ⟨rfl, h.1.2, h.2⟩
theorem own_no {e : Ex} (h : ((usesS e.op).1 && decide (0 ≤ e.var) && decide (e.var < 16)) = false) : ownS e = [] := by unfold ownS; rw [if_neg (by simp only [h]; decide)]

set_option maxRecDepth 20000 in
set_option maxHeartbeats 400000 in
theorem c51 (bS : Nat) (S : List Nat) (H : List HO) (e : Ex) : ACall Try.prog 51 (.box bS 97 (cSeen S) :: H) [.agg (cE e), .val (.pointer (some ⟨bS, 0, none⟩))] (fun r H' => r = .int .i64 0 ∧ H' = .box bS 97 (cSeen (S ++ ownS e)) :: H) := by
  refine ACall.body (n := 26) tok Try.func51 rfl rfl rfl ?_
  refine AW.seq ?_
  refine AW.region ?_
  refine AOL.p (P_box (v := .agg _) (cs := [.int .i64 _, _, .int .i64 _, .int .i64 _, .int .i64 _, .int .i64 _, .int .i64 _, .str _]) rfl rfl rfl) rfl ?_
  refine AOL.p (P_assign (v := .int .i64 _) rfl) rfl ?_
  refine AOL.nil ?_
  refine thenN ?_
  refine AW.seq ?_
  refine AW.seq ?_
  refine AW.region ?_
  refine AOL.p (P_fieldAddr_ptr (cs' := [.int .i64 _, _, .int .i64 _, .int .i64 _, .int .i64 _, .int .i64 _, .int .i64 _, .str _]) tok rfl rfl rfl rfl rfl rfl) rfl ?_
  refine AOL.p (P_load_ptr (c := .int .i64 _) tok rfl rfl rfl) rfl ?_
  refine AOL.p (P_callf (by kernel_rfl) rfl rfl (c52 e.op)) rfl ?_
  refine AOL.p (P_move (v := .tuple _) rfl) rfl ?_
  refine AOL.p (P_extract (v := .bool _) rfl rfl) rfl ?_
  refine AOL.p (P_extract (v := .bool _) rfl rfl) rfl ?_
  refine AOL.p (P_assign (v := .bool _) rfl) rfl ?_
  refine AOL.p (P_assign (v := .bool _) rfl) rfl ?_
  refine AOL.nil ?_
  refine thenN ?_
  refine AW.seq ?_
  refine AW.region ?_
  refine AOL.p (P_move (v := .bool _) rfl) rfl ?_
  refine AOL.p (P_move (v := .bool _) rfl) rfl ?_
  refine AOL.g (y := .ptr _) _ [] rfl (EntL.all trivial) (fun hG => P_fieldAddr_ptr (cs' := [.int .i64 _, .int .i64 _, .int .i64 _, .int .i64 _, .int .i64 _, .str _]) tok rfl rfl rfl rfl rfl rfl) rfl ?_
  refine AOL.g (y := .int .i64 _) _ [(14, _)] rfl (EntL.all ⟨Ent.self _ _, trivial⟩) (fun hG => P_load_ptr (c := .int .i64 _) tok rfl rfl rfl) rfl ?_
  refine AOL.g (y := .bool _) _ [(15, _)] rfl (EntL.all ⟨Ent.self _ _, trivial⟩) (fun hG => P_geq rfl rfl) rfl ?_
  refine AOL.p (P_pick_and rfl rfl rfl) rfl ?_
  refine AOL.p (P_move (v := .bool _) rfl) rfl ?_
  refine AOL.g (y := .ptr _) _ [] rfl (EntL.all trivial) (fun hG => P_fieldAddr_ptr (cs' := [.int .i64 _, .int .i64 _, .int .i64 _, .int .i64 _, .int .i64 _, .str _]) tok rfl rfl rfl rfl rfl rfl) rfl ?_
  refine AOL.g (y := .int .i64 _) _ [(19, _)] rfl (EntL.all ⟨Ent.self _ _, trivial⟩) (fun hG => P_load_ptr (c := .int .i64 _) tok rfl rfl rfl) rfl ?_
  refine AOL.g (y := .bool _) _ [(20, _)] rfl (EntL.all ⟨Ent.self _ _, trivial⟩) (fun hG => P_lss rfl rfl) rfl ?_
  refine AOL.p (P_pick_and rfl rfl rfl) rfl ?_
  refine AOL.nil ?_
  refine thenN ?_
  refine AW.cond (b := _) rfl (fun hc1 => ?_) (fun hc1 => ?_)
  · skip
    have ho := own_yes hc1
    refine AW.region ?_
    refine AOL.p (P_fieldAddr_ptr (cs' := [.int .i64 _, .int .i64 _, .int .i64 _, .int .i64 _, .int .i64 _, .str _]) tok rfl rfl rfl rfl rfl rfl) rfl ?_
    refine AOL.p (P_load_ptr (c := .int .i64 _) tok rfl rfl rfl) rfl ?_
    refine AOL.p (P_indexAddr_arr tok rfl rfl rfl rfl rfl (ho.2.1) (ho.2.2) (show 0 + e.var.toNat * 1 = e.var.toNat by omega)) rfl ?_
    refine AOL.e (E_store (k := 0) (v := .bool _) (cs' := cSeen (S ++ [e.var.toNat])) (H2 := _ :: _) tok rfl rfl rfl rfl rfl rfl (by simp only [seen_len]; exact Nat.ble_eq_true_of_le (by show e.var.toNat + 1 ≤ 16; omega)) (seen_set (by omega)) rfl) rfl ?_
    rintro _ _ ⟨rfl, rfl⟩
    refine AOL.nil ?_
    refine thenN ?_
    refine AW.seq ?_
    refine AW.region ?_
    refine AOL.p (P_assign (v := .int .i64 _) rfl) rfl ?_
    refine AOL.nil ?_
    refine thenN ?_
    refine AW.ret ?_
    refine ⟨.inr rfl, [.int .i64 _], .cons (.tmp _ _ rfl) <| .nil, _, .refl _, ?_⟩
    exact ⟨rfl, congrArg (fun l => HO.box bS 97 (cSeen (S ++ l)) :: H) ho.1.symm⟩
  · skip
    have ho := own_no hc1
    refine AW.skip ?_
    refine thenN ?_
    refine AW.seq ?_
    refine AW.region ?_
    refine AOL.p (P_assign (v := .int .i64 _) rfl) rfl ?_
    refine AOL.nil ?_
    refine thenN ?_
    refine AW.ret ?_
    refine ⟨.inr rfl, [.int .i64 _], .cons (.tmp _ _ rfl) <| .nil, _, .refl _, ?_⟩
    exact ⟨rfl, congrArg (fun l => HO.box bS 97 (cSeen l) :: H) (by rw [ho]; simp)⟩
set_option maxRecDepth 20000 in
set_option maxHeartbeats 400000 in
theorem c46v (bS : Nat) (S : List Nat) (H : List HO) (e : Ex) (hs : sizeN e ≤ 1048576) : ACall Try.prog 46 (.box bS 97 (cSeen S) :: H) [.agg (cE e), .fn (.func 51) [] [.val (.pointer (some ⟨bS, 0, none⟩))]] (fun r H' => r = .int .i64 0 ∧ H' = .box bS 97 (cSeen (S ++ usedS e)) :: H) := by
  revert S hs
  induction e using Ex.ind
  rename_i e ih
  intro S hs
  have hal := args_le e hs
  refine ACall.body (n := 29) tok Try.func46 rfl rfl rfl ?_
  refine AW.seq ?_
  refine AW.region ?_
  refine AOL.p (P_box (v := .agg _) (cs := [.int .i64 _, _, .int .i64 _, .int .i64 _, .int .i64 _, .int .i64 _, .int .i64 _, .str _]) rfl rfl rfl) rfl ?_
  refine AOL.p (P_assign (v := .int .i64 _) rfl) rfl ?_
  refine AOL.nil ?_
  refine thenN ?_
  refine AW.seq ?_
  refine AW.seq ?_
  refine AW.region ?_
  refine AOL.p (P_move (v := .fn _ _ _) rfl) rfl ?_
  refine AOL.p (P_load_ptr_agg (l := [.int .i64 _, _, .int .i64 _, .int .i64 _, .int .i64 _, .int .i64 _, .int .i64 _, .str _]) tok rfl rfl rfl rfl rfl) rfl ?_
  refine AOL.e (E_call (by kernel_rfl) rfl rfl rfl (c51 bS S H e)) rfl ?_
  rintro _ _ ⟨rfl, rfl⟩
  refine AOL.p (P_assign (v := .int .i64 _) rfl) rfl ?_
  refine AOL.nil ?_
  refine thenN ?_
  refine AW.seq ?_
  refine AW.region ?_
  refine AOL.p (P_move (v := .int .i64 _) rfl) rfl ?_
  refine AOL.p (P_neq rfl rfl) rfl ?_
  refine AOL.nil ?_
  refine thenN ?_
  refine AW.cond (b := _) rfl (fun hc1 => ?_) (fun hc1 => ?_)
  · skip
    exact absurd hc1 (by decide)
  · skip
    refine AW.skip ?_
    refine thenN ?_
    refine AW.seq ?_
    refine AW.seq ?_
    refine AW.region ?_
    refine AOL.p (P_fieldAddr_ptr (cs' := [_, .int .i64 _, .int .i64 _, .int .i64 _, .int .i64 _, .int .i64 _, .str _]) tok rfl rfl rfl rfl rfl rfl) rfl ?_
    refine AOL.p (P_load_ptr (c := .sl _ _) tok rfl rfl rfl) rfl ?_
    refine AOL.p (P_len_sl (n := e.args.length) tok rfl rfl rfl (by simp)) rfl ?_
    refine AOL.p (P_move (v := .int .i64 _) rfl) rfl ?_
    refine AOL.nil ?_
    refine thenN ?_
    refine AW.block ?_
    refine AW.loopS (fun (p : Nat × List Nat) => (⟨[(1, .fn (.func 51) [] [.val (.pointer (some ⟨bS, 0, none⟩))]), (16, .sl 8 (e.args.map encE)), (17, .int .i64 e.args.length), (18, .int .i64 (p.1 : Int))], .box bS 97 (cSeen p.2) :: H, 29⟩ : St)) (fun (p : Nat × List Nat) => p.1 ≤ e.args.length ∧ p.2 = S ++ ownS e ++ (e.args.take p.1).flatMap usedS) (fun (p : Nat × List Nat) => e.args.length - p.1) ((0, S ++ ownS e)) ?_ (GS.weaken ⟨rfl, rfl, rfl, rfl, trivial⟩ (.refl _)) ?_
    · exact ⟨Nat.zero_le _, by simp⟩
    · rintro p hR
      refine AW.seq ?_
      refine AW.region ?_
      refine AOL.p (P_lss rfl rfl) rfl ?_
      refine AOL.nil ?_
      refine thenN ?_
      refine AW.seq ?_
      refine AW.cond (b := _) rfl (fun hc2 => ?_) (fun hc2 => ?_)
      · skip
        obtain ⟨a, ha⟩ := get_lt hc2
        have hlt := get_lt' ha
        have hm := List.mem_of_getElem? ha
        refine AW.skip ?_
        refine thenN ?_
        refine AW.seq ?_
        refine AW.block ?_
        refine AW.seq ?_
        refine AW.region ?_
        refine AOL.p (P_indexAddr (c := [.int .i64 _, _, .int .i64 _, .int .i64 _, .int .i64 _, .int .i64 _, .int .i64 _, .str _]) tok rfl rfl rfl rfl rfl rfl (by omega) (encE_at ha)) rfl ?_
        refine AOL.p (P_load_ptr_agg (l := [.int .i64 _, _, .int .i64 _, .int .i64 _, .int .i64 _, .int .i64 _, .int .i64 _, .str _]) tok rfl rfl rfl rfl rfl) rfl ?_
        refine AOL.e (E_alloc (l := [.int .i64 0, .sl 8 [], .int .i64 0, .int .i64 0, .int .i64 0, .int .i64 0, .int .i64 0, .str []]) (by kernel_rfl)) rfl ?_
        rintro _ _ ⟨b7, rfl, rfl⟩
        refine AOL.e (E_store (k := 0) (v := .agg _) (cs' := [.int .i64 _, _, .int .i64 _, .int .i64 _, .int .i64 _, .int .i64 _, .int .i64 _, .str _]) (H2 := _ :: _ :: _) tok rfl rfl rfl rfl rfl rfl rfl rfl rfl) rfl ?_
        rintro _ _ ⟨rfl, rfl⟩
        refine AOL.ghost (GS.freeze (t := 7) 0 rfl rfl) ?_
        refine AOL.nil ?_
        refine thenN ?_
        refine AW.seq ?_
        refine AW.region ?_
        refine AOL.p (P_load_ptr_agg (l := [.int .i64 _, _, .int .i64 _, .int .i64 _, .int .i64 _, .int .i64 _, .int .i64 _, .str _]) tok rfl rfl rfl rfl rfl) rfl ?_
        refine AOL.p (P_move (v := .fn _ _ _) rfl) rfl ?_
        refine AOL.e (E_callf (by kernel_rfl) rfl rfl (ih a hm _ (by have := size_arg hm; omega))) rfl ?_
        rintro _ _ ⟨rfl, rfl⟩
        refine AOL.p (P_assign (v := .int .i64 _) rfl) rfl ?_
        refine AOL.nil ?_
        refine thenN ?_
        refine AW.seq ?_
        refine AW.region ?_
        refine AOL.p (P_move (v := .int .i64 _) rfl) rfl ?_
        refine AOL.p (P_neq rfl rfl) rfl ?_
        refine AOL.nil ?_
        refine thenN ?_
        refine AW.cond (b := _) rfl (fun hc3 => ?_) (fun hc3 => ?_)
        · skip
          exact absurd hc3 (by decide)
        · skip
          refine AW.skip ?_
          refine blkN ?_
          refine thenN ?_
          refine AW.region ?_
          refine AOL.p (P_add rfl rfl rfl (by constructor <;> omega)) rfl ?_
          refine AOL.p (P_move (v := .int .i64 _) rfl) rfl ?_
          refine AOL.nil ?_
          refine thenN ?_
          refine ⟨(p.1 + 1, p.2 ++ usedS a), ?_, ?_, GS.weaken ⟨rfl, rfl, rfl, rfl, trivial⟩ (.refl _)⟩
          · simp only; exact ⟨hlt, by rw [own_take ha, hR.2]; simp⟩
          · first | omega | (simp only; omega)
      · skip
        have hte := take_end hc2
        refine AW.exit ?_
        refine thenE ?_
        refine thenE ?_
        refine blkHit ?_
        refine thenN ?_
        refine AW.seq ?_
        refine AW.region ?_
        refine AOL.p (P_assign (v := .int .i64 _) rfl) rfl ?_
        refine AOL.nil ?_
        refine thenN ?_
        refine AW.ret ?_
        refine ⟨.inr rfl, [.int .i64 _], .cons (.tmp _ _ rfl) <| .nil, _, .refl _, ?_⟩
        exact ⟨rfl, congrArg (fun l => HO.box bS 97 (cSeen l) :: H) (by rw [hR.2, hte, usedS_eq]; simp)⟩
set_option maxRecDepth 20000 in
set_option maxHeartbeats 400000 in
theorem c53 (bS : Nat) (S : List Nat) (H : List HO) (e : Ex) (hs : sizeN e ≤ 1048576) : ACall Try.prog 53 (.box bS 4 (cSeen S) :: H) [.agg (cE e), .val (.slice (some ⟨bS, 0, none⟩) 16 16)] (fun r H' => r = resOf [] ∧ H' = .box bS 4 (cSeen (S ++ usedS e)) :: H) := by
  revert S hs
  induction e using Ex.ind
  rename_i e ih
  intro S hs
  have hal := args_le e hs
  refine ACall.body (n := 44) tok Try.func53 rfl rfl rfl ?_
  refine AW.seq ?_
  refine AW.region ?_
  refine AOL.p (P_box (v := .agg _) (cs := [.int .i64 _, _, .int .i64 _, .int .i64 _, .int .i64 _, .int .i64 _, .int .i64 _, .str _]) rfl rfl rfl) rfl ?_
  refine AOL.nil ?_
  refine thenN ?_
  refine AW.cut (fun (_ : Unit) => (⟨[(1, .val (.slice (some ⟨bS, 0, none⟩) 16 16)), (2, .ptr (cE e))], .box bS 4 (cSeen (S ++ ownS e)) :: H, 44⟩ : St)) (fun (_ : Unit) => True) ?_ ?_
  · skip
    refine AW.seq ?_
    refine AW.region ?_
    refine AOL.p (P_fieldAddr_ptr (cs' := [.int .i64 _, _, .int .i64 _, .int .i64 _, .int .i64 _, .int .i64 _, .int .i64 _, .str _]) tok rfl rfl rfl rfl rfl rfl) rfl ?_
    refine AOL.p (P_load_ptr (c := .int .i64 _) tok rfl rfl rfl) rfl ?_
    refine AOL.p (P_callf (by kernel_rfl) rfl rfl (c84 e.op)) rfl ?_
    refine AOL.p (P_move (v := .tuple _) rfl) rfl ?_
    refine AOL.p (P_extract (v := .bool _) rfl rfl) rfl ?_
    refine AOL.p (P_extract (v := .bool _) rfl rfl) rfl ?_
    refine AOL.p (P_assign (v := .bool _) rfl) rfl ?_
    refine AOL.p (P_assign (v := .bool _) rfl) rfl ?_
    refine AOL.nil ?_
    refine thenN ?_
    refine AW.seq ?_
    refine AW.region ?_
    refine AOL.p (P_move (v := .bool _) rfl) rfl ?_
    refine AOL.p (P_move (v := .bool _) rfl) rfl ?_
    refine AOL.g (y := .ptr _) _ [] rfl (EntL.all trivial) (fun hG => P_fieldAddr_ptr (cs' := [.int .i64 _, .int .i64 _, .int .i64 _, .int .i64 _, .int .i64 _, .str _]) tok rfl rfl rfl rfl rfl rfl) rfl ?_
    refine AOL.g (y := .int .i64 _) _ [(15, _)] rfl (EntL.all ⟨Ent.self _ _, trivial⟩) (fun hG => P_load_ptr (c := .int .i64 _) tok rfl rfl rfl) rfl ?_
    refine AOL.g (y := .bool _) _ [(16, _)] rfl (EntL.all ⟨Ent.self _ _, trivial⟩) (fun hG => P_geq rfl rfl) rfl ?_
    refine AOL.p (P_pick_and rfl rfl rfl) rfl ?_
    refine AOL.p (P_move (v := .bool _) rfl) rfl ?_
    refine AOL.g (y := .ptr _) _ [] rfl (EntL.all trivial) (fun hG => P_fieldAddr_ptr (cs' := [.int .i64 _, .int .i64 _, .int .i64 _, .int .i64 _, .int .i64 _, .str _]) tok rfl rfl rfl rfl rfl rfl) rfl ?_
    refine AOL.g (y := .int .i64 _) _ [(20, _)] rfl (EntL.all ⟨Ent.self _ _, trivial⟩) (fun hG => P_load_ptr (c := .int .i64 _) tok rfl rfl rfl) rfl ?_
    refine AOL.g (y := .val _) _ [] rfl (EntL.all trivial) (fun hG => P_move (v := .val _) rfl) rfl ?_
    refine AOL.g (y := .int .i64 _) _ [(22, _)] rfl (EntL.all ⟨Ent.self _ _, trivial⟩) (fun hG => P_len_val tok rfl rfl rfl) rfl ?_
    refine AOL.g (y := .bool _) _ [(21, _), (23, _)] rfl (EntL.all ⟨Ent.self _ _, Ent.self _ _, trivial⟩) (fun hG => P_lss rfl rfl) rfl ?_
    refine AOL.p (P_pick_and rfl rfl rfl) rfl ?_
    refine AOL.nil ?_
    refine thenN ?_
    refine AW.cond (b := _) rfl (fun hc1 => ?_) (fun hc1 => ?_)
    · skip
      have ho := own_yes hc1
      refine AW.region ?_
      refine AOL.p (P_move (v := .val _) rfl) rfl ?_
      refine AOL.p (P_fieldAddr_ptr (cs' := [.int .i64 _, .int .i64 _, .int .i64 _, .int .i64 _, .int .i64 _, .str _]) tok rfl rfl rfl rfl rfl rfl) rfl ?_
      refine AOL.p (P_load_ptr (c := .int .i64 _) tok rfl rfl rfl) rfl ?_
      refine AOL.p (P_indexAddr_val tok rfl rfl rfl rfl rfl (ho.2.1) (ho.2.2) (show 0 + e.var.toNat * 1 = e.var.toNat by omega)) rfl ?_
      refine AOL.e (E_store (k := 0) (v := .bool _) (cs' := cSeen (S ++ [e.var.toNat])) (H2 := _ :: _) tok rfl rfl rfl rfl rfl rfl (by simp only [seen_len]; exact Nat.ble_eq_true_of_le (by show e.var.toNat + 1 ≤ 16; omega)) (seen_set (by omega)) rfl) rfl ?_
      rintro _ _ ⟨rfl, rfl⟩
      refine AOL.nil ?_
      refine thenN ?_
      refine ⟨(), ?_, GS.trans (GS.cells 0 rfl (by rw [ho.1])) (GS.weaken ⟨rfl, rfl, trivial⟩ (.refl _))⟩
      trivial
    · skip
      have ho := own_no hc1
      refine AW.skip ?_
      refine thenN ?_
      refine ⟨(), ?_, GS.trans (GS.cells 0 rfl (by rw [ho]; simp)) (GS.weaken ⟨rfl, rfl, trivial⟩ (.refl _))⟩
      trivial
  · rintro _ _
    refine AW.seq ?_
    refine AW.region ?_
    refine AOL.p (P_assign (v := .int .i64 _) rfl) rfl ?_
    refine AOL.nil ?_
    refine thenN ?_
    refine AW.block ?_
    refine AW.loopS (fun (p : Nat × List Nat) => (⟨[(1, .val (.slice (some ⟨bS, 0, none⟩) 16 16)), (2, .ptr (cE e)), (6, .int .i64 (p.1 : Int))], .box bS 4 (cSeen p.2) :: H, 44⟩ : St)) (fun (p : Nat × List Nat) => p.1 ≤ e.args.length ∧ p.2 = S ++ ownS e ++ (e.args.take p.1).flatMap usedS) (fun (p : Nat × List Nat) => e.args.length - p.1) ((0, S ++ ownS e)) ?_ (GS.weaken ⟨rfl, rfl, rfl, trivial⟩ (.refl _)) ?_
    · exact ⟨Nat.zero_le _, by simp⟩
    · rintro p hR
      refine AW.seq ?_
      refine AW.seq ?_
      refine AW.region ?_
      refine AOL.p (P_move (v := .int .i64 _) rfl) rfl ?_
      refine AOL.p (P_fieldAddr_ptr (cs' := [_, .int .i64 _, .int .i64 _, .int .i64 _, .int .i64 _, .int .i64 _, .str _]) tok rfl rfl rfl rfl rfl rfl) rfl ?_
      refine AOL.p (P_load_ptr (c := .sl _ _) tok rfl rfl rfl) rfl ?_
      refine AOL.p (P_len_sl (n := e.args.length) tok rfl rfl rfl (by simp)) rfl ?_
      refine AOL.p (P_lss rfl rfl) rfl ?_
      refine AOL.nil ?_
      refine thenN ?_
      refine AW.cond (b := _) rfl (fun hc2 => ?_) (fun hc2 => ?_)
      · skip
        obtain ⟨a, ha⟩ := get_lt hc2
        have hlt := get_lt' ha
        have hm := List.mem_of_getElem? ha
        refine AW.skip ?_
        refine thenN ?_
        refine AW.seq ?_
        refine AW.block ?_
        refine AW.region ?_
        refine AOL.p (P_fieldAddr_ptr (cs' := [_, .int .i64 _, .int .i64 _, .int .i64 _, .int .i64 _, .int .i64 _, .str _]) tok rfl rfl rfl rfl rfl rfl) rfl ?_
        refine AOL.p (P_load_ptr (c := .sl _ _) tok rfl rfl rfl) rfl ?_
        refine AOL.p (P_move (v := .int .i64 _) rfl) rfl ?_
        refine AOL.p (P_indexAddr (c := [.int .i64 _, _, .int .i64 _, .int .i64 _, .int .i64 _, .int .i64 _, .int .i64 _, .str _]) tok rfl rfl rfl rfl rfl rfl (by omega) (encE_at ha)) rfl ?_
        refine AOL.p (P_load_ptr_agg (l := [.int .i64 _, _, .int .i64 _, .int .i64 _, .int .i64 _, .int .i64 _, .int .i64 _, .str _]) tok rfl rfl rfl rfl rfl) rfl ?_
        refine AOL.p (P_move (v := .val _) rfl) rfl ?_
        refine AOL.e (E_callf (by kernel_rfl) rfl rfl (ih a hm _ (by have := size_arg hm; omega))) rfl ?_
        rintro _ _ ⟨rfl, rfl⟩
        refine AOL.nil ?_
        refine blkN ?_
        refine thenN ?_
        refine AW.region ?_
        refine AOL.p (P_move (v := .int .i64 _) rfl) rfl ?_
        refine AOL.p (P_add rfl rfl rfl (by constructor <;> omega)) rfl ?_
        refine AOL.p (P_assign (v := .int .i64 _) rfl) rfl ?_
        refine AOL.nil ?_
        refine thenN ?_
        refine ⟨(p.1 + 1, p.2 ++ usedS a), ?_, ?_, GS.weaken ⟨rfl, rfl, rfl, trivial⟩ (.refl _)⟩
        · simp only; exact ⟨hlt, by rw [own_take ha, hR.2]; simp⟩
        · first | omega | (simp only; omega)
      · skip
        have hte := take_end hc2
        refine AW.exit ?_
        refine thenE ?_
        refine thenE ?_
        refine blkHit ?_
        refine ⟨.inl rfl, [], .nil, _, .refl _, ?_⟩
        exact ⟨rfl, congrArg (fun l => HO.box bS 4 (cSeen l) :: H) (by rw [hR.2, hte, usedS_eq]; simp)⟩
set_option maxRecDepth 20000 in
set_option maxHeartbeats 400000 in
theorem c26 (e : Ex) (hs : sizeN e ≤ 1048576) : APure Try.prog 26 [.agg (cE e)] (.sl 1 (cTo (varsS e))) := by
  refine APure.body (n := 22) tok Try.func26 rfl rfl rfl fun H => ?_
  refine AW.seq ?_
  refine AW.region ?_
  refine AOL.p (P_box (v := .agg _) (cs := [.int .i64 _, _, .int .i64 _, .int .i64 _, .int .i64 _, .int .i64 _, .int .i64 _, .str _]) rfl rfl rfl) rfl ?_
  refine AOL.p (P_assign_nil (z := 1) rfl) rfl ?_
  refine AOL.nil ?_
  refine thenN ?_
  refine AW.seq ?_
  refine AW.region ?_
  refine AOL.e (E_alloc (l := cSeen []) (by kernel_rfl)) rfl ?_
  rintro _ _ ⟨b3, rfl, rfl⟩
  refine AOL.nil ?_
  refine thenN ?_
  refine AW.seq ?_
  refine AW.region ?_
  refine AOL.p (P_load_ptr_agg (l := [.int .i64 _, _, .int .i64 _, .int .i64 _, .int .i64 _, .int .i64 _, .int .i64 _, .str _]) tok rfl rfl rfl rfl rfl) rfl ?_
  refine AOL.p (P_makeFunc (l := []) (l' := [.val _]) rfl rfl) rfl ?_
  refine AOL.e (E_callf (by kernel_rfl) rfl rfl (c46v b3 [] H e hs)) rfl ?_
  rintro _ _ ⟨rfl, rfl⟩
  refine AOL.nil ?_
  refine thenN ?_
  refine AW.seq ?_
  refine AW.region ?_
  refine AOL.p (P_assign (v := .val _) rfl) rfl ?_
  refine AOL.ghost (GS.row (t := 4) 3 1 rfl) ?_
  refine AOL.nil ?_
  refine thenN ?_
  refine AW.seq ?_
  refine AW.seq ?_
  refine AW.region ?_
  refine AOL.pk (P_load_box_agg (k := 1) (l := cSeen ([] ++ usedS e)) tok rfl rfl rfl rfl rfl) rfl rfl ?_
  refine AOL.p (P_move (v := .int .i64 _) rfl) rfl ?_
  refine AOL.nil ?_
  refine thenN ?_
  refine AW.block ?_
  refine AW.loopS (fun (p : Nat × List (List AV) × Value) => (⟨[(4, .row p.2.2 1 p.2.1), (10, .agg (cSeen (usedS e))), (11, .int .i64 (p.1 : Int))], .row p.2.2 p.2.1.length 3 1 :: H, 22⟩ : St)) (fun (p : Nat × List (List AV) × Value) => p.1 ≤ 16 ∧ p.2.1 = cTo (uptoS (usedS e) p.1)) (fun (p : Nat × List (List AV) × Value) => 16 - p.1) ((0, [], .slice none 0 0)) ?_ (GS.weaken ⟨rfl, by simp; rfl, rfl, trivial⟩ (.cons_cons _ (.cons _ (.refl _)))) ?_
  · exact ⟨Nat.zero_le _, rfl⟩
  · rintro p hR
    refine AW.seq ?_
    refine AW.region ?_
    refine AOL.p (P_lss rfl rfl) rfl ?_
    refine AOL.nil ?_
    refine thenN ?_
    refine AW.seq ?_
    refine AW.cond (b := _) rfl (fun hc1 => ?_) (fun hc1 => ?_)
    · skip
      have hlt : p.1 < 16 := by simp at hc1; omega
      have hsc : ∀ c ∈ p.2.1, scalars c = true := by rw [hR.2]; exact sc_map fun _ => rfl
      have hln : p.2.1.length ≤ 16 := by rw [hR.2]; simp only [cTo, List.length_map]; exact Nat.le_trans (upto_len _ _) hR.1
      refine AW.skip ?_
      refine thenN ?_
      refine AW.seq ?_
      refine AW.block ?_
      refine AW.seq ?_
      refine AW.region ?_
      refine AOL.p (P_move (v := .int .i64 _) rfl) rfl ?_
      refine AOL.p (P_index_agg (c := _) tok rfl rfl rfl rfl rfl rfl rfl (by omega) (by simp; omega) (seen_get hlt)) rfl ?_
      refine AOL.p (P_assign (v := .int .i64 _) rfl) rfl ?_
      refine AOL.p (P_assign (v := .bool _) rfl) rfl ?_
      refine AOL.nil ?_
      refine thenN ?_
      refine AW.seq ?_
      refine AW.region ?_
      refine AOL.p (P_move (v := .bool _) rfl) rfl ?_
      refine AOL.nil ?_
      refine thenN ?_
      refine AW.cond (b := _) rfl (fun hc2 => ?_) (fun hc2 => ?_)
      · skip
        try rw [Int.toNat_natCast] at hc2
        refine AW.region ?_
        refine AOL.p (P_move (v := .row _ _ _) rfl) rfl ?_
        refine AOL.p (P_move (v := .int .i64 _) rfl) rfl ?_
        refine AOL.p (P_buildSlice (es := [[.int .i64 _]]) tok rfl rfl rfl rfl rfl rfl rfl rfl rfl) rfl ?_
        refine AOL.e (E_append (k := 0) tok rfl rfl rfl rfl rfl rfl rfl rfl (sc_one rfl) (hsc) (by simp; omega) (by simp [maxLen]; omega)) rfl ?_
        rintro _ _ ⟨v19, rfl, rfl⟩
        refine AOL.p (P_assign (v := .row _ _ _) rfl) rfl ?_
        refine AOL.nil ?_
        refine blkN ?_
        refine thenN ?_
        refine AW.region ?_
        refine AOL.p (P_add rfl rfl rfl (by constructor <;> omega)) rfl ?_
        refine AOL.p (P_move (v := .int .i64 _) rfl) rfl ?_
        refine AOL.nil ?_
        refine thenN ?_
        refine ⟨(p.1 + 1, p.2.1 ++ [[.int .i64 (p.1 : Int)]], v19), ?_, ?_, GS.weaken ⟨rfl, rfl, rfl, trivial⟩ (.refl _)⟩
        · simp only; exact ⟨by omega, by rw [upto_yes hc2, hR.2]; simp [cTo]⟩
        · first | omega | (simp only; omega)
      · skip
        try rw [Int.toNat_natCast] at hc2
        refine AW.skip ?_
        refine blkN ?_
        refine thenN ?_
        refine AW.region ?_
        refine AOL.p (P_add rfl rfl rfl (by constructor <;> omega)) rfl ?_
        refine AOL.p (P_move (v := .int .i64 _) rfl) rfl ?_
        refine AOL.nil ?_
        refine thenN ?_
        refine ⟨(p.1 + 1, p.2.1, p.2.2), ?_, ?_, GS.weaken ⟨rfl, rfl, rfl, trivial⟩ (.refl _)⟩
        · simp only; exact ⟨by omega, by rw [upto_no hc2, hR.2]⟩
        · first | omega | (simp only; omega)
    · skip
      refine AW.exit ?_
      refine thenE ?_
      refine thenE ?_
      refine blkHit ?_
      refine thenN ?_
      refine AW.seq ?_
      refine AW.region ?_
      refine AOL.ghost (GS.unrow 4 rfl) ?_
      refine AOL.p (P_move (v := .sl _ _) rfl) rfl ?_
      refine AOL.p (P_assign (v := .sl _ _) rfl) rfl ?_
      refine AOL.nil ?_
      refine thenN ?_
      refine AW.ret ?_
      refine ⟨.inr rfl, [.sl _ _], .cons (.tmp _ _ rfl) <| .nil, .cons _ (.refl _), ?_⟩
      have h16 : p.1 = 16 := by simp at hc1; omega
      simp only [resOf]; rw [hR.2, h16]; rfl
set_option maxRecDepth 20000 in
set_option maxHeartbeats 400000 in
theorem c27 (e : Ex) (hs : sizeN e ≤ 1048576) : APure Try.prog 27 [.agg (cE e)] (.sl 1 (cTo (varsS e))) := by
  refine APure.body (n := 25) tok Try.func27 rfl rfl rfl fun H => ?_
  refine AW.seq ?_
  refine AW.region ?_
  refine AOL.p (P_box (v := .agg _) (cs := [.int .i64 _, _, .int .i64 _, .int .i64 _, .int .i64 _, .int .i64 _, .int .i64 _, .str _]) rfl rfl rfl) rfl ?_
  refine AOL.p (P_assign_nil (z := 1) rfl) rfl ?_
  refine AOL.nil ?_
  refine thenN ?_
  refine AW.seq ?_
  refine AW.region ?_
  refine AOL.e (E_makeSlice (n := 16) tok rfl rfl rfl rfl rfl rfl rfl (by decide) (by decide)) rfl ?_
  rintro _ _ ⟨b6, rfl, rfl⟩
  refine AOL.p (P_assign (v := .val _) rfl) rfl ?_
  refine AOL.nil ?_
  refine thenN ?_
  refine AW.seq ?_
  refine AW.region ?_
  refine AOL.p (P_load_ptr_agg (l := [.int .i64 _, _, .int .i64 _, .int .i64 _, .int .i64 _, .int .i64 _, .int .i64 _, .str _]) tok rfl rfl rfl rfl rfl) rfl ?_
  refine AOL.p (P_move (v := .val _) rfl) rfl ?_
  refine AOL.e (E_callf (by kernel_rfl) rfl rfl (c53 b6 [] H e hs)) rfl ?_
  rintro _ _ ⟨rfl, rfl⟩
  refine AOL.nil ?_
  refine thenN ?_
  refine AW.seq ?_
  refine AW.region ?_
  refine AOL.p (P_assign (v := .val _) rfl) rfl ?_
  refine AOL.ghost (GS.row (t := 4) 3 1 rfl) ?_
  refine AOL.nil ?_
  refine thenN ?_
  refine AW.seq ?_
  refine AW.seq ?_
  refine AW.region ?_
  refine AOL.p (P_assign (v := .int .i64 _) rfl) rfl ?_
  refine AOL.nil ?_
  refine thenN ?_
  refine AW.block ?_
  refine AW.loopS (fun (p : Nat × List (List AV) × Value) => (⟨[(3, .val (.slice (some ⟨b6, 0, none⟩) 16 16)), (4, .row p.2.2 1 p.2.1), (5, .int .i64 (p.1 : Int))], .row p.2.2 p.2.1.length 3 1 :: .box b6 4 (cSeen (usedS e)) :: H, 25⟩ : St)) (fun (p : Nat × List (List AV) × Value) => p.1 ≤ 16 ∧ p.2.1 = cTo (uptoS (usedS e) p.1)) (fun (p : Nat × List (List AV) × Value) => 16 - p.1) ((0, [], .slice none 0 0)) ?_ (GS.weaken ⟨rfl, rfl, rfl, trivial⟩ (.refl _)) ?_
  · exact ⟨Nat.zero_le _, rfl⟩
  · rintro p hR
    refine AW.seq ?_
    refine AW.seq ?_
    refine AW.region ?_
    refine AOL.p (P_move (v := .int .i64 _) rfl) rfl ?_
    refine AOL.p (P_move (v := .val _) rfl) rfl ?_
    refine AOL.p (P_len_val tok rfl rfl rfl) rfl ?_
    refine AOL.p (P_lss rfl rfl) rfl ?_
    refine AOL.nil ?_
    refine thenN ?_
    refine AW.cond (b := _) rfl (fun hc1 => ?_) (fun hc1 => ?_)
    · skip
      have hlt : p.1 < 16 := by simp at hc1; omega
      have hsc : ∀ c ∈ p.2.1, scalars c = true := by rw [hR.2]; exact sc_map fun _ => rfl
      have hln : p.2.1.length ≤ 16 := by rw [hR.2]; simp only [cTo, List.length_map]; exact Nat.le_trans (upto_len _ _) hR.1
      refine AW.skip ?_
      refine thenN ?_
      refine AW.seq ?_
      refine AW.block ?_
      refine AW.seq ?_
      refine AW.region ?_
      refine AOL.p (P_move (v := .val _) rfl) rfl ?_
      refine AOL.p (P_move (v := .int .i64 _) rfl) rfl ?_
      refine AOL.p (P_indexAddr_val tok rfl rfl rfl rfl rfl (by omega) (by simp; omega) (show 0 + ((p.1 : Int)).toNat * 1 = p.1 by omega)) rfl ?_
      refine AOL.pk (P_load_box (k := 1) (c := .bool ((usedS e).contains p.1)) tok rfl rfl rfl (seen_get hlt)) rfl rfl ?_
      refine AOL.nil ?_
      refine thenN ?_
      refine AW.cond (b := _) rfl (fun hc2 => ?_) (fun hc2 => ?_)
      · skip
        try rw [Int.toNat_natCast] at hc2
        refine AW.region ?_
        refine AOL.p (P_move (v := .row _ _ _) rfl) rfl ?_
        refine AOL.p (P_move (v := .int .i64 _) rfl) rfl ?_
        refine AOL.p (P_buildSlice (es := [[.int .i64 _]]) tok rfl rfl rfl rfl rfl rfl rfl rfl rfl) rfl ?_
        refine AOL.e (E_append (k := 0) tok rfl rfl rfl rfl rfl rfl rfl rfl (sc_one rfl) (hsc) (by simp; omega) (by simp [maxLen]; omega)) rfl ?_
        rintro _ _ ⟨v23, rfl, rfl⟩
        refine AOL.p (P_assign (v := .row _ _ _) rfl) rfl ?_
        refine AOL.nil ?_
        refine blkN ?_
        refine thenN ?_
        refine AW.region ?_
        refine AOL.p (P_move (v := .int .i64 _) rfl) rfl ?_
        refine AOL.p (P_add rfl rfl rfl (by constructor <;> omega)) rfl ?_
        refine AOL.p (P_assign (v := .int .i64 _) rfl) rfl ?_
        refine AOL.nil ?_
        refine thenN ?_
        refine ⟨(p.1 + 1, p.2.1 ++ [[.int .i64 (p.1 : Int)]], v23), ?_, ?_, GS.weaken ⟨rfl, rfl, rfl, trivial⟩ (.refl _)⟩
        · simp only; exact ⟨by omega, by rw [upto_yes hc2, hR.2]; simp [cTo]⟩
        · first | omega | (simp only; omega)
      · skip
        try rw [Int.toNat_natCast] at hc2
        refine AW.skip ?_
        refine blkN ?_
        refine thenN ?_
        refine AW.region ?_
        refine AOL.p (P_move (v := .int .i64 _) rfl) rfl ?_
        refine AOL.p (P_add rfl rfl rfl (by constructor <;> omega)) rfl ?_
        refine AOL.p (P_assign (v := .int .i64 _) rfl) rfl ?_
        refine AOL.nil ?_
        refine thenN ?_
        refine ⟨(p.1 + 1, p.2.1, p.2.2), ?_, ?_, GS.weaken ⟨rfl, rfl, rfl, trivial⟩ (.refl _)⟩
        · simp only; exact ⟨by omega, by rw [upto_no hc2, hR.2]⟩
        · first | omega | (simp only; omega)
    · skip
      refine AW.exit ?_
      refine thenE ?_
      refine thenE ?_
      refine blkHit ?_
      refine thenN ?_
      refine AW.seq ?_
      refine AW.region ?_
      refine AOL.ghost (GS.unrow 4 rfl) ?_
      refine AOL.p (P_move (v := .sl _ _) rfl) rfl ?_
      refine AOL.p (P_assign (v := .sl _ _) rfl) rfl ?_
      refine AOL.nil ?_
      refine thenN ?_
      refine AW.ret ?_
      refine ⟨.inr rfl, [.sl _ _], .cons (.tmp _ _ rfl) <| .nil, .cons _ (.cons _ (.refl _)), ?_⟩
      have h16 : p.1 = 16 := by simp at hc1; omega
      simp only [resOf]; rw [hR.2, h16]; rfl

end Go.Proofs.Ytkkacfnkjiijkaa
