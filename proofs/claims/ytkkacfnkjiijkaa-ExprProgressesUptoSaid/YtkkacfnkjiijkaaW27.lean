/-
  Walks of layer 8: ExprProgresses. No condition.
-/
import Derived.Test.YtkkacfnkjiijkaaW26
import Derived.KernelRfl
namespace Go.Proofs.Ytkkacfnkjiijkaa
open Go Go.Aw
set_option linter.unusedVariables false
set_option linter.unusedSimpArgs false

structure Qu where
  vars : List Va
def qu0 : Qu := ⟨[]⟩
def cQ (q : Qu) : List AV := [.junk] ++ [.sl 2 (q.vars.map cVa)] ++ List.replicate 16 .junk
theorem q_at {qs : List Qu} (h : qs.length ≠ 0) : (qs.map cQ)[(0 : Int).toNat]? = some (cQ (qs.headD qu0)) := by
  cases qs with
  | nil => exact absurd rfl h
  | cons a r => rfl
theorem guard_q {qs : List Qu} {x : Bool} (h : allG [(((((qs.length : Nat) : Int) != 1) || x), false)]) : qs.length ≠ 0 := by
  have h1 := h _ (List.mem_singleton.2 rfl)
  intro h0
  simp [h0] at h1
theorem leaf_err {types : List Sc} {vars : List Va} {e : Ex} (h : (leafK types vars e).2 ≠ 0) : (leafK types vars e).1 = 0 := by
  unfold leafK at h ⊢
  repeat' split
  all_goals first | rfl | (simp_all; done)
theorem kind_err {types : List Sc} {vars : List Va} {e : Ex} (h : (KindS types vars e).2 ≠ 0) : (KindS types vars e).1 = 0 := by
  unfold KindS at h ⊢
  split
  · rfl
  split
  · rfl
  split
  · rfl
  rename_i h1 h2 h3
  rw [if_neg h1, if_neg h2, if_neg h3] at h
  rw [kindS_eq types vars e] at h ⊢
  split
  · rename_i h4; rw [if_pos h4] at h; exact leaf_err h
  split
  · rfl
  split
  · rfl
  · rename_i h4 h5 h6
    rw [if_neg h4, if_neg h5, if_neg h6] at h
    exact absurd rfl h
def notE (e : Ex) : Ex := ⟨12, [e], 0, 0, 0, v0⟩
def notC (e : Ex) : List AV := [.int .i64 12, .sl 8 [cE e], .int .i64 0, .int .i64 0, .int .i64 0, .int .i64 0, .int .i64 0, .str []]
theorem cE_not (e : Ex) : cE (notE e) = notC e := by simp [cE, notE, notC, encE_eq, v0]
theorem not_check (e : Ex) (hs : sizeN (notE e) ≤ 1048576) : APure Try.prog 21 [.agg (notC e)] (.int .i64 (checkS (notE e))) := by
  have := c21 (notE e) hs
  rwa [cE_not] at this
theorem not_call (vars : List (List Ev)) (own : Int) (ev : Ev) (hx : ∀ l ∈ vars, l.length ≤ 1048576) (e : Ex) (hs : sizeN (notE e) ≤ 1048576) :
    APure Try.prog 16 [.agg (notC e), .agg (cEnv vars), .int .i64 own, .agg (cEv ev)] (.bool (TruthS ⟨vars, own, ev⟩ (notE e))) := by
  have := c16 vars own ev hx (notE e) hs
  rwa [cE_not] at this
theorem few_size {e : Ex} (h : fewE e = true) : sizeN (notE e) ≤ 1048576 := by
  have h2 : sizeN e ≤ 200 ∧ depthN e ≤ 100 := by simpa [fewE] using h
  rw [sizeN_eq]; simp [notE]; omega

set_option maxRecDepth 20000 in
set_option maxHeartbeats 1600000 in
theorem c10 (types : List Sc) (hl : types.length ≤ 1048576) (hs : ∀ s ∈ types, scOK s) (qs : List Qu) (hqv : (qs.headD qu0).vars.length ≤ 1048576) (e : Ex) (hse : sizeN e ≤ 1048576) (ns : List Int) (hns : ∀ x ∈ ns, -128 ≤ x ∧ x ≤ 127) (hnl : ns.length ≤ 1048576) : APure Try.prog 10 [.agg [.sl 2 (types.map cSc), .sl 18 (qs.map cQ)], .agg (cE e), .sl 1 (cNs ns)] (.bool true) := by
  refine APure.body (n := 123) tok Try.func10 rfl rfl rfl fun H => ?_
  refine AW.seq ?_
  refine AW.region ?_
  refine AOL.p (P_box (v := .agg _) (cs := [_, _]) rfl rfl rfl) rfl ?_
  refine AOL.p (P_box (v := .agg _) (cs := [.int .i64 _, _, .int .i64 _, .int .i64 _, .int .i64 _, .int .i64 _, .int .i64 _, .str _]) rfl rfl rfl) rfl ?_
  refine AOL.p (P_assign (v := .bool _) rfl) rfl ?_
  refine AOL.nil ?_
  refine thenN ?_
  refine AW.seq ?_
  refine AW.seq ?_
  refine AW.draw mixed (fun _ => True) trivial (by kernel_rfl) ?_
  refine Canon.pure _ _ 0 _ _ rfl (by kernel_rfl) (by kernel_rfl) rfl (.run rfl (P_fieldAddr_ptr (cs' := [_]) tok rfl rfl rfl rfl rfl rfl)) ?_
  refine Canon.pure _ _ 1 _ _ rfl (by kernel_rfl) (by kernel_rfl) rfl (.run rfl (P_load_ptr (c := .sl _ _) tok rfl rfl rfl)) ?_
  refine Canon.pure _ _ 2 _ _ rfl (by kernel_rfl) (by kernel_rfl) rfl (.run rfl (P_len_sl (n := qs.length) tok rfl rfl rfl (by simp))) ?_
  refine Canon.pure _ _ 3 _ _ rfl (by kernel_rfl) (by kernel_rfl) rfl (.run rfl (P_neq rfl rfl)) ?_
  refine Canon.pure _ _ 4 _ _ rfl (by kernel_rfl) (by kernel_rfl) rfl (.run rfl (P_move (v := .bool _) rfl)) ?_
  refine Canon.pure _ _ 5 _ _ rfl (by kernel_rfl) (by kernel_rfl) rfl (.opt _ (.agg _) [] rfl (EntL.all trivial) (fun hG => P_load_ptr_agg (l := [.int .i64 _, _, .int .i64 _, .int .i64 _, .int .i64 _, .int .i64 _, .int .i64 _, .str _]) tok rfl rfl rfl rfl rfl) rfl) ?_
  refine Canon.pure _ _ 6 _ _ rfl (by kernel_rfl) (by kernel_rfl) rfl (.opt _ (.sl _ _) [(20, _)] rfl (EntL.all ⟨Ent.self _ _, trivial⟩) (fun hG => P_buildSlice (es := [[.int .i64 _, _, .int .i64 _, .int .i64 _, .int .i64 _, .int .i64 _, .int .i64 _, .str _]]) tok rfl rfl rfl rfl rfl rfl rfl rfl rfl) rfl) ?_
  refine Canon.pure _ _ 7 _ _ rfl (by kernel_rfl) (by kernel_rfl) rfl (.opt _ (.bool _) [(21, _)] rfl (EntL.all ⟨Ent.self _ _, trivial⟩) (fun hG => P_callf (by kernel_rfl) rfl rfl (few_one e hse)) rfl) ?_
  refine Canon.pure _ _ 8 _ _ rfl (by kernel_rfl) (by kernel_rfl) rfl (.opt _ (.bool _) [(22, _)] rfl (EntL.all ⟨Ent.self _ _, trivial⟩) (fun hG => P_not rfl) rfl) ?_
  refine Canon.pure _ _ 9 _ _ rfl (by kernel_rfl) (by kernel_rfl) rfl (.run rfl (P_pick_or rfl rfl rfl)) ?_
  refine Canon.pure _ _ 10 _ _ rfl (by kernel_rfl) (by kernel_rfl) rfl (.run rfl (P_move (v := .bool _) rfl)) ?_
  refine Canon.pure _ _ 11 _ _ rfl (by kernel_rfl) (by kernel_rfl) rfl (.opt _ (.ptr _) [] rfl (EntL.all trivial) (fun hG => P_fieldAddr_ptr (cs' := [_, _]) tok rfl rfl rfl rfl rfl rfl) rfl) ?_
  refine Canon.pure _ _ 12 _ _ rfl (by kernel_rfl) (by kernel_rfl) rfl (.opt _ (.sl _ _) [(26, _)] rfl (EntL.all ⟨Ent.self _ _, trivial⟩) (fun hG => P_load_ptr (c := .sl _ _) tok rfl rfl rfl) rfl) ?_
  refine Canon.pure _ _ 13 _ _ rfl (by kernel_rfl) (by kernel_rfl) rfl (.opt _ (.ptr _) [] rfl (EntL.all trivial) (fun hG => P_fieldAddr_ptr (cs' := [_]) tok rfl rfl rfl rfl rfl rfl) rfl) ?_
  refine Canon.pure _ _ 14 _ _ rfl (by kernel_rfl) (by kernel_rfl) rfl (.opt _ (.sl _ _) [(28, _)] rfl (EntL.all ⟨Ent.self _ _, trivial⟩) (fun hG => P_load_ptr (c := .sl _ _) tok rfl rfl rfl) rfl) ?_
  refine Canon.pure _ _ 15 _ _ rfl (by kernel_rfl) (by kernel_rfl) rfl (.opt _ (.ptr _) [(29, _)] rfl (EntL.all ⟨Ent.self _ _, trivial⟩) (fun hG => P_indexAddr (c := cQ (qs.headD qu0)) tok rfl rfl rfl rfl rfl rfl (by decide) (q_at (guard_q hG))) rfl) ?_
  refine Canon.pure _ _ 16 _ _ rfl (by kernel_rfl) (by kernel_rfl) rfl (.opt _ (.ptr _) [(30, _)] rfl (EntL.all ⟨Ent.self _ _, trivial⟩) (fun hG => P_fieldAddr_ptr  tok rfl rfl rfl rfl rfl rfl) rfl) ?_
  refine Canon.pure _ _ 17 _ _ rfl (by kernel_rfl) (by kernel_rfl) rfl (.opt _ (.sl _ _) [(31, _)] rfl (EntL.all ⟨Ent.self _ _, trivial⟩) (fun hG => P_load_ptr (c := .sl _ _) tok rfl rfl rfl) rfl) ?_
  refine Canon.pure _ _ 18 _ _ rfl (by kernel_rfl) (by kernel_rfl) rfl (.opt _ (.bool _) [(27, _), (32, _)] rfl (EntL.all ⟨Ent.self _ _, Ent.self _ _, trivial⟩) (fun hG => P_callf (by kernel_rfl) rfl rfl (c30 types (qs.headD qu0).vars hl)) rfl) ?_
  refine Canon.pure _ _ 19 _ _ rfl (by kernel_rfl) (by kernel_rfl) rfl (.opt _ (.bool _) [(33, _)] rfl (EntL.all ⟨Ent.self _ _, trivial⟩) (fun hG => P_not rfl) rfl) ?_
  refine Canon.pure _ _ 20 _ _ rfl (by kernel_rfl) (by kernel_rfl) rfl (.run rfl (P_pick_or rfl rfl rfl)) ?_
  refine Canon.done _ _ (by kernel_rfl) ?_
  refine thenN ?_
  refine AW.cond (b := _) rfl (fun hc1 => ?_) (fun hc1 => ?_)
  · skip
    refine AW.seq ?_
    refine AW.region ?_
    refine AOL.p (P_callf (by kernel_rfl) rfl rfl (c13)) rfl ?_
    refine AOL.p (P_assign (v := .bool _) rfl) rfl ?_
    refine AOL.nil ?_
    refine thenN ?_
    refine AW.ret ?_
    refine thenR ?_
    refine ⟨.inr rfl, [.bool _], .cons (.tmp _ _ rfl) <| .nil, .refl _, ?_⟩
    rfl
  · skip
    have hcf : qs.length = 1 ∧ fewE e = true ∧ shortS types (qs.headD qu0).vars = true := by
          simp only [Bool.or_eq_false_iff, bne_eq_false_iff_eq, Bool.not_eq_false'] at hc1
          exact ⟨by omega, hc1.1.2, hc1.2⟩
    have hq0 : qs.length ≠ 0 := by omega
    have hns2 := few_size hcf.2.1
    refine AW.skip ?_
    refine thenN ?_
    refine AW.seq ?_
    refine AW.region ?_
    refine AOL.p (P_fieldAddr_ptr (cs' := [_]) tok rfl rfl rfl rfl rfl rfl) rfl ?_
    refine AOL.p (P_load_ptr (c := .sl _ _) tok rfl rfl rfl) rfl ?_
    refine AOL.p (P_indexAddr (c := cQ (qs.headD qu0)) tok rfl rfl rfl rfl rfl rfl (by decide) (q_at hq0)) rfl ?_
    refine AOL.p (P_fieldAddr_ptr  tok rfl rfl rfl rfl rfl rfl) rfl ?_
    refine AOL.p (P_load_ptr (c := .sl _ _) tok rfl rfl rfl) rfl ?_
    refine AOL.p (P_assign (v := .sl _ _) rfl) rfl ?_
    refine AOL.nil ?_
    refine thenN ?_
    refine AW.seq ?_
    refine AW.region ?_
    refine AOL.p (P_fieldAddr_ptr (cs' := [_, _]) tok rfl rfl rfl rfl rfl rfl) rfl ?_
    refine AOL.p (P_load_ptr (c := .sl _ _) tok rfl rfl rfl) rfl ?_
    refine AOL.p (P_move (v := .sl _ _) rfl) rfl ?_
    refine AOL.p (P_load_ptr_agg (l := [.int .i64 _, _, .int .i64 _, .int .i64 _, .int .i64 _, .int .i64 _, .int .i64 _, .str _]) tok rfl rfl rfl rfl rfl) rfl ?_
    refine AOL.p (P_callf (by kernel_rfl) rfl rfl (c31 types hl hs (qs.headD qu0).vars hqv e hse)) rfl ?_
    refine AOL.p (P_move (v := .tuple _) rfl) rfl ?_
    refine AOL.p (P_extract (v := .int .i64 _) rfl rfl) rfl ?_
    refine AOL.p (P_extract (v := .int .i64 _) rfl rfl) rfl ?_
    refine AOL.p (P_assign (v := .int .i64 _) rfl) rfl ?_
    refine AOL.p (P_assign (v := .int .i64 _) rfl) rfl ?_
    refine AOL.nil ?_
    refine thenN ?_
    refine AW.seq ?_
    refine AW.seq ?_
    refine AW.region ?_
    refine AOL.p (P_move (v := .int .i64 _) rfl) rfl ?_
    refine AOL.p (P_neq rfl rfl) rfl ?_
    refine AOL.nil ?_
    refine thenN ?_
    refine AW.cond (b := _) rfl (fun hc2 => ?_) (fun hc2 => ?_)
    · skip
      refine AW.seq ?_
      refine AW.region ?_
      refine AOL.p (P_callf (by kernel_rfl) rfl rfl (c13)) rfl ?_
      refine AOL.p (P_move (v := .bool _) rfl) rfl ?_
      refine AOL.g (y := .int .i64 _) _ [] rfl (EntL.all trivial) (fun hG => P_move (v := .int .i64 _) rfl) rfl ?_
      refine AOL.g (y := .bool _) _ [(54, _)] rfl (EntL.all ⟨Ent.self _ _, trivial⟩) (fun hG => P_eql rfl rfl) rfl ?_
      refine AOL.p (P_pick_and rfl rfl rfl) rfl ?_
      refine AOL.p (P_assign (v := .bool _) rfl) rfl ?_
      refine AOL.nil ?_
      refine thenN ?_
      refine AW.ret ?_
      refine thenR ?_
      refine ⟨.inr rfl, [.bool _], .cons (.tmp _ _ rfl) <| .nil, .refl _, ?_⟩
      have := kind_err (types := types) (vars := (qs.headD qu0).vars) (e := e) (by simpa using hc2)
      rw [this]; rfl
    · skip
      have hk0 : (KindS types (qs.headD qu0).vars e).2 = 0 := by simpa using hc2
      have hks : allTS types = 0 ∧ varsE types (qs.headD qu0).vars = 0 := by
            unfold KindS at hk0
            split at hk0
            · rename_i h1; simp at h1 hk0; exact absurd hk0 h1
            split at hk0
            · rename_i h1 h2; simp at h2 hk0; exact absurd hk0 h2
            · rename_i h1 h2; exact ⟨by simpa using h1, by simpa using h2⟩
      have hty := tyok_of (varsE_zero hks.2)
      have hko := all_kinds hks.1
      refine AW.skip ?_
      refine thenN ?_
      refine AW.seq ?_
      refine AW.seq ?_
      refine AW.region ?_
      refine AOL.p (P_assign (v := .int .i64 _) rfl) rfl ?_
      refine AOL.nil ?_
      refine thenN ?_
      refine AW.block ?_
      refine AW.loopS (fun (p : Nat) => (⟨[(2, .sl 1 (cNs ns)), (3, .ptr [.sl 2 (types.map cSc), .sl 18 (qs.map cQ)]), (4, .ptr (cE e)), (7, .sl 2 ((qs.headD qu0).vars.map cVa)), (8, .int .i64 (KindS types (qs.headD qu0).vars e).1), (10, .int .i64 (p : Int))], H, 123⟩ : St)) (fun (p : Nat) => p ≤ (qs.headD qu0).vars.length) (fun (p : Nat) => (qs.headD qu0).vars.length - p) (0) ?_ (GS.weaken ⟨rfl, rfl, rfl, rfl, rfl, rfl, trivial⟩ (.refl _)) ?_
      · exact Nat.zero_le _
      · rintro p hR
        refine AW.seq ?_
        refine AW.seq ?_
        refine AW.region ?_
        refine AOL.p (P_move (v := .int .i64 _) rfl) rfl ?_
        refine AOL.p (P_move (v := .sl _ _) rfl) rfl ?_
        refine AOL.p (P_len_sl (n := (qs.headD qu0).vars.length) tok rfl rfl rfl (by simp)) rfl ?_
        refine AOL.p (P_lss rfl rfl) rfl ?_
        refine AOL.nil ?_
        refine thenN ?_
        refine AW.cond (b := _) rfl (fun hc3 => ?_) (fun hc3 => ?_)
        · skip
          obtain ⟨a, ha⟩ := get_lt hc3
          have hlt := get_lt' ha
          have hm := List.mem_of_getElem? ha
          have hat := hty a hm
          refine AW.skip ?_
          refine thenN ?_
          refine AW.seq ?_
          refine AW.block ?_
          refine AW.seq ?_
          refine AW.draw mixed (fun _ => True) trivial (by kernel_rfl) ?_
          refine Canon.pure _ _ 0 _ _ rfl (by kernel_rfl) (by kernel_rfl) rfl (.run rfl (P_move (v := .sl _ _) rfl)) ?_
          refine Canon.pure _ _ 1 _ _ rfl (by kernel_rfl) (by kernel_rfl) rfl (.run rfl (P_move (v := .int .i64 _) rfl)) ?_
          refine Canon.pure _ _ 2 _ _ rfl (by kernel_rfl) (by kernel_rfl) rfl (.run rfl (P_indexAddr (c := [.str _, .int .i64 _]) tok rfl rfl rfl rfl rfl rfl (by omega) (map_at ha))) ?_
          refine Canon.pure _ _ 3 _ _ rfl (by kernel_rfl) (by kernel_rfl) rfl (.run rfl (P_fieldAddr_ptr (cs' := [.int .i64 _]) tok rfl rfl rfl rfl rfl rfl)) ?_
          refine Canon.pure _ _ 4 _ _ rfl (by kernel_rfl) (by kernel_rfl) rfl (.run rfl (P_load_ptr (c := .int .i64 _) tok rfl rfl rfl)) ?_
          refine Canon.pure _ _ 5 _ _ rfl (by kernel_rfl) (by kernel_rfl) rfl (.run rfl (P_lss rfl rfl)) ?_
          refine Canon.pure _ _ 6 _ _ rfl (by kernel_rfl) (by kernel_rfl) rfl (.run rfl (P_move (v := .bool _) rfl)) ?_
          refine Canon.pure _ _ 7 _ _ rfl (by kernel_rfl) (by kernel_rfl) rfl (.opt _ (.sl _ _) [] rfl (EntL.all trivial) (fun hG => P_move (v := .sl _ _) rfl) rfl) ?_
          refine Canon.pure _ _ 8 _ _ rfl (by kernel_rfl) (by kernel_rfl) rfl (.opt _ (.int .i64 _) [] rfl (EntL.all trivial) (fun hG => P_move (v := .int .i64 _) rfl) rfl) ?_
          refine Canon.pure _ _ 9 _ _ rfl (by kernel_rfl) (by kernel_rfl) rfl (.opt _ (.ptr _) [(70, _), (71, _)] rfl (EntL.all ⟨Ent.self _ _, Ent.self _ _, trivial⟩) (fun hG => P_indexAddr (c := [.str _, .int .i64 _]) tok rfl rfl rfl rfl rfl rfl (by omega) (map_at ha)) rfl) ?_
          refine Canon.pure _ _ 10 _ _ rfl (by kernel_rfl) (by kernel_rfl) rfl (.opt _ (.ptr _) [(72, _)] rfl (EntL.all ⟨Ent.self _ _, trivial⟩) (fun hG => P_fieldAddr_ptr (cs' := [.int .i64 _]) tok rfl rfl rfl rfl rfl rfl) rfl) ?_
          refine Canon.pure _ _ 11 _ _ rfl (by kernel_rfl) (by kernel_rfl) rfl (.opt _ (.int .i64 _) [(73, _)] rfl (EntL.all ⟨Ent.self _ _, trivial⟩) (fun hG => P_load_ptr (c := .int .i64 _) tok rfl rfl rfl) rfl) ?_
          refine Canon.pure _ _ 12 _ _ rfl (by kernel_rfl) (by kernel_rfl) rfl (.opt _ (.ptr _) [] rfl (EntL.all trivial) (fun hG => P_fieldAddr_ptr (cs' := [_, _]) tok rfl rfl rfl rfl rfl rfl) rfl) ?_
          refine Canon.pure _ _ 13 _ _ rfl (by kernel_rfl) (by kernel_rfl) rfl (.opt _ (.sl _ _) [(75, _)] rfl (EntL.all ⟨Ent.self _ _, trivial⟩) (fun hG => P_load_ptr (c := .sl _ _) tok rfl rfl rfl) rfl) ?_
          refine Canon.pure _ _ 14 _ _ rfl (by kernel_rfl) (by kernel_rfl) rfl (.opt _ (.int .i64 _) [(76, _)] rfl (EntL.all ⟨Ent.self _ _, trivial⟩) (fun hG => P_len_sl (n := types.length) tok rfl rfl rfl (by simp)) rfl) ?_
          refine Canon.pure _ _ 15 _ _ rfl (by kernel_rfl) (by kernel_rfl) rfl (.opt _ (.bool _) [(74, _), (77, _)] rfl (EntL.all ⟨Ent.self _ _, Ent.self _ _, trivial⟩) (fun hG => P_geq rfl rfl) rfl) ?_
          refine Canon.pure _ _ 16 _ _ rfl (by kernel_rfl) (by kernel_rfl) rfl (.run rfl (P_pick_or rfl rfl rfl)) ?_
          refine Canon.done _ _ (by kernel_rfl) ?_
          refine thenN ?_
          refine AW.cond (b := _) rfl (fun hc4 => ?_) (fun hc4 => ?_)
          · skip
            exfalso; simp at hc4; omega
          · skip
            refine AW.skip ?_
            refine blkN ?_
            refine thenN ?_
            refine AW.region ?_
            refine AOL.p (P_move (v := .int .i64 _) rfl) rfl ?_
            refine AOL.p (P_add rfl rfl rfl (by constructor <;> omega)) rfl ?_
            refine AOL.p (P_assign (v := .int .i64 _) rfl) rfl ?_
            refine AOL.nil ?_
            refine thenN ?_
            refine ⟨p + 1, ?_, ?_, GS.weaken ⟨rfl, rfl, rfl, rfl, rfl, rfl, trivial⟩ (.refl _)⟩
            · exact hlt
            · omega
        · skip
          refine AW.exit ?_
          refine thenE ?_
          refine thenE ?_
          refine blkHit ?_
          refine thenN ?_
          refine AW.seq ?_
          refine AW.region ?_
          refine AOL.p (P_fieldAddr_ptr (cs' := [_, _]) tok rfl rfl rfl rfl rfl rfl) rfl ?_
          refine AOL.p (P_load_ptr (c := .sl _ _) tok rfl rfl rfl) rfl ?_
          refine AOL.p (P_move (v := .sl _ _) rfl) rfl ?_
          refine AOL.p (P_move (v := .sl _ _) rfl) rfl ?_
          refine AOL.e (E_callf (by kernel_rfl) rfl rfl (c33 types (qs.headD qu0).vars hty hcf.2.2 hko ns hns hnl _)) rfl ?_
          rintro _ _ ⟨env, rfl, hsu, hel, rfl⟩
          refine AOL.e (E_alloc (l := [.sl 1 []]) (by kernel_rfl)) rfl ?_
          rintro _ _ ⟨b11, rfl, rfl⟩
          refine AOL.e (E_store (k := 0) (v := .agg _) (cs' := [_]) (H2 := _ :: _) tok rfl rfl rfl rfl rfl rfl rfl rfl rfl) rfl ?_
          rintro _ _ ⟨rfl, rfl⟩
          refine AOL.ghost (GS.freeze (t := 11) 0 rfl rfl) ?_
          refine AOL.nil ?_
          refine thenN ?_
          refine AW.seq ?_
          refine AW.region ?_
          refine AOL.p (P_load_ptr_agg (l := [.int .i64 _, _, .int .i64 _, .int .i64 _, .int .i64 _, .int .i64 _, .int .i64 _, .str _]) tok rfl rfl rfl rfl rfl) rfl ?_
          refine AOL.p (P_load_ptr_agg (l := [_]) tok rfl rfl rfl rfl rfl) rfl ?_
          refine AOL.p (P_build (l := [.int .i64 _, .int .i64 _, .int .i64 _, .int .i64 _, _]) tok rfl rfl rfl) rfl ?_
          refine AOL.p (P_callf (by kernel_rfl) rfl rfl (c14 env (-1) ev0 hel e hse)) rfl ?_
          refine AOL.p (P_move (v := .tuple _) rfl) rfl ?_
          refine AOL.p (P_extract (v := .agg [.int .i64 _, .int .i64 _, .str _]) rfl rfl) rfl ?_
          refine AOL.p (P_extract (v := .int .i64 _) rfl rfl) rfl ?_
          refine AOL.e (E_alloc (l := [.int .i64 0, .int .i64 0, .str []]) (by kernel_rfl)) rfl ?_
          rintro _ _ ⟨b12, rfl, rfl⟩
          refine AOL.e (E_store (k := 0) (v := .agg _) (cs' := [.int .i64 _, .int .i64 _, .str _]) (H2 := _ :: _) tok rfl rfl rfl rfl rfl rfl rfl rfl rfl) rfl ?_
          rintro _ _ ⟨rfl, rfl⟩
          refine AOL.p (P_assign (v := .int .i64 _) rfl) rfl ?_
          refine AOL.ghost (GS.freeze (t := 12) 0 rfl rfl) ?_
          refine AOL.nil ?_
          refine thenN ?_
          refine AW.seq ?_
          refine AW.seq ?_
          refine AW.region ?_
          refine AOL.p (P_move (v := .int .i64 _) rfl) rfl ?_
          refine AOL.p (P_neq rfl rfl) rfl ?_
          refine AOL.p (P_move (v := .bool _) rfl) rfl ?_
          refine AOL.g (y := .ptr _) _ [] rfl (EntL.all trivial) (fun hG => P_fieldAddr_ptr (cs' := [.int .i64 _, .int .i64 _, .str _]) tok rfl rfl rfl rfl rfl rfl) rfl ?_
          refine AOL.g (y := .int .i64 _) _ [(95, _)] rfl (EntL.all ⟨Ent.self _ _, trivial⟩) (fun hG => P_load_ptr (c := .int .i64 _) tok rfl rfl rfl) rfl ?_
          refine AOL.g (y := .int .i64 _) _ [] rfl (EntL.all trivial) (fun hG => P_move (v := .int .i64 _) rfl) rfl ?_
          refine AOL.g (y := .bool _) _ [(96, _), (97, _)] rfl (EntL.all ⟨Ent.self _ _, Ent.self _ _, trivial⟩) (fun hG => P_neq rfl rfl) rfl ?_
          refine AOL.p (P_pick_or rfl rfl rfl) rfl ?_
          refine AOL.nil ?_
          refine thenN ?_
          refine AW.cond (b := _) rfl (fun hc5 => ?_) (fun hc5 => ?_)
          · skip
            exfalso; have hpr := Progress hsu hk0; rw [hpr.2.1, hpr.2.2.1] at hc5; simp at hc5
          · skip
            refine AW.skip ?_
            refine thenN ?_
            refine AW.seq ?_
            refine AW.seq ?_
            refine AW.region ?_
            refine AOL.p (P_move (v := .int .i64 _) rfl) rfl ?_
            refine AOL.p (P_neq rfl rfl) rfl ?_
            refine AOL.nil ?_
            refine thenN ?_
            refine AW.cond (b := _) rfl (fun hc6 => ?_) (fun hc6 => ?_)
            · skip
              refine AW.seq ?_
              refine AW.region ?_
              refine AOL.p (P_callf (by kernel_rfl) rfl rfl (c13)) rfl ?_
              refine AOL.p (P_assign (v := .bool _) rfl) rfl ?_
              refine AOL.nil ?_
              refine thenN ?_
              refine AW.ret ?_
              refine thenR ?_
              refine ⟨.inr rfl, [.bool _], .cons (.tmp _ _ rfl) <| .nil, .refl _, ?_⟩
              rfl
            · skip
              refine AW.skip ?_
              refine thenN ?_
              refine AW.seq ?_
              refine AW.region ?_
              refine AOL.p (P_load_ptr_agg (l := [.int .i64 _, _, .int .i64 _, .int .i64 _, .int .i64 _, .int .i64 _, .int .i64 _, .str _]) tok rfl rfl rfl rfl rfl) rfl ?_
              refine AOL.p (P_buildSlice (es := [[.int .i64 _, _, .int .i64 _, .int .i64 _, .int .i64 _, .int .i64 _, .int .i64 _, .str _]]) tok rfl rfl rfl rfl rfl rfl rfl rfl rfl) rfl ?_
              refine AOL.p (P_build (l := [.int .i64 _, _, .int .i64 _, .int .i64 _, .int .i64 _, .int .i64 _, .int .i64 _, .str _]) tok rfl rfl rfl) rfl ?_
              refine AOL.e (E_alloc (l := [.int .i64 0, .sl 8 [], .int .i64 0, .int .i64 0, .int .i64 0, .int .i64 0, .int .i64 0, .str []]) (by kernel_rfl)) rfl ?_
              rintro _ _ ⟨b14, rfl, rfl⟩
              refine AOL.e (E_store (k := 0) (v := .agg _) (cs' := [.int .i64 _, _, .int .i64 _, .int .i64 _, .int .i64 _, .int .i64 _, .int .i64 _, .str _]) (H2 := _ :: _) tok rfl rfl rfl rfl rfl rfl rfl rfl rfl) rfl ?_
              rintro _ _ ⟨rfl, rfl⟩
              refine AOL.ghost (GS.freeze (t := 14) 0 rfl rfl) ?_
              refine AOL.nil ?_
              refine thenN ?_
              refine AW.seq ?_
              refine AW.seq ?_
              refine AW.region ?_
              refine AOL.p (P_load_ptr_agg (l := [.int .i64 _, _, .int .i64 _, .int .i64 _, .int .i64 _, .int .i64 _, .int .i64 _, .str _]) tok rfl rfl rfl rfl rfl) rfl ?_
              refine AOL.p (P_callf (by kernel_rfl) rfl rfl (not_check e hns2)) rfl ?_
              refine AOL.p (P_neq rfl rfl) rfl ?_
              refine AOL.nil ?_
              refine thenN ?_
              refine AW.cond (b := _) rfl (fun hc7 => ?_) (fun hc7 => ?_)
              · skip
                refine AW.seq ?_
                refine AW.region ?_
                refine AOL.p (P_callf (by kernel_rfl) rfl rfl (c13)) rfl ?_
                refine AOL.p (P_assign (v := .bool _) rfl) rfl ?_
                refine AOL.nil ?_
                refine thenN ?_
                refine AW.ret ?_
                refine thenR ?_
                refine ⟨.inr rfl, [.bool _], .cons (.tmp _ _ rfl) <| .nil, .refl _, ?_⟩
                rfl
              · skip
                refine AW.skip ?_
                refine thenN ?_
                refine AW.seq ?_
                refine AW.draw mixed (fun _ => True) trivial (by kernel_rfl) ?_
                refine Canon.pure _ _ 0 _ _ rfl (by kernel_rfl) (by kernel_rfl) rfl (.run rfl (P_callf (by kernel_rfl) rfl rfl (c13))) ?_
                refine Canon.pure _ _ 1 _ _ rfl (by kernel_rfl) (by kernel_rfl) rfl (.run rfl (P_move (v := .bool _) rfl)) ?_
                refine Canon.pure _ _ 2 _ _ rfl (by kernel_rfl) (by kernel_rfl) rfl (.opt _ (.agg _) [] rfl (EntL.all trivial) (fun hG => P_load_ptr_agg (l := [.int .i64 _, _, .int .i64 _, .int .i64 _, .int .i64 _, .int .i64 _, .int .i64 _, .str _]) tok rfl rfl rfl rfl rfl) rfl) ?_
                refine Canon.pure _ _ 3 _ _ rfl (by kernel_rfl) (by kernel_rfl) rfl (.opt _ (.agg _) [] rfl (EntL.all trivial) (fun hG => P_load_ptr_agg (l := [_]) tok rfl rfl rfl rfl rfl) rfl) ?_
                refine Canon.pure _ _ 4 _ _ rfl (by kernel_rfl) (by kernel_rfl) rfl (.opt _ (.agg _) [] rfl (EntL.all trivial) (fun hG => P_build (l := [.int .i64 _, .int .i64 _, .int .i64 _, .int .i64 _, _]) tok rfl rfl rfl) rfl) ?_
                refine Canon.pure _ _ 5 _ _ rfl (by kernel_rfl) (by kernel_rfl) rfl (.opt _ (.bool _) [(112, _), (113, _), (114, _)] rfl (EntL.all ⟨Ent.self _ _, Ent.self _ _, Ent.self _ _, trivial⟩) (fun hG => P_callf (by kernel_rfl) rfl rfl (not_call env (-1) ev0 hel e hns2)) rfl) ?_
                refine Canon.pure _ _ 6 _ _ rfl (by kernel_rfl) (by kernel_rfl) rfl (.opt _ (.agg _) [] rfl (EntL.all trivial) (fun hG => P_load_ptr_agg (l := [.int .i64 _, _, .int .i64 _, .int .i64 _, .int .i64 _, .int .i64 _, .int .i64 _, .str _]) tok rfl rfl rfl rfl rfl) rfl) ?_
                refine Canon.pure _ _ 7 _ _ rfl (by kernel_rfl) (by kernel_rfl) rfl (.opt _ (.agg _) [] rfl (EntL.all trivial) (fun hG => P_load_ptr_agg (l := [_]) tok rfl rfl rfl rfl rfl) rfl) ?_
                refine Canon.pure _ _ 8 _ _ rfl (by kernel_rfl) (by kernel_rfl) rfl (.opt _ (.agg _) [] rfl (EntL.all trivial) (fun hG => P_build (l := [.int .i64 _, .int .i64 _, .int .i64 _, .int .i64 _, _]) tok rfl rfl rfl) rfl) ?_
                refine Canon.pure _ _ 9 _ _ rfl (by kernel_rfl) (by kernel_rfl) rfl (.opt _ (.bool _) [(116, _), (117, _), (118, _)] rfl (EntL.all ⟨Ent.self _ _, Ent.self _ _, Ent.self _ _, trivial⟩) (fun hG => P_callf (by kernel_rfl) rfl rfl (c16 env (-1) ev0 hel e hse)) rfl) ?_
                refine Canon.pure _ _ 10 _ _ rfl (by kernel_rfl) (by kernel_rfl) rfl (.opt _ (.bool _) [(119, _)] rfl (EntL.all ⟨Ent.self _ _, trivial⟩) (fun hG => P_not rfl) rfl) ?_
                refine Canon.pure _ _ 11 _ _ rfl (by kernel_rfl) (by kernel_rfl) rfl (.opt _ (.bool _) [(115, _), (120, _)] rfl (EntL.all ⟨Ent.self _ _, Ent.self _ _, trivial⟩) (fun hG => P_eql_bool tok rfl rfl rfl rfl) rfl) ?_
                refine Canon.pure _ _ 12 _ _ rfl (by kernel_rfl) (by kernel_rfl) rfl (.run rfl (P_pick_and rfl rfl rfl)) ?_
                refine Canon.pure _ _ 13 _ _ rfl (by kernel_rfl) (by kernel_rfl) rfl (.run rfl (P_assign (v := .bool _) rfl)) ?_
                refine Canon.done _ _ (by kernel_rfl) ?_
                refine thenN ?_
                refine AW.ret ?_
                refine ⟨.inr rfl, [.bool _], .cons (.tmp _ _ rfl) <| .nil, .refl _, ?_⟩
                have hpr := Progress hsu hk0
                have hk1 : (KindS types (qs.headD qu0).vars e).1 = 1 := by simpa using hc6
                have hnc : checkS (notE e) = 0 := by simpa using hc7
                have hnt := not_truth (x := ⟨env, -1, ev0⟩) hpr.1 hnc hpr.2.1 (by rw [hpr.2.2.1]; exact hk1)
                simp only [resOf]
                rw [show TruthS ⟨env, -1, ev0⟩ (notE e) = !TruthS ⟨env, -1, ev0⟩ e from hnt]
                simp

end Go.Proofs.Ytkkacfnkjiijkaa
