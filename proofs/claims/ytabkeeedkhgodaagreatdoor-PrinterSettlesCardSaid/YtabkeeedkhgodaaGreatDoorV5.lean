/-
  Walks of the parser: nesting. No condition.
-/
import Derived.Test.YtabkeeedkhgodaaGreatDoorX12
import Derived.KernelRfl
namespace Go.Proofs.YtabkeeedkhgodaaGreatDoor
open Go Go.Aw
set_option linter.unusedVariables false
set_option linter.unusedSimpArgs false

theorem nestP_eq (read : Syn → PS → Syn × PS) (z : Syn) (st : PS) : nestP read z st = if ((nestF st).bad != 0) then (z, nestF st) else ((read z (adv (deep st))).1, shallow (read z (adv (deep st))).2) := rfl
theorem nest_call (read : Syn → PS → Syn × PS) (z : Syn) (st : PS) (bp bo : Nat) (R : List HO) (f : Nat) (hf : fnB Tryz.prog f = true) (first cap : List AV) (hlt : st.pos < st.toks.length) (hS : okS st)
    (hcl : (nestF st).bad = 0 → ACall Tryz.prog f (.box bp 70 (cP (adv (deep st))) :: .box bo 24 (cSyn z) :: R) (first ++ [] ++ cap) (fun r H' => r = .tuple [] ∧ H' = .box bp 70 (cP (read z (adv (deep st))).2) :: .box bo 24 (cSyn (read z (adv (deep st))).1) :: R)) :
    ACall Tryz.prog 139 (.box bp 70 (cP st) :: .box bo 24 (cSyn z) :: R) [.val (.pointer (some ⟨bp, 0, none⟩)), .fn (.func f) first cap] (fun r H' => r = .tuple [] ∧ H' = .box bp 70 (cP (nestP read z st).2) :: .box bo 24 (cSyn (nestP read z st).1) :: R) := by
  refine p_nested st (read z (adv (deep st))).2 (nestP read z st).2 bp (.box bo 24 (cSyn z) :: R) (.box bo 24 (cSyn (nestP read z st).1) :: R) f hf first cap hlt hS (fun hb => ?_) (fun hb => ?_)
  · have e : nestP read z st = ((read z (adv (deep st))).1, shallow (read z (adv (deep st))).2) := by rw [nestP_eq, hb]; rfl
    refine ACall.mono' (hcl hb) fun r K hk => ⟨?_, by rw [e]⟩
    rw [hk.2, e]
  · have e : nestP read z st = (z, nestF st) := by rw [nestP_eq, if_pos (by simpa using hb)]
    rw [e]
    exact ⟨rfl, rfl⟩
/-- Below the level of nesting. -/
theorem okD_deep {D : Int} {st : PS} (hD : 0 ≤ D) (h : okD D st) (hb : (nestF st).bad = 0) : okD (D + 1) (adv (deep st)) := by
  obtain ⟨h1, h2, h3⟩ := h
  have hd : ¬ 64 ≤ st.depth := fun hd => by
    unfold nestF at hb
    rw [if_pos (decide_eq_true hd)] at hb
    exact absurd (fail_bad (e := 12) (by decide) st) (by simp [hb])
  have e1 : (deep st).depth = st.depth + 1 := wrap_id (by omega) (by omega)
  exact ⟨h1, show D + 1 ≤ (deep st).depth by omega, show (deep st).depth ≤ 64 by omega⟩
theorem tot_get (k : Nat) (h : k < 4) : ∃ s, totL[k]? = some s ∧ (totalsCells.drop (k * 2)).take 2 = [AV.str s.1, .int .i64 s.2] ∧ s.1.length ≤ 1048576 := by
  match k, h with
  | 0, _ => exact ⟨_, rfl, rfl, by decide⟩
  | 1, _ => exact ⟨_, rfl, rfl, by decide⟩
  | 2, _ => exact ⟨_, rfl, rfl, by decide⟩
  | 3, _ => exact ⟨_, rfl, rfl, by decide⟩

set_option maxRecDepth 20000 in
set_option maxHeartbeats 400000 in
theorem p_unit_1 (st : PS) (bp : Nat) (z : Syn) (bo : Nat) (R : List HO) (D : Int) (hD : 0 ≤ D) (E : PS → Syn × PS) (hFE : Fine E) (hE : ∀ (st : PS) (bp : Nat), okD (D + 1) st → PCallS Tryz.prog 40 bp 70 (cP st) (cP (E st).2) [.val (.pointer (some ⟨bp, 0, none⟩))] (.agg (cSyn (E st).1))) (hO : okD (D + 1) st) : ACall Tryz.prog 178 (.box bp 70 (cP st) :: .box bo 24 (cSyn z) :: R) [.ptr [.val (.pointer (some ⟨bp, 0, none⟩))], .val (.pointer (some ⟨bo, 0, none⟩))] (fun r H' => r = .tuple [] ∧ H' = .box bp 70 (cP (expP w_rpar (E st).2)) :: .box bo 24 (cSyn (E st).1) :: R) := by
 have hS := ((hFE.okD (by omega) hO).1)
 refine ACall.body (n := 6) tok Tryz.func178 rfl rfl rfl ?_
 refine AW.seq (AW.region ?_)
 refine AOL.p (P_load_ptr (c := .val _) tok rfl rfl rfl) rfl ?_
 refine AOL.e (E_callf (by kernel_rfl) rfl rfl ((hE st bp hO).at (k := 0) (H2 := _ :: _ :: _) rfl rfl)) rfl ?_
 rintro _ _ ⟨rfl, rfl⟩
 refine AOL.e (E_store (k := 1) (v := .agg _) (cs' := [.int .i64 _, .str _, .str _, .int .i64 _, _, .int .i64 _]) (H2 := _ :: _ :: _) tok rfl rfl rfl rfl rfl rfl rfl rfl rfl) rfl ?_
 rintro _ _ ⟨rfl, rfl⟩
 refine AOL.nil (thenN ?_)
 refine AW.region ?_
 refine AOL.p (P_load_ptr (c := .val _) tok rfl rfl rfl) rfl ?_
 refine AOL.e (E_callf (by kernel_rfl) rfl rfl ((p_expect _ _ _ (by simpa using hS) (by first | assumption | decide)).at (k := 0) (H2 := _ :: _ :: _) rfl rfl)) rfl ?_
 rintro _ _ ⟨rfl, rfl⟩
 refine AOL.nil ?_
 refine ⟨.inl rfl, [], .nil, _, .refl _, ?_⟩
 exact ⟨rfl, rfl⟩
theorem find_none' {α : Type} {p : α → Bool} {l : List α} {k : Nat} (hk : ¬ k < l.length) (hn : ∀ j y, j < k → l[j]? = some y → p y = false) : l.find? p = none :=
  find_none fun j y hj hy => hn j y (by omega) hy

set_option maxRecDepth 20000 in
set_option maxHeartbeats 3200000 in
theorem p_unit (st : PS) (bp : Nat) (D : Int) (hD : 0 ≤ D) (E : PS → Syn × PS) (hFE : Fine E) (hE : ∀ (st : PS) (bp : Nat), okD (D + 1) st → PCallS Tryz.prog 40 bp 70 (cP st) (cP (E st).2) [.val (.pointer (some ⟨bp, 0, none⟩))] (.agg (cSyn (E st).1))) (hO : okD D st) : PCallS Tryz.prog 172 bp 70 (cP st) (cP ((unitP E st).2)) [.val (.pointer (some ⟨bp, 0, none⟩))] (.agg (cSyn (unitP E st).1)) := by
 intro H
 have hS := hO.1
 refine ACall.body (n := 83) tok Tryz.func172 rfl rfl rfl ?_
 refine AW.seq (AW.region ?_)
 refine AOL.p (P_box (v := .val _) (cs := [_]) rfl rfl rfl) rfl ?_
 refine AOL.e (E_alloc (l := [.int .i64 0, .str [], .str [], .int .i64 0, .sl 6 [], .int .i64 0]) (by kernel_rfl)) rfl ?_
 rintro _ _ ⟨b2, rfl, rfl⟩
 refine AOL.nil (thenN ?_)
 refine AW.seq (AW.region ?_)
 refine AOL.p (P_load_ptr (c := .val _) tok rfl rfl rfl) rfl ?_
 refine AOL.pk (P_callf_k (k := 1) (by kernel_rfl) rfl rfl (p_offset _ _)) rfl rfl ?_
 refine AOL.p (P_assign (v := .int .i64 _) rfl) rfl ?_
 refine AOL.nil (thenN ?_)
 refine AW.seq ?_
 refine AW.seq (AW.region ?_)
 refine AOL.p (P_load_ptr (c := .val _) tok rfl rfl rfl) rfl ?_
 refine AOL.pk (P_callf_k (k := 1) (by kernel_rfl) rfl rfl (p_is _ _ _ (by simpa using hS) (by first | assumption | decide))) rfl rfl ?_
 refine AOL.nil (thenN ?_)
 refine AW.cond (b := _) rfl (fun hc1 => ?_) (fun hc1 => ?_)
 ·
  try simp only [Bool.not_eq_true', Bool.not_eq_false'] at hc1
  refine AW.seq (AW.region ?_)
  refine AOL.e (E_alloc (l := [.int .i64 0, .str [], .str [], .int .i64 0, .sl 6 [], .int .i64 0]) (by kernel_rfl)) rfl ?_
  rintro _ _ ⟨b4, rfl, rfl⟩
  refine AOL.nil (thenN ?_)
  refine AW.seq (AW.region ?_)
  refine AOL.p (P_load_ptr (c := .val _) tok rfl rfl rfl) rfl ?_
  refine AOL.p (P_makeFunc (l := []) (l' := [.ptr _, .val _]) rfl rfl) rfl ?_
  refine AOL.e (E_callf (by kernel_rfl) rfl rfl (ACall.front2 (R := _ :: _) 0 1 rfl rfl rfl (nest_call (fun _ s => ((E s).1, expP w_rpar (E s).2)) synZ st bp b4 _ 178 (by kernel_rfl) [] [.ptr [.val (.pointer (some ⟨bp, 0, none⟩))], .val (.pointer (some ⟨b4, 0, none⟩))] (is_lt hc1) hS (fun hb => p_unit_1 _ bp synZ b4 _ D hD E hFE hE (okD_deep hD hO hb))))) rfl ?_
  rintro _ _ ⟨rfl, rfl⟩
  refine AOL.nil (thenN ?_)
  refine AW.seq (AW.region ?_)
  refine AOL.pk (P_load_box_agg (k := 1) (l := [.int .i64 _, .str _, .str _, .int .i64 _, _, .int .i64 _]) tok rfl rfl rfl rfl rfl) rfl rfl ?_
  refine AOL.e (E_store (k := 2) (v := .agg _) (cs' := [.int .i64 _, .str _, .str _, .int .i64 _, _, .int .i64 _]) (H2 := _ :: _ :: _ :: _) tok rfl rfl rfl rfl rfl rfl rfl rfl rfl) rfl ?_
  rintro _ _ ⟨rfl, rfl⟩
  refine AOL.nil (thenN ?_)
  refine AW.ret ?_
  refine thenR ?_
  refine ⟨.inr rfl, [.agg [.int .i64 _, .str _, .str _, .int .i64 _, _, .int .i64 _]], .cons (.box _ _ _ 2 _ _ _ _ rfl rfl rfl rfl rfl rfl) <| .nil, _, .cons_cons _ (.cons _ (.cons _ (.refl _))), ?_⟩
  refine ⟨?_, congrArg (fun c => HO.box bp 70 c :: H) ?_⟩
  ·
   try simp only [resOf, unitP, cSyn, List.map_cons, List.map_nil, encS_eq, hc1, ↓reduceIte, Bool.false_eq_true, Bool.not_true, Bool.not_false]
   try rfl
  ·
   try simp only [cP, unitP, hc1, ↓reduceIte, Bool.false_eq_true, Bool.not_true, Bool.not_false]
   try rfl
 ·
  try simp only [Bool.not_eq_true', Bool.not_eq_false'] at hc1
  refine AW.skip ?_
  refine thenN ?_
  refine AW.seq ?_
  refine AW.seq (AW.region ?_)
  refine AOL.p (P_load_glob (l := totalsCells) tok (⟨_, by simp [globals], fun _ h => h⟩) rfl rfl rfl rfl) rfl ?_
  refine AOL.p (P_move (v := .int .i64 _) rfl) rfl ?_
  refine AOL.nil (thenN ?_)
  refine AW.block ?_
  refine AW.loopS (fun (k : Nat) => (⟨[(1, .ptr [.val (.pointer (some ⟨bp, 0, none⟩))]), (2, .val (.pointer (some ⟨b2, 0, none⟩))), (3, .int .i64 (offS st)), (19, .agg totalsCells), (20, .int .i64 (k : Int))], .box b2 24 (cSyn synZ) :: .box bp 70 (cP st) :: H, 83⟩ : St)) (fun (k : Nat) => k ≤ 4 ∧ ∀ j y, j < k → totL[j]? = some y → isP y.1 st = false) (fun (k : Nat) => 4 - k) (0) ?_ (GS.weaken ⟨rfl, rfl, rfl, rfl, rfl, trivial⟩ (.refl _)) ?_
  · exact ⟨Nat.zero_le _, fun j y hj => absurd hj (Nat.not_lt_zero _)⟩
  ·
   rintro k hR
   refine AW.seq (AW.region ?_)
   refine AOL.p (P_lss rfl rfl) rfl ?_
   refine AOL.nil (thenN ?_)
   refine AW.seq ?_
   refine AW.cond (b := _) rfl (fun hc2 => ?_) (fun hc2 => ?_)
   ·
    try simp only [Bool.not_eq_true', Bool.not_eq_false'] at hc2
    have hk : k < 4 := by have := of_decide_eq_true hc2; omega
    refine (tot_get k hk).elim fun x hx3 => ?_
    have hx := hx3.1
    have hx2 := hx3.2.1
    have hwx := hx3.2.2
    refine AW.skip ?_
    refine thenN ?_
    refine AW.seq ?_
    refine AW.block ?_
    refine AW.seq (AW.region ?_)
    refine AOL.p (P_index_aggs (l := [.str x.1, .int .i64 x.2]) tok rfl rfl rfl rfl rfl rfl (by omega) (by omega) (by show k * 2 + 2 ≤ 8; omega) (hx2)) rfl ?_
    refine AOL.e (E_alloc (l := [.str [], .int .i64 0]) (by kernel_rfl)) rfl ?_
    rintro _ _ ⟨b6, rfl, rfl⟩
    refine AOL.e (E_store (k := 0) (v := .agg _) (cs' := [.str _, .int .i64 _]) (H2 := _ :: _ :: _ :: _) tok rfl rfl rfl rfl rfl rfl rfl rfl rfl) rfl ?_
    rintro _ _ ⟨rfl, rfl⟩
    refine AOL.ghost (GS.freeze (t := 6) 0 rfl rfl) ?_
    refine AOL.nil (thenN ?_)
    refine AW.seq (AW.region ?_)
    refine AOL.p (P_load_ptr (c := .val _) tok rfl rfl rfl) rfl ?_
    refine AOL.p (P_fieldAddr_ptr (cs' := [.str _, .int .i64 _]) tok rfl rfl rfl rfl rfl rfl) rfl ?_
    refine AOL.p (P_load_ptr (c := .str _) tok rfl rfl rfl) rfl ?_
    refine AOL.e (E_callf (by kernel_rfl) rfl rfl ((p_accept _ _ _ (by simpa using hS) (by first | assumption | decide)).at (k := 1) (H2 := _ :: _ :: _) rfl rfl)) rfl ?_
    rintro _ _ ⟨rfl, rfl⟩
    refine AOL.nil (thenN ?_)
    refine AW.cond (b := _) rfl (fun hc3 => ?_) (fun hc3 => ?_)
    ·
     try simp only [Bool.not_eq_true', Bool.not_eq_false'] at hc3
     have hfd : totL.find? (fun s => isP s.1 st) = some x := find_hit hR.2 hx hc3
     refine AW.ghost (GS.cellsTo (H2 := _ :: _ :: _) 1 rfl (congrArg cP (acc_yes hc3)) rfl) ?_
     refine AW.seq (AW.region ?_)
     refine AOL.p (P_fieldAddr_ptr (cs' := [.int .i64 _]) tok rfl rfl rfl rfl rfl rfl) rfl ?_
     refine AOL.p (P_load_ptr (c := .int .i64 _) tok rfl rfl rfl) rfl ?_
     refine AOL.p (P_move (v := .int .i64 _) rfl) rfl ?_
     refine AOL.p (P_build (l := [.int .i64 _, .str _, .str _, .int .i64 _, _, .int .i64 _]) tok rfl rfl rfl) rfl ?_
     refine AOL.e (E_alloc (l := [.int .i64 0, .str [], .str [], .int .i64 0, .sl 6 [], .int .i64 0]) (by kernel_rfl)) rfl ?_
     rintro _ _ ⟨b7, rfl, rfl⟩
     refine AOL.e (E_store (k := 0) (v := .agg _) (cs' := [.int .i64 _, .str _, .str _, .int .i64 _, _, .int .i64 _]) (H2 := _ :: _ :: _ :: _) tok rfl rfl rfl rfl rfl rfl rfl rfl rfl) rfl ?_
     rintro _ _ ⟨rfl, rfl⟩
     refine AOL.nil (thenN ?_)
     refine AW.seq (AW.region ?_)
     refine AOL.p (P_load_ptr (c := .val _) tok rfl rfl rfl) rfl ?_
     refine AOL.e (E_callf (by kernel_rfl) rfl rfl (ACall.front2 (R := _ :: _) 0 1 rfl rfl rfl (p_inside (adv st) bp (⟨16, [], [], x.2, [], offS st⟩) b7 (by simpa using hS) _))) rfl ?_
     rintro _ _ ⟨rfl, rfl⟩
     refine AOL.nil (thenN ?_)
     refine AW.seq (AW.region ?_)
     refine AOL.p (P_load_ptr (c := .val _) tok rfl rfl rfl) rfl ?_
     refine AOL.e (E_callf (by kernel_rfl) rfl rfl ((p_expect _ _ _ (by simpa using hS) (by first | assumption | decide)).at (k := 0) (H2 := _ :: _ :: _ :: _) rfl rfl)) rfl ?_
     rintro _ _ ⟨rfl, rfl⟩
     refine AOL.nil (thenN ?_)
     refine AW.seq (AW.region ?_)
     refine AOL.p (P_load_ptr (c := .val _) tok rfl rfl rfl) rfl ?_
     refine AOL.e (E_callf (by kernel_rfl) rfl rfl ((p_constant _ _ (by simpa using hS)).at (k := 0) (H2 := _ :: _ :: _ :: _) rfl rfl)) rfl ?_
     rintro _ _ ⟨rfl, rfl⟩
     refine AOL.p (P_buildSlice (es := [[.int .i64 _, .str _, .str _, .int .i64 _, _, .int .i64 _]]) tok rfl rfl rfl rfl rfl rfl rfl rfl rfl) rfl ?_
     refine AOL.p (P_fieldAddr_val tok rfl rfl rfl rfl rfl rfl) rfl ?_
     refine AOL.e (E_store (k := 1) (v := .sl _ _) (cs' := [.int .i64 _, .str _, .str _, .int .i64 _, _, .int .i64 _]) (H2 := _ :: _ :: _ :: _) tok rfl rfl rfl rfl rfl rfl rfl rfl rfl) rfl ?_
     rintro _ _ ⟨rfl, rfl⟩
     refine AOL.nil (thenN ?_)
     refine AW.seq (AW.region ?_)
     refine AOL.p (P_load_ptr (c := .val _) tok rfl rfl rfl) rfl ?_
     refine AOL.e (E_callf (by kernel_rfl) rfl rfl ((p_expect _ _ _ (by simpa using hS) (by first | assumption | decide)).at (k := 0) (H2 := _ :: _ :: _ :: _) rfl rfl)) rfl ?_
     rintro _ _ ⟨rfl, rfl⟩
     refine AOL.nil (thenN ?_)
     refine AW.seq (AW.region ?_)
     refine AOL.pk (P_load_box_agg (k := 1) (l := [.int .i64 _, .str _, .str _, .int .i64 _, _, .int .i64 _]) tok rfl rfl rfl rfl rfl) rfl rfl ?_
     refine AOL.e (E_store (k := 2) (v := .agg _) (cs' := [.int .i64 _, .str _, .str _, .int .i64 _, _, .int .i64 _]) (H2 := _ :: _ :: _ :: _) tok rfl rfl rfl rfl rfl rfl rfl rfl rfl) rfl ?_
     rintro _ _ ⟨rfl, rfl⟩
     refine AOL.nil (thenN ?_)
     refine AW.ret ?_
     refine blkR ?_
     refine thenR ?_
     refine thenR ?_
     refine blkR ?_
     refine thenR ?_
     refine ⟨.inr rfl, [.agg [.int .i64 _, .str _, .str _, .int .i64 _, _, .int .i64 _]], .cons (.box _ _ _ 2 _ _ _ _ rfl rfl rfl rfl rfl rfl) <| .nil, _, .cons_cons _ (.cons _ (.cons _ (.refl _))), ?_⟩
     refine ⟨?_, congrArg (fun c => HO.box bp 70 c :: H) ?_⟩
     ·
      try simp only [resOf, unitP, hfd, cSyn, List.map_cons, List.map_nil, encS_eq, hc1, hc2, hc3, ↓reduceIte, Bool.false_eq_true, Bool.not_true, Bool.not_false]
      try rfl
     ·
      try simp only [cP, unitP, hfd, hc1, hc2, hc3, ↓reduceIte, Bool.false_eq_true, Bool.not_true, Bool.not_false]
      try rfl
    ·
     try simp only [Bool.not_eq_true', Bool.not_eq_false'] at hc3
     refine AW.ghost (GS.cellsTo (H2 := _ :: _ :: _) 1 rfl (congrArg cP (acc_no hc3)) rfl) ?_
     refine AW.skip ?_
     refine blkN ?_
     refine thenN ?_
     refine AW.region ?_
     refine AOL.p (P_add rfl rfl rfl (by constructor <;> omega)) rfl ?_
     refine AOL.p (P_move (v := .int .i64 _) rfl) rfl ?_
     refine AOL.nil (thenN ?_)
     refine ⟨k + 1, ?_, ?_, GS.weaken ⟨rfl, rfl, rfl, rfl, rfl, trivial⟩ (.refl _)⟩
     · exact ⟨hk, fun j y hj hy => by rcases Nat.lt_succ_iff_lt_or_eq.1 hj with h | rfl; exact hR.2 j y h hy; rw [hx] at hy; cases hy; exact hc3⟩
     · omega
   ·
    try simp only [Bool.not_eq_true', Bool.not_eq_false'] at hc2
    have hkn : ¬ k < 4 := by have := of_decide_eq_false hc2; omega
    have hfd : totL.find? (fun s => isP s.1 st) = none := find_none' (k := k) hkn hR.2
    refine AW.exit ?_
    refine thenE ?_
    refine thenE ?_
    refine blkHit ?_
    refine thenN ?_
    refine AW.seq ?_
    refine AW.block ?_
    refine AW.seq (AW.region ?_)
    refine AOL.p (P_load_ptr (c := .val _) tok rfl rfl rfl) rfl ?_
    refine AOL.e (E_callf (by kernel_rfl) rfl rfl ((p_accept _ _ _ (by simpa using hS) (by first | assumption | decide)).at (k := 1) (H2 := _ :: _ :: _) rfl rfl)) rfl ?_
    rintro _ _ ⟨rfl, rfl⟩
    refine AOL.p (P_assign (v := .bool _) rfl) rfl ?_
    refine AOL.nil (thenN ?_)
    refine AW.cond (b := _) rfl (fun hc4 => ?_) (fun hc4 => ?_)
    ·
     try simp only [Bool.not_eq_true', Bool.not_eq_false'] at hc4
     refine AW.ghost (GS.cellsTo (H2 := _ :: _ :: _) 1 rfl (congrArg cP (acc_yes hc4)) rfl) ?_
     refine AW.seq (AW.region ?_)
     refine AOL.p (P_move (v := .int .i64 _) rfl) rfl ?_
     refine AOL.p (P_build (l := [.int .i64 _, .str _, .str _, .int .i64 _, _, .int .i64 _]) tok rfl rfl rfl) rfl ?_
     refine AOL.e (E_alloc (l := [.int .i64 0, .str [], .str [], .int .i64 0, .sl 6 [], .int .i64 0]) (by kernel_rfl)) rfl ?_
     rintro _ _ ⟨b8, rfl, rfl⟩
     refine AOL.e (E_store (k := 0) (v := .agg _) (cs' := [.int .i64 _, .str _, .str _, .int .i64 _, _, .int .i64 _]) (H2 := _ :: _ :: _ :: _) tok rfl rfl rfl rfl rfl rfl rfl rfl rfl) rfl ?_
     rintro _ _ ⟨rfl, rfl⟩
     refine AOL.nil (thenN ?_)
     refine AW.seq (AW.region ?_)
     refine AOL.p (P_load_ptr (c := .val _) tok rfl rfl rfl) rfl ?_
     refine AOL.e (E_callf (by kernel_rfl) rfl rfl (ACall.front2 (R := _ :: _) 0 1 rfl rfl rfl (p_inside (adv st) bp (⟨16, [], [], 1, [], offS st⟩) b8 (by simpa using hS) _))) rfl ?_
     rintro _ _ ⟨rfl, rfl⟩
     refine AOL.nil (thenN ?_)
     refine AW.seq (AW.region ?_)
     refine AOL.p (P_load_ptr (c := .val _) tok rfl rfl rfl) rfl ?_
     refine AOL.e (E_callf (by kernel_rfl) rfl rfl ((p_expect _ _ _ (by simpa using hS) (by first | assumption | decide)).at (k := 0) (H2 := _ :: _ :: _ :: _) rfl rfl)) rfl ?_
     rintro _ _ ⟨rfl, rfl⟩
     refine AOL.nil (thenN ?_)
     refine AW.seq (AW.region ?_)
     refine AOL.pk (P_load_box_agg (k := 1) (l := [.int .i64 _, .str _, .str _, .int .i64 _, _, .int .i64 _]) tok rfl rfl rfl rfl rfl) rfl rfl ?_
     refine AOL.e (E_store (k := 2) (v := .agg _) (cs' := [.int .i64 _, .str _, .str _, .int .i64 _, _, .int .i64 _]) (H2 := _ :: _ :: _ :: _) tok rfl rfl rfl rfl rfl rfl rfl rfl rfl) rfl ?_
     rintro _ _ ⟨rfl, rfl⟩
     refine AOL.nil (thenN ?_)
     refine AW.ret ?_
     refine blkR ?_
     refine thenR ?_
     refine ⟨.inr rfl, [.agg [.int .i64 _, .str _, .str _, .int .i64 _, _, .int .i64 _]], .cons (.box _ _ _ 2 _ _ _ _ rfl rfl rfl rfl rfl rfl) <| .nil, _, .cons_cons _ (.cons _ (.cons _ (.refl _))), ?_⟩
     refine ⟨?_, congrArg (fun c => HO.box bp 70 c :: H) ?_⟩
     ·
      try simp only [resOf, unitP, hfd, cSyn, List.map_cons, List.map_nil, encS_eq, hc1, hc2, hc4, ↓reduceIte, Bool.false_eq_true, Bool.not_true, Bool.not_false]
      try rfl
     ·
      try simp only [cP, unitP, hfd, hc1, hc2, hc4, ↓reduceIte, Bool.false_eq_true, Bool.not_true, Bool.not_false]
      try rfl
    ·
     try simp only [Bool.not_eq_true', Bool.not_eq_false'] at hc4
     refine AW.ghost (GS.cellsTo (H2 := _ :: _ :: _) 1 rfl (congrArg cP (acc_no hc4)) rfl) ?_
     refine AW.seq (AW.region ?_)
     refine AOL.p (P_load_ptr (c := .val _) tok rfl rfl rfl) rfl ?_
     refine AOL.e (E_callf (by kernel_rfl) rfl rfl ((p_accept _ _ _ (by simpa using hS) (by first | assumption | decide)).at (k := 1) (H2 := _ :: _ :: _) rfl rfl)) rfl ?_
     rintro _ _ ⟨rfl, rfl⟩
     refine AOL.p (P_assign (v := .bool _) rfl) rfl ?_
     refine AOL.nil (thenN ?_)
     refine AW.cond (b := _) rfl (fun hc5 => ?_) (fun hc5 => ?_)
     ·
      try simp only [Bool.not_eq_true', Bool.not_eq_false'] at hc5
      refine AW.ghost (GS.cellsTo (H2 := _ :: _ :: _) 1 rfl (congrArg cP (acc_yes hc5)) rfl) ?_
      refine AW.seq (AW.region ?_)
      refine AOL.p (P_load_ptr (c := .val _) tok rfl rfl rfl) rfl ?_
      refine AOL.e (E_callf (by kernel_rfl) rfl rfl ((p_expect _ _ _ (by simpa using hS) (by first | assumption | decide)).at (k := 1) (H2 := _ :: _ :: _) rfl rfl)) rfl ?_
      rintro _ _ ⟨rfl, rfl⟩
      refine AOL.nil (thenN ?_)
      refine AW.seq (AW.region ?_)
      refine AOL.p (P_load_ptr (c := .val _) tok rfl rfl rfl) rfl ?_
      refine AOL.e (E_callf (by kernel_rfl) rfl rfl ((p_name _ _ (by simpa using hS)).at (k := 1) (H2 := _ :: _ :: _) rfl rfl)) rfl ?_
      rintro _ _ ⟨rfl, rfl⟩
      refine AOL.p (P_move (v := .int .i64 _) rfl) rfl ?_
      refine AOL.p (P_build (l := [.int .i64 _, .str _, .str _, .int .i64 _, _, .int .i64 _]) tok rfl rfl rfl) rfl ?_
      refine AOL.e (E_alloc (l := [.int .i64 0, .str [], .str [], .int .i64 0, .sl 6 [], .int .i64 0]) (by kernel_rfl)) rfl ?_
      rintro _ _ ⟨b9, rfl, rfl⟩
      refine AOL.e (E_store (k := 0) (v := .agg _) (cs' := [.int .i64 _, .str _, .str _, .int .i64 _, _, .int .i64 _]) (H2 := _ :: _ :: _ :: _) tok rfl rfl rfl rfl rfl rfl rfl rfl rfl) rfl ?_
      rintro _ _ ⟨rfl, rfl⟩
      refine AOL.ghost (GS.freeze (t := 9) 0 rfl rfl) ?_
      refine AOL.nil (thenN ?_)
      refine AW.seq (AW.region ?_)
      refine AOL.p (P_load_ptr (c := .val _) tok rfl rfl rfl) rfl ?_
      refine AOL.e (E_callf (by kernel_rfl) rfl rfl ((p_expect _ _ _ (by simpa using hS) (by first | assumption | decide)).at (k := 1) (H2 := _ :: _ :: _) rfl rfl)) rfl ?_
      rintro _ _ ⟨rfl, rfl⟩
      refine AOL.nil (thenN ?_)
      refine AW.seq (AW.region ?_)
      refine AOL.p (P_load_ptr_agg (l := [.int .i64 _, .str _, .str _, .int .i64 _, _, .int .i64 _]) tok rfl rfl rfl rfl rfl) rfl ?_
      refine AOL.e (E_store (k := 0) (v := .agg _) (cs' := [.int .i64 _, .str _, .str _, .int .i64 _, _, .int .i64 _]) (H2 := _ :: _ :: _) tok rfl rfl rfl rfl rfl rfl rfl rfl rfl) rfl ?_
      rintro _ _ ⟨rfl, rfl⟩
      refine AOL.nil (thenN ?_)
      refine AW.ret ?_
      refine blkR ?_
      refine thenR ?_
      refine ⟨.inr rfl, [.agg [.int .i64 _, .str _, .str _, .int .i64 _, _, .int .i64 _]], .cons (.box _ _ _ 0 _ _ _ _ rfl rfl rfl rfl rfl rfl) <| .nil, _, .cons _ (.refl _), ?_⟩
      refine ⟨?_, congrArg (fun c => HO.box bp 70 c :: H) ?_⟩
      ·
       try simp only [resOf, unitP, hfd, cSyn, List.map_cons, List.map_nil, encS_eq, hc1, hc2, hc4, hc5, ↓reduceIte, Bool.false_eq_true, Bool.not_true, Bool.not_false]
       try rfl
      ·
       try simp only [cP, unitP, hfd, hc1, hc2, hc4, hc5, ↓reduceIte, Bool.false_eq_true, Bool.not_true, Bool.not_false]
       try rfl
     ·
      try simp only [Bool.not_eq_true', Bool.not_eq_false'] at hc5
      refine AW.ghost (GS.cellsTo (H2 := _ :: _ :: _) 1 rfl (congrArg cP (acc_no hc5)) rfl) ?_
      refine AW.seq (AW.region ?_)
      refine AOL.p (P_load_ptr (c := .val _) tok rfl rfl rfl) rfl ?_
      refine AOL.pk (P_callf_k (k := 1) (by kernel_rfl) rfl rfl (p_next _ _ _ (by simpa using hS))) rfl rfl ?_
      refine AOL.p (P_assign (v := .bool _) rfl) rfl ?_
      refine AOL.nil (thenN ?_)
      refine AW.cond (b := _) rfl (fun hc6 => ?_) (fun hc6 => ?_)
      ·
       try simp only [Bool.not_eq_true', Bool.not_eq_false'] at hc6
       refine AW.seq (AW.region ?_)
       refine AOL.p (P_load_ptr (c := .val _) tok rfl rfl rfl) rfl ?_
       refine AOL.e (E_callf (by kernel_rfl) rfl rfl ((p_name _ _ (by simpa using hS)).at (k := 1) (H2 := _ :: _ :: _) rfl rfl)) rfl ?_
       rintro _ _ ⟨rfl, rfl⟩
       refine AOL.p (P_move (v := .int .i64 _) rfl) rfl ?_
       refine AOL.p (P_build (l := [.int .i64 _, .str _, .str _, .int .i64 _, _, .int .i64 _]) tok rfl rfl rfl) rfl ?_
       refine AOL.e (E_alloc (l := [.int .i64 0, .str [], .str [], .int .i64 0, .sl 6 [], .int .i64 0]) (by kernel_rfl)) rfl ?_
       rintro _ _ ⟨b10, rfl, rfl⟩
       refine AOL.e (E_store (k := 0) (v := .agg _) (cs' := [.int .i64 _, .str _, .str _, .int .i64 _, _, .int .i64 _]) (H2 := _ :: _ :: _ :: _) tok rfl rfl rfl rfl rfl rfl rfl rfl rfl) rfl ?_
       rintro _ _ ⟨rfl, rfl⟩
       refine AOL.nil (thenN ?_)
       refine AW.seq (AW.region ?_)
       refine AOL.p (P_load_ptr (c := .val _) tok rfl rfl rfl) rfl ?_
       refine AOL.e (E_callf (by kernel_rfl) rfl rfl ((p_expect _ _ _ (by simpa using hS) (by first | assumption | decide)).at (k := 2) (H2 := _ :: _ :: _ :: _) rfl rfl)) rfl ?_
       rintro _ _ ⟨rfl, rfl⟩
       refine AOL.nil (thenN ?_)
       refine AW.seq ?_
       refine AW.seq (AW.region ?_)
       refine AOL.p (P_load_ptr (c := .val _) tok rfl rfl rfl) rfl ?_
       refine AOL.e (E_callf (by kernel_rfl) rfl rfl ((p_accept _ _ _ (by simpa using hS) (by first | assumption | decide)).at (k := 2) (H2 := _ :: _ :: _ :: _) rfl rfl)) rfl ?_
       rintro _ _ ⟨rfl, rfl⟩
       refine AOL.nil (thenN ?_)
       refine AW.cond (b := _) rfl (fun hc7 => ?_) (fun hc7 => ?_)
       ·
        try simp only [Bool.not_eq_true', Bool.not_eq_false'] at hc7
        refine AW.ghost (GS.cellsTo (H2 := _ :: _ :: _ :: _) 2 rfl (congrArg cP (acc_yes hc7)) rfl) ?_
        refine AW.region ?_
        refine AOL.p (P_fieldAddr_val tok rfl rfl rfl rfl rfl rfl) rfl ?_
        refine AOL.e (E_store (k := 0) (v := .str _) (cs' := [.int .i64 _, .str _, .str _, .int .i64 _, _, .int .i64 _]) (H2 := _ :: _ :: _ :: _) tok rfl rfl rfl rfl rfl rfl rfl rfl rfl) rfl ?_
        rintro _ _ ⟨rfl, rfl⟩
        refine AOL.nil (thenN ?_)
        refine AW.seq (AW.region ?_)
        refine AOL.pk (P_load_box_agg (k := 0) (l := [.int .i64 _, .str _, .str _, .int .i64 _, _, .int .i64 _]) tok rfl rfl rfl rfl rfl) rfl rfl ?_
        refine AOL.e (E_store (k := 1) (v := .agg _) (cs' := [.int .i64 _, .str _, .str _, .int .i64 _, _, .int .i64 _]) (H2 := _ :: _ :: _ :: _) tok rfl rfl rfl rfl rfl rfl rfl rfl rfl) rfl ?_
        rintro _ _ ⟨rfl, rfl⟩
        refine AOL.nil (thenN ?_)
        refine AW.ret ?_
        refine blkR ?_
        refine thenR ?_
        refine ⟨.inr rfl, [.agg [.int .i64 _, .str _, .str _, .int .i64 _, _, .int .i64 _]], .cons (.box _ _ _ 1 _ _ _ _ rfl rfl rfl rfl rfl rfl) <| .nil, _, .cons _ (.cons _ (.refl _)), ?_⟩
        refine ⟨?_, congrArg (fun c => HO.box bp 70 c :: H) ?_⟩
        ·
         try simp only [resOf, unitP, hfd, cSyn, List.map_cons, List.map_nil, encS_eq, hc1, hc2, hc4, hc5, hc6, hc7, ↓reduceIte, Bool.false_eq_true, Bool.not_true, Bool.not_false]
         try rfl
        ·
         try simp only [cP, unitP, hfd, hc1, hc2, hc4, hc5, hc6, hc7, ↓reduceIte, Bool.false_eq_true, Bool.not_true, Bool.not_false]
         try rfl
       ·
        try simp only [Bool.not_eq_true', Bool.not_eq_false'] at hc7
        refine AW.ghost (GS.cellsTo (H2 := _ :: _ :: _ :: _) 2 rfl (congrArg cP (acc_no hc7)) rfl) ?_
        refine AW.region ?_
        refine AOL.p (P_load_ptr (c := .val _) tok rfl rfl rfl) rfl ?_
        refine AOL.e (E_callf (by kernel_rfl) rfl rfl ((p_name _ _ (by simpa using hS)).at (k := 2) (H2 := _ :: _ :: _ :: _) rfl rfl)) rfl ?_
        rintro _ _ ⟨rfl, rfl⟩
        refine AOL.p (P_fieldAddr_val tok rfl rfl rfl rfl rfl rfl) rfl ?_
        refine AOL.e (E_store (k := 0) (v := .str _) (cs' := [.int .i64 _, .str _, .str _, .int .i64 _, _, .int .i64 _]) (H2 := _ :: _ :: _ :: _) tok rfl rfl rfl rfl rfl rfl rfl rfl rfl) rfl ?_
        rintro _ _ ⟨rfl, rfl⟩
        refine AOL.nil (thenN ?_)
        refine AW.seq (AW.region ?_)
        refine AOL.pk (P_load_box_agg (k := 0) (l := [.int .i64 _, .str _, .str _, .int .i64 _, _, .int .i64 _]) tok rfl rfl rfl rfl rfl) rfl rfl ?_
        refine AOL.e (E_store (k := 1) (v := .agg _) (cs' := [.int .i64 _, .str _, .str _, .int .i64 _, _, .int .i64 _]) (H2 := _ :: _ :: _ :: _) tok rfl rfl rfl rfl rfl rfl rfl rfl rfl) rfl ?_
        rintro _ _ ⟨rfl, rfl⟩
        refine AOL.nil (thenN ?_)
        refine AW.ret ?_
        refine blkR ?_
        refine thenR ?_
        refine ⟨.inr rfl, [.agg [.int .i64 _, .str _, .str _, .int .i64 _, _, .int .i64 _]], .cons (.box _ _ _ 1 _ _ _ _ rfl rfl rfl rfl rfl rfl) <| .nil, _, .cons _ (.cons _ (.refl _)), ?_⟩
        refine ⟨?_, congrArg (fun c => HO.box bp 70 c :: H) ?_⟩
        ·
         try simp only [resOf, unitP, hfd, cSyn, List.map_cons, List.map_nil, encS_eq, hc1, hc2, hc4, hc5, hc6, hc7, ↓reduceIte, Bool.false_eq_true, Bool.not_true, Bool.not_false]
         try rfl
        ·
         try simp only [cP, unitP, hfd, hc1, hc2, hc4, hc5, hc6, hc7, ↓reduceIte, Bool.false_eq_true, Bool.not_true, Bool.not_false]
         try rfl
      ·
       try simp only [Bool.not_eq_true', Bool.not_eq_false'] at hc6
       refine AW.skip ?_
       refine blkN ?_
       refine thenN ?_
       refine AW.seq (AW.region ?_)
       refine AOL.p (P_load_ptr (c := .val _) tok rfl rfl rfl) rfl ?_
       refine AOL.e (E_callf (by kernel_rfl) rfl rfl ((p_constant _ _ (by simpa using hS)).at (k := 1) (H2 := _ :: _ :: _) rfl rfl)) rfl ?_
       rintro _ _ ⟨rfl, rfl⟩
       refine AOL.e (E_store (k := 0) (v := .agg _) (cs' := [.int .i64 _, .str _, .str _, .int .i64 _, _, .int .i64 _]) (H2 := _ :: _ :: _) tok rfl rfl rfl rfl rfl rfl rfl rfl rfl) rfl ?_
       rintro _ _ ⟨rfl, rfl⟩
       refine AOL.nil (thenN ?_)
       refine AW.ret ?_
       refine ⟨.inr rfl, [.agg [.int .i64 _, .str _, .str _, .int .i64 _, _, .int .i64 _]], .cons (.box _ _ _ 0 _ _ _ _ rfl rfl rfl rfl rfl rfl) <| .nil, _, .cons _ (.refl _), ?_⟩
       refine ⟨?_, congrArg (fun c => HO.box bp 70 c :: H) ?_⟩
       ·
        try simp only [resOf, unitP, hfd, cSyn, List.map_cons, List.map_nil, encS_eq, hc1, hc2, hc4, hc5, hc6, ↓reduceIte, Bool.false_eq_true, Bool.not_true, Bool.not_false]
        try rfl
       ·
        try simp only [cP, unitP, hfd, hc1, hc2, hc4, hc5, hc6, ↓reduceIte, Bool.false_eq_true, Bool.not_true, Bool.not_false]
        try rfl

end Go.Proofs.YtabkeeedkhgodaaGreatDoor
