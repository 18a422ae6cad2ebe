/-
  Walks of the parser: patterns. No condition.
-/
import Derived.Test.YtabkeeedkhgodaaGreatDoorV7
import Derived.KernelRfl
namespace Go.Proofs.YtabkeeedkhgodaaGreatDoor
open Go Go.Aw
set_option linter.unusedVariables false
set_option linter.unusedSimpArgs false

def formC : List (List AV) := [[.str w_seq, .int .i64 6, .fn (.func 159) [] []], [.str w_alt, .int .i64 7, .fn (.func 159) [] []], [.str w_all, .int .i64 8, .fn (.func 159) [] []], [.str w_plus, .int .i64 9, .fn (.func 160) [] []], [.str w_lacks, .int .i64 10, .fn (.func 161) [] []], [.str w_within, .int .i64 11, .fn (.func 162) [] []], [.str w_twhere, .int .i64 12, .fn (.func 164) [] []]]
set_option maxRecDepth 20000 in
set_option maxHeartbeats 400000 in
theorem pp_forms  : APure Tryz.prog 138 [] (.sl 3 formC) := by
 refine APure.body (n := 9) tok Tryz.func138 rfl rfl rfl fun H => ?_
 refine AW.seq (AW.region ?_)
 refine AOL.p (P_assign_nil (z := 3) rfl) rfl ?_
 refine AOL.nil (thenN ?_)
 refine AW.seq (AW.region ?_)
 refine AOL.p (P_build (l := [.str _, .int .i64 _, _]) tok rfl rfl rfl) rfl ?_
 refine AOL.p (P_build (l := [.str _, .int .i64 _, _]) tok rfl rfl rfl) rfl ?_
 refine AOL.p (P_build (l := [.str _, .int .i64 _, _]) tok rfl rfl rfl) rfl ?_
 refine AOL.p (P_build (l := [.str _, .int .i64 _, _]) tok rfl rfl rfl) rfl ?_
 refine AOL.p (P_build (l := [.str _, .int .i64 _, _]) tok rfl rfl rfl) rfl ?_
 refine AOL.p (P_build (l := [.str _, .int .i64 _, _]) tok rfl rfl rfl) rfl ?_
 refine AOL.p (P_build (l := [.str _, .int .i64 _, _]) tok rfl rfl rfl) rfl ?_
 refine AOL.p (P_buildSlice (es := [[.str _, .int .i64 _, _], [.str _, .int .i64 _, _], [.str _, .int .i64 _, _], [.str _, .int .i64 _, _], [.str _, .int .i64 _, _], [.str _, .int .i64 _, _], [.str _, .int .i64 _, _]]) tok rfl rfl rfl rfl rfl rfl rfl rfl rfl) rfl ?_
 refine AOL.p (P_assign (v := .sl _ _) rfl) rfl ?_
 refine AOL.nil (thenN ?_)
 refine AW.ret ?_
 refine ⟨.inr rfl, [.sl _ _], .cons (.tmp _ _ rfl) <| .nil, .refl _, ?_⟩
 rfl
def RestOK (fn : Nat) (E T : PS → Syn × PS) (D : Int) (k : Int) : Prop := ∀ (st : PS) (bp : Nat) (z : Syn) (bo : Nat) (v : Value) (es : List (List AV)) (he : es = z.kids.map encS) (hz : z.kids.length ≤ 1000) (R : List HO), okD D st → ACall Tryz.prog fn (.box bp 70 (cP st) :: .box bo 24 (cRw z v es) :: .row v es.length 24 6 :: R) [.val (.pointer (some ⟨bp, 0, none⟩)), .val (.pointer (some ⟨bo, 0, none⟩))] (fun r H' => r = .tuple [] ∧ ∃ v' es', es' = (restP E T k z st).1.kids.map encS ∧ H' = .box bp 70 (cP (restP E T k z st).2) :: .box bo 24 (cRw (restP E T k z st).1 v' es') :: .row v' es'.length 24 6 :: R)
theorem rest_several (D : Int) (hD : 0 ≤ D) (T : PS → Syn × PS) (hFT : Fine T) (hT : ∀ (st : PS) (bp : Nat), okD D st → PCallS Tryz.prog 108 bp 70 (cP st) (cP (T st).2) [.val (.pointer (some ⟨bp, 0, none⟩))] (.agg (cSyn (T st).1))) (E : PS → Syn × PS) (k : Int) (h : k ≤ 8) : RestOK 159 E T D k := fun st bp z bo v es he hz R hO => by
  have e : restP E T k z st = sevP T z st := by unfold restP; rw [if_pos (decide_eq_true h)]
  rw [e]
  exact p_several st bp z bo v es he hz R D hD T hFT hT hO
theorem rest_plus (D : Int) (E T : PS → Syn × PS) : RestOK 160 E T D 9 := fun st bp z bo v es he hz R hO => p_form1 st bp z bo v es he hz R
theorem rest_lacks (E : PS → Syn × PS) (hFE : Fine E) (hE : ∀ (st : PS) (bp : Nat), okD 0 st → PCallS Tryz.prog 40 bp 70 (cP st) (cP (E st).2) [.val (.pointer (some ⟨bp, 0, none⟩))] (.agg (cSyn (E st).1))) (D : Int) (hD : 0 ≤ D) (T : PS → Syn × PS) : RestOK 161 E T D 10 := fun st bp z bo v es he hz R hO => p_form2 st bp z bo v es he hz R E hFE hE (okD_zero hD hO)
theorem rest_within (D : Int) (E T : PS → Syn × PS) : RestOK 162 E T D 11 := fun st bp z bo v es he hz R hO => p_form3 st bp z bo v es he hz R hO.1
theorem rest_where (E : PS → Syn × PS) (hFE : Fine E) (hE : ∀ (st : PS) (bp : Nat), okD 0 st → PCallS Tryz.prog 40 bp 70 (cP st) (cP (E st).2) [.val (.pointer (some ⟨bp, 0, none⟩))] (.agg (cSyn (E st).1))) (D : Int) (hD : 0 ≤ D) (T : PS → Syn × PS) : RestOK 164 E T D 12 := fun st bp z bo v es he hz R hO => p_form4 st bp z bo v es he hz R E hFE hE (okD_zero hD hO)
theorem form_get (E : PS → Syn × PS) (hFE : Fine E) (hE : ∀ (st : PS) (bp : Nat), okD 0 st → PCallS Tryz.prog 40 bp 70 (cP st) (cP (E st).2) [.val (.pointer (some ⟨bp, 0, none⟩))] (.agg (cSyn (E st).1))) (D : Int) (hD : 0 ≤ D) (T : PS → Syn × PS) (hFT : Fine T) (hT : ∀ (st : PS) (bp : Nat), okD D st → PCallS Tryz.prog 108 bp 70 (cP st) (cP (T st).2) [.val (.pointer (some ⟨bp, 0, none⟩))] (.agg (cSyn (T st).1))) (k : Nat) (hk : k < 7) : ∃ (x : Str × Int) (fn : Nat), formL[k]? = some x ∧ formC[k]? = some [.str x.1, .int .i64 x.2, .fn (.func fn) [] []] ∧ fnB Tryz.prog fn = true ∧ x.1.length ≤ 1048576 ∧ RestOK fn E T D x.2 := by
  match k, hk with
  | 0, _ => exact ⟨_, _, rfl, rfl, by kernel_rfl, by decide, rest_several D hD T hFT hT E 6 (by decide)⟩
  | 1, _ => exact ⟨_, _, rfl, rfl, by kernel_rfl, by decide, rest_several D hD T hFT hT E 7 (by decide)⟩
  | 2, _ => exact ⟨_, _, rfl, rfl, by kernel_rfl, by decide, rest_several D hD T hFT hT E 8 (by decide)⟩
  | 3, _ => exact ⟨_, _, rfl, rfl, by kernel_rfl, by decide, rest_plus D E T⟩
  | 4, _ => exact ⟨_, _, rfl, rfl, by kernel_rfl, by decide, rest_lacks E hFE hE D hD T⟩
  | 5, _ => exact ⟨_, _, rfl, rfl, by kernel_rfl, by decide, rest_within D E T⟩
  | 6, _ => exact ⟨_, _, rfl, rfl, by kernel_rfl, by decide, rest_where E hFE hE D hD T⟩
/-- The reading in parentheses. -/
def patRd (E T : PS → Syn × PS) (k : Int) (z : Syn) (s : PS) : Syn × PS := ((restP E T k { z with kids := [(T (expP w_lpar s)).1] } (T (expP w_lpar s)).2).1, expP w_rpar (restP E T k { z with kids := [(T (expP w_lpar s)).1] } (T (expP w_lpar s)).2).2)

set_option maxRecDepth 20000 in
set_option maxHeartbeats 800000 in
theorem p_pattern_1 (st : PS) (bp : Nat) (z : Syn) (bo : Nat) (R : List HO) (E : PS → Syn × PS) (hFE : Fine E) (hE : ∀ (st : PS) (bp : Nat), okD 0 st → PCallS Tryz.prog 40 bp 70 (cP st) (cP (E st).2) [.val (.pointer (some ⟨bp, 0, none⟩))] (.agg (cSyn (E st).1))) (D : Int) (hD : 0 ≤ D) (T : PS → Syn × PS) (hFT : Fine T) (hT : ∀ (st : PS) (bp : Nat), okD (D + 1) st → PCallS Tryz.prog 108 bp 70 (cP st) (cP (T st).2) [.val (.pointer (some ⟨bp, 0, none⟩))] (.agg (cSyn (T st).1))) (w : Str) (k : Int) (fn : Nat) (hfn : fnB Tryz.prog fn = true) (hr : RestOK fn E T (D + 1) k) (hO : okD (D + 1) st) : ACall Tryz.prog 140 (.box bp 70 (cP st) :: .box bo 24 (cSyn z) :: R) [.ptr [.val (.pointer (some ⟨bp, 0, none⟩))], .val (.pointer (some ⟨bo, 0, none⟩)), .ptr [.str w, .int .i64 k, .fn (.func fn) [] []]] (fun r H' => r = .tuple [] ∧ H' = .box bp 70 (cP (patRd E T k z st).2) :: .box bo 24 (cSyn (patRd E T k z st).1) :: R) := by
 have hS := hO.1
 have hO1 : okD (D + 1) (expP w_lpar st) := by simpa using hO
 have hO2 := hFT.okD (by omega) hO1
 have hO4 : okD (D + 1) (restP E T k { z with kids := [(T (expP w_lpar st)).1] } (T (expP w_lpar st)).2).2 := okD_goes hO2 (goes_rest hFE hFT k { z with kids := [(T (expP w_lpar st)).1] } (okD_rng (by omega) hO2))
 refine ACall.body (n := 15) tok Tryz.func140 rfl rfl rfl ?_
 refine AW.ghostPost ?_
 refine AW.seq (AW.region ?_)
 refine AOL.p (P_load_ptr (c := .val _) tok rfl rfl rfl) rfl ?_
 refine AOL.e (E_callf (by kernel_rfl) rfl rfl ((p_expect _ _ _ (by simpa using hS) (by first | assumption | decide)).at (k := 0) (H2 := _ :: _ :: _) rfl rfl)) rfl ?_
 rintro _ _ ⟨rfl, rfl⟩
 refine AOL.nil (thenN ?_)
 refine AW.seq (AW.region ?_)
 refine AOL.p (P_load_ptr (c := .val _) tok rfl rfl rfl) rfl ?_
 refine AOL.e (E_callf (by kernel_rfl) rfl rfl ((hT (expP w_lpar st) bp hO1).at (k := 0) (H2 := _ :: _ :: _) rfl rfl)) rfl ?_
 rintro _ _ ⟨rfl, rfl⟩
 refine AOL.e (E_buildSlice (es := [[.int .i64 _, .str _, .str _, .int .i64 _, _, .int .i64 _]]) tok rfl rfl rfl rfl rfl rfl rfl rfl rfl) rfl ?_
 rintro _ _ ⟨v7, rfl, rfl⟩
 refine AOL.p (P_fieldAddr_val tok rfl rfl rfl rfl rfl rfl) rfl ?_
 refine AOL.e (E_store (k := 2) (v := .row _ _ _) (cs' := [.int .i64 _, .str _, .str _, .int .i64 _, _, .int .i64 _]) (H2 := _ :: _ :: _ :: _) tok rfl rfl rfl rfl rfl rfl rfl rfl rfl) rfl ?_
 rintro _ _ ⟨rfl, rfl⟩
 refine AOL.nil (thenN ?_)
 refine AW.seq (AW.region ?_)
 refine AOL.p (P_fieldAddr_ptr (cs' := [_]) tok rfl rfl rfl rfl rfl rfl) rfl ?_
 refine AOL.p (P_load_ptr (c := .fn _ _ _) tok rfl rfl rfl) rfl ?_
 refine AOL.p (P_load_ptr (c := .val _) tok rfl rfl rfl) rfl ?_
 refine AOL.e (E_call (hfn) rfl rfl rfl (ACall.front2 (R := _ :: _) 2 1 rfl rfl rfl (hr (T (expP w_lpar st)).2 bp { z with kids := [(T (expP w_lpar st)).1] } bo _ _ (by rw [List.map_cons, List.map_nil, encS_eq]) (by simp) _ hO2))) rfl ?_
 rintro _ _ ⟨rfl, v2, e2, rfl, rfl⟩
 have hS := hO4.1
 refine AOL.nil (thenN ?_)
 refine AW.region ?_
 refine AOL.p (P_load_ptr (c := .val _) tok rfl rfl rfl) rfl ?_
 refine AOL.e (E_callf (by kernel_rfl) rfl rfl ((p_expect _ _ _ (by simpa using hS) (by first | assumption | decide)).at (k := 0) (H2 := _ :: _ :: _ :: _) rfl rfl)) rfl ?_
 rintro _ _ ⟨rfl, rfl⟩
 refine AOL.nil ?_
 refine ⟨_, GS.cell (H2 := _ :: _ :: _ :: _) 1 4 rfl rfl rfl rfl unrow_cell, .inl rfl, [], .nil, _, .cons_cons _ (.cons_cons _ (.cons _ (.refl _))), ?_⟩
 exact ⟨rfl, rfl⟩
set_option maxRecDepth 20000 in
set_option maxHeartbeats 1600000 in
theorem p_pattern (st : PS) (bp : Nat) (E : PS → Syn × PS) (hFE : Fine E) (hE : ∀ (st : PS) (bp : Nat), okD 0 st → PCallS Tryz.prog 40 bp 70 (cP st) (cP (E st).2) [.val (.pointer (some ⟨bp, 0, none⟩))] (.agg (cSyn (E st).1))) (D : Int) (hD : 0 ≤ D) (T : PS → Syn × PS) (hFT : Fine T) (hT : ∀ (st : PS) (bp : Nat), okD (D + 1) st → PCallS Tryz.prog 108 bp 70 (cP st) (cP (T st).2) [.val (.pointer (some ⟨bp, 0, none⟩))] (.agg (cSyn (T st).1))) (hO : okD D st) : PCallS Tryz.prog 108 bp 70 (cP st) (cP ((patP E T st).2)) [.val (.pointer (some ⟨bp, 0, none⟩))] (.agg (cSyn (patP E T st).1)) := by
 intro H
 have hS := hO.1
 refine ACall.body (n := 29) tok Tryz.func108 rfl rfl rfl ?_
 refine AW.seq (AW.region ?_)
 refine AOL.p (P_box (v := .val _) (cs := [_]) rfl rfl rfl) rfl ?_
 refine AOL.e (E_alloc (l := [.int .i64 0, .str [], .str [], .int .i64 0, .sl 6 [], .int .i64 0]) (by kernel_rfl)) rfl ?_
 rintro _ _ ⟨b2, rfl, rfl⟩
 refine AOL.nil (thenN ?_)
 refine AW.seq ?_
 refine AW.seq (AW.region ?_)
 refine AOL.p (P_callf (by kernel_rfl) rfl rfl (pp_forms )) rfl ?_
 refine AOL.p (P_len_sl (n := 7) tok rfl rfl rfl (rfl)) rfl ?_
 refine AOL.p (P_move (v := .int .i64 _) rfl) rfl ?_
 refine AOL.nil (thenN ?_)
 refine AW.block ?_
 refine AW.loopS (fun (k : Nat) => (⟨[(1, .ptr [.val (.pointer (some ⟨bp, 0, none⟩))]), (2, .val (.pointer (some ⟨b2, 0, none⟩))), (6, .sl 3 formC), (7, .int .i64 7), (8, .int .i64 (k : Int))], .box b2 24 (cSyn synZ) :: .box bp 70 (cP st) :: H, 29⟩ : St)) (fun (k : Nat) => k ≤ 7 ∧ ∀ j y, j < k → formL[j]? = some y → isP y.1 st = false) (fun (k : Nat) => 7 - k) (0) ?_ (GS.weaken ⟨rfl, rfl, rfl, rfl, rfl, trivial⟩ (.refl _)) ?_
 · exact ⟨Nat.zero_le _, fun j y hj => absurd hj (Nat.not_lt_zero _)⟩
 ·
  rintro k hR
  refine AW.seq (AW.region ?_)
  refine AOL.p (P_lss rfl rfl) rfl ?_
  refine AOL.nil (thenN ?_)
  refine AW.seq ?_
  refine AW.cond (b := _) rfl (fun hc1 => ?_) (fun hc1 => ?_)
  ·
   try simp only [Bool.not_eq_true', Bool.not_eq_false'] at hc1
   have hk : k < 7 := by have := of_decide_eq_true hc1; omega
   refine (form_get E hFE hE (D + 1) (by omega) T hFT hT k hk).elim fun x hx0 => hx0.elim fun fn hx3 => ?_
   have hx := hx3.1
   have hx2 := hx3.2.1
   have hfn := hx3.2.2.1
   have hwx := hx3.2.2.2.1
   have hrk := hx3.2.2.2.2
   refine AW.skip ?_
   refine thenN ?_
   refine AW.seq ?_
   refine AW.block ?_
   refine AW.seq (AW.region ?_)
   refine AOL.p (P_indexAddr (c := [.str x.1, .int .i64 x.2, .fn (.func fn) [] []]) tok rfl rfl rfl rfl rfl rfl (by omega) (hx2)) rfl ?_
   refine AOL.p (P_load_ptr_agg (l := [.str _, .int .i64 _, _]) tok rfl rfl rfl rfl rfl) rfl ?_
   refine AOL.e (E_alloc (l := [.str [], .int .i64 0, .val .nilFunc]) (by kernel_rfl)) rfl ?_
   rintro _ _ ⟨b4, rfl, rfl⟩
   refine AOL.e (E_store (k := 0) (v := .agg _) (cs' := [.str _, .int .i64 _, _]) (H2 := _ :: _ :: _ :: _) tok rfl rfl rfl rfl rfl rfl rfl rfl rfl) rfl ?_
   rintro _ _ ⟨rfl, rfl⟩
   refine AOL.ghost (GS.freeze (t := 4) 0 rfl rfl) ?_
   refine AOL.nil (thenN ?_)
   refine AW.seq ?_
   refine AW.seq (AW.region ?_)
   refine AOL.p (P_load_ptr (c := .val _) tok rfl rfl rfl) rfl ?_
   refine AOL.p (P_fieldAddr_ptr (cs' := [.str _, .int .i64 _, _]) tok rfl rfl rfl rfl rfl rfl) rfl ?_
   refine AOL.p (P_load_ptr (c := .str _) tok rfl rfl rfl) rfl ?_
   refine AOL.pk (P_callf_k (k := 1) (by kernel_rfl) rfl rfl (p_is _ _ _ (by simpa using hS) (by first | assumption | decide))) rfl rfl ?_
   refine AOL.p (P_not rfl) rfl ?_
   refine AOL.nil (thenN ?_)
   refine AW.cond (b := _) rfl (fun hc2 => ?_) (fun hc2 => ?_)
   ·
    try simp only [Bool.not_eq_true', Bool.not_eq_false'] at hc2
    refine AW.exit ?_
    refine thenE ?_
    refine blkHit ?_
    refine thenN ?_
    refine AW.region ?_
    refine AOL.p (P_add rfl rfl rfl (by constructor <;> omega)) rfl ?_
    refine AOL.p (P_move (v := .int .i64 _) rfl) rfl ?_
    refine AOL.nil (thenN ?_)
    refine ⟨k + 1, ?_, ?_, GS.weaken ⟨rfl, rfl, rfl, rfl, rfl, trivial⟩ (.refl _)⟩
    · exact ⟨hk, fun j y hj hy => by rcases Nat.lt_succ_iff_lt_or_eq.1 hj with h | rfl; exact hR.2 j y h hy; rw [hx] at hy; cases hy; exact hc2⟩
    · omega
   ·
    try simp only [Bool.not_eq_true', Bool.not_eq_false'] at hc2
    have hfd : formL.find? (fun f => isP f.1 st) = some x := find_hit hR.2 hx hc2
    refine AW.skip ?_
    refine thenN ?_
    refine AW.seq ?_
    refine AW.draw mixed (fun H' => _ ∈ H') (List.mem_of_getElem? (i := 1) rfl) (by kernel_rfl) ?_
    refine Canon.pure _ _ 0 _ _ rfl (by kernel_rfl) (by kernel_rfl) rfl (.run rfl (P_fieldAddr_ptr (cs' := [.int .i64 _, _]) tok rfl rfl rfl rfl rfl rfl)) ?_
    refine Canon.pure _ _ 1 _ _ rfl (by kernel_rfl) (by kernel_rfl) rfl (.run rfl (P_load_ptr (c := .int .i64 _) tok rfl rfl rfl)) ?_
    refine Canon.pure _ _ 2 _ _ rfl (by kernel_rfl) (by kernel_rfl) rfl (.run rfl (P_load_ptr (c := .val _) tok rfl rfl rfl)) ?_
    refine Canon.pure _ _ 3 _ _ rfl (by kernel_rfl) (by kernel_rfl) rfl (.run rfl (OpP.mem (fun k => P_callf_k (k := k) (by kernel_rfl) rfl rfl (p_offset _ _)) (fun _ h => h))) ?_
    refine Canon.pure _ _ 4 _ _ rfl (by kernel_rfl) (by kernel_rfl) rfl (.run rfl (P_build (l := [.int .i64 _, .str _, .str _, .int .i64 _, _, .int .i64 _]) tok rfl rfl rfl)) ?_
    refine Canon.eff _ _ 5 _ _ rfl (by kernel_rfl) rfl rfl (E_alloc (l := [.int .i64 0, .str [], .str [], .int .i64 0, .sl 6 [], .int .i64 0]) (by kernel_rfl)) (by rintro _ _ ⟨b5, rfl, rfl⟩; simp) ?_
    rintro _ _ ⟨b5, rfl, rfl⟩
    refine Canon.last _ _ 6 _ _ rfl (by kernel_rfl) rfl rfl (E_store (k := 0) (v := .agg _) (cs' := [.int .i64 _, .str _, .str _, .int .i64 _, _, .int .i64 _]) (H2 := _ :: _ :: _ :: _) tok rfl rfl rfl rfl rfl rfl rfl rfl rfl) (by kernel_rfl) ?_
    rintro _ _ ⟨rfl, rfl⟩
    refine thenN ?_
    refine AW.seq (AW.region ?_)
    refine AOL.p (P_load_ptr (c := .val _) tok rfl rfl rfl) rfl ?_
    refine AOL.p (P_makeFunc (l := []) (l' := [.ptr _, .val _, .ptr _]) rfl rfl) rfl ?_
    refine AOL.e (E_callf (by kernel_rfl) rfl rfl (ACall.front2 (R := _ :: _) 0 1 rfl rfl rfl (nest_call (patRd E T x.2) ⟨x.2, [], [], 0, [], offS st⟩ st bp b5 _ 140 (by kernel_rfl) [] [.ptr [.val (.pointer (some ⟨bp, 0, none⟩))], .val (.pointer (some ⟨b5, 0, none⟩)), .ptr [.str x.1, .int .i64 x.2, .fn (.func fn) [] []]] (is_lt hc2) hS (fun hb => p_pattern_1 _ bp ⟨x.2, [], [], 0, [], offS st⟩ b5 _ E hFE hE D hD T hFT hT x.1 x.2 fn hfn hrk (okD_deep hD hO hb))))) rfl ?_
    rintro _ _ ⟨rfl, rfl⟩
    refine AOL.nil (thenN ?_)
    refine AW.seq (AW.region ?_)
    refine AOL.pk (P_load_box_agg (k := 1) (l := [.int .i64 _, .str _, .str _, .int .i64 _, _, .int .i64 _]) tok rfl rfl rfl rfl rfl) rfl rfl ?_
    refine AOL.e (E_store (k := 2) (v := .agg _) (cs' := [.int .i64 _, .str _, .str _, .int .i64 _, _, .int .i64 _]) (H2 := _ :: _ :: _ :: _) tok rfl rfl rfl rfl rfl rfl rfl rfl rfl) rfl ?_
    rintro _ _ ⟨rfl, rfl⟩
    refine AOL.nil (thenN ?_)
    refine AW.ret ?_
    refine blkR ?_
    refine thenR ?_
    refine thenR ?_
    refine blkR ?_
    refine thenR ?_
    refine ⟨.inr rfl, [.agg [.int .i64 _, .str _, .str _, .int .i64 _, _, .int .i64 _]], .cons (.box _ _ _ 2 _ _ _ _ rfl rfl rfl rfl rfl rfl) <| .nil, _, .cons_cons _ (.cons _ (.cons _ (.refl _))), ?_⟩
    have h9 : patP E T st = nestP (patRd E T x.2) ⟨x.2, [], [], 0, [], offS st⟩ st := by unfold patP; rw [hfd]; rfl
    exact ⟨by rw [h9]; rfl, congrArg (fun s => HO.box bp 70 (cP s) :: H) (by rw [h9])⟩
  ·
   try simp only [Bool.not_eq_true', Bool.not_eq_false'] at hc1
   have hkn : ¬ k < 7 := by have := of_decide_eq_false hc1; omega
   have hfd : formL.find? (fun f => isP f.1 st) = none := find_none' (k := k) hkn hR.2
   refine AW.exit ?_
   refine thenE ?_
   refine thenE ?_
   refine blkHit ?_
   refine thenN ?_
   refine AW.seq (AW.region ?_)
   refine AOL.p (P_load_ptr (c := .val _) tok rfl rfl rfl) rfl ?_
   refine AOL.e (E_callf (by kernel_rfl) rfl rfl ((p_event st bp E hFE hE (okD_zero hD hO)).at (k := 1) (H2 := _ :: _ :: _) rfl rfl)) rfl ?_
   rintro _ _ ⟨rfl, rfl⟩
   refine AOL.e (E_store (k := 0) (v := .agg _) (cs' := [.int .i64 _, .str _, .str _, .int .i64 _, _, .int .i64 _]) (H2 := _ :: _ :: _) tok rfl rfl rfl rfl rfl rfl rfl rfl rfl) rfl ?_
   rintro _ _ ⟨rfl, rfl⟩
   refine AOL.nil (thenN ?_)
   refine AW.ret ?_
   refine ⟨.inr rfl, [.agg [.int .i64 _, .str _, .str _, .int .i64 _, _, .int .i64 _]], .cons (.box _ _ _ 0 _ _ _ _ rfl rfl rfl rfl rfl rfl) <| .nil, _, .cons _ (.refl _), ?_⟩
   have h9 : patP E T st = eventP E st := by unfold patP; rw [hfd]
   exact ⟨by rw [h9]; rfl, congrArg (fun s => HO.box bp 70 (cP s) :: H) (by rw [h9])⟩
theorem pat_all (E : PS → Syn × PS) (hFE : Fine E) (hE : ∀ (st : PS) (bp : Nat), okD 0 st → PCallS Tryz.prog 40 bp 70 (cP st) (cP (E st).2) [.val (.pointer (some ⟨bp, 0, none⟩))] (.agg (cSyn (E st).1))) : ∀ (n : Nat), n ≤ 64 → ∀ (st : PS) (bp : Nat), okD (64 - (n : Int)) st → PCallS Tryz.prog 108 bp 70 (cP st) (cP (patN E n st).2) [.val (.pointer (some ⟨bp, 0, none⟩))] (.agg (cSyn (patN E n st).1))
  | 0, _ => fun st bp hO => p_pattern st bp E hFE hE 64 (by decide) dullP fine_dull (fun _ _ h => (okD_void h).elim) hO
  | n + 1, hn => fun st bp hO => by
    have ih := pat_all E hFE hE n (by omega)
    exact p_pattern st bp E hFE hE (64 - ((n + 1 : Nat) : Int)) (by omega) (patN E n) (fine_patN hFE n) (fun s b h => ih s b ⟨h.1, by have := h.2.1; omega, h.2.2⟩) hO
theorem fine_EE : Fine EE := (fine_neg 64).2
theorem fine_TT : Fine TT := fine_patN fine_EE 64
theorem p_EE (st : PS) (bp : Nat) (h : okD 0 st) : PCallS Tryz.prog 40 bp 70 (cP st) (cP (EE st).2) [.val (.pointer (some ⟨bp, 0, none⟩))] (.agg (cSyn (EE st).1)) := (neg_all 64 (Nat.le_refl _)).2 st bp h
theorem p_TT (st : PS) (bp : Nat) (h : okD 0 st) : PCallS Tryz.prog 108 bp 70 (cP st) (cP (TT st).2) [.val (.pointer (some ⟨bp, 0, none⟩))] (.agg (cSyn (TT st).1)) := pat_all EE fine_EE p_EE 64 (Nat.le_refl _) st bp h

end Go.Proofs.YtabkeeedkhgodaaGreatDoor
