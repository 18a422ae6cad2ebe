/-
  Walks of layer 8: ExprMoves. No condition.
-/
import Derived.Test.YtkkacfnkjiijkaaW20
import Derived.Test.YtkkacfnkjiijkaaW19
import Derived.Test.YtkkacfnkjiijkaaM9
import Derived.KernelRfl
namespace Go.Proofs.Ytkkacfnkjiijkaa
open Go Go.Aw
set_option linter.unusedVariables false
set_option linter.unusedSimpArgs false

def cI (L : List Int) : List AV := L.map fun k => .int .i64 k
def cMv (M : List (List Ev)) : List AV := M.map fun l => .sl 5 (l.map cEv)
theorem setSeg_map {α : Type} (f : α → AV) {L : List α} {k : Nat} {x : α} (h : k < L.length) : setSeg (L.map f) k [f x] = (L.set k x).map f := by
  apply List.ext_getElem?
  intro i
  unfold setSeg
  rw [List.getElem?_map, List.getElem?_set]
  by_cases e : i < k
  · rw [List.append_assoc, List.getElem?_append_left (by rw [List.length_take, List.length_map]; omega), List.getElem?_take, if_pos e, List.getElem?_map, if_neg (by omega)]
  · by_cases e2 : i = k
    · subst e2
      rw [List.append_assoc, List.getElem?_append_right (by rw [List.length_take, List.length_map]; omega)]
      simp [Nat.min_eq_left (Nat.le_of_lt h), h]
    · rw [List.getElem?_append_right (by simp; omega), List.getElem?_drop, if_neg (by omega)]
      have : k + [f x].length + (i - ((L.map f).take k ++ [f x]).length) = i := by simp; omega
      rw [this, List.getElem?_map]
theorem cI_get {L : List Int} {k : Nat} {x : Int} (h : L[k]? = some x) : (cI L)[k]? = some (.int .i64 x) := by unfold cI; rw [List.getElem?_map, h]; rfl
theorem cI_zero (n : Nat) : (List.replicate n [AV.int .i64 0]).flatten = cI (List.replicate n 0) := by
  induction n with
  | zero => rfl
  | succ n ih => rw [List.replicate_succ, List.replicate_succ, List.flatten_cons, ih]; rfl
theorem cMv_zero (n : Nat) : (List.replicate n [AV.sl 5 []]).flatten = cMv (List.replicate n []) := by
  induction n with
  | zero => rfl
  | succ n ih => rw [List.replicate_succ, List.replicate_succ, List.flatten_cons, ih]; rfl
theorem cI_flat (L : List Int) : (cTo L).flatten = cI L := by
  induction L with
  | nil => rfl
  | cons a r ih => show [AV.int .i64 a] ++ (cTo r).flatten = _; rw [ih]; rfl
theorem cMv_flat (M : List (List Ev)) : (M.map cEvs).flatten = cMv M := by
  induction M with
  | nil => rfl
  | cons a r ih => show cEvs a ++ (r.map cEvs).flatten = _; rw [ih]; rfl
theorem ptr_slot {b m c z : Nat} {es : List (List AV)} : ∀ g w u, Rep g w (.slice (some ⟨b, 0, none⟩) m c) (.sl z es) → Rep g w u (.ptr [.val (.slice (some ⟨b, 0, none⟩) m c)]) → Rep g w u (.ptr [.sl z es]) := by
  intro g w u h h'
  obtain ⟨b', o, rfl, f, h1, h2⟩ := h'.inv_ptr
  refine .ptr b' o _ f (fun j x hj => ?_) (fun j x hj => ?_)
  · match j, hj with
    | 0, hj => exact h1 0 _ rfl
  · match j, hj with
    | 0, hj =>
      have := (h2 0 _ rfl).inv_val
      rw [this]
      simp at hj; subst hj; exact h
theorem mem_set_le {M : List (List Ev)} {i : Nat} {l : List Ev} (h : ∀ l ∈ M, l.length ≤ 1048576) (hl : l.length ≤ 1048576) : ∀ m ∈ M.set i l, m.length ≤ 1048576 := by
  intro m hm
  rcases List.mem_or_eq_of_mem_set hm with h1 | h1
  · exact h m h1
  · rw [h1]; exact hl
/-- what the loop has laid up to k -/
def RL (n b : Nat) (L : List Int) (k : Nat) : Prop := L.length = n ∧ ∀ v, v < k → L[v]? = some (tvS n b v)
def RM (vars : List (List Ev)) (b : Nat) (M : List (List Ev)) (k : Nat) : Prop := M.length = vars.length ∧ (∀ v, v < k → M[(tvS vars.length b v).toNat]? = vars[v]?) ∧ ∀ l ∈ M, l.length ≤ 1048576
theorem RL_next {n b k : Nat} {L : List Int} (h : RL n b L k) (hk : k < n) : RL n b (L.set k (tvS n b k)) (k + 1) := by
  refine ⟨by rw [List.length_set]; exact h.1, fun v hv => ?_⟩
  rw [List.getElem?_set]
  by_cases e : k = v
  · subst e; rw [if_pos rfl, if_pos (by rw [h.1]; exact hk)]
  · rw [if_neg e]; exact h.2 v (by omega)
theorem RL_end {n b : Nat} {L : List Int} (h : RL n b L n) : L = toS n b := by
  apply List.ext_getElem?
  intro i
  unfold toS
  rw [List.getElem?_map]
  by_cases hi : i < n
  · rw [h.2 i hi, List.getElem?_range hi]; rfl
  · rw [List.getElem?_eq_none (by rw [h.1]; omega), List.getElem?_eq_none (by simp; omega)]; rfl
theorem RM_next {vars M : List (List Ev)} {b k : Nat} {l : List Ev} (h : RM vars b M k) (hl : vars[k]? = some l) (hbl : l.length ≤ 1048576) : RM vars b (M.set (tvS vars.length b k).toNat l) (k + 1) := by
  have hk := get_lt' hl
  refine ⟨by rw [List.length_set]; exact h.1, fun v hv => ?_, mem_set_le h.2.2 hbl⟩
  have ht := tv_lt (n := vars.length) (b := b) (v := k) (by omega)
  rw [List.getElem?_set]
  by_cases e : k = v
  · subst e; rw [if_pos rfl, if_pos (by rw [h.1]; omega), hl]
  · rw [if_neg ?_]
    · exact h.2.1 v (by omega)
    · intro he
      rw [tv_eq, tv_eq] at he
      have : (k + b) % vars.length = (v + b) % vars.length := by omega
      exact e (mod_inj hk (by omega) this)
def RU (vars : List (List Ev)) (us : List Int) (M : List (List Ev)) (k : Nat) : Prop := M.length = vars.length ∧ (∀ u ∈ us.take k, M[u.toNat]? = vars[u.toNat]?) ∧ ∀ l ∈ M, l.length ≤ 1048576
theorem RU_next {vars M : List (List Ev)} {us : List Int} {k : Nat} {a : Int} {l : List Ev} (h : RU vars us M k) (ha : us[k]? = some a) (hl : vars[a.toNat]? = some l) (hbl : l.length ≤ 1048576) : RU vars us (M.set a.toNat l) (k + 1) := by
  refine ⟨by rw [List.length_set]; exact h.1, fun u hu => ?_, mem_set_le h.2.2 hbl⟩
  rw [take_get ha] at hu
  rw [List.getElem?_set]
  by_cases e : a.toNat = u.toNat
  · rw [if_pos e, if_pos (by rw [h.1]; exact get_lt' hl), ← e, hl]
  · rw [if_neg e]
    rcases List.mem_append.1 hu with hu | hu
    · exact h.2.1 u hu
    · simp at hu; rw [hu] at e; exact absurd rfl e

set_option maxRecDepth 20000 in
set_option maxHeartbeats 3200000 in
theorem c8 (e : Ex) (hs : sizeN e ≤ 1048576) (vars : List (List Ev)) (hv : vars.length ≤ 1048576) (hx : ∀ l ∈ vars, l.length ≤ 1048576) (by8 : Nat) (hb : by8 ≤ 255) : APure Try.prog 8 [.agg (cE e), .agg (cEnv vars), .int .u8 (by8 : Int)] (.bool true) := by
  have hML : 1048576 ≤ maxLen := by decide
  refine APure.body (n := 172) tok Try.func8 rfl rfl rfl fun H => ?_
  refine AW.seq ?_
  refine AW.region ?_
  refine AOL.p (P_box (v := .agg _) (cs := [.int .i64 _, _, .int .i64 _, .int .i64 _, .int .i64 _, .int .i64 _, .int .i64 _, .str _]) rfl rfl rfl) rfl ?_
  refine AOL.p (P_box (v := .agg _) (cs := [_]) rfl rfl rfl) rfl ?_
  refine AOL.p (P_assign (v := .bool _) rfl) rfl ?_
  refine AOL.nil ?_
  refine thenN ?_
  refine AW.seq ?_
  refine AW.seq ?_
  refine AW.region ?_
  refine AOL.p (P_load_ptr_agg (l := [.int .i64 _, _, .int .i64 _, .int .i64 _, .int .i64 _, .int .i64 _, .int .i64 _, .str _]) tok rfl rfl rfl rfl rfl) rfl ?_
  refine AOL.p (P_buildSlice (es := [[.int .i64 _, _, .int .i64 _, .int .i64 _, .int .i64 _, .int .i64 _, .int .i64 _, .str _]]) tok rfl rfl rfl rfl rfl rfl rfl rfl rfl) rfl ?_
  refine AOL.p (P_callf (by kernel_rfl) rfl rfl (few_one e hs)) rfl ?_
  refine AOL.p (P_not rfl) rfl ?_
  refine AOL.p (P_move (v := .bool _) rfl) rfl ?_
  refine AOL.g (y := .agg _) _ [] rfl (EntL.all trivial) (fun hG => P_load_ptr_agg (l := [_]) tok rfl rfl rfl rfl rfl) rfl ?_
  refine AOL.g (y := .bool _) _ [(27, _)] rfl (EntL.all ⟨Ent.self _ _, trivial⟩) (fun hG => P_callf (by kernel_rfl) rfl rfl (c12 vars hv hx)) rfl ?_
  refine AOL.g (y := .bool _) _ [(28, _)] rfl (EntL.all ⟨Ent.self _ _, trivial⟩) (fun hG => P_not rfl) rfl ?_
  refine AOL.p (P_pick_or rfl rfl rfl) rfl ?_
  refine AOL.p (P_move (v := .bool _) rfl) rfl ?_
  refine AOL.g (y := .ptr _) _ [] rfl (EntL.all trivial) (fun hG => P_fieldAddr_ptr (cs' := [_]) tok rfl rfl rfl rfl rfl rfl) rfl ?_
  refine AOL.g (y := .sl _ _) _ [(32, _)] rfl (EntL.all ⟨Ent.self _ _, trivial⟩) (fun hG => P_load_ptr (c := .sl _ _) tok rfl rfl rfl) rfl ?_
  refine AOL.g (y := .int .i64 _) _ [(33, _)] rfl (EntL.all ⟨Ent.self _ _, trivial⟩) (fun hG => P_len_sl (n := vars.length) tok rfl rfl rfl (by simp)) rfl ?_
  refine AOL.g (y := .bool _) _ [(34, _)] rfl (EntL.all ⟨Ent.self _ _, trivial⟩) (fun hG => P_gtr rfl rfl) rfl ?_
  refine AOL.p (P_pick_or rfl rfl rfl) rfl ?_
  refine AOL.p (P_move (v := .bool _) rfl) rfl ?_
  refine AOL.g (y := .agg _) _ [] rfl (EntL.all trivial) (fun hG => P_load_ptr_agg (l := [.int .i64 _, _, .int .i64 _, .int .i64 _, .int .i64 _, .int .i64 _, .int .i64 _, .str _]) tok rfl rfl rfl rfl rfl) rfl ?_
  refine AOL.g (y := .int .i64 _) _ [(38, _)] rfl (EntL.all ⟨Ent.self _ _, trivial⟩) (fun hG => P_callf (by kernel_rfl) rfl rfl (c21 e hs)) rfl ?_
  refine AOL.g (y := .bool _) _ [(39, _)] rfl (EntL.all ⟨Ent.self _ _, trivial⟩) (fun hG => P_neq rfl rfl) rfl ?_
  refine AOL.p (P_pick_or rfl rfl rfl) rfl ?_
  refine AOL.nil ?_
  refine thenN ?_
  refine AW.cond (b := _) rfl (fun hc1 => ?_) (fun hc1 => ?_)
  · skip
    refine AW.seq ?_
    refine AW.region ?_
    refine AOL.p (P_callf (by kernel_rfl) rfl rfl (c13)) rfl ?_
    refine AOL.p (P_assign (v := .bool _) rfl) rfl ?_
    refine AOL.nil ?_
    refine thenN ?_
    refine AW.ret ?_
    refine thenR ?_
    refine ⟨.inr rfl, [.bool _], .cons (.tmp _ _ rfl) <| .nil, .refl _, ?_⟩
    rfl
  · skip
    have hcf : vars.length ≤ 8 ∧ checkS e = 0 := by
          simp only [Bool.or_eq_false_iff, decide_eq_false_iff_not, bne_eq_false_iff_eq] at hc1
          exact ⟨by omega, hc1.2⟩
    have hbd := check_parts hcf.2
    refine AW.skip ?_
    refine thenN ?_
    refine AW.seq ?_
    refine AW.region ?_
    refine AOL.p (P_fieldAddr_ptr (cs' := [_]) tok rfl rfl rfl rfl rfl rfl) rfl ?_
    refine AOL.p (P_load_ptr (c := .sl _ _) tok rfl rfl rfl) rfl ?_
    refine AOL.p (P_len_sl (n := vars.length) tok rfl rfl rfl (by simp)) rfl ?_
    refine AOL.p (P_assign (v := .int .i64 _) rfl) rfl ?_
    refine AOL.nil ?_
    refine thenN ?_
    refine AW.seq ?_
    refine AW.seq ?_
    refine AW.region ?_
    refine AOL.p (P_move (v := .int .i64 _) rfl) rfl ?_
    refine AOL.p (P_eql rfl rfl) rfl ?_
    refine AOL.nil ?_
    refine thenN ?_
    refine AW.cond (b := _) rfl (fun hc2 => ?_) (fun hc2 => ?_)
    · skip
      refine AW.seq ?_
      refine AW.region ?_
      refine AOL.p (P_callf (by kernel_rfl) rfl rfl (c13)) rfl ?_
      refine AOL.p (P_assign (v := .bool _) rfl) rfl ?_
      refine AOL.nil ?_
      refine thenN ?_
      refine AW.ret ?_
      refine thenR ?_
      refine ⟨.inr rfl, [.bool _], .cons (.tmp _ _ rfl) <| .nil, .refl _, ?_⟩
      rfl
    · skip
      have hn0 : 0 < vars.length := Nat.pos_of_ne_zero fun h0 => by rw [h0] at hc2; exact absurd hc2 (by decide)
      refine AW.skip ?_
      refine thenN ?_
      refine AW.seq ?_
      refine AW.region ?_
      refine AOL.p (P_move (v := .int .i64 _) rfl) rfl ?_
      refine AOL.e (E_makeSlice (n := vars.length) tok rfl rfl rfl rfl rfl rfl rfl (by show 8 * vars.length ≤ _; omega) (by omega)) rfl ?_
      rintro _ _ ⟨b50, rfl, rfl⟩
      refine AOL.p (P_assign (v := .val _) rfl) rfl ?_
      refine AOL.ghost (GS.cells 0 rfl (cI_zero vars.length)) ?_
      refine AOL.nil ?_
      refine thenN ?_
      refine AW.seq ?_
      refine AW.region ?_
      refine AOL.p (P_move (v := .int .i64 _) rfl) rfl ?_
      refine AOL.e (E_makeSlice (n := vars.length) tok rfl rfl rfl rfl rfl rfl rfl (by show 24 * vars.length ≤ _; omega) (by omega)) rfl ?_
      rintro _ _ ⟨b52, rfl, rfl⟩
      refine AOL.p (P_build (l := [_]) tok rfl rfl rfl) rfl ?_
      refine AOL.e (E_alloc (l := [.sl 1 []]) (by kernel_rfl)) rfl ?_
      rintro _ _ ⟨b9, rfl, rfl⟩
      refine AOL.e (E_store (k := 0) (v := .agg _) (cs' := [_]) (H2 := _ :: _ :: _ :: _) tok rfl rfl rfl rfl rfl rfl rfl rfl rfl) rfl ?_
      rintro _ _ ⟨rfl, rfl⟩
      refine AOL.ghost (GS.freeze (t := 9) 0 rfl rfl) ?_
      refine AOL.ghost (GS.cells 0 rfl (cMv_zero vars.length)) ?_
      refine AOL.nil ?_
      refine thenN ?_
      refine AW.cut (fun (M : List (List Ev)) => (⟨[(3, .ptr (cE e)), (4, .ptr (cEnv vars)), (7, .int .i64 vars.length), (8, .sl 1 (cTo (toS vars.length by8))), (9, .ptr (cEnv M))], H, 172⟩ : St)) (fun (M : List (List Ev)) => RM vars by8 M vars.length) ?_ ?_
      · skip
        refine AW.seq ?_
        refine AW.region ?_
        refine AOL.p (P_assign (v := .int .i64 _) rfl) rfl ?_
        refine AOL.nil ?_
        refine thenN ?_
        refine AW.block ?_
        refine AW.loopS (fun (p : Nat × List Int × List (List Ev)) => (⟨[(2, .int .u8 (by8 : Int)), (3, .ptr (cE e)), (4, .ptr (cEnv vars)), (7, .int .i64 vars.length), (8, .val (.slice (some ⟨b50, 0, none⟩) vars.length vars.length)), (9, .ptr [.val (.slice (some ⟨b52, 0, none⟩) vars.length vars.length)]), (10, .int .i64 (p.1 : Int))], .box b52 60 (cMv p.2.2) :: .box b50 3 (cI p.2.1) :: H, 172⟩ : St)) (fun (p : Nat × List Int × List (List Ev)) => p.1 ≤ vars.length ∧ RL vars.length by8 p.2.1 p.1 ∧ RM vars by8 p.2.2 p.1) (fun (p : Nat × List Int × List (List Ev)) => vars.length - p.1) ((0, List.replicate vars.length 0, List.replicate vars.length [])) ?_ (GS.weaken ⟨rfl, rfl, rfl, rfl, rfl, rfl, rfl, trivial⟩ (.refl _)) ?_
        · exact ⟨Nat.zero_le _, ⟨by simp, fun v hv => absurd hv (Nat.not_lt_zero _)⟩, ⟨by simp, fun v hv => absurd hv (Nat.not_lt_zero _), fun l hl => by rw [List.eq_of_mem_replicate hl]; simp⟩⟩
        · rintro p hR
          refine AW.seq ?_
          refine AW.seq ?_
          refine AW.region ?_
          refine AOL.p (P_move (v := .int .i64 _) rfl) rfl ?_
          refine AOL.p (P_move (v := .int .i64 _) rfl) rfl ?_
          refine AOL.p (P_lss rfl rfl) rfl ?_
          refine AOL.nil ?_
          refine thenN ?_
          refine AW.cond (b := _) rfl (fun hc3 => ?_) (fun hc3 => ?_)
          · skip
            obtain ⟨l, hl⟩ := get_lt hc3
            have hll := hx l (List.mem_of_getElem? hl)
            have hlt := get_lt' hl
            have htv := tv_lt (n := vars.length) (b := by8) (v := p.1) hn0
            refine AW.skip ?_
            refine thenN ?_
            refine AW.seq ?_
            refine AW.block ?_
            refine AW.seq ?_
            refine AW.region ?_
            refine AOL.p (P_move (v := .val _) rfl) rfl ?_
            refine AOL.p (P_move (v := .int .i64 _) rfl) rfl ?_
            refine AOL.p (P_move (v := .int .i64 _) rfl) rfl ?_
            refine AOL.p (P_move (v := .int .u8 _) rfl) rfl ?_
            refine AOL.p (P_conv (m := (by8 : Int)) tok rfl rfl rfl rfl rfl (IntWalk.i64_in _ (by omega))) rfl ?_
            refine AOL.p (P_add rfl rfl rfl (by constructor <;> omega)) rfl ?_
            refine AOL.p (P_move (v := .int .i64 _) rfl) rfl ?_
            refine AOL.p (P_rem rfl rfl (by omega)) rfl ?_
            refine AOL.p (P_indexAddr_val tok rfl rfl rfl rfl rfl (by omega) (by simp; omega) (show 0 + ((p.1 : Int)).toNat * 1 = p.1 by omega)) rfl ?_
            refine AOL.e (E_store (k := 1) (v := .int .i64 _) (cs' := cI (p.2.1.set p.1 (tvS vars.length by8 p.1))) (H2 := _ :: _ :: _) tok rfl rfl rfl rfl rfl rfl (by simp only [cI, List.length_map, hR.2.1.1]; exact Nat.ble_eq_true_of_le (by show p.1 + 1 ≤ _; omega)) (setSeg_map (fun k : Int => AV.int .i64 k) (by rw [hR.2.1.1]; exact hlt)) rfl) rfl ?_
            rintro _ _ ⟨rfl, rfl⟩
            refine AOL.nil ?_
            refine thenN ?_
            refine AW.draw mixed (fun H' => _ ∈ H') (List.mem_of_getElem? (i := 1) rfl) (by kernel_rfl) ?_
            refine Canon.pure _ _ 0 _ _ rfl (by kernel_rfl) (by kernel_rfl) rfl (.run rfl (P_fieldAddr_ptr (cs' := [_]) tok rfl rfl rfl rfl rfl rfl)) ?_
            refine Canon.pure _ _ 1 _ _ rfl (by kernel_rfl) (by kernel_rfl) rfl (.run rfl (P_load_ptr (c := .val _) tok rfl rfl rfl)) ?_
            refine Canon.pure _ _ 2 _ _ rfl (by kernel_rfl) (by kernel_rfl) rfl (.run rfl (P_move (v := .val _) rfl)) ?_
            refine Canon.pure _ _ 3 _ _ rfl (by kernel_rfl) (by kernel_rfl) rfl (.run rfl (P_move (v := .int .i64 _) rfl)) ?_
            refine Canon.pure _ _ 4 _ _ rfl (by kernel_rfl) (by kernel_rfl) rfl (.run rfl (P_indexAddr_val tok rfl rfl rfl rfl rfl (by omega) (by simp; omega) (show 0 + ((p.1 : Int)).toNat * 1 = p.1 by omega))) ?_
            refine Canon.pure _ _ 5 _ _ rfl (by kernel_rfl) (by kernel_rfl) rfl (.run rfl (OpP.mem (fun k => P_load_box (k := k) (c := .int .i64 (tvS vars.length by8 p.1)) tok rfl rfl rfl (cI_get (by rw [List.getElem?_set, if_pos rfl, if_pos (by rw [hR.2.1.1]; exact hlt)]))) (fun _ h => h))) ?_
            refine Canon.pure _ _ 6 _ _ rfl (by kernel_rfl) (by kernel_rfl) rfl (.run rfl (P_fieldAddr_ptr (cs' := [_]) tok rfl rfl rfl rfl rfl rfl)) ?_
            refine Canon.pure _ _ 7 _ _ rfl (by kernel_rfl) (by kernel_rfl) rfl (.run rfl (P_load_ptr (c := .sl _ _) tok rfl rfl rfl)) ?_
            refine Canon.pure _ _ 8 _ _ rfl (by kernel_rfl) (by kernel_rfl) rfl (.run rfl (P_move (v := .int .i64 _) rfl)) ?_
            refine Canon.pure _ _ 9 _ _ rfl (by kernel_rfl) (by kernel_rfl) rfl (.run rfl (P_indexAddr (c := [_]) tok rfl rfl rfl rfl rfl rfl (by omega) (map_at hl))) ?_
            refine Canon.pure _ _ 10 _ _ rfl (by kernel_rfl) (by kernel_rfl) rfl (.run rfl (P_load_ptr (c := .sl _ _) tok rfl rfl rfl)) ?_
            refine Canon.pure _ _ 11 _ _ rfl (by kernel_rfl) (by kernel_rfl) rfl (.run rfl (P_indexAddr_val tok rfl rfl rfl rfl rfl (htv.1) (htv.2) (show 0 + (tvS vars.length by8 p.1).toNat * 1 = (tvS vars.length by8 p.1).toNat by omega))) ?_
            refine Canon.last _ _ 12 _ _ rfl (by kernel_rfl) rfl rfl (E_store (k := 0) (v := .sl _ _) (cs' := cMv (p.2.2.set (tvS vars.length by8 p.1).toNat l)) (H2 := _ :: _ :: _) tok rfl rfl rfl rfl rfl rfl (by simp only [cMv, List.length_map, hR.2.2.1]; exact Nat.ble_eq_true_of_le (by show (tvS vars.length by8 p.1).toNat + 1 ≤ _; omega)) (setSeg_map (fun l : List Ev => AV.sl 5 (l.map cEv)) (by rw [hR.2.2.1]; omega)) rfl) (by kernel_rfl) ?_
            rintro _ _ ⟨rfl, rfl⟩
            refine blkN ?_
            refine thenN ?_
            refine AW.region ?_
            refine AOL.p (P_move (v := .int .i64 _) rfl) rfl ?_
            refine AOL.p (P_add rfl rfl rfl (by constructor <;> omega)) rfl ?_
            refine AOL.p (P_assign (v := .int .i64 _) rfl) rfl ?_
            refine AOL.nil ?_
            refine thenN ?_
            refine ⟨(p.1 + 1, p.2.1.set p.1 (tvS vars.length by8 p.1), p.2.2.set (tvS vars.length by8 p.1).toNat l), ?_, ?_, GS.weaken ⟨rfl, rfl, rfl, rfl, rfl, rfl, rfl, trivial⟩ (.refl _)⟩
            · exact ⟨hlt, RL_next hR.2.1 hlt, RM_next hR.2.2 hl hll⟩
            · first | omega | (simp only; omega)
          · skip
            obtain ⟨k, L, M⟩ := p
            simp only at hR hc3
            have hkn : k = vars.length := by simp at hc3; omega
            subst hkn
            obtain rfl := RL_end hR.2.1
            refine AW.exit ?_
            refine thenE ?_
            refine thenE ?_
            refine blkHit ?_
            refine thenN ?_
            refine ⟨M, ?_, GS.trans (GS.freezeSl (t := 8) (z := 1) (es := cTo (toS vars.length by8)) 1 rfl rfl (cI_flat _) (by simp [cTo, to_len]) (Nat.le_refl _) (by omega) (by intro q hq; obtain ⟨_, _, rfl⟩ := List.mem_map.1 hq; rfl) slot_is) (GS.trans (GS.freezeSl (t := 9) (z := 1) (es := M.map cEvs) 0 rfl rfl (cMv_flat _) (by rw [List.length_map, hR.2.2.1]) (Nat.le_refl _) (by omega) (by intro q hq; obtain ⟨_, _, rfl⟩ := List.mem_map.1 hq; rfl) ptr_slot) (GS.weaken ⟨rfl, rfl, rfl, rfl, rfl, trivial⟩ (.refl _)))⟩
            exact hR.2.2
      · rintro M hM
        have hMx := hM.2.2
        refine AW.seq ?_
        refine AW.region ?_
        refine AOL.p (P_load_ptr_agg (l := [.int .i64 _, _, .int .i64 _, .int .i64 _, .int .i64 _, .int .i64 _, .int .i64 _, .str _]) tok rfl rfl rfl rfl rfl) rfl ?_
        refine AOL.p (P_move (v := .sl _ _) rfl) rfl ?_
        refine AOL.p (P_callf (by kernel_rfl) rfl rfl (c28 (toS vars.length by8) (by rw [to_len]; exact hv) e hs)) rfl ?_
        refine AOL.p (P_move (v := .tuple _) rfl) rfl ?_
        refine AOL.p (P_extract (v := .agg [.int .i64 _, _, .int .i64 _, .int .i64 _, .int .i64 _, .int .i64 _, .int .i64 _, .str _]) rfl rfl) rfl ?_
        refine AOL.p (P_extract (v := .int .i64 _) rfl rfl) rfl ?_
        refine AOL.e (E_alloc (l := [.int .i64 0, .sl 8 [], .int .i64 0, .int .i64 0, .int .i64 0, .int .i64 0, .int .i64 0, .str []]) (by kernel_rfl)) rfl ?_
        rintro _ _ ⟨b11, rfl, rfl⟩
        refine AOL.e (E_store (k := 0) (v := .agg _) (cs' := [.int .i64 _, _, .int .i64 _, .int .i64 _, .int .i64 _, .int .i64 _, .int .i64 _, .str _]) (H2 := _ :: _) tok rfl rfl rfl rfl rfl rfl rfl rfl rfl) rfl ?_
        rintro _ _ ⟨rfl, rfl⟩
        refine AOL.p (P_assign (v := .int .i64 _) rfl) rfl ?_
        refine AOL.ghost (GS.freeze (t := 11) 0 rfl rfl) ?_
        refine AOL.nil ?_
        refine thenN ?_
        refine AW.seq ?_
        refine AW.seq ?_
        refine AW.region ?_
        refine AOL.p (P_move (v := .int .i64 _) rfl) rfl ?_
        refine AOL.p (P_neq rfl rfl) rfl ?_
        refine AOL.nil ?_
        refine thenN ?_
        refine AW.cond (b := _) rfl (fun hc4 => ?_) (fun hc4 => ?_)
        · skip
          have hre : visitS (renErrS (toS vars.length by8)) e ≠ 0 := by intro h0; simp [RenameS, renS, hcf.2, h0] at hc4
          have hr6 := (ren_err (b := by8) hn0 hcf.1 e hbd.2.2).resolve_left hre
          refine AW.seq ?_
          refine AW.region ?_
          refine AOL.p (P_callf (by kernel_rfl) rfl rfl (c13)) rfl ?_
          refine AOL.p (P_move (v := .bool _) rfl) rfl ?_
          refine AOL.g (y := .int .i64 _) _ [] rfl (EntL.all trivial) (fun hG => P_move (v := .int .i64 _) rfl) rfl ?_
          refine AOL.g (y := .bool _) _ [(90, _)] rfl (EntL.all ⟨Ent.self _ _, trivial⟩) (fun hG => P_eql rfl rfl) rfl ?_
          refine AOL.p (P_pick_and rfl rfl rfl) rfl ?_
          refine AOL.p (P_assign (v := .bool _) rfl) rfl ?_
          refine AOL.nil ?_
          refine thenN ?_
          refine AW.ret ?_
          refine thenR ?_
          refine ⟨.inr rfl, [.bool _], .cons (.tmp _ _ rfl) <| .nil, .refl _, ?_⟩
          have : (RenameS e (toS vars.length by8)).2 = 6 := by unfold RenameS renS; rw [if_neg (by simp [hcf.2]), if_pos (by simpa using hre)]; exact hr6
          rw [this]; rfl
        · skip
          have hr0 : visitS (renErrS (toS vars.length by8)) e = 0 := by
                refine Decidable.byContradiction fun h0 => ?_
                have : (RenameS e (toS vars.length by8)).2 = visitS (renErrS (toS vars.length by8)) e := by unfold RenameS renS; rw [if_neg (by simp [hcf.2]), if_pos (by simpa using h0)]
                rw [this] at hc4; simp at hc4; exact h0 hc4
          have hren : RenameS e (toS vars.length by8) = ((rebS (renNodeS (toS vars.length by8)) e), 0) := by unfold RenameS renS; rw [if_neg (by simp [hcf.2]), if_neg (by simp [hr0])]
          have hval := moved_value hcf.2 hr0 hM.1 hM.2.1
          refine AW.skip ?_
          refine thenN ?_
          refine AW.seq ?_
          refine AW.region ?_
          refine AOL.p (P_load_ptr_agg (l := [.int .i64 _, _, .int .i64 _, .int .i64 _, .int .i64 _, .int .i64 _, .int .i64 _, .str _]) tok rfl rfl rfl rfl rfl) rfl ?_
          refine AOL.p (P_load_ptr_agg (l := [_]) tok rfl rfl rfl rfl rfl) rfl ?_
          refine AOL.p (P_build (l := [.int .i64 _, .int .i64 _, .int .i64 _, .int .i64 _, _]) tok rfl rfl rfl) rfl ?_
          refine AOL.p (P_callf (by kernel_rfl) rfl rfl (c14 vars (-1) ev0 hx e hs)) rfl ?_
          refine AOL.p (P_move (v := .tuple _) rfl) rfl ?_
          refine AOL.p (P_extract (v := .agg [.int .i64 _, .int .i64 _, .str _]) rfl rfl) rfl ?_
          refine AOL.p (P_extract (v := .int .i64 _) rfl rfl) rfl ?_
          refine AOL.e (E_alloc (l := [.int .i64 0, .int .i64 0, .str []]) (by kernel_rfl)) rfl ?_
          rintro _ _ ⟨b13, rfl, rfl⟩
          refine AOL.e (E_store (k := 0) (v := .agg _) (cs' := [.int .i64 _, .int .i64 _, .str _]) (H2 := _ :: _) tok rfl rfl rfl rfl rfl rfl rfl rfl rfl) rfl ?_
          rintro _ _ ⟨rfl, rfl⟩
          refine AOL.p (P_assign (v := .int .i64 _) rfl) rfl ?_
          refine AOL.ghost (GS.freeze (t := 13) 0 rfl rfl) ?_
          refine AOL.nil ?_
          refine thenN ?_
          refine AW.seq ?_
          refine AW.region ?_
          refine AOL.p (P_load_ptr_agg (l := [.int .i64 _, _, .int .i64 _, .int .i64 _, .int .i64 _, .int .i64 _, .int .i64 _, .str _]) tok rfl rfl rfl rfl rfl) rfl ?_
          refine AOL.p (P_load_ptr_agg (l := [_]) tok rfl rfl rfl rfl rfl) rfl ?_
          refine AOL.p (P_build (l := [.int .i64 _, .int .i64 _, .int .i64 _, .int .i64 _, _]) tok rfl rfl rfl) rfl ?_
          refine AOL.p (P_callf (by kernel_rfl) rfl rfl (c14 M (-1) ev0 hMx (RenameS e (toS vars.length by8)).1 (ren_size' e (toS vars.length by8) hs))) rfl ?_
          refine AOL.p (P_move (v := .tuple _) rfl) rfl ?_
          refine AOL.p (P_extract (v := .agg [.int .i64 _, .int .i64 _, .str _]) rfl rfl) rfl ?_
          refine AOL.p (P_extract (v := .int .i64 _) rfl rfl) rfl ?_
          refine AOL.e (E_alloc (l := [.int .i64 0, .int .i64 0, .str []]) (by kernel_rfl)) rfl ?_
          rintro _ _ ⟨b15, rfl, rfl⟩
          refine AOL.e (E_store (k := 0) (v := .agg _) (cs' := [.int .i64 _, .int .i64 _, .str _]) (H2 := _ :: _) tok rfl rfl rfl rfl rfl rfl rfl rfl rfl) rfl ?_
          rintro _ _ ⟨rfl, rfl⟩
          refine AOL.p (P_assign (v := .int .i64 _) rfl) rfl ?_
          refine AOL.ghost (GS.freeze (t := 15) 0 rfl rfl) ?_
          refine AOL.nil ?_
          refine thenN ?_
          refine AW.seq ?_
          refine AW.seq ?_
          refine AW.region ?_
          refine AOL.p (P_move (v := .int .i64 _) rfl) rfl ?_
          refine AOL.p (P_move (v := .int .i64 _) rfl) rfl ?_
          refine AOL.p (P_neq rfl rfl) rfl ?_
          refine AOL.p (P_move (v := .bool _) rfl) rfl ?_
          refine AOL.g (y := .agg _) _ [] rfl (EntL.all trivial) (fun hG => P_load_ptr_agg (l := [.int .i64 _, .int .i64 _, .str _]) tok rfl rfl rfl rfl rfl) rfl ?_
          refine AOL.g (y := .agg _) _ [] rfl (EntL.all trivial) (fun hG => P_load_ptr_agg (l := [.int .i64 _, .int .i64 _, .str _]) tok rfl rfl rfl rfl rfl) rfl ?_
          refine AOL.g (y := .bool _) _ [(111, _), (112, _)] rfl (EntL.all ⟨Ent.self _ _, Ent.self _ _, trivial⟩) (fun hG => P_neq_agg tok rfl rfl rfl rfl rfl) rfl ?_
          refine AOL.p (P_pick_or rfl rfl rfl) rfl ?_
          refine AOL.nil ?_
          refine thenN ?_
          refine AW.cond (b := _) rfl (fun hc5 => ?_) (fun hc5 => ?_)
          · skip
            exfalso; rw [hren] at hc5; simp only [hval] at hc5; simp at hc5
          · skip
            refine AW.skip ?_
            refine thenN ?_
            refine AW.seq ?_
            refine AW.region ?_
            refine AOL.p (P_load_ptr_agg (l := [.int .i64 _, _, .int .i64 _, .int .i64 _, .int .i64 _, .int .i64 _, .int .i64 _, .str _]) tok rfl rfl rfl rfl rfl) rfl ?_
            refine AOL.p (P_callf (by kernel_rfl) rfl rfl (c26 e hs)) rfl ?_
            refine AOL.p (P_assign (v := .sl _ _) rfl) rfl ?_
            refine AOL.nil ?_
            refine thenN ?_
            refine AW.seq ?_
            refine AW.region ?_
            refine AOL.p (P_move (v := .int .i64 _) rfl) rfl ?_
            refine AOL.e (E_makeSlice (n := vars.length) tok rfl rfl rfl rfl rfl rfl rfl (by show 24 * vars.length ≤ _; omega) (by omega)) rfl ?_
            rintro _ _ ⟨b118, rfl, rfl⟩
            refine AOL.p (P_build (l := [_]) tok rfl rfl rfl) rfl ?_
            refine AOL.e (E_alloc (l := [.sl 1 []]) (by kernel_rfl)) rfl ?_
            rintro _ _ ⟨b18, rfl, rfl⟩
            refine AOL.e (E_store (k := 0) (v := .agg _) (cs' := [_]) (H2 := _ :: _ :: _) tok rfl rfl rfl rfl rfl rfl rfl rfl rfl) rfl ?_
            rintro _ _ ⟨rfl, rfl⟩
            refine AOL.ghost (GS.freeze (t := 18) 0 rfl rfl) ?_
            refine AOL.ghost (GS.cells 0 rfl (cMv_zero vars.length)) ?_
            refine AOL.nil ?_
            refine thenN ?_
            refine AW.cut (fun (M2 : List (List Ev)) => (⟨[(3, .ptr (cE e)), (13, .ptr (cV (EvalS ⟨vars, -1, ev0⟩ e).1)), (14, .int .i64 (EvalS ⟨vars, -1, ev0⟩ e).2), (18, .ptr (cEnv M2))], H, 172⟩ : St)) (fun (M2 : List (List Ev)) => RU vars (varsS e) M2 (varsS e).length) ?_ ?_
            · skip
              refine AW.seq ?_
              refine AW.region ?_
              refine AOL.p (P_assign (v := .int .i64 _) rfl) rfl ?_
              refine AOL.nil ?_
              refine thenN ?_
              refine AW.block ?_
              refine AW.loopS (fun (p : Nat × List (List Ev)) => (⟨[(3, .ptr (cE e)), (4, .ptr (cEnv vars)), (7, .int .i64 vars.length), (13, .ptr (cV (EvalS ⟨vars, -1, ev0⟩ e).1)), (14, .int .i64 (EvalS ⟨vars, -1, ev0⟩ e).2), (17, .sl 1 (cTo (varsS e))), (18, .ptr [.val (.slice (some ⟨b118, 0, none⟩) vars.length vars.length)]), (19, .int .i64 (p.1 : Int))], .box b118 60 (cMv p.2) :: H, 172⟩ : St)) (fun (p : Nat × List (List Ev)) => p.1 ≤ (varsS e).length ∧ RU vars (varsS e) p.2 p.1) (fun (p : Nat × List (List Ev)) => (varsS e).length - p.1) ((0, List.replicate vars.length [])) ?_ (GS.weaken ⟨rfl, rfl, rfl, rfl, rfl, rfl, rfl, rfl, trivial⟩ (.refl _)) ?_
              · exact ⟨Nat.zero_le _, by simp, by simp, fun l hl => by rw [List.eq_of_mem_replicate hl]; simp⟩
              · rintro p hR
                refine AW.seq ?_
                refine AW.seq ?_
                refine AW.region ?_
                refine AOL.p (P_move (v := .int .i64 _) rfl) rfl ?_
                refine AOL.p (P_move (v := .sl _ _) rfl) rfl ?_
                refine AOL.p (P_len_sl (n := (varsS e).length) tok rfl rfl rfl (by simp [cTo])) rfl ?_
                refine AOL.p (P_lss rfl rfl) rfl ?_
                refine AOL.nil ?_
                refine thenN ?_
                refine AW.cond (b := _) rfl (fun hc6 => ?_) (fun hc6 => ?_)
                · skip
                  obtain ⟨a, ha⟩ := get_lt hc6
                  have hlt2 := get_lt' ha
                  have hau := vars_used (List.mem_of_getElem? ha)
                  have hal := used_lt e hr0 _ hau.2
                  rw [to_len] at hal
                  obtain ⟨l, hl⟩ : ∃ l, vars[a.toNat]? = some l := ⟨_, List.getElem?_eq_getElem (by omega)⟩
                  have hll := hx l (List.mem_of_getElem? hl)
                  have hln2 : (varsS e).length ≤ 16 := upto_len (usedS e) 16
                  refine AW.skip ?_
                  refine thenN ?_
                  refine AW.seq ?_
                  refine AW.block ?_
                  refine AW.seq ?_
                  refine AW.seq ?_
                  refine AW.region ?_
                  refine AOL.p (P_move (v := .sl _ _) rfl) rfl ?_
                  refine AOL.p (P_move (v := .int .i64 _) rfl) rfl ?_
                  refine AOL.p (P_indexAddr (c := [.int .i64 _]) tok rfl rfl rfl rfl rfl rfl (by omega) (map_at (f := fun k => [AV.int .i64 k]) ha)) rfl ?_
                  refine AOL.p (P_load_ptr (c := .int .i64 _) tok rfl rfl rfl) rfl ?_
                  refine AOL.p (P_lss rfl rfl) rfl ?_
                  refine AOL.p (P_move (v := .bool _) rfl) rfl ?_
                  refine AOL.g (y := .sl _ _) _ [] rfl (EntL.all trivial) (fun hG => P_move (v := .sl _ _) rfl) rfl ?_
                  refine AOL.g (y := .int .i64 _) _ [] rfl (EntL.all trivial) (fun hG => P_move (v := .int .i64 _) rfl) rfl ?_
                  refine AOL.g (y := .ptr _) _ [(132, _), (133, _)] rfl (EntL.all ⟨Ent.self _ _, Ent.self _ _, trivial⟩) (fun hG => P_indexAddr (c := [.int .i64 _]) tok rfl rfl rfl rfl rfl rfl (by omega) (map_at (f := fun k => [AV.int .i64 k]) ha)) rfl ?_
                  refine AOL.g (y := .int .i64 _) _ [(134, _)] rfl (EntL.all ⟨Ent.self _ _, trivial⟩) (fun hG => P_load_ptr (c := .int .i64 _) tok rfl rfl rfl) rfl ?_
                  refine AOL.g (y := .int .i64 _) _ [] rfl (EntL.all trivial) (fun hG => P_move (v := .int .i64 _) rfl) rfl ?_
                  refine AOL.g (y := .bool _) _ [(135, _), (136, _)] rfl (EntL.all ⟨Ent.self _ _, Ent.self _ _, trivial⟩) (fun hG => P_geq rfl rfl) rfl ?_
                  refine AOL.p (P_pick_or rfl rfl rfl) rfl ?_
                  refine AOL.nil ?_
                  refine thenN ?_
                  refine AW.cond (b := _) rfl (fun hc7 => ?_) (fun hc7 => ?_)
                  · skip
                    exfalso; simp at hc7; omega
                  · skip
                    refine AW.skip ?_
                    refine thenN ?_
                    refine AW.draw mixed (fun _ => True) trivial (by kernel_rfl) ?_
                    refine Canon.pure _ _ 0 _ _ rfl (by kernel_rfl) (by kernel_rfl) rfl (.run rfl (P_fieldAddr_ptr (cs' := [_]) tok rfl rfl rfl rfl rfl rfl)) ?_
                    refine Canon.pure _ _ 1 _ _ rfl (by kernel_rfl) (by kernel_rfl) rfl (.run rfl (P_load_ptr (c := .val _) tok rfl rfl rfl)) ?_
                    refine Canon.pure _ _ 2 _ _ rfl (by kernel_rfl) (by kernel_rfl) rfl (.run rfl (P_move (v := .sl _ _) rfl)) ?_
                    refine Canon.pure _ _ 3 _ _ rfl (by kernel_rfl) (by kernel_rfl) rfl (.run rfl (P_move (v := .int .i64 _) rfl)) ?_
                    refine Canon.pure _ _ 4 _ _ rfl (by kernel_rfl) (by kernel_rfl) rfl (.run rfl (P_indexAddr (c := [.int .i64 _]) tok rfl rfl rfl rfl rfl rfl (by omega) (map_at (f := fun k => [AV.int .i64 k]) ha))) ?_
                    refine Canon.pure _ _ 5 _ _ rfl (by kernel_rfl) (by kernel_rfl) rfl (.run rfl (P_load_ptr (c := .int .i64 _) tok rfl rfl rfl)) ?_
                    refine Canon.pure _ _ 6 _ _ rfl (by kernel_rfl) (by kernel_rfl) rfl (.run rfl (P_fieldAddr_ptr (cs' := [_]) tok rfl rfl rfl rfl rfl rfl)) ?_
                    refine Canon.pure _ _ 7 _ _ rfl (by kernel_rfl) (by kernel_rfl) rfl (.run rfl (P_load_ptr (c := .sl _ _) tok rfl rfl rfl)) ?_
                    refine Canon.pure _ _ 8 _ _ rfl (by kernel_rfl) (by kernel_rfl) rfl (.run rfl (P_move (v := .sl _ _) rfl)) ?_
                    refine Canon.pure _ _ 9 _ _ rfl (by kernel_rfl) (by kernel_rfl) rfl (.run rfl (P_move (v := .int .i64 _) rfl)) ?_
                    refine Canon.pure _ _ 10 _ _ rfl (by kernel_rfl) (by kernel_rfl) rfl (.run rfl (P_indexAddr (c := [.int .i64 _]) tok rfl rfl rfl rfl rfl rfl (by omega) (map_at (f := fun k => [AV.int .i64 k]) ha))) ?_
                    refine Canon.pure _ _ 11 _ _ rfl (by kernel_rfl) (by kernel_rfl) rfl (.run rfl (P_load_ptr (c := .int .i64 _) tok rfl rfl rfl)) ?_
                    refine Canon.pure _ _ 12 _ _ rfl (by kernel_rfl) (by kernel_rfl) rfl (.run rfl (P_indexAddr (c := [_]) tok rfl rfl rfl rfl rfl rfl (hau.1) (map_at hl))) ?_
                    refine Canon.pure _ _ 13 _ _ rfl (by kernel_rfl) (by kernel_rfl) rfl (.run rfl (P_load_ptr (c := .sl _ _) tok rfl rfl rfl)) ?_
                    refine Canon.pure _ _ 14 _ _ rfl (by kernel_rfl) (by kernel_rfl) rfl (.run rfl (P_indexAddr_val tok rfl rfl rfl rfl rfl (hau.1) (by omega) (show 0 + a.toNat * 1 = a.toNat by omega))) ?_
                    refine Canon.eff _ _ 15 _ _ rfl (by kernel_rfl) rfl rfl (E_store (k := 0) (v := .sl _ _) (cs' := cMv (p.2.set a.toNat l)) (H2 := _ :: _) tok rfl rfl rfl rfl rfl rfl (by simp only [cMv, List.length_map, hR.2.1]; exact Nat.ble_eq_true_of_le (by show a.toNat + 1 ≤ _; omega)) (setSeg_map (fun l : List Ev => AV.sl 5 (l.map cEv)) (by rw [hR.2.1]; omega)) rfl) (fun _ _ _ => trivial) ?_
                    rintro _ _ ⟨rfl, rfl⟩
                    refine Canon.done _ _ (by kernel_rfl) ?_
                    refine blkN ?_
                    refine thenN ?_
                    refine AW.region ?_
                    refine AOL.p (P_move (v := .int .i64 _) rfl) rfl ?_
                    refine AOL.p (P_add rfl rfl rfl (by constructor <;> omega)) rfl ?_
                    refine AOL.p (P_assign (v := .int .i64 _) rfl) rfl ?_
                    refine AOL.nil ?_
                    refine thenN ?_
                    refine ⟨(p.1 + 1, p.2.set a.toNat l), ?_, ?_, GS.weaken ⟨rfl, rfl, rfl, rfl, rfl, rfl, rfl, rfl, trivial⟩ (.refl _)⟩
                    · exact ⟨hlt2, RU_next hR.2 ha hl hll⟩
                    · first | omega | (simp only; omega)
                · skip
                  have hte := take_end hc6
                  have hM2 : RU vars (varsS e) p.2 (varsS e).length := ⟨hR.2.1, by rw [List.take_length]; intro u hu; exact hR.2.2.1 u (by rw [hte]; exact hu), hR.2.2.2⟩
                  refine AW.exit ?_
                  refine thenE ?_
                  refine thenE ?_
                  refine blkHit ?_
                  refine thenN ?_
                  refine ⟨p.2, ?_, GS.trans (GS.freezeSl (t := 18) (z := 1) (es := p.2.map cEvs) 0 rfl rfl (cMv_flat _) (by rw [List.length_map, hM2.1]) (Nat.le_refl _) (by omega) (by intro q hq; obtain ⟨_, _, rfl⟩ := List.mem_map.1 hq; rfl) ptr_slot) (GS.weaken ⟨rfl, rfl, rfl, rfl, trivial⟩ (.refl _))⟩
                  exact hM2
            · rintro M2 hM2
              have hM2x := hM2.2.2
              have hval2 := less_value hcf.2 hr0 hcf.1 hM2.1 (by have := hM2.2.1; rw [List.take_length] at this; exact this)
              refine AW.seq ?_
              refine AW.region ?_
              refine AOL.p (P_load_ptr_agg (l := [.int .i64 _, _, .int .i64 _, .int .i64 _, .int .i64 _, .int .i64 _, .int .i64 _, .str _]) tok rfl rfl rfl rfl rfl) rfl ?_
              refine AOL.p (P_load_ptr_agg (l := [_]) tok rfl rfl rfl rfl rfl) rfl ?_
              refine AOL.p (P_build (l := [.int .i64 _, .int .i64 _, .int .i64 _, .int .i64 _, _]) tok rfl rfl rfl) rfl ?_
              refine AOL.p (P_callf (by kernel_rfl) rfl rfl (c14 M2 (-1) ev0 hM2x e hs)) rfl ?_
              refine AOL.p (P_move (v := .tuple _) rfl) rfl ?_
              refine AOL.p (P_extract (v := .agg [.int .i64 _, .int .i64 _, .str _]) rfl rfl) rfl ?_
              refine AOL.p (P_extract (v := .int .i64 _) rfl rfl) rfl ?_
              refine AOL.e (E_alloc (l := [.int .i64 0, .int .i64 0, .str []]) (by kernel_rfl)) rfl ?_
              rintro _ _ ⟨b20, rfl, rfl⟩
              refine AOL.e (E_store (k := 0) (v := .agg _) (cs' := [.int .i64 _, .int .i64 _, .str _]) (H2 := _ :: _) tok rfl rfl rfl rfl rfl rfl rfl rfl rfl) rfl ?_
              rintro _ _ ⟨rfl, rfl⟩
              refine AOL.p (P_assign (v := .int .i64 _) rfl) rfl ?_
              refine AOL.ghost (GS.freeze (t := 20) 0 rfl rfl) ?_
              refine AOL.nil ?_
              refine thenN ?_
              refine AW.seq ?_
              refine AW.region ?_
              refine AOL.p (P_callf (by kernel_rfl) rfl rfl (c13)) rfl ?_
              refine AOL.p (P_move (v := .bool _) rfl) rfl ?_
              refine AOL.g (y := .agg _) _ [] rfl (EntL.all trivial) (fun hG => P_load_ptr_agg (l := [.int .i64 _, .int .i64 _, .str _]) tok rfl rfl rfl rfl rfl) rfl ?_
              refine AOL.g (y := .agg _) _ [] rfl (EntL.all trivial) (fun hG => P_load_ptr_agg (l := [.int .i64 _, .int .i64 _, .str _]) tok rfl rfl rfl rfl rfl) rfl ?_
              refine AOL.g (y := .bool _) _ [(163, _), (164, _)] rfl (EntL.all ⟨Ent.self _ _, Ent.self _ _, trivial⟩) (fun hG => P_eql_agg tok rfl rfl rfl rfl rfl) rfl ?_
              refine AOL.p (P_pick_and rfl rfl rfl) rfl ?_
              refine AOL.p (P_move (v := .bool _) rfl) rfl ?_
              refine AOL.g (y := .int .i64 _) _ [] rfl (EntL.all trivial) (fun hG => P_move (v := .int .i64 _) rfl) rfl ?_
              refine AOL.g (y := .int .i64 _) _ [] rfl (EntL.all trivial) (fun hG => P_move (v := .int .i64 _) rfl) rfl ?_
              refine AOL.g (y := .bool _) _ [(168, _), (169, _)] rfl (EntL.all ⟨Ent.self _ _, Ent.self _ _, trivial⟩) (fun hG => P_eql rfl rfl) rfl ?_
              refine AOL.p (P_pick_and rfl rfl rfl) rfl ?_
              refine AOL.p (P_assign (v := .bool _) rfl) rfl ?_
              refine AOL.nil ?_
              refine thenN ?_
              refine AW.ret ?_
              refine ⟨.inr rfl, [.bool _], .cons (.tmp _ _ rfl) <| .nil, .refl _, ?_⟩
              rw [hval2]; simp [resOf]

end Go.Proofs.Ytkkacfnkjiijkaa
