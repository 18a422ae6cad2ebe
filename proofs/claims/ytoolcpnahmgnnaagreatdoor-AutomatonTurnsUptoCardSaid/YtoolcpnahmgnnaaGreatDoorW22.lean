/-
  Walks of layer 23: the turned automaton. No condition.
-/
import Derived.Test.YtoolcpnahmgnnaaGreatDoorW21
import Derived.KernelRfl
namespace Go.Proofs.YtoolcpnahmgnnaaGreatDoor
open Go Go.Aw
set_option linter.unusedVariables false
set_option linter.unusedSimpArgs false

theorem agg_third {g : Gh} {w : World} {u : Value} {a b c d y : AV} (h : Rep g w u (.agg [a, b, c, d])) (k : ∀ v, Rep g w v c → Rep g w v y) : Rep g w u (.agg [a, b, y, d]) := by
  obtain ⟨vs, rfl, h1, h2⟩ := h.inv_agg
  refine .agg vs _ h1 fun i x hi => ?_
  match i, hi with
  | 0, hi => exact h2 0 x hi
  | 1, hi => exact h2 1 x hi
  | 2, hi => cases hi; exact k _ (h2 2 c rfl)
  | 3, hi => exact h2 3 x hi
def fT : Option (List Gu) → AV
  | none => .sl 11 []
  | some s => .sl 11 (s.map cGu)
def bT (l : List (Option (List Gu))) : List AV := l.map fT
def turnL (a : Au) (k : Nat) : List (Option (List Gu)) := (List.range a.states.length).map fun (j : Nat) => if tn a.states.length (j : Int) < (k : Int) then some (stS a (tn a.states.length (j : Int))) else none
theorem turnL_len (a : Au) (k : Nat) : (turnL a k).length = a.states.length := by unfold turnL; simp
theorem bT_len (l : List (Option (List Gu))) : (bT l).length = l.length := List.length_map ..
theorem bT_zero (n : Nat) : (List.replicate n [.sl 11 []]).flatten = bT (List.replicate n none) := by
  induction n with
  | zero => rfl
  | succ n ih => rw [List.replicate_succ, List.replicate_succ, List.flatten_cons, ih]; rfl
theorem tn_nn {n : Nat} {j : Nat} (h : j < n) : 0 ≤ tn n (j : Int) := (tn_in ⟨Int.natCast_nonneg _, by omega⟩).1
theorem turnL_zero (a : Au) : List.replicate a.states.length none = turnL a 0 := by
  unfold turnL
  apply List.ext_getElem (by simp)
  intro i h1 h2
  have := tn_nn (n := a.states.length) (j := i) (by simpa using h1)
  simp only [List.getElem_replicate, List.getElem_map, List.getElem_range]
  rw [if_neg (by omega)]
theorem turnL_all (a : Au) : bT (turnL a a.states.length) = ((turnS a).states.map cSt).flatten := by
  have h : ((turnS a).states.map cSt).flatten = (turnS a).states.map fun s => AV.sl 11 (s.map cGu) := by
    generalize (turnS a).states = l
    induction l with
    | nil => rfl
    | cons s r ih => rw [List.map_cons, List.flatten_cons, ih]; rfl
  rw [h]
  unfold bT turnL turnS
  rw [List.map_map, List.map_map]
  apply List.map_congr_left
  intro j hj
  have h1 := (tn_in (n := a.states.length) (i := (j : Int)) ⟨Int.natCast_nonneg _, by have := List.mem_range.1 hj; omega⟩).lt
  show fT (if _ then _ else _) = _
  rw [if_pos h1]
  rfl
theorem turnL_put (a : Au) {k : Nat} {s : List Gu} (hk : k < a.states.length) (hs : a.states[k]? = some s) : setSeg (bT (turnL a k)) (tn a.states.length (k : Int)).toNat [.sl 11 (s.map cGu)] = bT (turnL a (k + 1)) := by
  have hin := tn_in (n := a.states.length) (i := (k : Int)) ⟨Int.natCast_nonneg _, by omega⟩
  have h1 : setSeg (bT (turnL a k)) (tn a.states.length (k : Int)).toNat [fT (some s)] = bT ((turnL a k).set (tn a.states.length (k : Int)).toNat (some s)) := setSeg_map fT (by rw [turnL_len]; have := hin.1; have := hin.2; omega)
  refine h1.trans (congrArg bT ?_)
  unfold turnL
  apply List.ext_getElem (by simp)
  intro i h2 h3
  have hi : i < a.states.length := by simpa using h3
  rw [List.getElem_set]
  simp only [List.getElem_map, List.getElem_range]
  have hback := tn_tn (n := a.states.length) (i := (i : Int)) ⟨Int.natCast_nonneg _, by omega⟩
  by_cases e : (tn a.states.length (k : Int)).toNat = i
  · have e2 : tn a.states.length (i : Int) = (k : Int) := by
      have e3 : (i : Int) = tn a.states.length (k : Int) := by have := hin.1; omega
      rw [e3]; exact tn_tn ⟨Int.natCast_nonneg _, by omega⟩
    rw [if_pos e, e2, if_pos (by omega)]
    refine congrArg some ?_
    unfold stS
    rw [Int.toNat_natCast, List.getD_eq_getElem?_getD, hs]
    rfl
  · rw [if_neg e]
    have e2 : tn a.states.length (i : Int) ≠ (k : Int) := fun h => e (by rw [← h, hback, Int.toNat_natCast])
    by_cases h : tn a.states.length (i : Int) < (k : Int)
    · rw [if_pos h, if_pos (by omega)]
    · rw [if_neg h, if_neg (by omega)]
theorem chunk_take {n : Nat} {l : List Ed} {k i : Nat} {x : Ed} (h : l[k]? = some x) : chunk n (l.take (k + 1)) i = chunk n (l.take k) i ++ if tn n x.src == (i : Int) then [turnE n x] else [] := by
  unfold chunk
  rw [List.take_add_one, h, Option.toList_some, List.filter_append, List.map_append]
  refine congrArg _ ?_
  cases hc : tn n x.src == (i : Int) <;> simp [List.filter_cons, hc]
theorem chunk_len (n : Nat) (l : List Ed) (i : Nat) : (chunk n l i).length ≤ l.length := by unfold chunk; rw [List.length_map]; exact List.length_filter_le ..
theorem chunks_len (n : Nat) (l : List Ed) (hl : l.length ≤ 2048) : ∀ i, ((List.range i).flatMap (chunk n l)).length ≤ i * 2048
  | 0 => Nat.le_refl _
  | i + 1 => by
    have h1 := chunks_len n l hl i
    have h2 := chunk_len n l i
    rw [List.range_succ, List.flatMap_append, List.length_append, List.flatMap_cons, List.flatMap_nil, List.append_nil]
    omega
theorem chunks_succ (n : Nat) (l : List Ed) (i : Nat) : (List.range (i + 1)).flatMap (chunk n l) = (List.range i).flatMap (chunk n l) ++ chunk n l i := by
  rw [List.range_succ, List.flatMap_append, List.flatMap_cons, List.flatMap_nil, List.append_nil]
set_option maxRecDepth 20000 in
set_option maxHeartbeats 400000 in
theorem l_turned_1 (n : Nat) (hn : n ≤ 1048576) (i : Int) (hi : i ≤ n) : APure Tryz.prog 61 [.int .i64 i, .ptr [.int .i64 n]] (.int .i64 (tn n i)) := by
  refine APure.body (n := 10) tok Tryz.func61 rfl rfl rfl fun H => ?_
  refine AW.seq ?_
  refine AW.region ?_
  refine AOL.p (P_assign (v := .int .i64 _) rfl) rfl ?_
  refine AOL.nil ?_
  refine thenN ?_
  refine AW.seq ?_
  refine AW.seq ?_
  refine AW.region ?_
  refine AOL.p (P_move (v := .int .i64 _) rfl) rfl ?_
  refine AOL.p (P_leq rfl rfl) rfl ?_
  refine AOL.nil ?_
  refine thenN ?_
  refine AW.cond (b := _) rfl (fun hc1 => ?_) (fun hc1 => ?_)
  · skip
    have hc9 := hc1
    refine AW.seq ?_
    refine AW.region ?_
    refine AOL.p (P_move (v := .int .i64 _) rfl) rfl ?_
    refine AOL.p (P_assign (v := .int .i64 _) rfl) rfl ?_
    refine AOL.nil ?_
    refine thenN ?_
    refine AW.ret ?_
    refine thenR ?_
    refine ⟨.inr rfl, [.int .i64 _], .cons (.tmp _ _ rfl) <| .nil, .refl _, ?_⟩
    (simp_all [resOf, tn] <;> omega)
  · skip
    have hc9 := of_decide_eq_false hc1
    refine AW.skip ?_
    refine thenN ?_
    refine AW.seq ?_
    refine AW.region ?_
    refine AOL.p (P_load_ptr (c := .int .i64 _) tok rfl rfl rfl) rfl ?_
    refine AOL.p (P_move (v := .int .i64 _) rfl) rfl ?_
    refine AOL.p (P_sub rfl rfl rfl (by constructor <;> omega)) rfl ?_
    refine AOL.p (P_assign (v := .int .i64 _) rfl) rfl ?_
    refine AOL.nil ?_
    refine thenN ?_
    refine AW.ret ?_
    refine ⟨.inr rfl, [.int .i64 _], .cons (.tmp _ _ rfl) <| .nil, .refl _, ?_⟩
    (simp_all [resOf, tn] <;> omega)
theorem in_le {n : Nat} {d : Int} (h : 0 ≤ d → InR n d) : d ≤ (n : Int) := by
  by_cases h0 : 0 ≤ d
  · have := (h h0).lt; omega
  · omega
theorem turn_x {n : Nat} {x : Ed} {i : Nat} (h : (tn n x.src == (i : Int)) = true) : turnE n x = ({ x with src := (i : Int), dst := tn n x.dst } : Ed) := by
  unfold turnE; rw [eq_of_beq h]
set_option maxRecDepth 20000 in
set_option maxHeartbeats 6400000 in
theorem l_turned (a : Au) (hs : Sm a) (hw : Wf a) : APure Tryz.prog 21 [.agg (cAu a)] (.agg (cAu (turnS a))) := by
  have hmx : 1048576 ≤ maxLen := by decide
  have hE := hw.edr
  have hsn := hw.most
  have hsm := hw.many
  have hpos := hw.pos
  refine APure.body (n := 71) tok Tryz.func21 rfl rfl rfl fun H => ?_
  refine AW.seq ?_
  refine AW.region ?_
  refine AOL.p (P_box (v := .agg _) (cs := [.int .i64 _, .int .i64 _, _, _]) rfl rfl rfl) rfl ?_
  refine AOL.e (E_alloc (l := [.int .i64 0, .int .i64 0, .sl 1 [], .sl 17 []]) (by kernel_rfl)) rfl ?_
  rintro _ _ ⟨b2, rfl, rfl⟩
  refine AOL.nil ?_
  refine thenN ?_
  refine AW.seq ?_
  refine AW.region ?_
  refine AOL.p (P_fieldAddr_ptr (cs' := [_, _]) tok rfl rfl rfl rfl rfl rfl) rfl ?_
  refine AOL.p (P_load_ptr (c := .sl _ _) tok rfl rfl rfl) rfl ?_
  refine AOL.p (P_len_sl (n := a.states.length) tok rfl rfl rfl (by simp)) rfl ?_
  refine AOL.e (E_alloc (l := [.int .i64 0]) (by kernel_rfl)) rfl ?_
  rintro _ _ ⟨b3, rfl, rfl⟩
  refine AOL.e (E_store (k := 0) (v := .int .i64 _) (cs' := [.int .i64 _]) (H2 := _ :: _ :: _) tok rfl rfl rfl rfl rfl rfl rfl rfl rfl) rfl ?_
  rintro _ _ ⟨rfl, rfl⟩
  refine AOL.ghost (GS.freeze (t := 3) 0 rfl rfl) ?_
  refine AOL.nil ?_
  refine thenN ?_
  refine AW.seq ?_
  refine AW.region ?_
  refine AOL.p (P_makeFunc (l := []) (l' := [.ptr _]) rfl rfl) rfl ?_
  refine AOL.p (P_assign (v := .fn _ _ _) rfl) rfl ?_
  refine AOL.nil ?_
  refine thenN ?_
  refine AW.cut (fun (u : Nat × Nat) => (⟨[(1, .ptr (cAu a)), (2, .val (.pointer (some ⟨b2, 0, none⟩))), (3, .ptr [.int .i64 a.states.length]), (4, .fn (.func 61) [] [.ptr [.int .i64 a.states.length]]), (5, .val (.pointer (some ⟨u.1, 0, none⟩)))], .row (.slice none 0 0) 0 66 17 :: .box u.1 25 [.int .i64 a.vars, .int .i64 a.scopes, .val (.slice (some ⟨u.2, 0, none⟩) a.states.length a.states.length), .row (.slice none 0 0) 17 []] :: .box u.2 70 (bT (turnL a 0)) :: .box b2 25 [.int .i64 0, .int .i64 0, .sl 1 [], .sl 17 []] :: H, 71⟩ : St)) (fun (u : Nat × Nat) => True) ?_ ?_
  · skip
    refine AW.draw mixed (fun _ => True) trivial (by kernel_rfl) ?_
    refine Canon.pure _ _ 0 _ _ rfl (by kernel_rfl) (by kernel_rfl) rfl (.run rfl (P_fieldAddr_ptr (cs' := [.int .i64 _, .int .i64 _, _, _]) tok rfl rfl rfl rfl rfl rfl)) ?_
    refine Canon.pure _ _ 1 _ _ rfl (by kernel_rfl) (by kernel_rfl) rfl (.run rfl (P_load_ptr (c := .int .i64 _) tok rfl rfl rfl)) ?_
    refine Canon.pure _ _ 2 _ _ rfl (by kernel_rfl) (by kernel_rfl) rfl (.run rfl (P_fieldAddr_ptr (cs' := [.int .i64 _, _, _]) tok rfl rfl rfl rfl rfl rfl)) ?_
    refine Canon.pure _ _ 3 _ _ rfl (by kernel_rfl) (by kernel_rfl) rfl (.run rfl (P_load_ptr (c := .int .i64 _) tok rfl rfl rfl)) ?_
    refine Canon.pure _ _ 4 _ _ rfl (by kernel_rfl) (by kernel_rfl) rfl (.run rfl (P_load_ptr (c := .int .i64 _) tok rfl rfl rfl)) ?_
    refine Canon.two _ _ 5 7 _ _ _ _ rfl rfl (by kernel_rfl) rfl rfl rfl rfl (E_makeSlice (n := a.states.length) tok rfl rfl rfl rfl rfl rfl rfl (by show 24 * a.states.length ≤ _; omega) (by omega)) (E_alloc (l := [.int .i64 0, .int .i64 0, .sl 1 [], .sl 17 []]) (by kernel_rfl)) (by rintro _ _ ⟨b20, rfl, rfl⟩; trivial) (by rintro _ _ ⟨b5, rfl, rfl⟩; trivial) ?_ ?_
    · rintro _ _ ⟨b20, rfl, rfl⟩
      refine Canon.pure _ _ 6 _ _ rfl (by kernel_rfl) (by kernel_rfl) rfl (.run rfl (P_buildZ (l0 := [.int .i64 0, .int .i64 0, .val (.slice none 0 0), .val (.slice none 0 0)]) (l := [.int .i64 _, .int .i64 _, .val _, _]) tok rfl rfl (by kernel_rfl) rfl)) ?_
      refine Canon.eff _ _ 7 _ _ rfl (by kernel_rfl) rfl rfl (E_alloc (l := [.int .i64 0, .int .i64 0, .sl 1 [], .sl 17 []]) (by kernel_rfl)) (fun _ _ _ => trivial) ?_
      rintro _ _ ⟨b5, rfl, rfl⟩
      refine Canon.eff _ _ 8 _ _ rfl (by kernel_rfl) rfl rfl (E_store (k := 0) (v := .agg _) (cs' := [.int .i64 _, .int .i64 _, _, _]) (H2 := _ :: _ :: _ :: _) tok rfl rfl rfl rfl rfl rfl rfl rfl rfl) (fun _ _ _ => trivial) ?_
      rintro _ _ ⟨rfl, rfl⟩
      refine Canon.done _ _ (by kernel_rfl) ?_
      refine thenN ?_
      refine ⟨(b5, b20), ?_, GS.trans (GS.cellRow 0 3 66 17 rfl rfl rfl rfl) (GS.trans (GS.cells 2 rfl ((bT_zero a.states.length).trans (congrArg bT (turnL_zero a)))) (GS.trans (GS.refl _) (GS.weaken ⟨rfl, rfl, rfl, rfl, rfl, trivial⟩ (.refl _))))⟩
      trivial
    · rintro _ _ ⟨b5, rfl, rfl⟩
      refine Canon.eff _ _ 5 _ _ rfl (by kernel_rfl) rfl rfl (E_makeSlice (n := a.states.length) tok rfl rfl rfl rfl rfl rfl rfl (by show 24 * a.states.length ≤ _; omega) (by omega)) (fun _ _ _ => trivial) ?_
      rintro _ _ ⟨b20, rfl, rfl⟩
      refine Canon.pure _ _ 6 _ _ rfl (by kernel_rfl) (by kernel_rfl) rfl (.run rfl (P_buildZ (l0 := [.int .i64 0, .int .i64 0, .val (.slice none 0 0), .val (.slice none 0 0)]) (l := [.int .i64 _, .int .i64 _, .val _, _]) tok rfl rfl (by kernel_rfl) rfl)) ?_
      refine Canon.eff _ _ 8 _ _ rfl (by kernel_rfl) rfl rfl (E_store (k := 1) (v := .agg _) (cs' := [.int .i64 _, .int .i64 _, _, _]) (H2 := _ :: _ :: _ :: _) tok rfl rfl rfl rfl rfl rfl rfl rfl rfl) (fun _ _ _ => trivial) ?_
      rintro _ _ ⟨rfl, rfl⟩
      refine Canon.done _ _ (by kernel_rfl) ?_
      refine thenN ?_
      refine ⟨(b5, b20), ?_, GS.trans (GS.cellRow 1 3 66 17 rfl rfl rfl rfl) (GS.trans (GS.cells 1 rfl ((bT_zero a.states.length).trans (congrArg bT (turnL_zero a)))) (GS.trans (GS.perm (.cons _ (List.Perm.swap _ _ _))) (GS.weaken ⟨rfl, rfl, rfl, rfl, rfl, trivial⟩ (.refl _))))⟩
      trivial
  · rintro ⟨b5, b20⟩ _
    refine AW.seq ?_
    refine AW.seq ?_
    refine AW.region ?_
    refine AOL.p (P_fieldAddr_ptr (cs' := [_, _]) tok rfl rfl rfl rfl rfl rfl) rfl ?_
    refine AOL.p (P_load_ptr (c := .sl _ _) tok rfl rfl rfl) rfl ?_
    refine AOL.p (P_len_sl (n := a.states.length) tok rfl rfl rfl (by simp)) rfl ?_
    refine AOL.p (P_move (v := .int .i64 _) rfl) rfl ?_
    refine AOL.nil ?_
    refine thenN ?_
    refine AW.block ?_
    refine AW.loopS (fun (k : Nat) => (⟨[(1, .ptr (cAu a)), (2, .val (.pointer (some ⟨b2, 0, none⟩))), (3, .ptr [.int .i64 a.states.length]), (4, .fn (.func 61) [] [.ptr [.int .i64 a.states.length]]), (5, .val (.pointer (some ⟨b5, 0, none⟩))), (23, .sl 1 (a.states.map cSt)), (24, .int .i64 a.states.length), (25, .int .i64 (k : Int))], .row (.slice none 0 0) 0 66 17 :: .box b5 25 [.int .i64 a.vars, .int .i64 a.scopes, .val (.slice (some ⟨b20, 0, none⟩) a.states.length a.states.length), .row (.slice none 0 0) 17 []] :: .box b20 70 (bT (turnL a k)) :: .box b2 25 [.int .i64 0, .int .i64 0, .sl 1 [], .sl 17 []] :: H, 71⟩ : St)) (fun (k : Nat) => k ≤ a.states.length) (fun (k : Nat) => a.states.length - k) (0) ?_ (GS.weaken ⟨rfl, rfl, rfl, rfl, rfl, rfl, rfl, rfl, trivial⟩ (.refl _)) ?_
    · exact Nat.zero_le _
    · rintro k hR
      refine AW.seq ?_
      refine AW.region ?_
      refine AOL.p (P_lss rfl rfl) rfl ?_
      refine AOL.nil ?_
      refine thenN ?_
      refine AW.seq ?_
      refine AW.cond (b := _) rfl (fun hc1 => ?_) (fun hc1 => ?_)
      · skip
        obtain ⟨s, hs⟩ := get_lt2 (l := a.states) (k := k) (by have := of_decide_eq_true hc1; omega)
        have hlts := get_lt' hs
        have hms := List.mem_of_getElem? hs
        have htk := tn_in (n := a.states.length) (i := (k : Int)) ⟨Int.natCast_nonneg _, by omega⟩
        refine AW.skip ?_
        refine thenN ?_
        refine AW.seq ?_
        refine AW.block ?_
        refine AW.seq ?_
        refine AW.region ?_
        refine AOL.p (P_move (v := .int .i64 _) rfl) rfl ?_
        refine AOL.p (P_indexAddr (c := [_]) tok rfl rfl rfl rfl rfl rfl (by omega) (cSt_at hs)) rfl ?_
        refine AOL.p (P_load_ptr_agg (l := [_]) tok rfl rfl rfl rfl rfl) rfl ?_
        refine AOL.e (E_alloc (l := [.sl 11 []]) (by kernel_rfl)) rfl ?_
        rintro _ _ ⟨b7, rfl, rfl⟩
        refine AOL.p (P_assign (v := .int .i64 _) rfl) rfl ?_
        refine AOL.e (E_store (k := 0) (v := .agg _) (cs' := [_]) (H2 := _ :: _ :: _ :: _ :: _ :: _) tok rfl rfl rfl rfl rfl rfl rfl rfl rfl) rfl ?_
        rintro _ _ ⟨rfl, rfl⟩
        refine AOL.ghost (GS.freeze (t := 7) 0 rfl rfl) ?_
        refine AOL.nil ?_
        refine thenN ?_
        refine AW.draw mixed (fun H' => _ ∈ H') (List.mem_of_getElem? (i := 1) rfl) (by kernel_rfl) ?_
        refine Canon.pure _ _ 0 _ _ rfl (by kernel_rfl) (by kernel_rfl) rfl (.run rfl (P_fieldAddr_val tok rfl rfl rfl rfl rfl rfl)) ?_
        refine Canon.pure _ _ 1 _ _ rfl (by kernel_rfl) (by kernel_rfl) rfl (.run rfl (OpP.mem (fun k => P_load_box (k := k) (c := .val _) tok rfl rfl rfl rfl) (fun _ h => h))) ?_
        refine Canon.pure _ _ 2 _ _ rfl (by kernel_rfl) (by kernel_rfl) rfl (.run rfl (P_move (v := .fn _ _ _) rfl)) ?_
        refine Canon.pure _ _ 3 _ _ rfl (by kernel_rfl) (by kernel_rfl) rfl (.run rfl (P_move (v := .int .i64 _) rfl)) ?_
        refine Canon.pure _ _ 4 _ _ rfl (by kernel_rfl) (by kernel_rfl) rfl (.run rfl (P_call (by kernel_rfl) rfl rfl rfl (l_turned_1 a.states.length (by omega) (k : Int) (by omega)))) ?_
        refine Canon.pure _ _ 5 _ _ rfl (by kernel_rfl) (by kernel_rfl) rfl (.run rfl (P_load_ptr_agg (l := [_]) tok rfl rfl rfl rfl rfl)) ?_
        refine Canon.pure _ _ 6 _ _ rfl (by kernel_rfl) (by kernel_rfl) rfl (.run rfl (P_indexAddr_val tok rfl rfl rfl rfl rfl (htk.1) (htk.lt) (off1 _))) ?_
        refine Canon.last _ _ 7 _ _ rfl (by kernel_rfl) rfl rfl (E_store (k := 2) (v := .agg _) (cs' := bT (turnL a (k + 1))) (H2 := _ :: _ :: _ :: _ :: _) tok rfl rfl rfl rfl rfl rfl (by rw [bT_len, turnL_len]; exact Nat.ble_eq_true_of_le (by show (tn a.states.length (k : Int)).toNat + 1 ≤ _; exact htk.2)) (turnL_put a hlts hs) rfl) (by kernel_rfl) ?_
        rintro _ _ ⟨rfl, rfl⟩
        refine blkN ?_
        refine thenN ?_
        refine AW.region ?_
        refine AOL.p (P_add rfl rfl rfl (by constructor <;> omega)) rfl ?_
        refine AOL.p (P_move (v := .int .i64 _) rfl) rfl ?_
        refine AOL.nil ?_
        refine thenN ?_
        refine ⟨k + 1, ?_, ?_, GS.weaken ⟨rfl, rfl, rfl, rfl, rfl, rfl, rfl, rfl, trivial⟩ (.refl _)⟩
        · omega
        · omega
      · skip
        have hkn : k = a.states.length := by have := of_decide_eq_false hc1; omega
        refine AW.ghost (GS.cellsTo (H2 := _ :: _ :: _ :: _ :: _) 2 rfl (congrArg (fun k => bT (turnL a k)) hkn) rfl) ?_
        refine AW.exit ?_
        refine thenE ?_
        refine thenE ?_
        refine blkHit ?_
        refine thenN ?_
        refine AW.seq ?_
        refine AW.seq ?_
        refine AW.region ?_
        refine AOL.p (P_load_ptr (c := .int .i64 _) tok rfl rfl rfl) rfl ?_
        refine AOL.p (P_move (v := .int .i64 _) rfl) rfl ?_
        refine AOL.nil ?_
        refine thenN ?_
        refine AW.block ?_
        refine AW.loopS (fun (p : Nat × List (List AV) × Value) => (⟨[(1, .ptr (cAu a)), (2, .val (.pointer (some ⟨b2, 0, none⟩))), (4, .fn (.func 61) [] [.ptr [.int .i64 a.states.length]]), (5, .val (.pointer (some ⟨b5, 0, none⟩))), (38, .int .i64 a.states.length), (39, .int .i64 (p.1 : Int))], .row p.2.2 p.2.1.length 66 17 :: .box b5 25 [.int .i64 a.vars, .int .i64 a.scopes, .val (.slice (some ⟨b20, 0, none⟩) a.states.length a.states.length), .row p.2.2 17 p.2.1] :: .box b20 70 (bT (turnL a a.states.length)) :: .box b2 25 [.int .i64 0, .int .i64 0, .sl 1 [], .sl 17 []] :: H, 71⟩ : St)) (fun (p : Nat × List (List AV) × Value) => p.1 ≤ a.states.length ∧ p.2.1 = ((List.range p.1).flatMap (chunk a.states.length a.edges)).map cEd) (fun (p : Nat × List (List AV) × Value) => a.states.length - p.1) ((0, [], .slice none 0 0)) ?_ (GS.weaken ⟨rfl, rfl, rfl, rfl, rfl, rfl, trivial⟩ (.refl _)) ?_
        · exact ⟨Nat.zero_le _, rfl⟩
        · rintro p hR2
          refine AW.seq ?_
          refine AW.region ?_
          refine AOL.p (P_lss rfl rfl) rfl ?_
          refine AOL.nil ?_
          refine thenN ?_
          refine AW.seq ?_
          refine AW.cond (b := _) rfl (fun hc2 => ?_) (fun hc2 => ?_)
          · skip
            have hltp : p.1 < a.states.length := by have := of_decide_eq_true hc2; omega
            refine AW.skip ?_
            refine thenN ?_
            refine AW.seq ?_
            refine AW.block ?_
            refine AW.seq ?_
            refine AW.region ?_
            refine AOL.p (P_move (v := .int .i64 _) rfl) rfl ?_
            refine AOL.p (P_assign (v := .int .i64 _) rfl) rfl ?_
            refine AOL.nil ?_
            refine thenN ?_
            refine AW.seq ?_
            refine AW.region ?_
            refine AOL.p (P_fieldAddr_ptr (cs' := [_]) tok rfl rfl rfl rfl rfl rfl) rfl ?_
            refine AOL.p (P_load_ptr (c := .sl _ _) tok rfl rfl rfl) rfl ?_
            refine AOL.p (P_len_sl (n := a.edges.length) tok rfl rfl rfl (by simp)) rfl ?_
            refine AOL.p (P_move (v := .int .i64 _) rfl) rfl ?_
            refine AOL.nil ?_
            refine thenN ?_
            refine AW.block ?_
            refine AW.loopS (fun (q : Nat × List (List AV) × Value) => (⟨[(2, .val (.pointer (some ⟨b2, 0, none⟩))), (4, .fn (.func 61) [] [.ptr [.int .i64 a.states.length]]), (5, .val (.pointer (some ⟨b5, 0, none⟩))), (8, .int .i64 (p.1 : Int)), (1, .ptr (cAu a)), (38, .int .i64 a.states.length), (39, .int .i64 (p.1 : Int)), (43, .sl 17 (a.edges.map cEd)), (44, .int .i64 a.edges.length), (45, .int .i64 (q.1 : Int))], .row q.2.2 q.2.1.length 66 17 :: .box b5 25 [.int .i64 a.vars, .int .i64 a.scopes, .val (.slice (some ⟨b20, 0, none⟩) a.states.length a.states.length), .row q.2.2 17 q.2.1] :: .box b20 70 (bT (turnL a a.states.length)) :: .box b2 25 [.int .i64 0, .int .i64 0, .sl 1 [], .sl 17 []] :: H, 71⟩ : St)) (fun (q : Nat × List (List AV) × Value) => q.1 ≤ a.edges.length ∧ q.2.1 = ((List.range p.1).flatMap (chunk a.states.length a.edges) ++ chunk a.states.length (a.edges.take q.1) p.1).map cEd) (fun (q : Nat × List (List AV) × Value) => a.edges.length - q.1) ((0, p.2.1, p.2.2)) ?_ (GS.weaken ⟨rfl, rfl, rfl, rfl, rfl, rfl, rfl, rfl, rfl, rfl, trivial⟩ (.refl _)) ?_
            · exact ⟨Nat.zero_le _, by simp only; rw [hR2.2]; simp [chunk]⟩
            · rintro q hR3
              have hsc : ∀ c ∈ q.2.1, scalars c = true := by rw [hR3.2]; exact sc_map fun _ => rfl
              have hel : q.2.1.length ≤ p.1 * 2048 + 2048 := by rw [hR3.2, List.length_map, List.length_append]; have h7 := chunks_len a.states.length a.edges hw.many p.1; have h8 := chunk_len a.states.length (a.edges.take q.1) p.1; have h9 := hw.many; rw [List.length_take] at h8; omega
              refine AW.seq ?_
              refine AW.region ?_
              refine AOL.p (P_lss rfl rfl) rfl ?_
              refine AOL.nil ?_
              refine thenN ?_
              refine AW.seq ?_
              refine AW.cond (b := _) rfl (fun hc3 => ?_) (fun hc3 => ?_)
              · skip
                obtain ⟨x, hx⟩ := get_lt2 (l := a.edges) (k := q.1) (by have := of_decide_eq_true hc3; omega)
                have hltx := get_lt' hx
                have hmx := List.mem_of_getElem? hx
                have hx2 := hE x hmx
                have hxs := hx2.1
                have hxd := hx2.2
                refine AW.skip ?_
                refine thenN ?_
                refine AW.seq ?_
                refine AW.block ?_
                refine AW.seq ?_
                refine AW.region ?_
                refine AOL.p (P_indexAddr (c := [.int .i64 _, .int .i64 _, .int .i64 _, .int .i64 _, .int .i64 _, _, .int .i64 _, .int .i64 _, .int .i64 _, .int .i64 _, .int .i64 _, .str _, _, _, _, _, _]) tok rfl rfl rfl rfl rfl rfl (by omega) (cEd_at hx)) rfl ?_
                refine AOL.p (P_load_ptr_agg (l := [.int .i64 _, .int .i64 _, .int .i64 _, .int .i64 _, .int .i64 _, _, .int .i64 _, .int .i64 _, .int .i64 _, .int .i64 _, .int .i64 _, .str _, _, _, _, _, _]) tok rfl rfl rfl rfl rfl) rfl ?_
                refine AOL.e (E_alloc (l := [.int .i64 0, .int .i64 0, .int .i64 0, .int .i64 0, .int .i64 0, .sl 8 [], .int .i64 0, .int .i64 0, .int .i64 0, .int .i64 0, .int .i64 0, .str [], .sl 1 [], .sl 1 [], .sl 8 [], .sl 2 [], .sl 1 []]) (by kernel_rfl)) rfl ?_
                rintro _ _ ⟨b10, rfl, rfl⟩
                refine AOL.e (E_store (k := 0) (v := .agg _) (cs' := [.int .i64 _, .int .i64 _, .int .i64 _, .int .i64 _, .int .i64 _, _, .int .i64 _, .int .i64 _, .int .i64 _, .int .i64 _, .int .i64 _, .str _, _, _, _, _, _]) (H2 := _ :: _ :: _ :: _ :: _ :: _) tok rfl rfl rfl rfl rfl rfl rfl rfl rfl) rfl ?_
                rintro _ _ ⟨rfl, rfl⟩
                refine AOL.nil ?_
                refine thenN ?_
                refine AW.seq ?_
                refine AW.region ?_
                refine AOL.p (P_move (v := .fn _ _ _) rfl) rfl ?_
                refine AOL.p (P_fieldAddr_val tok rfl rfl rfl rfl rfl rfl) rfl ?_
                refine AOL.pk (P_load_box (k := 0) (c := .int .i64 _) tok rfl rfl rfl rfl) rfl rfl ?_
                refine AOL.p (P_call (by kernel_rfl) rfl rfl rfl (l_turned_1 a.states.length (by omega) x.src (by have := hxs.2; have := hxs.1; omega))) rfl ?_
                refine AOL.p (P_move (v := .int .i64 _) rfl) rfl ?_
                refine AOL.p (P_eql rfl rfl) rfl ?_
                refine AOL.nil ?_
                refine thenN ?_
                refine AW.cond (b := _) rfl (fun hc4 => ?_) (fun hc4 => ?_)
                · skip
                  refine AW.seq ?_
                  refine AW.region ?_
                  refine AOL.p (P_move (v := .int .i64 _) rfl) rfl ?_
                  refine AOL.p (P_move (v := .fn _ _ _) rfl) rfl ?_
                  refine AOL.p (P_fieldAddr_val tok rfl rfl rfl rfl rfl rfl) rfl ?_
                  refine AOL.pk (P_load_box (k := 0) (c := .int .i64 _) tok rfl rfl rfl rfl) rfl rfl ?_
                  refine AOL.p (P_call (by kernel_rfl) rfl rfl rfl (l_turned_1 a.states.length (by omega) x.dst (in_le hxd))) rfl ?_
                  refine AOL.p (P_fieldAddr_val tok rfl rfl rfl rfl rfl rfl) rfl ?_
                  refine AOL.e (E_store (k := 0) (v := .int .i64 _) (cs' := [.int .i64 _, .int .i64 _, .int .i64 _, .int .i64 _, .int .i64 _, _, .int .i64 _, .int .i64 _, .int .i64 _, .int .i64 _, .int .i64 _, .str _, _, _, _, _, _]) (H2 := _ :: _ :: _ :: _ :: _ :: _) tok rfl rfl rfl rfl rfl rfl rfl rfl rfl) rfl ?_
                  rintro _ _ ⟨rfl, rfl⟩
                  refine AOL.p (P_fieldAddr_val tok rfl rfl rfl rfl rfl rfl) rfl ?_
                  refine AOL.e (E_store (k := 0) (v := .int .i64 _) (cs' := [.int .i64 _, .int .i64 _, .int .i64 _, .int .i64 _, .int .i64 _, _, .int .i64 _, .int .i64 _, .int .i64 _, .int .i64 _, .int .i64 _, .str _, _, _, _, _, _]) (H2 := _ :: _ :: _ :: _ :: _ :: _) tok rfl rfl rfl rfl rfl rfl rfl rfl rfl) rfl ?_
                  rintro _ _ ⟨rfl, rfl⟩
                  refine AOL.nil ?_
                  refine thenN ?_
                  refine AW.region ?_
                  refine AOL.p (P_fieldAddr_val tok rfl rfl rfl rfl rfl rfl) rfl ?_
                  refine AOL.pk (P_load_box (k := 2) (c := .row _ _ _) tok rfl rfl rfl rfl) rfl rfl ?_
                  refine AOL.pk (P_load_box_agg (k := 0) (l := [.int .i64 _, .int .i64 _, .int .i64 _, .int .i64 _, .int .i64 _, _, .int .i64 _, .int .i64 _, .int .i64 _, .int .i64 _, .int .i64 _, .str _, _, _, _, _, _]) tok rfl rfl rfl rfl rfl) rfl rfl ?_
                  refine AOL.p (P_buildSlice (es := [[.int .i64 _, .int .i64 _, .int .i64 _, .int .i64 _, .int .i64 _, _, .int .i64 _, .int .i64 _, .int .i64 _, .int .i64 _, .int .i64 _, .str _, _, _, _, _, _]]) tok rfl rfl rfl rfl rfl rfl rfl rfl rfl) rfl ?_
                  refine AOL.e (E_append (k := 1) tok rfl rfl rfl rfl rfl rfl rfl rfl (sc_one rfl) (hsc) (by simp; omega) (by simp [maxLen]; omega)) rfl ?_
                  rintro _ _ ⟨v66, rfl, rfl⟩
                  refine AOL.p (P_fieldAddr_val tok rfl rfl rfl rfl rfl rfl) rfl ?_
                  refine AOL.e (E_store (k := 2) (v := .row _ _ _) (cs' := [.int .i64 _, .int .i64 _, _, _]) (H2 := _ :: _ :: _ :: _ :: _ :: _) tok rfl rfl rfl rfl rfl rfl rfl rfl rfl) rfl ?_
                  rintro _ _ ⟨rfl, rfl⟩
                  refine AOL.nil ?_
                  refine blkN ?_
                  refine thenN ?_
                  refine AW.region ?_
                  refine AOL.p (P_add rfl rfl rfl (by constructor <;> omega)) rfl ?_
                  refine AOL.p (P_move (v := .int .i64 _) rfl) rfl ?_
                  refine AOL.nil ?_
                  refine thenN ?_
                  refine ⟨(q.1 + 1, q.2.1 ++ [cEd ({ x with src := (p.1 : Int), dst := tn a.states.length x.dst } : Ed)], v66), ?_, ?_, GS.weaken ⟨rfl, rfl, rfl, rfl, rfl, rfl, rfl, rfl, rfl, rfl, trivial⟩ (.cons _ (.refl _))⟩
                  · exact ⟨hltx, by simp only; rw [chunk_take hx, if_pos hc4, ← List.append_assoc, List.map_append, hR3.2, turn_x hc4]; rfl⟩
                  · simp only; omega
                · skip
                  refine AW.skip ?_
                  refine blkN ?_
                  refine thenN ?_
                  refine AW.region ?_
                  refine AOL.p (P_add rfl rfl rfl (by constructor <;> omega)) rfl ?_
                  refine AOL.p (P_move (v := .int .i64 _) rfl) rfl ?_
                  refine AOL.nil ?_
                  refine thenN ?_
                  refine ⟨(q.1 + 1, q.2.1, q.2.2), ?_, ?_, GS.weaken ⟨rfl, rfl, rfl, rfl, rfl, rfl, rfl, rfl, rfl, rfl, trivial⟩ (.cons _ (.refl _))⟩
                  · exact ⟨hltx, by simp only; rw [chunk_take hx, if_neg (by rw [hc4]; decide), List.append_nil, hR3.2]⟩
                  · simp only; omega
              · skip
                have hkq : a.edges.length ≤ q.1 := by have := of_decide_eq_false hc3; omega
                have hqe : q.2.1 = ((List.range (p.1 + 1)).flatMap (chunk a.states.length a.edges)).map cEd := by have h := hR3.2; rw [List.take_of_length_le hkq, ← chunks_succ] at h; exact h
                refine AW.exit ?_
                refine thenE ?_
                refine thenE ?_
                refine blkHit ?_
                refine blkN ?_
                refine thenN ?_
                refine AW.region ?_
                refine AOL.p (P_add rfl rfl rfl (by constructor <;> omega)) rfl ?_
                refine AOL.p (P_move (v := .int .i64 _) rfl) rfl ?_
                refine AOL.nil ?_
                refine thenN ?_
                refine ⟨(p.1 + 1, q.2.1, q.2.2), ?_, ?_, GS.weaken ⟨rfl, rfl, rfl, rfl, rfl, rfl, trivial⟩ (.refl _)⟩
                · exact ⟨hltp, hqe⟩
                · simp only; omega
          · skip
            have hpn : p.1 = a.states.length := by have := of_decide_eq_false hc2; have := hR2.1; omega
            have hpe : p.2.1 = (turnS a).edges.map cEd := by rw [hR2.2, hpn]; rfl
            refine AW.exit ?_
            refine thenE ?_
            refine thenE ?_
            refine blkHit ?_
            refine thenN ?_
            refine AW.seq ?_
            refine AW.region ?_
            refine AOL.ghost (GS.cell (H2 := _ :: _ :: _ :: _ :: _) 1 3 rfl rfl rfl rfl unrow_cell) ?_
            refine AOL.pk (P_load_box_agg (k := 1) (l := [.int .i64 _, .int .i64 _, _, _]) tok rfl rfl rfl rfl rfl) rfl rfl ?_
            refine AOL.ghost (GS.freezeSl (t := 70) (z := 1) (es := (turnS a).states.map cSt) (y := .agg [.int .i64 a.vars, .int .i64 a.scopes, .sl 1 ((turnS a).states.map cSt), .sl 17 _]) 2 rfl rfl (turnL_all a).symm (by rw [List.length_map, turn_n]) (Nat.le_refl _) (by omega) (one_each (fun _ => rfl) _) (fun g w u h h9 => agg_third h9 fun v hv => slot_is g w v h hv)) ?_
            refine AOL.e (E_store (k := 2) (v := .agg _) (cs' := [.int .i64 _, .int .i64 _, _, _]) (H2 := _ :: _ :: _ :: _) tok rfl rfl rfl rfl rfl rfl rfl rfl rfl) rfl ?_
            rintro _ _ ⟨rfl, rfl⟩
            refine AOL.nil ?_
            refine thenN ?_
            refine AW.ret ?_
            refine ⟨.inr rfl, [.agg [.int .i64 _, .int .i64 _, _, _]], .cons (.box _ _ _ 2 _ _ _ _ rfl rfl rfl rfl rfl rfl) <| .nil, .cons _ (.cons _ (.cons _ (.refl _))), ?_⟩
            rw [hpe]; rfl

end Go.Proofs.YtoolcpnahmgnnaaGreatDoor
