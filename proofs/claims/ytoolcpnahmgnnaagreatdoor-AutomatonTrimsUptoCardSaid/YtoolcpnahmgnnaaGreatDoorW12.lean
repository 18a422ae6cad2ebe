/-
  Walks of layer 23: trimming in the reference; edges, reachable and useful states. No condition.
-/
import Derived.Test.YtoolcpnahmgnnaaGreatDoorW11
import Derived.Test.YtoolcpnahmgnnaaGreatDoorW8
import Derived.KernelRfl
namespace Go.Proofs.YtoolcpnahmgnnaaGreatDoor
open Go Go.Aw
set_option linter.unusedVariables false
set_option linter.unusedSimpArgs false

theorem r_reachedA {a : Au} (hw : Wf a) : APure Tryz.prog 45 [.agg (cAu a)] (.sl 1 ((reachA a).map cB)) := by
  have h1 := hw.most; have h2 := hw.many
  rw [reach_eq hw.edr hw.pos]; exact r_reached a ⟨hw.pos, by omega⟩ (by omega) hw.edr
theorem r_helpfulA {a : Au} (hw : Wf a) : APure Tryz.prog 46 [.agg (cAu a)] (.sl 1 ((usefulA a).map cB)) := by
  have h1 := hw.most; have h2 := hw.many
  rw [useful_eq hw.edr]; exact r_helpful a ⟨hw.pos, by omega⟩ (by omega) hw.edr
set_option maxRecDepth 20000 in
set_option maxHeartbeats 6400000 in
theorem r_Trim (a : Au) (hs : Sm a) : APure Tryz.prog 14 [.agg (cAu a)] (.tuple [.agg (cAu (trimS a).1), .int .i64 (trimS a).2]) := by
  have hmx : 1048576 ≤ maxLen := by decide
  refine APure.body (n := 124) tok Tryz.func14 rfl rfl rfl fun H => ?_
  refine AW.seq ?_
  refine AW.region ?_
  refine AOL.p (P_box (v := .agg _) (cs := [.int .i64 _, .int .i64 _, _, _]) rfl rfl rfl) rfl ?_
  refine AOL.e (E_alloc (l := [.int .i64 0, .int .i64 0, .sl 1 [], .sl 17 []]) (by kernel_rfl)) rfl ?_
  rintro _ _ ⟨b2, rfl, rfl⟩
  refine AOL.p (P_assign (v := .int .i64 _) rfl) rfl ?_
  refine AOL.nil ?_
  refine thenN ?_
  refine AW.seq ?_
  refine AW.seq ?_
  refine AW.region ?_
  refine AOL.p (P_load_ptr_agg (l := [.int .i64 _, .int .i64 _, _, _]) tok rfl rfl rfl rfl rfl) rfl ?_
  refine AOL.p (P_callf (by kernel_rfl) rfl rfl (r_Check a hs)) rfl ?_
  refine AOL.p (P_assign (v := .int .i64 _) rfl) rfl ?_
  refine AOL.nil ?_
  refine thenN ?_
  refine AW.seq ?_
  refine AW.region ?_
  refine AOL.p (P_move (v := .int .i64 _) rfl) rfl ?_
  refine AOL.p (P_neq rfl rfl) rfl ?_
  refine AOL.nil ?_
  refine thenN ?_
  refine AW.cond (b := _) rfl (fun hc1 => ?_) (fun hc1 => ?_)
  · skip
    have h9 := trim_no hc1
    refine AW.seq ?_
    refine AW.region ?_
    refine AOL.p (P_build (l := [.int .i64 _, .int .i64 _, _, _]) tok rfl rfl rfl) rfl ?_
    refine AOL.p (P_move (v := .int .i64 _) rfl) rfl ?_
    refine AOL.e (E_store (k := 0) (v := .agg _) (cs' := [.int .i64 _, .int .i64 _, _, _]) (H2 := _ :: _) tok rfl rfl rfl rfl rfl rfl rfl rfl rfl) rfl ?_
    rintro _ _ ⟨rfl, rfl⟩
    refine AOL.p (P_assign (v := .int .i64 _) rfl) rfl ?_
    refine AOL.nil ?_
    refine thenN ?_
    refine AW.ret ?_
    refine thenR ?_
    refine ⟨.inr rfl, [.agg [.int .i64 _, .int .i64 _, _, _], .int .i64 _], .cons (.box _ _ _ 0 _ _ _ _ rfl rfl rfl rfl rfl rfl) <| .cons (.tmp _ _ rfl) <| .nil, .cons _ (.refl _), ?_⟩
    rw [h9]; rfl
  · skip
    have hw : Wf a := check_wf.1 (by simpa using hc1)
    have h9 := trim_ok hc1
    have hE := hw.edr
    have hpos := hw.pos
    have hkl : (keptA a).length = a.states.length := kept_len hw
    have hlr : (reachA a).length = a.states.length := (reach_ok hE hpos).1
    have hlu : (usefulA a).length = a.states.length := (useful_ok hE).1
    have hsn := hs.n
    have hsm := hs.m
    refine AW.skip ?_
    refine thenN ?_
    refine AW.seq ?_
    refine AW.draw mixed (fun _ => True) trivial (by kernel_rfl) ?_
    refine Canon.pure _ _ 0 _ _ rfl (by kernel_rfl) (by kernel_rfl) rfl (.run rfl (P_load_ptr_agg (l := [.int .i64 _, .int .i64 _, _, _]) tok rfl rfl rfl rfl rfl)) ?_
    refine Canon.pure _ _ 1 _ _ rfl (by kernel_rfl) (by kernel_rfl) rfl (.run rfl (P_callf (by kernel_rfl) rfl rfl (r_reachedA hw))) ?_
    refine Canon.pure _ _ 2 _ _ rfl (by kernel_rfl) (by kernel_rfl) rfl (.run rfl (P_load_ptr_agg (l := [.int .i64 _, .int .i64 _, _, _]) tok rfl rfl rfl rfl rfl)) ?_
    refine Canon.pure _ _ 3 _ _ rfl (by kernel_rfl) (by kernel_rfl) rfl (.run rfl (P_callf (by kernel_rfl) rfl rfl (r_helpfulA hw))) ?_
    refine Canon.pure _ _ 4 _ _ rfl (by kernel_rfl) (by kernel_rfl) rfl (.run rfl (P_assign (v := .sl _ _) rfl)) ?_
    refine Canon.pure _ _ 5 _ _ rfl (by kernel_rfl) (by kernel_rfl) rfl (.run rfl (P_assign (v := .sl _ _) rfl)) ?_
    refine Canon.done _ _ (by kernel_rfl) ?_
    refine thenN ?_
    refine AW.seq ?_
    refine AW.region ?_
    refine AOL.p (P_fieldAddr_ptr (cs' := [_, _]) tok rfl rfl rfl rfl rfl rfl) rfl ?_
    refine AOL.p (P_load_ptr (c := .sl _ _) tok rfl rfl rfl) rfl ?_
    refine AOL.p (P_len_sl (n := a.states.length) tok rfl rfl rfl (by simp)) rfl ?_
    refine AOL.e (E_makeSlice (n := a.states.length) tok rfl rfl rfl rfl rfl rfl rfl (by show 8 * a.states.length ≤ _; omega) (by omega)) rfl ?_
    rintro _ _ ⟨b25, rfl, rfl⟩
    refine AOL.p (P_assign (v := .val _) rfl) rfl ?_
    refine AOL.ghost (GS.cells 0 rfl ((bI_zero a.states.length).trans (congrArg bI (prg_replicate a.states.length (fun i => if (keptA a).getD i false then (cnt (keptA a) i : Int) else -1) (0 : Int)).symm))) ?_
    refine AOL.nil ?_
    refine thenN ?_
    refine AW.seq ?_
    refine AW.region ?_
    refine AOL.p (P_fieldAddr_ptr (cs' := [.int .i64 _, .int .i64 _, _, _]) tok rfl rfl rfl rfl rfl rfl) rfl ?_
    refine AOL.p (P_load_ptr (c := .int .i64 _) tok rfl rfl rfl) rfl ?_
    refine AOL.p (P_fieldAddr_ptr (cs' := [.int .i64 _, _, _]) tok rfl rfl rfl rfl rfl rfl) rfl ?_
    refine AOL.p (P_load_ptr (c := .int .i64 _) tok rfl rfl rfl) rfl ?_
    refine AOL.p (P_buildZ (l0 := [.int .i64 0, .int .i64 0, .val (.slice none 0 0), .val (.slice none 0 0)]) (l := [.int .i64 _, .int .i64 _, _, _]) tok rfl rfl (by kernel_rfl) rfl) rfl ?_
    refine AOL.e (E_alloc (l := [.int .i64 0, .int .i64 0, .sl 1 [], .sl 17 []]) (by kernel_rfl)) rfl ?_
    rintro _ _ ⟨b8, rfl, rfl⟩
    refine AOL.e (E_store (k := 0) (v := .agg _) (cs' := [.int .i64 _, .int .i64 _, _, _]) (H2 := _ :: _ :: _ :: _) tok rfl rfl rfl rfl rfl rfl rfl rfl rfl) rfl ?_
    rintro _ _ ⟨rfl, rfl⟩
    refine AOL.ghost (GS.cellRow 0 2 70 1 rfl rfl rfl rfl) ?_
    refine AOL.ghost (GS.cellRow 1 3 66 17 rfl rfl rfl rfl) ?_
    refine AOL.nil ?_
    refine thenN ?_
    refine AW.seq ?_
    refine AW.seq ?_
    refine AW.region ?_
    refine AOL.p (P_assign (v := .int .i64 _) rfl) rfl ?_
    refine AOL.nil ?_
    refine thenN ?_
    refine AW.block ?_
    refine AW.loopS (fun (p : Nat × List (List AV) × Value) => (⟨[(1, .ptr (cAu a)), (2, .val (.pointer (some ⟨b2, 0, none⟩))), (5, .sl 1 ((reachA a).map cB)), (6, .sl 1 ((usefulA a).map cB)), (7, .val (.slice (some ⟨b25, 0, none⟩) a.states.length a.states.length)), (8, .val (.pointer (some ⟨b8, 0, none⟩))), (9, .int .i64 (p.1 : Int))], .row (.slice none 0 0) 0 66 17 :: .row p.2.2 p.2.1.length 70 1 :: .box b8 25 [.int .i64 a.vars, .int .i64 a.scopes, .row p.2.2 1 p.2.1, .row (.slice none 0 0) 17 []] :: .box b25 3 (bI (toL (keptA a) a.states.length p.1)) :: .box b2 25 [.int .i64 0, .int .i64 0, .sl 1 [], .sl 17 []] :: H, 124⟩ : St)) (fun (p : Nat × List (List AV) × Value) => p.1 ≤ a.states.length ∧ p.2.1 = (keepStates ((keptA a).take p.1) (a.states.take p.1)).map cSt) (fun (p : Nat × List (List AV) × Value) => a.states.length - p.1) ((0, [], .slice none 0 0)) ?_ (GS.weaken ⟨rfl, rfl, rfl, rfl, rfl, rfl, rfl, trivial⟩ (.refl _)) ?_
    · exact ⟨Nat.zero_le _, by simp [keepStates]⟩
    · rintro p hR2
      have hsc : ∀ c ∈ p.2.1, scalars c = true := by rw [hR2.2]; exact sc_map fun _ => rfl
      have hel : p.2.1.length = cnt (keptA a) p.1 := by rw [hR2.2, List.length_map]; exact keep_cnt hkl _
      have hcl := cnt_le (keptA a) p.1
      refine AW.seq ?_
      refine AW.seq ?_
      refine AW.region ?_
      refine AOL.p (P_move (v := .int .i64 _) rfl) rfl ?_
      refine AOL.p (P_fieldAddr_ptr (cs' := [_, _]) tok rfl rfl rfl rfl rfl rfl) rfl ?_
      refine AOL.p (P_load_ptr (c := .sl _ _) tok rfl rfl rfl) rfl ?_
      refine AOL.p (P_len_sl (n := a.states.length) tok rfl rfl rfl (by simp)) rfl ?_
      refine AOL.p (P_lss rfl rfl) rfl ?_
      refine AOL.nil ?_
      refine thenN ?_
      refine AW.cond (b := _) rfl (fun hc2 => ?_) (fun hc2 => ?_)
      · skip
        obtain ⟨x, hx⟩ := get_lt2 (l := a.states) (k := p.1) (by have := of_decide_eq_true hc2; omega)
        have hltx := get_lt' hx
        have hmx := List.mem_of_getElem? hx
        refine AW.skip ?_
        refine thenN ?_
        refine AW.seq ?_
        refine AW.block ?_
        refine AW.seq ?_
        refine AW.region ?_
        refine AOL.p (P_move (v := .val _) rfl) rfl ?_
        refine AOL.p (P_move (v := .int .i64 _) rfl) rfl ?_
        refine AOL.p (P_indexAddr_val tok rfl rfl rfl rfl rfl (by omega) (by omega) (off1 _)) rfl ?_
        refine AOL.e (E_store (k := 3) (v := .int .i64 _) (cs' := bI (putS' (toL (keptA a) a.states.length p.1) p.1 (-1))) (H2 := _ :: _ :: _ :: _ :: _ :: _) tok rfl rfl rfl rfl rfl rfl (by rw [bI_len]; (first | rw [toL_len] | rw [prg_len]); exact Nat.ble_eq_true_of_le (by show p.1 + 1 ≤ _; omega)) (bI_put (s := (p.1 : Int)) (by (first | rw [toL_len] | rw [prg_len]); exact hltx)) rfl) rfl ?_
        rintro _ _ ⟨rfl, rfl⟩
        refine AOL.nil ?_
        refine thenN ?_
        refine AW.seq ?_
        refine AW.region ?_
        refine AOL.p (P_move (v := .int .i64 _) rfl) rfl ?_
        refine AOL.p (P_eql rfl rfl) rfl ?_
        refine AOL.p (P_move (v := .bool _) rfl) rfl ?_
        refine AOL.g (y := .sl _ _) _ [] rfl (EntL.all trivial) (fun hG => P_move (v := .sl _ _) rfl) rfl ?_
        refine AOL.g (y := .int .i64 _) _ [] rfl (EntL.all trivial) (fun hG => P_move (v := .int .i64 _) rfl) rfl ?_
        refine AOL.g (y := .ptr _) _ [(44, _), (45, _)] rfl (EntL.all ⟨Ent.self _ _, Ent.self _ _, trivial⟩) (fun hG => P_indexAddr (c := [.bool _]) tok rfl rfl rfl rfl rfl rfl (by omega) (cB_getD (by omega))) rfl ?_
        refine AOL.g (y := .bool _) _ [(46, _)] rfl (EntL.all ⟨Ent.self _ _, trivial⟩) (fun hG => P_load_ptr (c := .bool _) tok rfl rfl rfl) rfl ?_
        refine AOL.g (y := .bool _) _ [(47, _)] rfl (EntL.all ⟨Ent.self _ _, trivial⟩) (fun hG => P_move (v := .bool _) rfl) rfl ?_
        refine AOL.g (y := .sl _ _) _ [] rfl (EntL.all trivial) (fun hG => P_move (v := .sl _ _) rfl) rfl ?_
        refine AOL.g (y := .int .i64 _) _ [] rfl (EntL.all trivial) (fun hG => P_move (v := .int .i64 _) rfl) rfl ?_
        refine AOL.g (y := .ptr _) _ [(49, _), (50, _)] rfl (EntL.all ⟨Ent.self _ _, Ent.self _ _, trivial⟩) (fun hG => P_indexAddr (c := [.bool _]) tok rfl rfl rfl rfl rfl rfl (by omega) (cB_getD (by omega))) rfl ?_
        refine AOL.g (y := .bool _) _ [(51, _)] rfl (EntL.all ⟨Ent.self _ _, trivial⟩) (fun hG => P_load_ptr (c := .bool _) tok rfl rfl rfl) rfl ?_
        refine AOL.g (y := .bool _) _ [(48, _), (52, _)] rfl (EntL.all ⟨Ent.self _ _, Ent.suf _ _ _, trivial⟩) (fun hG => P_pick_and rfl rfl rfl) rfl ?_
        refine AOL.p (P_pick_or rfl rfl rfl) rfl ?_
        refine AOL.nil ?_
        refine thenN ?_
        refine AW.cond (b := _) rfl (fun hc3 => ?_) (fun hc3 => ?_)
        · skip
          have hkp : (keptA a).getD p.1 false = true := (kept_or hlr hlu hltx).trans hc3
          refine AW.seq ?_
          refine AW.region ?_
          refine AOL.p (P_move (v := .val _) rfl) rfl ?_
          refine AOL.p (P_move (v := .int .i64 _) rfl) rfl ?_
          refine AOL.p (P_fieldAddr_val tok rfl rfl rfl rfl rfl rfl) rfl ?_
          refine AOL.pk (P_load_box (k := 2) (c := .row _ _ _) tok rfl rfl rfl rfl) rfl rfl ?_
          refine AOL.p (P_len_row (n := cnt (keptA a) p.1) tok rfl rfl rfl (hel)) rfl ?_
          refine AOL.p (P_indexAddr_val tok rfl rfl rfl rfl rfl (by omega) (by omega) (off1 _)) rfl ?_
          refine AOL.e (E_store (k := 3) (v := .int .i64 _) (cs' := bI (toL (keptA a) a.states.length (p.1 + 1))) (H2 := _ :: _ :: _ :: _ :: _ :: _) tok rfl rfl rfl rfl rfl rfl (by rw [bI_len, put_len]; (first | rw [toL_len] | rw [prg_len]); exact Nat.ble_eq_true_of_le (by show p.1 + 1 ≤ _; omega)) ((bI_put (s := (p.1 : Int)) (by rw [put_len]; (first | rw [toL_len] | rw [prg_len]); exact hltx)).trans (congrArg bI (toL_yes hltx hkp))) rfl) rfl ?_
          rintro _ _ ⟨rfl, rfl⟩
          refine AOL.nil ?_
          refine thenN ?_
          refine AW.draw mixed (fun H' => _ ∈ H') (List.mem_of_getElem? (i := 2) rfl) (by kernel_rfl) ?_
          refine Canon.pure _ _ 0 _ _ rfl (by kernel_rfl) (by kernel_rfl) rfl (.run rfl (P_fieldAddr_val tok rfl rfl rfl rfl rfl rfl)) ?_
          refine Canon.pure _ _ 1 _ _ rfl (by kernel_rfl) (by kernel_rfl) rfl (.run rfl (OpP.mem (fun k => P_load_box (k := k) (c := .row _ _ _) tok rfl rfl rfl rfl) (fun _ h => h))) ?_
          refine Canon.pure _ _ 2 _ _ rfl (by kernel_rfl) (by kernel_rfl) rfl (.run rfl (P_fieldAddr_ptr (cs' := [_, _]) tok rfl rfl rfl rfl rfl rfl)) ?_
          refine Canon.pure _ _ 3 _ _ rfl (by kernel_rfl) (by kernel_rfl) rfl (.run rfl (P_load_ptr (c := .sl _ _) tok rfl rfl rfl)) ?_
          refine Canon.pure _ _ 4 _ _ rfl (by kernel_rfl) (by kernel_rfl) rfl (.run rfl (P_move (v := .int .i64 _) rfl)) ?_
          refine Canon.pure _ _ 5 _ _ rfl (by kernel_rfl) (by kernel_rfl) rfl (.run rfl (P_indexAddr (c := [_]) tok rfl rfl rfl rfl rfl rfl (by omega) (cSt_at hx))) ?_
          refine Canon.pure _ _ 6 _ _ rfl (by kernel_rfl) (by kernel_rfl) rfl (.run rfl (P_load_ptr_agg (l := [_]) tok rfl rfl rfl rfl rfl)) ?_
          refine Canon.pure _ _ 7 _ _ rfl (by kernel_rfl) (by kernel_rfl) rfl (.run rfl (P_buildSlice (es := [[_]]) tok rfl rfl rfl rfl rfl rfl rfl rfl rfl)) ?_
          refine Canon.eff _ _ 8 _ _ rfl (by kernel_rfl) rfl rfl (E_append (k := 1) tok rfl rfl rfl rfl rfl rfl rfl rfl (sc_one rfl) (hsc) (by simp; omega) (by simp [maxLen]; omega)) (by rintro _ _ ⟨v69, rfl, rfl⟩; simp) ?_
          rintro _ _ ⟨v69, rfl, rfl⟩
          refine Canon.pure _ _ 9 _ _ rfl (by kernel_rfl) (by kernel_rfl) rfl (.run rfl (P_fieldAddr_val tok rfl rfl rfl rfl rfl rfl)) ?_
          refine Canon.last _ _ 10 _ _ rfl (by kernel_rfl) rfl rfl (E_store (k := 2) (v := .row _ _ _) (cs' := [.int .i64 _, .int .i64 _, _, _]) (H2 := _ :: _ :: _ :: _ :: _ :: _) tok rfl rfl rfl rfl rfl rfl rfl rfl rfl) (by kernel_rfl) ?_
          rintro _ _ ⟨rfl, rfl⟩
          refine blkN ?_
          refine thenN ?_
          refine AW.region ?_
          refine AOL.p (P_move (v := .int .i64 _) rfl) rfl ?_
          refine AOL.p (P_add rfl rfl rfl (by constructor <;> omega)) rfl ?_
          refine AOL.p (P_assign (v := .int .i64 _) rfl) rfl ?_
          refine AOL.nil ?_
          refine thenN ?_
          refine ⟨(p.1 + 1, p.2.1 ++ [cSt x], v69), ?_, ?_, GS.weaken ⟨rfl, rfl, rfl, rfl, rfl, rfl, rfl, trivial⟩ (.refl _)⟩
          · exact ⟨hltx, by simp only; rw [keepStates_take _ _ _ x hkl hx, if_pos hkp, List.map_append, hR2.2]; rfl⟩
          · simp only; omega
        · skip
          have hkp : (keptA a).getD p.1 false = false := (kept_or hlr hlu hltx).trans hc3
          refine AW.ghost (GS.cellsTo (H2 := _ :: _ :: _ :: _ :: _ :: _) 3 rfl (congrArg bI (toL_no hltx hkp)) rfl) ?_
          refine AW.skip ?_
          refine blkN ?_
          refine thenN ?_
          refine AW.region ?_
          refine AOL.p (P_move (v := .int .i64 _) rfl) rfl ?_
          refine AOL.p (P_add rfl rfl rfl (by constructor <;> omega)) rfl ?_
          refine AOL.p (P_assign (v := .int .i64 _) rfl) rfl ?_
          refine AOL.nil ?_
          refine thenN ?_
          refine ⟨(p.1 + 1, p.2.1, p.2.2), ?_, ?_, GS.weaken ⟨rfl, rfl, rfl, rfl, rfl, rfl, rfl, trivial⟩ (.refl _)⟩
          · exact ⟨hltx, by simp only; rw [keepStates_take _ _ _ x hkl hx, if_neg (by rw [hkp]; decide), List.append_nil, hR2.2]⟩
          · simp only; omega
      · skip
        have hpn : p.1 = a.states.length := by have := of_decide_eq_false hc2; have := hR2.1; omega
        have hpe : p.2.1 = (keepStates (keptA a) a.states).map cSt := by have h := hR2.2; rw [keep_whole hkl (by omega)] at h; exact h
        refine AW.ghost (GS.cellsTo (H2 := _ :: _ :: _ :: _ :: _ :: _) 3 rfl (congrArg (fun k => bI (toL (keptA a) a.states.length k)) hpn) rfl) ?_
        refine AW.exit ?_
        refine thenE ?_
        refine thenE ?_
        refine blkHit ?_
        refine thenN ?_
        refine AW.seq ?_
        refine AW.seq ?_
        refine AW.region ?_
        refine AOL.ghost (GS.cell (H2 := _ :: _ :: _ :: _ :: _ :: _) 2 2 rfl rfl rfl rfl unrow_cell) ?_
        refine AOL.p (P_assign (v := .int .i64 _) rfl) rfl ?_
        refine AOL.nil ?_
        refine thenN ?_
        refine AW.block ?_
        refine AW.loopS (fun (q : Nat × List (List AV) × Value) => (⟨[(1, .ptr (cAu a)), (2, .val (.pointer (some ⟨b2, 0, none⟩))), (7, .val (.slice (some ⟨b25, 0, none⟩) a.states.length a.states.length)), (8, .val (.pointer (some ⟨b8, 0, none⟩))), (10, .int .i64 (q.1 : Int))], .row q.2.2 q.2.1.length 66 17 :: .box b8 25 [.int .i64 a.vars, .int .i64 a.scopes, .sl 1 p.2.1, .row q.2.2 17 q.2.1] :: .box b25 3 (bI (toL (keptA a) a.states.length a.states.length)) :: .box b2 25 [.int .i64 0, .int .i64 0, .sl 1 [], .sl 17 []] :: H, 124⟩ : St)) (fun (q : Nat × List (List AV) × Value) => q.1 ≤ a.edges.length ∧ q.2.1 = (keptEs (keptA a) (a.edges.take q.1)).map cEd) (fun (q : Nat × List (List AV) × Value) => a.edges.length - q.1) ((0, [], .slice none 0 0)) ?_ (GS.weaken ⟨rfl, rfl, rfl, rfl, rfl, trivial⟩ (.cons_cons _ (.cons _ (.refl _)))) ?_
        · exact ⟨Nat.zero_le _, rfl⟩
        · rintro q hR3
          have hsc : ∀ c ∈ q.2.1, scalars c = true := by rw [hR3.2]; exact sc_map fun _ => rfl
          have hel2 : q.2.1.length ≤ q.1 := by rw [hR3.2, List.length_map]; exact keptEs_len _ _ _
          refine AW.seq ?_
          refine AW.seq ?_
          refine AW.region ?_
          refine AOL.p (P_move (v := .int .i64 _) rfl) rfl ?_
          refine AOL.p (P_fieldAddr_ptr (cs' := [_]) tok rfl rfl rfl rfl rfl rfl) rfl ?_
          refine AOL.p (P_load_ptr (c := .sl _ _) tok rfl rfl rfl) rfl ?_
          refine AOL.p (P_len_sl (n := a.edges.length) tok rfl rfl rfl (by simp)) rfl ?_
          refine AOL.p (P_lss rfl rfl) rfl ?_
          refine AOL.nil ?_
          refine thenN ?_
          refine AW.cond (b := _) rfl (fun hc4 => ?_) (fun hc4 => ?_)
          · skip
            obtain ⟨x, hx⟩ := get_lt2 (l := a.edges) (k := q.1) (by have := of_decide_eq_true hc4; omega)
            have hltx := get_lt' hx
            have hmx := List.mem_of_getElem? hx
            have hx2 := hE x hmx
            have hxs := hx2.1
            have hxd := hx2.2
            refine AW.skip ?_
            refine thenN ?_
            refine AW.seq ?_
            refine AW.block ?_
            refine AW.seq ?_
            refine AW.region ?_
            refine AOL.p (P_fieldAddr_ptr (cs' := [_]) tok rfl rfl rfl rfl rfl rfl) rfl ?_
            refine AOL.p (P_load_ptr (c := .sl _ _) tok rfl rfl rfl) rfl ?_
            refine AOL.p (P_move (v := .int .i64 _) rfl) rfl ?_
            refine AOL.p (P_indexAddr (c := [.int .i64 _, .int .i64 _, .int .i64 _, .int .i64 _, .int .i64 _, _, .int .i64 _, .int .i64 _, .int .i64 _, .int .i64 _, .int .i64 _, .str _, _, _, _, _, _]) tok rfl rfl rfl rfl rfl rfl (by omega) (cEd_at hx)) rfl ?_
            refine AOL.p (P_load_ptr_agg (l := [.int .i64 _, .int .i64 _, .int .i64 _, .int .i64 _, .int .i64 _, _, .int .i64 _, .int .i64 _, .int .i64 _, .int .i64 _, .int .i64 _, .str _, _, _, _, _, _]) tok rfl rfl rfl rfl rfl) rfl ?_
            refine AOL.e (E_alloc (l := [.int .i64 0, .int .i64 0, .int .i64 0, .int .i64 0, .int .i64 0, .sl 8 [], .int .i64 0, .int .i64 0, .int .i64 0, .int .i64 0, .int .i64 0, .str [], .sl 1 [], .sl 1 [], .sl 8 [], .sl 2 [], .sl 1 []]) (by kernel_rfl)) rfl ?_
            rintro _ _ ⟨b11, rfl, rfl⟩
            refine AOL.e (E_store (k := 0) (v := .agg _) (cs' := [.int .i64 _, .int .i64 _, .int .i64 _, .int .i64 _, .int .i64 _, _, .int .i64 _, .int .i64 _, .int .i64 _, .int .i64 _, .int .i64 _, .str _, _, _, _, _, _]) (H2 := _ :: _ :: _ :: _ :: _ :: _) tok rfl rfl rfl rfl rfl rfl rfl rfl rfl) rfl ?_
            rintro _ _ ⟨rfl, rfl⟩
            refine AOL.nil ?_
            refine thenN ?_
            refine AW.seq ?_
            refine AW.seq ?_
            refine AW.region ?_
            refine AOL.p (P_move (v := .val _) rfl) rfl ?_
            refine AOL.p (P_fieldAddr_val tok rfl rfl rfl rfl rfl rfl) rfl ?_
            refine AOL.pk (P_load_box (k := 0) (c := .int .i64 _) tok rfl rfl rfl rfl) rfl rfl ?_
            refine AOL.p (P_indexAddr_val tok rfl rfl rfl rfl rfl (hxs.1) (hxs.lt) (off1 _)) rfl ?_
            refine AOL.pk (P_load_box (k := 3) (c := .int .i64 (toS (toL (keptA a) a.states.length a.states.length) x.src)) tok rfl rfl rfl (bI_get (by rw [toL_len]; exact hxs.2))) rfl rfl ?_
            refine AOL.p (P_lss rfl rfl) rfl ?_
            refine AOL.p (P_move (v := .bool _) rfl) rfl ?_
            refine AOL.g (y := .val _) _ [] rfl (EntL.all trivial) (fun hG => P_fieldAddr_val tok rfl rfl rfl rfl rfl rfl) rfl ?_
            refine AOL.gk (y := .int .i64 _) _ [(90, _)] rfl (EntL.all ⟨Ent.self _ _, trivial⟩) (fun hG => P_load_box (k := 0) (c := .int .i64 _) tok rfl rfl rfl rfl) rfl rfl ?_
            refine AOL.g (y := .bool _) _ [(91, _)] rfl (EntL.all ⟨Ent.self _ _, trivial⟩) (fun hG => P_geq rfl rfl) rfl ?_
            refine AOL.g (y := .bool _) _ [(92, _)] rfl (EntL.all ⟨Ent.self _ _, trivial⟩) (fun hG => P_move (v := .bool _) rfl) rfl ?_
            refine AOL.g (y := .val _) _ [] rfl (EntL.all trivial) (fun hG => P_move (v := .val _) rfl) rfl ?_
            refine AOL.g (y := .val _) _ [] rfl (EntL.all trivial) (fun hG => P_fieldAddr_val tok rfl rfl rfl rfl rfl rfl) rfl ?_
            refine AOL.gk (y := .int .i64 _) _ [(95, _)] rfl (EntL.all ⟨Ent.self _ _, trivial⟩) (fun hG => P_load_box (k := 0) (c := .int .i64 _) tok rfl rfl rfl rfl) rfl rfl ?_
            refine AOL.g (y := .val _) _ [(94, _), (96, _)] rfl (EntL.all ⟨Ent.self _ _, Ent.self _ _, trivial⟩) (fun hG => P_indexAddr_val tok rfl rfl rfl rfl rfl ((hxd (of_decide_eq_true (wl hG))).1) ((hxd (of_decide_eq_true (wl hG))).lt) (off1 _)) rfl ?_
            refine AOL.gk (y := .int .i64 _) _ [(97, _)] rfl (EntL.all ⟨Ent.self _ _, trivial⟩) (fun hG => P_load_box (k := 3) (c := .int .i64 (toS (toL (keptA a) a.states.length a.states.length) x.dst)) tok rfl rfl rfl (bI_get (by rw [toL_len]; exact (hxd (of_decide_eq_true (wl hG))).2))) rfl rfl ?_
            refine AOL.g (y := .bool _) _ [(98, _)] rfl (EntL.all ⟨Ent.self _ _, trivial⟩) (fun hG => P_lss rfl rfl) rfl ?_
            refine AOL.g (y := .bool _) _ [(93, _), (99, _)] rfl (EntL.all ⟨Ent.self _ _, Ent.suf _ _ _, trivial⟩) (fun hG => P_pick_and rfl rfl rfl) rfl ?_
            refine AOL.p (P_pick_or rfl rfl rfl) rfl ?_
            refine AOL.nil ?_
            refine thenN ?_
            refine AW.cond (b := _) rfl (fun hc5 => ?_) (fun hc5 => ?_)
            · skip
              have hnx := keep_no ((keep_cond hxs hxd).symm.trans hc5)
              refine AW.exit ?_
              refine thenE ?_
              refine blkHit ?_
              refine thenN ?_
              refine AW.region ?_
              refine AOL.p (P_move (v := .int .i64 _) rfl) rfl ?_
              refine AOL.p (P_add rfl rfl rfl (by constructor <;> omega)) rfl ?_
              refine AOL.p (P_assign (v := .int .i64 _) rfl) rfl ?_
              refine AOL.nil ?_
              refine thenN ?_
              refine ⟨(q.1 + 1, q.2.1, q.2.2), ?_, ?_, GS.weaken ⟨rfl, rfl, rfl, rfl, rfl, trivial⟩ (.cons _ (.refl _))⟩
              · exact ⟨hltx, by simp only; rw [keptEs_take hx, if_neg hnx, List.append_nil, hR3.2]⟩
              · simp only; omega
            · skip
              have hyx := keep_yes ((keep_cond hxs hxd).symm.trans hc5)
              have hy9 := keep_iff.1 hyx
              have hys := hy9.1
              have hyd := hy9.2
              refine AW.skip ?_
              refine thenN ?_
              refine AW.seq ?_
              refine AW.region ?_
              refine AOL.p (P_move (v := .val _) rfl) rfl ?_
              refine AOL.p (P_fieldAddr_val tok rfl rfl rfl rfl rfl rfl) rfl ?_
              refine AOL.pk (P_load_box (k := 0) (c := .int .i64 _) tok rfl rfl rfl rfl) rfl rfl ?_
              refine AOL.p (P_indexAddr_val tok rfl rfl rfl rfl rfl (hxs.1) (hxs.lt) (off1 _)) rfl ?_
              refine AOL.pk (P_load_box (k := 3) (c := .int .i64 (numberS (keptA a) x.src)) tok rfl rfl rfl (toL_cell hxs hys)) rfl rfl ?_
              refine AOL.p (P_fieldAddr_val tok rfl rfl rfl rfl rfl rfl) rfl ?_
              refine AOL.e (E_store (k := 0) (v := .int .i64 _) (cs' := [.int .i64 _, .int .i64 _, .int .i64 _, .int .i64 _, .int .i64 _, _, .int .i64 _, .int .i64 _, .int .i64 _, .int .i64 _, .int .i64 _, .str _, _, _, _, _, _]) (H2 := _ :: _ :: _ :: _ :: _ :: _) tok rfl rfl rfl rfl rfl rfl rfl rfl rfl) rfl ?_
              rintro _ _ ⟨rfl, rfl⟩
              refine AOL.nil ?_
              refine thenN ?_
              refine AW.seq ?_
              refine AW.seq ?_
              refine AW.region ?_
              refine AOL.p (P_fieldAddr_val tok rfl rfl rfl rfl rfl rfl) rfl ?_
              refine AOL.pk (P_load_box (k := 0) (c := .int .i64 _) tok rfl rfl rfl rfl) rfl rfl ?_
              refine AOL.p (P_geq rfl rfl) rfl ?_
              refine AOL.nil ?_
              refine thenN ?_
              refine AW.cond (b := _) rfl (fun hc6 => ?_) (fun hc6 => ?_)
              · skip
                refine AW.region ?_
                refine AOL.p (P_move (v := .val _) rfl) rfl ?_
                refine AOL.p (P_fieldAddr_val tok rfl rfl rfl rfl rfl rfl) rfl ?_
                refine AOL.pk (P_load_box (k := 0) (c := .int .i64 _) tok rfl rfl rfl rfl) rfl rfl ?_
                refine AOL.p (P_indexAddr_val tok rfl rfl rfl rfl rfl ((hxd (of_decide_eq_true hc6)).1) ((hxd (of_decide_eq_true hc6)).lt) (off1 _)) rfl ?_
                refine AOL.pk (P_load_box (k := 3) (c := .int .i64 (numberS (keptA a) x.dst)) tok rfl rfl rfl (toL_cell (hxd (of_decide_eq_true hc6)) (hyd.elim (fun h => absurd (of_decide_eq_true hc6) (by omega)) id))) rfl rfl ?_
                refine AOL.p (P_fieldAddr_val tok rfl rfl rfl rfl rfl rfl) rfl ?_
                refine AOL.e (E_store (k := 0) (v := .int .i64 _) (cs' := [.int .i64 _, .int .i64 _, .int .i64 _, .int .i64 _, .int .i64 _, _, .int .i64 _, .int .i64 _, .int .i64 _, .int .i64 _, .int .i64 _, .str _, _, _, _, _, _]) (H2 := _ :: _ :: _ :: _ :: _ :: _) tok rfl rfl rfl rfl rfl rfl rfl rfl rfl) rfl ?_
                rintro _ _ ⟨rfl, rfl⟩
                refine AOL.nil ?_
                refine thenN ?_
                refine AW.region ?_
                refine AOL.p (P_fieldAddr_val tok rfl rfl rfl rfl rfl rfl) rfl ?_
                refine AOL.pk (P_load_box (k := 2) (c := .row _ _ _) tok rfl rfl rfl rfl) rfl rfl ?_
                refine AOL.pk (P_load_box_agg (k := 0) (l := [.int .i64 _, .int .i64 _, .int .i64 _, .int .i64 _, .int .i64 _, _, .int .i64 _, .int .i64 _, .int .i64 _, .int .i64 _, .int .i64 _, .str _, _, _, _, _, _]) tok rfl rfl rfl rfl rfl) rfl rfl ?_
                refine AOL.p (P_buildSlice (es := [[.int .i64 _, .int .i64 _, .int .i64 _, .int .i64 _, .int .i64 _, _, .int .i64 _, .int .i64 _, .int .i64 _, .int .i64 _, .int .i64 _, .str _, _, _, _, _, _]]) tok rfl rfl rfl rfl rfl rfl rfl rfl rfl) rfl ?_
                refine AOL.e (E_append (k := 1) tok rfl rfl rfl rfl rfl rfl rfl rfl (sc_one rfl) (hsc) (by simp; omega) (by simp [maxLen]; omega)) rfl ?_
                rintro _ _ ⟨v121, rfl, rfl⟩
                refine AOL.p (P_fieldAddr_val tok rfl rfl rfl rfl rfl rfl) rfl ?_
                refine AOL.e (E_store (k := 2) (v := .row _ _ _) (cs' := [.int .i64 _, .int .i64 _, _, _]) (H2 := _ :: _ :: _ :: _ :: _ :: _) tok rfl rfl rfl rfl rfl rfl rfl rfl rfl) rfl ?_
                rintro _ _ ⟨rfl, rfl⟩
                refine AOL.nil ?_
                refine blkN ?_
                refine thenN ?_
                refine AW.region ?_
                refine AOL.p (P_move (v := .int .i64 _) rfl) rfl ?_
                refine AOL.p (P_add rfl rfl rfl (by constructor <;> omega)) rfl ?_
                refine AOL.p (P_assign (v := .int .i64 _) rfl) rfl ?_
                refine AOL.nil ?_
                refine thenN ?_
                refine ⟨(q.1 + 1, q.2.1 ++ [cEd ({ x with src := numberS (keptA a) x.src, dst := numberS (keptA a) x.dst } : Ed)], v121), ?_, ?_, GS.weaken ⟨rfl, rfl, rfl, rfl, rfl, trivial⟩ (.cons _ (.refl _))⟩
                · exact ⟨hltx, by simp only; rw [keptEs_take hx, if_pos hyx, List.map_append, hR3.2, ← move_yes hc6]; rfl⟩
                · simp only; omega
              · skip
                refine AW.skip ?_
                refine thenN ?_
                refine AW.region ?_
                refine AOL.p (P_fieldAddr_val tok rfl rfl rfl rfl rfl rfl) rfl ?_
                refine AOL.pk (P_load_box (k := 2) (c := .row _ _ _) tok rfl rfl rfl rfl) rfl rfl ?_
                refine AOL.pk (P_load_box_agg (k := 0) (l := [.int .i64 _, .int .i64 _, .int .i64 _, .int .i64 _, .int .i64 _, _, .int .i64 _, .int .i64 _, .int .i64 _, .int .i64 _, .int .i64 _, .str _, _, _, _, _, _]) tok rfl rfl rfl rfl rfl) rfl rfl ?_
                refine AOL.p (P_buildSlice (es := [[.int .i64 _, .int .i64 _, .int .i64 _, .int .i64 _, .int .i64 _, _, .int .i64 _, .int .i64 _, .int .i64 _, .int .i64 _, .int .i64 _, .str _, _, _, _, _, _]]) tok rfl rfl rfl rfl rfl rfl rfl rfl rfl) rfl ?_
                refine AOL.e (E_append (k := 1) tok rfl rfl rfl rfl rfl rfl rfl rfl (sc_one rfl) (hsc) (by simp; omega) (by simp [maxLen]; omega)) rfl ?_
                rintro _ _ ⟨v121, rfl, rfl⟩
                refine AOL.p (P_fieldAddr_val tok rfl rfl rfl rfl rfl rfl) rfl ?_
                refine AOL.e (E_store (k := 2) (v := .row _ _ _) (cs' := [.int .i64 _, .int .i64 _, _, _]) (H2 := _ :: _ :: _ :: _ :: _ :: _) tok rfl rfl rfl rfl rfl rfl rfl rfl rfl) rfl ?_
                rintro _ _ ⟨rfl, rfl⟩
                refine AOL.nil ?_
                refine blkN ?_
                refine thenN ?_
                refine AW.region ?_
                refine AOL.p (P_move (v := .int .i64 _) rfl) rfl ?_
                refine AOL.p (P_add rfl rfl rfl (by constructor <;> omega)) rfl ?_
                refine AOL.p (P_assign (v := .int .i64 _) rfl) rfl ?_
                refine AOL.nil ?_
                refine thenN ?_
                refine ⟨(q.1 + 1, q.2.1 ++ [cEd ({ x with src := numberS (keptA a) x.src } : Ed)], v121), ?_, ?_, GS.weaken ⟨rfl, rfl, rfl, rfl, rfl, trivial⟩ (.cons _ (.refl _))⟩
                · exact ⟨hltx, by simp only; rw [keptEs_take hx, if_pos hyx, List.map_append, hR3.2, ← move_no hc6]; rfl⟩
                · simp only; omega
          · skip
            have hkq : a.edges.length ≤ q.1 := by have := of_decide_eq_false hc4; omega
            have hqe : q.2.1 = (keptEs (keptA a) a.edges).map cEd := by have h := hR3.2; rw [List.take_of_length_le hkq] at h; exact h
            refine AW.exit ?_
            refine thenE ?_
            refine thenE ?_
            refine blkHit ?_
            refine thenN ?_
            refine AW.seq ?_
            refine AW.region ?_
            refine AOL.ghost (GS.cell (H2 := _ :: _ :: _ :: _ :: _) 1 3 rfl rfl rfl rfl unrow_cell) ?_
            refine AOL.pk (P_load_box_agg (k := 1) (l := [.int .i64 _, .int .i64 _, _, _]) tok rfl rfl rfl rfl rfl) rfl rfl ?_
            refine AOL.e (E_store (k := 3) (v := .agg _) (cs' := [.int .i64 _, .int .i64 _, _, _]) (H2 := _ :: _ :: _ :: _ :: _) tok rfl rfl rfl rfl rfl rfl rfl rfl rfl) rfl ?_
            rintro _ _ ⟨rfl, rfl⟩
            refine AOL.p (P_assign (v := .int .i64 _) rfl) rfl ?_
            refine AOL.nil ?_
            refine thenN ?_
            refine AW.ret ?_
            refine ⟨.inr rfl, [.agg [.int .i64 _, .int .i64 _, _, _], .int .i64 _], .cons (.box _ _ _ 3 _ _ _ _ rfl rfl rfl rfl rfl rfl) <| .cons (.tmp _ _ rfl) <| .nil, .cons _ (.cons _ (.cons _ (.cons _ (.refl _)))), ?_⟩
            rw [h9, hpe, hqe]; rfl
set_option maxRecDepth 20000 in
set_option maxHeartbeats 800000 in
theorem a_Reachable (a : Au) (hs : Sm a) : APure Tryz.prog 22 [.agg (cAu a)] (.tuple [.sl 1 ((reachableS a).1.map cI), .int .i64 (reachableS a).2]) := by
  have hsn := hs.n
  have hsm := hs.m
  refine APure.body (n := 13) tok Tryz.func22 rfl rfl rfl fun H => ?_
  refine AW.seq ?_
  refine AW.region ?_
  refine AOL.p (P_box (v := .agg _) (cs := [.int .i64 _, .int .i64 _, _, _]) rfl rfl rfl) rfl ?_
  refine AOL.p (P_assign_nil (z := 1) rfl) rfl ?_
  refine AOL.p (P_assign (v := .int .i64 _) rfl) rfl ?_
  refine AOL.nil ?_
  refine thenN ?_
  refine AW.seq ?_
  refine AW.seq ?_
  refine AW.region ?_
  refine AOL.p (P_load_ptr_agg (l := [.int .i64 _, .int .i64 _, _, _]) tok rfl rfl rfl rfl rfl) rfl ?_
  refine AOL.p (P_callf (by kernel_rfl) rfl rfl (a_Check a hs)) rfl ?_
  refine AOL.p (P_assign (v := .int .i64 _) rfl) rfl ?_
  refine AOL.nil ?_
  refine thenN ?_
  refine AW.seq ?_
  refine AW.region ?_
  refine AOL.p (P_move (v := .int .i64 _) rfl) rfl ?_
  refine AOL.p (P_neq rfl rfl) rfl ?_
  refine AOL.nil ?_
  refine thenN ?_
  refine AW.cond (b := _) rfl (fun hc1 => ?_) (fun hc1 => ?_)
  · skip
    have h9 : reachableS a = ([], checkA a) := by unfold reachableS; rw [if_pos hc1]
    refine AW.seq ?_
    refine AW.region ?_
    refine AOL.p (P_move (v := .int .i64 _) rfl) rfl ?_
    refine AOL.p (P_assign_nil (z := 1) rfl) rfl ?_
    refine AOL.p (P_assign (v := .int .i64 _) rfl) rfl ?_
    refine AOL.nil ?_
    refine thenN ?_
    refine AW.ret ?_
    refine thenR ?_
    refine ⟨.inr rfl, [.sl _ _, .int .i64 _], .cons (.tmp _ _ rfl) <| .cons (.tmp _ _ rfl) <| .nil, .refl _, ?_⟩
    rw [h9]; rfl
  · skip
    have h9 : reachableS a = (numsS (reachA a), 0) := by unfold reachableS; rw [if_neg (by rw [hc1]; decide)]
    have hw : Wf a := check_wf.1 (by simpa using hc1)
    have hE := hw.edr
    have hpos := hw.pos
    refine AW.skip ?_
    refine thenN ?_
    refine AW.seq ?_
    refine AW.region ?_
    refine AOL.p (P_load_ptr_agg (l := [.int .i64 _, .int .i64 _, _, _]) tok rfl rfl rfl rfl rfl) rfl ?_
    refine AOL.p (P_callf (by kernel_rfl) rfl rfl (a_reachable a hpos hsn hsm hE)) rfl ?_
    refine AOL.p (P_callf (by kernel_rfl) rfl rfl (a_numbers _ (by have := hw.most; rw [show (reachA a).length = a.states.length from (reach_ok hw.edr hw.pos).1]; omega))) rfl ?_
    refine AOL.p (P_assign (v := .sl _ _) rfl) rfl ?_
    refine AOL.p (P_assign (v := .int .i64 _) rfl) rfl ?_
    refine AOL.nil ?_
    refine thenN ?_
    refine AW.ret ?_
    refine ⟨.inr rfl, [.sl _ _, .int .i64 _], .cons (.tmp _ _ rfl) <| .cons (.tmp _ _ rfl) <| .nil, .refl _, ?_⟩
    rw [h9]; rfl
set_option maxRecDepth 20000 in
set_option maxHeartbeats 800000 in
theorem a_Useful (a : Au) (hs : Sm a) : APure Tryz.prog 27 [.agg (cAu a)] (.tuple [.sl 1 ((usefulS a).1.map cI), .int .i64 (usefulS a).2]) := by
  have hsn := hs.n
  have hsm := hs.m
  refine APure.body (n := 13) tok Tryz.func27 rfl rfl rfl fun H => ?_
  refine AW.seq ?_
  refine AW.region ?_
  refine AOL.p (P_box (v := .agg _) (cs := [.int .i64 _, .int .i64 _, _, _]) rfl rfl rfl) rfl ?_
  refine AOL.p (P_assign_nil (z := 1) rfl) rfl ?_
  refine AOL.p (P_assign (v := .int .i64 _) rfl) rfl ?_
  refine AOL.nil ?_
  refine thenN ?_
  refine AW.seq ?_
  refine AW.seq ?_
  refine AW.region ?_
  refine AOL.p (P_load_ptr_agg (l := [.int .i64 _, .int .i64 _, _, _]) tok rfl rfl rfl rfl rfl) rfl ?_
  refine AOL.p (P_callf (by kernel_rfl) rfl rfl (a_Check a hs)) rfl ?_
  refine AOL.p (P_assign (v := .int .i64 _) rfl) rfl ?_
  refine AOL.nil ?_
  refine thenN ?_
  refine AW.seq ?_
  refine AW.region ?_
  refine AOL.p (P_move (v := .int .i64 _) rfl) rfl ?_
  refine AOL.p (P_neq rfl rfl) rfl ?_
  refine AOL.nil ?_
  refine thenN ?_
  refine AW.cond (b := _) rfl (fun hc1 => ?_) (fun hc1 => ?_)
  · skip
    have h9 : usefulS a = ([], checkA a) := by unfold usefulS; rw [if_pos hc1]
    refine AW.seq ?_
    refine AW.region ?_
    refine AOL.p (P_move (v := .int .i64 _) rfl) rfl ?_
    refine AOL.p (P_assign_nil (z := 1) rfl) rfl ?_
    refine AOL.p (P_assign (v := .int .i64 _) rfl) rfl ?_
    refine AOL.nil ?_
    refine thenN ?_
    refine AW.ret ?_
    refine thenR ?_
    refine ⟨.inr rfl, [.sl _ _, .int .i64 _], .cons (.tmp _ _ rfl) <| .cons (.tmp _ _ rfl) <| .nil, .refl _, ?_⟩
    rw [h9]; rfl
  · skip
    have h9 : usefulS a = (numsS (usefulA a), 0) := by unfold usefulS; rw [if_neg (by rw [hc1]; decide)]
    have hw : Wf a := check_wf.1 (by simpa using hc1)
    have hE := hw.edr
    have hpos := hw.pos
    refine AW.skip ?_
    refine thenN ?_
    refine AW.seq ?_
    refine AW.region ?_
    refine AOL.p (P_load_ptr_agg (l := [.int .i64 _, .int .i64 _, _, _]) tok rfl rfl rfl rfl rfl) rfl ?_
    refine AOL.p (P_callf (by kernel_rfl) rfl rfl (a_useful a hsn hsm hE)) rfl ?_
    refine AOL.p (P_callf (by kernel_rfl) rfl rfl (a_numbers _ (by have := hw.most; rw [show (usefulA a).length = a.states.length from (useful_ok hw.edr).1]; omega))) rfl ?_
    refine AOL.p (P_assign (v := .sl _ _) rfl) rfl ?_
    refine AOL.p (P_assign (v := .int .i64 _) rfl) rfl ?_
    refine AOL.nil ?_
    refine thenN ?_
    refine AW.ret ?_
    refine ⟨.inr rfl, [.sl _ _, .int .i64 _], .cons (.tmp _ _ rfl) <| .cons (.tmp _ _ rfl) <| .nil, .refl _, ?_⟩
    rw [h9]; rfl
end Go.Proofs.YtoolcpnahmgnnaaGreatDoor
