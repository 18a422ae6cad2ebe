/-
  Walks of layer 23: trimming. No condition.
-/
import Derived.Test.YtoolcpnahmgnnaaDoorW10
import Derived.Test.YtoolcpnahmgnnaaDoorP6
import Derived.KernelRfl
namespace Go.Proofs.YtoolcpnahmgnnaaDoor
open Go Go.Aw
set_option linter.unusedVariables false
set_option linter.unusedSimpArgs false

theorem wl {L : List (Bool × Bool)} {c x : Bool} (h : allG (L ++ [(c, x)])) : c = x := h _ (List.mem_append_right _ (List.mem_singleton.2 rfl))
theorem cB_getD {l : List Bool} {k : Nat} (h : k < l.length) : (l.map cB)[k]? = some [AV.bool (l.getD k false)] := by
  rw [List.getElem?_map, List.getElem?_eq_getElem h, List.getD_eq_getElem?_getD, List.getElem?_eq_getElem h]; rfl
theorem bB_put {l : List Bool} {s : Int} {v : Bool} (h : s.toNat < l.length) : setSeg (bB l) s.toNat [.bool v] = bB (l.set s.toNat v) := setSeg_map (fun x : Bool => AV.bool x) h
theorem numL_cell {kept : List Bool} {n : Nat} {s : Int} (h : InR n s) : (bI (numL kept n n))[s.toNat]? = some (.int .i64 (numberS kept s)) := by
  rw [bI_get (by unfold numL; rw [prg_len]; exact h.2)]
  exact congrArg (fun v => some (AV.int .i64 v)) (numL_at h)
theorem cnt_le (kept : List Bool) (k : Nat) : cnt kept k ≤ k := by
  unfold cnt
  have := List.countP_le_length (p := id) (l := kept.take k)
  rw [List.length_take] at this
  omega
theorem trim_ok {a : Au} (h : (checkA a != 0) = false) : trimS a = (trimBy (keptA a) a, 0) := by unfold trimS; rw [if_neg (by rw [h]; decide)]
theorem trim_no {a : Au} (h : (checkA a != 0) = true) : trimS a = (au0, checkA a) := by unfold trimS; rw [if_pos h]
set_option maxRecDepth 20000 in
set_option maxHeartbeats 3200000 in
theorem a_foundB (H : List HO) (a : Au) (st : List Int) (F : Nat) (hfn : fnB Tryd.prog F = true) (cap : List AV) (nx : Int → List Int) (hn : a.states.length ≤ 1048576) (hnx : ∀ s, InR a.states.length s → ∀ t ∈ nx s, InR a.states.length t) (hcl : ∀ s, InR a.states.length s → APure Tryd.prog F (.int .i64 s :: cap) (.sl 1 ((nx s).map cI))) (hst : ∀ s ∈ st, InR a.states.length s) : ACall Tryd.prog 48 H [.agg (cAu a), .sl 1 (st.map cI), .fn (.func F) [] cap] (fun r H' => ∃ b, r = .val (.slice (some ⟨b, 0, none⟩) a.states.length a.states.length) ∧ H' = .box b 4 (bB (foundS a.states.length st nx)) :: H) := by
  have hmx : 1048576 ≤ maxLen := by decide
  refine ACall.body (n := 27) tok Tryd.func48 rfl rfl rfl ?_
  refine AW.seq ?_
  refine AW.region ?_
  refine AOL.p (P_box (v := .agg _) (cs := [.int .i64 _, .int .i64 _, _, _]) rfl rfl rfl) rfl ?_
  refine AOL.p (P_box (v := .fn _ _ _) (cs := [_]) rfl rfl rfl) rfl ?_
  refine AOL.p (P_assign_nil (z := 1) rfl) rfl ?_
  refine AOL.nil ?_
  refine thenN ?_
  refine AW.seq ?_
  refine AW.region ?_
  refine AOL.p (P_fieldAddr_ptr (cs' := [_, _]) tok rfl rfl rfl rfl rfl rfl) rfl ?_
  refine AOL.p (P_load_ptr (c := .sl _ _) tok rfl rfl rfl) rfl ?_
  refine AOL.p (P_len_sl (n := a.states.length) tok rfl rfl rfl (by simp)) rfl ?_
  refine AOL.e (E_makeSlice (n := a.states.length) tok rfl rfl rfl rfl rfl rfl rfl (by show 1 * a.states.length ≤ _; omega) (by omega)) rfl ?_
  rintro _ _ ⟨b14, rfl, rfl⟩
  refine AOL.e (E_alloc (l := [.sl 1 []]) (by kernel_rfl)) rfl ?_
  rintro _ _ ⟨b7, rfl, rfl⟩
  refine AOL.e (E_store (k := 0) (v := .val _) (cs' := [_]) (H2 := _ :: _ :: _) tok rfl rfl rfl rfl rfl rfl rfl rfl rfl) rfl ?_
  rintro _ _ ⟨rfl, rfl⟩
  refine AOL.ghost (GS.freeze (t := 7) 0 rfl rfl) ?_
  refine AOL.ghost (GS.cells 0 rfl (bB_zero a.states.length)) ?_
  refine AOL.nil ?_
  refine thenN ?_
  refine AW.seq ?_
  refine AW.region ?_
  refine AOL.e (E_alloc (l := [.val .nilFunc]) (by kernel_rfl)) rfl ?_
  rintro _ _ ⟨b8, rfl, rfl⟩
  refine AOL.nil ?_
  refine thenN ?_
  refine AW.seq ?_
  refine AW.region ?_
  refine AOL.p (P_makeFunc (l := []) (l' := [.ptr _, .ptr _, .val _]) rfl rfl) rfl ?_
  refine AOL.e (E_store (k := 0) (v := .fn _ _ _) (cs' := [_]) (H2 := _ :: _ :: _) tok rfl rfl rfl rfl rfl rfl rfl rfl rfl) rfl ?_
  rintro _ _ ⟨rfl, rfl⟩
  refine AOL.nil ?_
  refine thenN ?_
  refine AW.seq ?_
  refine AW.seq ?_
  refine AW.region ?_
  refine AOL.p (P_move (v := .sl _ _) rfl) rfl ?_
  refine AOL.p (P_len_sl (n := st.length) tok rfl rfl rfl (by simp)) rfl ?_
  refine AOL.p (P_move (v := .int .i64 _) rfl) rfl ?_
  refine AOL.nil ?_
  refine thenN ?_
  refine AW.block ?_
  refine AW.sllen 16 rfl fun hlen => ?_
  simp only [List.length_map, maxLen] at hlen
  refine AW.loopS (fun (q : Nat × List Bool) => (⟨[(7, .ptr [.val (.slice (some ⟨b14, 0, none⟩) a.states.length a.states.length)]), (8, .val (.pointer (some ⟨b8, 0, none⟩))), (16, .sl 1 (st.map cI)), (17, .int .i64 st.length), (18, .int .i64 (q.1 : Int))], .box b8 124 [.fn (.func 69) [] [.ptr [.val (.slice (some ⟨b14, 0, none⟩) a.states.length a.states.length)], .ptr [.fn (.func F) [] cap], .val (.pointer (some ⟨b8, 0, none⟩))]] :: .box b14 4 (bB q.2) :: H, 27⟩ : St)) (fun (q : Nat × List Bool) => q.1 ≤ st.length ∧ q.2.length = a.states.length ∧ (foundS a.states.length st nx) = (st.drop q.1).foldl (visitD nx (a.states.length + 1)) q.2) (fun (q : Nat × List Bool) => st.length - q.1) ((0, List.replicate a.states.length false)) ?_ (GS.weaken ⟨rfl, rfl, rfl, rfl, rfl, trivial⟩ (.refl _)) ?_
  · exact ⟨Nat.zero_le _, List.length_replicate .., rfl⟩
  · rintro q hR
    refine AW.seq ?_
    refine AW.region ?_
    refine AOL.p (P_lss rfl rfl) rfl ?_
    refine AOL.nil ?_
    refine thenN ?_
    refine AW.seq ?_
    refine AW.cond (b := _) rfl (fun hc1 => ?_) (fun hc1 => ?_)
    · skip
      obtain ⟨x, hx⟩ := get_lt2 (l := st) (k := q.1) (by have := of_decide_eq_true hc1; omega)
      have hltx := get_lt' hx
      have hmx := List.mem_of_getElem? hx
      have hg := hR.2.2
      rw [drop_cons hx, List.foldl_cons] at hg
      have hv := visit_ok hnx (a.states.length + 1) q.2 x hR.2.1 (hst x hmx) (by have := unseen_bound q.2; rw [hR.2.1] at this; omega)
      refine AW.skip ?_
      refine thenN ?_
      refine AW.seq ?_
      refine AW.block ?_
      refine AW.seq ?_
      refine AW.region ?_
      refine AOL.p (P_indexAddr (c := [.int .i64 _]) tok rfl rfl rfl rfl rfl rfl (by omega) (cI_at hx)) rfl ?_
      refine AOL.p (P_load_ptr (c := .int .i64 _) tok rfl rfl rfl) rfl ?_
      refine AOL.p (P_assign (v := .int .i64 _) rfl) rfl ?_
      refine AOL.nil ?_
      refine thenN ?_
      refine AW.region ?_
      refine AOL.pk (P_load_box (k := 0) (c := .fn _ _ _) tok rfl rfl rfl rfl) rfl rfl ?_
      refine AOL.p (P_move (v := .int .i64 _) rfl) rfl ?_
      refine AOL.e (E_call (by kernel_rfl) rfl rfl rfl (a_found_1 F hfn cap nx a.states.length hn hnx hcl b8 b14 H (a.states.length + 1) q.2 x hR.2.1 (hst x hmx) (by have := unseen_bound q.2; rw [hR.2.1] at this; omega))) rfl ?_
      rintro _ _ ⟨rfl, rfl⟩
      refine AOL.nil ?_
      refine blkN ?_
      refine thenN ?_
      refine AW.region ?_
      refine AOL.p (P_add rfl rfl rfl (by constructor <;> omega)) rfl ?_
      refine AOL.p (P_move (v := .int .i64 _) rfl) rfl ?_
      refine AOL.nil ?_
      refine thenN ?_
      refine ⟨(q.1 + 1, visitD nx (a.states.length + 1) q.2 x), ?_, ?_, GS.weaken ⟨rfl, rfl, rfl, rfl, rfl, trivial⟩ (.refl _)⟩
      · exact ⟨hltx, by rw [← hv.1.1]; exact hR.2.1, hg⟩
      · simp only; omega
    · skip
      have hk : st.length ≤ q.1 := by have := of_decide_eq_false hc1; omega
      have hg := hR.2.2
      rw [List.drop_eq_nil_of_le hk] at hg
      have hlp := hR.2.1
      refine AW.exit ?_
      refine thenE ?_
      refine thenE ?_
      refine blkHit ?_
      refine thenN ?_
      refine AW.seq ?_
      refine AW.region ?_
      refine AOL.p (P_load_ptr (c := .val _) tok rfl rfl rfl) rfl ?_
      refine AOL.p (P_assign (v := .val _) rfl) rfl ?_
      refine AOL.nil ?_
      refine thenN ?_
      refine AW.ret ?_
      refine ⟨.inr rfl, [.val _], .cons (.tmp _ _ rfl) <| .nil, _, .cons _ (.refl _), ?_⟩
      exact ⟨b14, rfl, congrArg (fun l => HO.box b14 4 (bB l) :: H) hg.symm⟩
set_option maxRecDepth 20000 in
set_option maxHeartbeats 400000 in
theorem a_reachableB (H : List HO) (a : Au) (h0 : 0 < a.states.length) (hn : a.states.length ≤ 1048576) (hm : a.edges.length ≤ 1048576) (hE : EdR a.states.length a.edges) : ACall Tryd.prog 21 H [.agg (cAu a)] (fun r H' => ∃ b, r = .val (.slice (some ⟨b, 0, none⟩) a.states.length a.states.length) ∧ H' = .box b 4 (bB (reachA a)) :: H) := by
  refine ACall.body (n := 7) tok Tryd.func21 rfl rfl rfl ?_
  refine AW.seq ?_
  refine AW.region ?_
  refine AOL.p (P_box (v := .agg _) (cs := [.int .i64 _, .int .i64 _, _, _]) rfl rfl rfl) rfl ?_
  refine AOL.p (P_assign_nil (z := 1) rfl) rfl ?_
  refine AOL.nil ?_
  refine thenN ?_
  refine AW.seq ?_
  refine AW.region ?_
  refine AOL.p (P_load_ptr_agg (l := [.int .i64 _, .int .i64 _, _, _]) tok rfl rfl rfl rfl rfl) rfl ?_
  refine AOL.p (P_buildSlice (es := [[.int .i64 _]]) tok rfl rfl rfl rfl rfl rfl rfl rfl rfl) rfl ?_
  refine AOL.p (P_makeFunc (l := []) (l' := [.ptr _]) rfl rfl) rfl ?_
  refine AOL.e (E_callf (by kernel_rfl) rfl rfl (a_foundB _ a [0] 49 (by kernel_rfl) [.ptr (cAu a)] (fun s => nextF a.edges s) hn (fun s _ => nextF_in hE s) (fun s _ => a_reachable_1 a s hm) (fun s hs => by rw [List.mem_singleton.1 hs]; exact ⟨Int.le_refl _, h0⟩))) rfl ?_
  rintro _ _ ⟨b6, rfl, rfl⟩
  refine AOL.p (P_assign (v := .val _) rfl) rfl ?_
  refine AOL.nil ?_
  refine thenN ?_
  refine AW.ret ?_
  refine ⟨.inr rfl, [.val _], .cons (.tmp _ _ rfl) <| .nil, _, .refl _, ?_⟩
  exact ⟨b6, rfl, rfl⟩
set_option maxRecDepth 20000 in
set_option maxHeartbeats 6400000 in
theorem a_Trim (a : Au) (hs : Sm a) : APure Tryd.prog 7 [.agg (cAu a)] (.tuple [.agg (cAu (trimS a).1), .int .i64 (trimS a).2]) := by
  have hmx : 1048576 ≤ maxLen := by decide
  refine APure.body (n := 131) tok Tryd.func7 rfl rfl rfl fun H => ?_
  refine AW.seq ?_
  refine AW.region ?_
  refine AOL.p (P_box (v := .agg _) (cs := [.int .i64 _, .int .i64 _, _, _]) rfl rfl rfl) rfl ?_
  refine AOL.e (E_alloc (l := [.int .i64 0, .int .i64 0, .sl 1 [], .sl 17 []]) (by kernel_rfl)) rfl ?_
  rintro _ _ ⟨b2, rfl, rfl⟩
  refine AOL.p (P_assign (v := .int .i64 _) rfl) rfl ?_
  refine AOL.nil ?_
  refine thenN ?_
  refine AW.seq ?_
  refine AW.seq ?_
  refine AW.region ?_
  refine AOL.p (P_load_ptr_agg (l := [.int .i64 _, .int .i64 _, _, _]) tok rfl rfl rfl rfl rfl) rfl ?_
  refine AOL.p (P_callf (by kernel_rfl) rfl rfl (a_Check a hs)) rfl ?_
  refine AOL.p (P_assign (v := .int .i64 _) rfl) rfl ?_
  refine AOL.nil ?_
  refine thenN ?_
  refine AW.seq ?_
  refine AW.region ?_
  refine AOL.p (P_move (v := .int .i64 _) rfl) rfl ?_
  refine AOL.p (P_neq rfl rfl) rfl ?_
  refine AOL.nil ?_
  refine thenN ?_
  refine AW.cond (b := _) rfl (fun hc1 => ?_) (fun hc1 => ?_)
  · skip
    have h9 := trim_no hc1
    refine AW.seq ?_
    refine AW.region ?_
    refine AOL.p (P_build (l := [.int .i64 _, .int .i64 _, _, _]) tok rfl rfl rfl) rfl ?_
    refine AOL.p (P_move (v := .int .i64 _) rfl) rfl ?_
    refine AOL.e (E_store (k := 0) (v := .agg _) (cs' := [.int .i64 _, .int .i64 _, _, _]) (H2 := _ :: _) tok rfl rfl rfl rfl rfl rfl rfl rfl rfl) rfl ?_
    rintro _ _ ⟨rfl, rfl⟩
    refine AOL.p (P_assign (v := .int .i64 _) rfl) rfl ?_
    refine AOL.nil ?_
    refine thenN ?_
    refine AW.ret ?_
    refine thenR ?_
    refine ⟨.inr rfl, [.agg [.int .i64 _, .int .i64 _, _, _], .int .i64 _], .cons (.box _ _ _ 0 _ _ _ _ rfl rfl rfl rfl rfl rfl) <| .cons (.tmp _ _ rfl) <| .nil, .cons _ (.refl _), ?_⟩
    rw [h9]; rfl
  · skip
    have hw : Wf a := check_wf.1 (by simpa using hc1)
    have h9 := trim_ok hc1
    have hE := hw.edr
    have hpos := hw.pos
    have hkl : (keptA a).length = a.states.length := kept_len hw
    have hlr : (reachA a).length = a.states.length := (reach_ok hE hpos).1
    have hlu : (usefulA a).length = a.states.length := (useful_ok hE).1
    have hsn := hs.n
    have hsm := hs.m
    have hm0 : reachA a = (prg a.states.length (fun i => (reachA a).getD i false && (usefulA a).getD i false) (fun i => (reachA a).getD i false) 0) := by rw [prg_start]; exact (range_getD false hlr).symm
    refine AW.skip ?_
    refine thenN ?_
    refine AW.seq ?_
    refine AW.region ?_
    refine AOL.p (P_load_ptr_agg (l := [.int .i64 _, .int .i64 _, _, _]) tok rfl rfl rfl rfl rfl) rfl ?_
    refine AOL.e (E_callf (by kernel_rfl) rfl rfl (a_reachableB _ a hpos hsn hsm hE)) rfl ?_
    rintro _ _ ⟨b21, rfl, rfl⟩
    refine AOL.p (P_assign (v := .val _) rfl) rfl ?_
    refine AOL.ghost (GS.cellsTo (H2 := _ :: _ :: _) 0 rfl (congrArg bB hm0) rfl) ?_
    refine AOL.nil ?_
    refine thenN ?_
    refine AW.seq ?_
    refine AW.seq ?_
    refine AW.region ?_
    refine AOL.p (P_load_ptr_agg (l := [.int .i64 _, .int .i64 _, _, _]) tok rfl rfl rfl rfl rfl) rfl ?_
    refine AOL.p (P_callf (by kernel_rfl) rfl rfl (a_useful a hsn hsm hE)) rfl ?_
    refine AOL.p (P_len_sl (n := a.states.length) tok rfl rfl rfl (by rw [List.length_map]; exact hlu)) rfl ?_
    refine AOL.p (P_move (v := .int .i64 _) rfl) rfl ?_
    refine AOL.nil ?_
    refine thenN ?_
    refine AW.block ?_
    refine AW.loopS (fun (k : Nat) => (⟨[(1, .ptr (cAu a)), (2, .val (.pointer (some ⟨b2, 0, none⟩))), (5, .val (.slice (some ⟨b21, 0, none⟩) a.states.length a.states.length)), (23, .sl 1 ((usefulA a).map cB)), (24, .int .i64 a.states.length), (25, .int .i64 (k : Int))], .box b21 4 (bB (prg a.states.length (fun i => (reachA a).getD i false && (usefulA a).getD i false) (fun i => (reachA a).getD i false) k)) :: .box b2 25 [.int .i64 0, .int .i64 0, .sl 1 [], .sl 17 []] :: H, 131⟩ : St)) (fun (k : Nat) => k ≤ a.states.length) (fun (k : Nat) => a.states.length - k) (0) ?_ (GS.weaken ⟨rfl, rfl, rfl, rfl, rfl, rfl, trivial⟩ (.refl _)) ?_
    · exact Nat.zero_le _
    · rintro k hR
      refine AW.seq ?_
      refine AW.region ?_
      refine AOL.p (P_lss rfl rfl) rfl ?_
      refine AOL.nil ?_
      refine thenN ?_
      refine AW.seq ?_
      refine AW.cond (b := _) rfl (fun hc2 => ?_) (fun hc2 => ?_)
      · skip
        have hlt : k < a.states.length := by have := of_decide_eq_true hc2; omega
        refine AW.skip ?_
        refine thenN ?_
        refine AW.seq ?_
        refine AW.block ?_
        refine AW.seq ?_
        refine AW.region ?_
        refine AOL.p (P_move (v := .int .i64 _) rfl) rfl ?_
        refine AOL.p (P_indexAddr (c := [.bool _]) tok rfl rfl rfl rfl rfl rfl (by omega) (cB_getD (by omega))) rfl ?_
        refine AOL.p (P_load_ptr (c := .bool _) tok rfl rfl rfl) rfl ?_
        refine AOL.p (P_assign (v := .int .i64 _) rfl) rfl ?_
        refine AOL.p (P_assign (v := .bool _) rfl) rfl ?_
        refine AOL.nil ?_
        refine thenN ?_
        refine AW.region ?_
        refine AOL.p (P_move (v := .val _) rfl) rfl ?_
        refine AOL.p (P_move (v := .int .i64 _) rfl) rfl ?_
        refine AOL.p (P_move (v := .val _) rfl) rfl ?_
        refine AOL.p (P_move (v := .int .i64 _) rfl) rfl ?_
        refine AOL.p (P_indexAddr_val tok rfl rfl rfl rfl rfl (by omega) (by omega) (off1 _)) rfl ?_
        refine AOL.pk (P_load_box (k := 0) (c := .bool ((reachA a).getD k false)) tok rfl rfl rfl ((bB_get (by rw [prg_len]; exact hlt)).trans (congrArg (fun v => some (AV.bool v)) (prg_get false hlt)))) rfl rfl ?_
        refine AOL.p (P_move (v := .bool _) rfl) rfl ?_
        refine AOL.g (y := .bool _) _ [] rfl (EntL.all trivial) (fun hG => P_move (v := .bool _) rfl) rfl ?_
        refine AOL.p (P_pick_and rfl rfl rfl) rfl ?_
        refine AOL.p (P_indexAddr_val tok rfl rfl rfl rfl rfl (by omega) (by omega) (off1 _)) rfl ?_
        refine AOL.e (E_store (k := 0) (v := .bool _) (cs' := bB (prg a.states.length (fun i => (reachA a).getD i false && (usefulA a).getD i false) (fun i => (reachA a).getD i false) (k + 1))) (H2 := _ :: _ :: _) tok rfl rfl rfl rfl rfl rfl (by rw [bB_len, prg_len]; exact Nat.ble_eq_true_of_le (by show k + 1 ≤ _; omega)) ((bB_put (s := (k : Int)) (by rw [prg_len]; exact hlt)).trans (congrArg bB (prg_set hlt))) rfl) rfl ?_
        rintro _ _ ⟨rfl, rfl⟩
        refine AOL.nil ?_
        refine blkN ?_
        refine thenN ?_
        refine AW.region ?_
        refine AOL.p (P_add rfl rfl rfl (by constructor <;> omega)) rfl ?_
        refine AOL.p (P_move (v := .int .i64 _) rfl) rfl ?_
        refine AOL.nil ?_
        refine thenN ?_
        refine ⟨k + 1, ?_, ?_, GS.weaken ⟨rfl, rfl, rfl, rfl, rfl, rfl, trivial⟩ (.refl _)⟩
        · omega
        · omega
      · skip
        have hkn : k = a.states.length := by have := of_decide_eq_false hc2; omega
        refine AW.ghost (GS.cellsTo (H2 := _ :: _ :: _) 0 rfl (congrArg (fun k => bB (prg a.states.length (fun i => (reachA a).getD i false && (usefulA a).getD i false) (fun i => (reachA a).getD i false) k)) hkn) rfl) ?_
        refine AW.exit ?_
        refine thenE ?_
        refine thenE ?_
        refine blkHit ?_
        refine thenN ?_
        refine AW.seq ?_
        refine AW.region ?_
        refine AOL.p (P_move (v := .val _) rfl) rfl ?_
        refine AOL.p (P_indexAddr_val tok rfl rfl rfl rfl rfl (by decide) (by omega) (off1 _)) rfl ?_
        refine AOL.e (E_store (k := 0) (v := .bool _) (cs' := bB (keptA a)) (H2 := _ :: _ :: _) tok rfl rfl rfl rfl rfl rfl (by rw [bB_len, prg_len]; exact Nat.ble_eq_true_of_le (by show 0 + 1 ≤ _; omega)) ((bB_mark (by rw [prg_len]; exact hpos)).trans (congrArg bB (mrg_end hlr hlu))) rfl) rfl ?_
        rintro _ _ ⟨rfl, rfl⟩
        refine AOL.nil ?_
        refine thenN ?_
        refine AW.seq ?_
        refine AW.region ?_
        refine AOL.p (P_fieldAddr_ptr (cs' := [.int .i64 _, .int .i64 _, _, _]) tok rfl rfl rfl rfl rfl rfl) rfl ?_
        refine AOL.p (P_load_ptr (c := .int .i64 _) tok rfl rfl rfl) rfl ?_
        refine AOL.p (P_fieldAddr_ptr (cs' := [.int .i64 _, _, _]) tok rfl rfl rfl rfl rfl rfl) rfl ?_
        refine AOL.p (P_load_ptr (c := .int .i64 _) tok rfl rfl rfl) rfl ?_
        refine AOL.p (P_buildZ (l0 := [.int .i64 0, .int .i64 0, .val (.slice none 0 0), .val (.slice none 0 0)]) (l := [.int .i64 _, .int .i64 _, _, _]) tok rfl rfl (by kernel_rfl) rfl) rfl ?_
        refine AOL.e (E_alloc (l := [.int .i64 0, .int .i64 0, .sl 1 [], .sl 17 []]) (by kernel_rfl)) rfl ?_
        rintro _ _ ⟨b8, rfl, rfl⟩
        refine AOL.e (E_store (k := 0) (v := .agg _) (cs' := [.int .i64 _, .int .i64 _, _, _]) (H2 := _ :: _ :: _ :: _) tok rfl rfl rfl rfl rfl rfl rfl rfl rfl) rfl ?_
        rintro _ _ ⟨rfl, rfl⟩
        refine AOL.ghost (GS.cellRow 0 2 39 1 rfl rfl rfl rfl) ?_
        refine AOL.ghost (GS.cellRow 1 3 48 17 rfl rfl rfl rfl) ?_
        refine AOL.nil ?_
        refine thenN ?_
        refine AW.seq ?_
        refine AW.region ?_
        refine AOL.p (P_fieldAddr_ptr (cs' := [_, _]) tok rfl rfl rfl rfl rfl rfl) rfl ?_
        refine AOL.p (P_load_ptr (c := .sl _ _) tok rfl rfl rfl) rfl ?_
        refine AOL.p (P_len_sl (n := a.states.length) tok rfl rfl rfl (by simp)) rfl ?_
        refine AOL.e (E_makeSlice (n := a.states.length) tok rfl rfl rfl rfl rfl rfl rfl (by show 8 * a.states.length ≤ _; omega) (by omega)) rfl ?_
        rintro _ _ ⟨b51, rfl, rfl⟩
        refine AOL.p (P_assign (v := .val _) rfl) rfl ?_
        refine AOL.ghost (GS.cells 0 rfl ((bI_zero a.states.length).trans (congrArg bI (prg_replicate a.states.length (fun i => (cnt (keptA a) i : Int)) (0 : Int)).symm))) ?_
        refine AOL.nil ?_
        refine thenN ?_
        refine AW.seq ?_
        refine AW.seq ?_
        refine AW.region ?_
        refine AOL.p (P_fieldAddr_ptr (cs' := [_, _]) tok rfl rfl rfl rfl rfl rfl) rfl ?_
        refine AOL.p (P_load_ptr (c := .sl _ _) tok rfl rfl rfl) rfl ?_
        refine AOL.p (P_len_sl (n := a.states.length) tok rfl rfl rfl (by simp)) rfl ?_
        refine AOL.p (P_move (v := .int .i64 _) rfl) rfl ?_
        refine AOL.nil ?_
        refine thenN ?_
        refine AW.block ?_
        refine AW.loopS (fun (p : Nat × List (List AV) × Value) => (⟨[(1, .ptr (cAu a)), (2, .val (.pointer (some ⟨b2, 0, none⟩))), (5, .val (.slice (some ⟨b21, 0, none⟩) a.states.length a.states.length)), (8, .val (.pointer (some ⟨b8, 0, none⟩))), (9, .val (.slice (some ⟨b51, 0, none⟩) a.states.length a.states.length)), (53, .sl 1 (a.states.map cSt)), (54, .int .i64 a.states.length), (55, .int .i64 (p.1 : Int))], .box b51 3 (bI (numL (keptA a) a.states.length p.1)) :: .row (.slice none 0 0) 0 48 17 :: .row p.2.2 p.2.1.length 39 1 :: .box b8 25 [.int .i64 a.vars, .int .i64 a.scopes, .row p.2.2 1 p.2.1, .row (.slice none 0 0) 17 []] :: .box b21 4 (bB (keptA a)) :: .box b2 25 [.int .i64 0, .int .i64 0, .sl 1 [], .sl 17 []] :: H, 131⟩ : St)) (fun (p : Nat × List (List AV) × Value) => p.1 ≤ a.states.length ∧ p.2.1 = (keepStates ((keptA a).take p.1) (a.states.take p.1)).map cSt) (fun (p : Nat × List (List AV) × Value) => a.states.length - p.1) ((0, [], .slice none 0 0)) ?_ (GS.weaken ⟨rfl, rfl, rfl, rfl, rfl, rfl, rfl, rfl, trivial⟩ (.refl _)) ?_
        · exact ⟨Nat.zero_le _, by simp [keepStates]⟩
        · rintro p hR2
          have hsc : ∀ c ∈ p.2.1, scalars c = true := by rw [hR2.2]; exact sc_map fun _ => rfl
          have hel : p.2.1.length = cnt (keptA a) p.1 := by rw [hR2.2, List.length_map]; exact keep_cnt hkl _
          have hcl := cnt_le (keptA a) p.1
          refine AW.seq ?_
          refine AW.region ?_
          refine AOL.p (P_lss rfl rfl) rfl ?_
          refine AOL.nil ?_
          refine thenN ?_
          refine AW.seq ?_
          refine AW.cond (b := _) rfl (fun hc3 => ?_) (fun hc3 => ?_)
          · skip
            obtain ⟨x, hx⟩ := get_lt2 (l := a.states) (k := p.1) (by have := of_decide_eq_true hc3; omega)
            have hltx := get_lt' hx
            have hmx := List.mem_of_getElem? hx
            have hgs := hs.g x hmx
            refine AW.skip ?_
            refine thenN ?_
            refine AW.seq ?_
            refine AW.block ?_
            refine AW.seq ?_
            refine AW.region ?_
            refine AOL.p (P_move (v := .int .i64 _) rfl) rfl ?_
            refine AOL.p (P_indexAddr (c := [_]) tok rfl rfl rfl rfl rfl rfl (by omega) (cSt_at hx)) rfl ?_
            refine AOL.p (P_load_ptr_agg (l := [_]) tok rfl rfl rfl rfl rfl) rfl ?_
            refine AOL.e (E_alloc (l := [.sl 11 []]) (by kernel_rfl)) rfl ?_
            rintro _ _ ⟨b11, rfl, rfl⟩
            refine AOL.p (P_assign (v := .int .i64 _) rfl) rfl ?_
            refine AOL.e (E_store (k := 0) (v := .agg _) (cs' := [_]) (H2 := _ :: _ :: _ :: _ :: _ :: _ :: _ :: _) tok rfl rfl rfl rfl rfl rfl rfl rfl rfl) rfl ?_
            rintro _ _ ⟨rfl, rfl⟩
            refine AOL.ghost (GS.freeze (t := 11) 0 rfl rfl) ?_
            refine AOL.nil ?_
            refine thenN ?_
            refine AW.seq ?_
            refine AW.region ?_
            refine AOL.p (P_move (v := .val _) rfl) rfl ?_
            refine AOL.p (P_move (v := .int .i64 _) rfl) rfl ?_
            refine AOL.p (P_fieldAddr_val tok rfl rfl rfl rfl rfl rfl) rfl ?_
            refine AOL.pk (P_load_box (k := 3) (c := .row _ _ _) tok rfl rfl rfl rfl) rfl rfl ?_
            refine AOL.p (P_len_row (n := cnt (keptA a) p.1) tok rfl rfl rfl (hel)) rfl ?_
            refine AOL.p (P_indexAddr_val tok rfl rfl rfl rfl rfl (by omega) (by omega) (off1 _)) rfl ?_
            refine AOL.e (E_store (k := 0) (v := .int .i64 _) (cs' := bI (numL (keptA a) a.states.length (p.1 + 1))) (H2 := _ :: _ :: _ :: _ :: _ :: _ :: _) tok rfl rfl rfl rfl rfl rfl (by rw [bI_len]; (first | rw [numL_len] | rw [prg_len]); exact Nat.ble_eq_true_of_le (by show p.1 + 1 ≤ _; omega)) ((bI_put (s := (p.1 : Int)) (by (first | rw [numL_len] | rw [prg_len]); exact hltx)).trans (congrArg bI (prg_set hltx))) rfl) rfl ?_
            rintro _ _ ⟨rfl, rfl⟩
            refine AOL.nil ?_
            refine thenN ?_
            refine AW.seq ?_
            refine AW.region ?_
            refine AOL.p (P_move (v := .val _) rfl) rfl ?_
            refine AOL.p (P_move (v := .int .i64 _) rfl) rfl ?_
            refine AOL.p (P_indexAddr_val tok rfl rfl rfl rfl rfl (by omega) (by omega) (off1 _)) rfl ?_
            refine AOL.pk (P_load_box (k := 4) (c := .bool ((keptA a).getD p.1 false)) tok rfl rfl rfl (bB_get (by omega))) rfl rfl ?_
            refine AOL.nil ?_
            refine thenN ?_
            refine AW.cond (b := _) rfl (fun hc4 => ?_) (fun hc4 => ?_)
            · skip
              refine AW.draw mixed (fun H' => _ ∈ H') (List.mem_of_getElem? (i := 3) rfl) (by kernel_rfl) ?_
              refine Canon.pure _ _ 0 _ _ rfl (by kernel_rfl) (by kernel_rfl) rfl (.run rfl (P_fieldAddr_val tok rfl rfl rfl rfl rfl rfl)) ?_
              refine Canon.pure _ _ 1 _ _ rfl (by kernel_rfl) (by kernel_rfl) rfl (.run rfl (OpP.mem (fun k => P_load_box (k := k) (c := .row _ _ _) tok rfl rfl rfl rfl) (fun _ h => h))) ?_
              refine Canon.pure _ _ 2 _ _ rfl (by kernel_rfl) (by kernel_rfl) rfl (.run rfl (P_fieldAddr_ptr (cs' := [_]) tok rfl rfl rfl rfl rfl rfl)) ?_
              refine Canon.pure _ _ 3 _ _ rfl (by kernel_rfl) (by kernel_rfl) rfl (.run rfl (P_load_ptr (c := .sl _ _) tok rfl rfl rfl)) ?_
              refine Canon.pure _ _ 4 _ _ rfl (by kernel_rfl) (by kernel_rfl) rfl (.run rfl (P_callf (by kernel_rfl) rfl rfl (a_ownGuards x hgs.1 hgs.2))) ?_
              refine Canon.pure _ _ 5 _ _ rfl (by kernel_rfl) (by kernel_rfl) rfl (.run rfl (P_build (l := [_]) tok rfl rfl rfl)) ?_
              refine Canon.pure _ _ 6 _ _ rfl (by kernel_rfl) (by kernel_rfl) rfl (.run rfl (P_buildSlice (es := [[_]]) tok rfl rfl rfl rfl rfl rfl rfl rfl rfl)) ?_
              refine Canon.eff _ _ 7 _ _ rfl (by kernel_rfl) rfl rfl (E_append (k := 2) tok rfl rfl rfl rfl rfl rfl rfl rfl (sc_one rfl) (hsc) (by simp; omega) (by simp [maxLen]; omega)) (by rintro _ _ ⟨v77, rfl, rfl⟩; simp) ?_
              rintro _ _ ⟨v77, rfl, rfl⟩
              refine Canon.pure _ _ 8 _ _ rfl (by kernel_rfl) (by kernel_rfl) rfl (.run rfl (P_fieldAddr_val tok rfl rfl rfl rfl rfl rfl)) ?_
              refine Canon.last _ _ 9 _ _ rfl (by kernel_rfl) rfl rfl (E_store (k := 3) (v := .row _ _ _) (cs' := [.int .i64 _, .int .i64 _, _, _]) (H2 := _ :: _ :: _ :: _ :: _ :: _ :: _) tok rfl rfl rfl rfl rfl rfl rfl rfl rfl) (by kernel_rfl) ?_
              rintro _ _ ⟨rfl, rfl⟩
              refine blkN ?_
              refine thenN ?_
              refine AW.region ?_
              refine AOL.p (P_add rfl rfl rfl (by constructor <;> omega)) rfl ?_
              refine AOL.p (P_move (v := .int .i64 _) rfl) rfl ?_
              refine AOL.nil ?_
              refine thenN ?_
              refine ⟨(p.1 + 1, p.2.1 ++ [cSt x], v77), ?_, ?_, GS.weaken ⟨rfl, rfl, rfl, rfl, rfl, rfl, rfl, rfl, trivial⟩ (.refl _)⟩
              · exact ⟨hltx, by simp only; rw [keepStates_take _ _ _ x hkl hx, if_pos hc4, List.map_append, hR2.2]; rfl⟩
              · simp only; omega
            · skip
              refine AW.skip ?_
              refine blkN ?_
              refine thenN ?_
              refine AW.region ?_
              refine AOL.p (P_add rfl rfl rfl (by constructor <;> omega)) rfl ?_
              refine AOL.p (P_move (v := .int .i64 _) rfl) rfl ?_
              refine AOL.nil ?_
              refine thenN ?_
              refine ⟨(p.1 + 1, p.2.1, p.2.2), ?_, ?_, GS.weaken ⟨rfl, rfl, rfl, rfl, rfl, rfl, rfl, rfl, trivial⟩ (.refl _)⟩
              · exact ⟨hltx, by simp only; rw [keepStates_take _ _ _ x hkl hx, if_neg (by rw [hc4]; decide), List.append_nil, hR2.2]⟩
              · simp only; omega
          · skip
            have hpn : p.1 = a.states.length := by have := of_decide_eq_false hc3; have := hR2.1; omega
            have hpe : p.2.1 = (keepStates (keptA a) a.states).map cSt := by have h := hR2.2; rw [keep_whole hkl (by omega)] at h; exact h
            refine AW.ghost (GS.cellsTo (H2 := _ :: _ :: _ :: _ :: _ :: _ :: _) 0 rfl (congrArg (fun k => bI (numL (keptA a) a.states.length k)) hpn) rfl) ?_
            refine AW.exit ?_
            refine thenE ?_
            refine thenE ?_
            refine blkHit ?_
            refine thenN ?_
            refine AW.seq ?_
            refine AW.seq ?_
            refine AW.region ?_
            refine AOL.ghost (GS.cell (H2 := _ :: _ :: _ :: _ :: _ :: _ :: _) 3 2 rfl rfl rfl rfl unrow_cell) ?_
            refine AOL.p (P_fieldAddr_ptr (cs' := [_]) tok rfl rfl rfl rfl rfl rfl) rfl ?_
            refine AOL.p (P_load_ptr (c := .sl _ _) tok rfl rfl rfl) rfl ?_
            refine AOL.p (P_len_sl (n := a.edges.length) tok rfl rfl rfl (by simp)) rfl ?_
            refine AOL.p (P_move (v := .int .i64 _) rfl) rfl ?_
            refine AOL.nil ?_
            refine thenN ?_
            refine AW.block ?_
            refine AW.loopS (fun (q : Nat × List (List AV) × Value) => (⟨[(2, .val (.pointer (some ⟨b2, 0, none⟩))), (5, .val (.slice (some ⟨b21, 0, none⟩) a.states.length a.states.length)), (8, .val (.pointer (some ⟨b8, 0, none⟩))), (9, .val (.slice (some ⟨b51, 0, none⟩) a.states.length a.states.length)), (81, .sl 17 (a.edges.map cEd)), (82, .int .i64 a.edges.length), (83, .int .i64 (q.1 : Int))], .box b51 3 (bI (numL (keptA a) a.states.length a.states.length)) :: .row q.2.2 q.2.1.length 48 17 :: .box b8 25 [.int .i64 a.vars, .int .i64 a.scopes, .sl 1 p.2.1, .row q.2.2 17 q.2.1] :: .box b21 4 (bB (keptA a)) :: .box b2 25 [.int .i64 0, .int .i64 0, .sl 1 [], .sl 17 []] :: H, 131⟩ : St)) (fun (q : Nat × List (List AV) × Value) => q.1 ≤ a.edges.length ∧ q.2.1 = (keptEs (keptA a) (a.edges.take q.1)).map cEd) (fun (q : Nat × List (List AV) × Value) => a.edges.length - q.1) ((0, [], .slice none 0 0)) ?_ (GS.weaken ⟨rfl, rfl, rfl, rfl, rfl, rfl, rfl, trivial⟩ (.cons_cons _ (.cons_cons _ (.cons _ (.refl _))))) ?_
            · exact ⟨Nat.zero_le _, rfl⟩
            · rintro q hR3
              have hsc : ∀ c ∈ q.2.1, scalars c = true := by rw [hR3.2]; exact sc_map fun _ => rfl
              have hel2 : q.2.1.length ≤ q.1 := by rw [hR3.2, List.length_map]; exact keptEs_len _ _ _
              refine AW.seq ?_
              refine AW.region ?_
              refine AOL.p (P_lss rfl rfl) rfl ?_
              refine AOL.nil ?_
              refine thenN ?_
              refine AW.seq ?_
              refine AW.cond (b := _) rfl (fun hc5 => ?_) (fun hc5 => ?_)
              · skip
                obtain ⟨x, hx⟩ := get_lt2 (l := a.edges) (k := q.1) (by have := of_decide_eq_true hc5; omega)
                have hltx := get_lt' hx
                have hmx := List.mem_of_getElem? hx
                have hx2 := hE x hmx
                have hxs := hx2.1
                have hxd := hx2.2
                refine AW.skip ?_
                refine thenN ?_
                refine AW.seq ?_
                refine AW.block ?_
                refine AW.seq ?_
                refine AW.region ?_
                refine AOL.p (P_indexAddr (c := [.int .i64 _, .int .i64 _, .int .i64 _, .int .i64 _, .int .i64 _, _, .int .i64 _, .int .i64 _, .int .i64 _, .int .i64 _, .int .i64 _, .str _, _, _, _, _, _]) tok rfl rfl rfl rfl rfl rfl (by omega) (cEd_at hx)) rfl ?_
                refine AOL.p (P_load_ptr_agg (l := [.int .i64 _, .int .i64 _, .int .i64 _, .int .i64 _, .int .i64 _, _, .int .i64 _, .int .i64 _, .int .i64 _, .int .i64 _, .int .i64 _, .str _, _, _, _, _, _]) tok rfl rfl rfl rfl rfl) rfl ?_
                refine AOL.e (E_alloc (l := [.int .i64 0, .int .i64 0, .int .i64 0, .int .i64 0, .int .i64 0, .sl 8 [], .int .i64 0, .int .i64 0, .int .i64 0, .int .i64 0, .int .i64 0, .str [], .sl 1 [], .sl 1 [], .sl 8 [], .sl 2 [], .sl 1 []]) (by kernel_rfl)) rfl ?_
                rintro _ _ ⟨b13, rfl, rfl⟩
                refine AOL.e (E_store (k := 0) (v := .agg _) (cs' := [.int .i64 _, .int .i64 _, .int .i64 _, .int .i64 _, .int .i64 _, _, .int .i64 _, .int .i64 _, .int .i64 _, .int .i64 _, .int .i64 _, .str _, _, _, _, _, _]) (H2 := _ :: _ :: _ :: _ :: _ :: _ :: _) tok rfl rfl rfl rfl rfl rfl rfl rfl rfl) rfl ?_
                rintro _ _ ⟨rfl, rfl⟩
                refine AOL.nil ?_
                refine thenN ?_
                refine AW.seq ?_
                refine AW.seq ?_
                refine AW.region ?_
                refine AOL.p (P_move (v := .val _) rfl) rfl ?_
                refine AOL.p (P_fieldAddr_val tok rfl rfl rfl rfl rfl rfl) rfl ?_
                refine AOL.pk (P_load_box (k := 0) (c := .int .i64 _) tok rfl rfl rfl rfl) rfl rfl ?_
                refine AOL.p (P_indexAddr_val tok rfl rfl rfl rfl rfl (hxs.1) (hxs.lt) (off1 _)) rfl ?_
                refine AOL.pk (P_load_box (k := 4) (c := .bool (seenS (keptA a) x.src)) tok rfl rfl rfl (bB_get (by rw [hkl]; exact hxs.2))) rfl rfl ?_
                refine AOL.p (P_not rfl) rfl ?_
                refine AOL.p (P_move (v := .bool _) rfl) rfl ?_
                refine AOL.g (y := .val _) _ [] rfl (EntL.all trivial) (fun hG => P_fieldAddr_val tok rfl rfl rfl rfl rfl rfl) rfl ?_
                refine AOL.gk (y := .int .i64 _) _ [(94, _)] rfl (EntL.all ⟨Ent.self _ _, trivial⟩) (fun hG => P_load_box (k := 0) (c := .int .i64 _) tok rfl rfl rfl rfl) rfl rfl ?_
                refine AOL.g (y := .bool _) _ [(95, _)] rfl (EntL.all ⟨Ent.self _ _, trivial⟩) (fun hG => P_geq rfl rfl) rfl ?_
                refine AOL.g (y := .bool _) _ [(96, _)] rfl (EntL.all ⟨Ent.self _ _, trivial⟩) (fun hG => P_move (v := .bool _) rfl) rfl ?_
                refine AOL.g (y := .val _) _ [] rfl (EntL.all trivial) (fun hG => P_move (v := .val _) rfl) rfl ?_
                refine AOL.g (y := .val _) _ [] rfl (EntL.all trivial) (fun hG => P_fieldAddr_val tok rfl rfl rfl rfl rfl rfl) rfl ?_
                refine AOL.gk (y := .int .i64 _) _ [(99, _)] rfl (EntL.all ⟨Ent.self _ _, trivial⟩) (fun hG => P_load_box (k := 0) (c := .int .i64 _) tok rfl rfl rfl rfl) rfl rfl ?_
                refine AOL.g (y := .val _) _ [(98, _), (100, _)] rfl (EntL.all ⟨Ent.self _ _, Ent.self _ _, trivial⟩) (fun hG => P_indexAddr_val tok rfl rfl rfl rfl rfl ((hxd (of_decide_eq_true (wl hG))).1) ((hxd (of_decide_eq_true (wl hG))).lt) (off1 _)) rfl ?_
                refine AOL.gk (y := .bool _) _ [(101, _)] rfl (EntL.all ⟨Ent.self _ _, trivial⟩) (fun hG => P_load_box (k := 4) (c := .bool (seenS (keptA a) x.dst)) tok rfl rfl rfl (bB_get (by rw [hkl]; exact (hxd (of_decide_eq_true (wl hG))).2))) rfl rfl ?_
                refine AOL.g (y := .bool _) _ [(102, _)] rfl (EntL.all ⟨Ent.self _ _, trivial⟩) (fun hG => P_not rfl) rfl ?_
                refine AOL.g (y := .bool _) _ [(97, _), (103, _)] rfl (EntL.all ⟨Ent.self _ _, Ent.suf _ _ _, trivial⟩) (fun hG => P_pick_and rfl rfl rfl) rfl ?_
                refine AOL.p (P_pick_or rfl rfl rfl) rfl ?_
                refine AOL.nil ?_
                refine thenN ?_
                refine AW.cond (b := _) rfl (fun hc6 => ?_) (fun hc6 => ?_)
                · skip
                  have hnx := keep_no hc6
                  refine AW.exit ?_
                  refine thenE ?_
                  refine blkHit ?_
                  refine thenN ?_
                  refine AW.region ?_
                  refine AOL.p (P_add rfl rfl rfl (by constructor <;> omega)) rfl ?_
                  refine AOL.p (P_move (v := .int .i64 _) rfl) rfl ?_
                  refine AOL.nil ?_
                  refine thenN ?_
                  refine ⟨(q.1 + 1, q.2.1, q.2.2), ?_, ?_, GS.weaken ⟨rfl, rfl, rfl, rfl, rfl, rfl, rfl, trivial⟩ (.cons _ (.refl _))⟩
                  · exact ⟨hltx, by simp only; rw [keptEs_take hx, if_neg hnx, List.append_nil, hR3.2]⟩
                  · simp only; omega
                · skip
                  have hyx := keep_yes hc6
                  refine AW.skip ?_
                  refine thenN ?_
                  refine AW.seq ?_
                  refine AW.region ?_
                  refine AOL.pk (P_load_box_agg (k := 0) (l := [.int .i64 _, .int .i64 _, .int .i64 _, .int .i64 _, .int .i64 _, _, .int .i64 _, .int .i64 _, .int .i64 _, .int .i64 _, .int .i64 _, .str _, _, _, _, _, _]) tok rfl rfl rfl rfl rfl) rfl rfl ?_
                  refine AOL.p (P_callf (by kernel_rfl) rfl rfl (a_own x (hs.e x hmx))) rfl ?_
                  refine AOL.e (E_store (k := 0) (v := .agg _) (cs' := [.int .i64 _, .int .i64 _, .int .i64 _, .int .i64 _, .int .i64 _, _, .int .i64 _, .int .i64 _, .int .i64 _, .int .i64 _, .int .i64 _, .str _, _, _, _, _, _]) (H2 := _ :: _ :: _ :: _ :: _ :: _ :: _) tok rfl rfl rfl rfl rfl rfl rfl rfl rfl) rfl ?_
                  rintro _ _ ⟨rfl, rfl⟩
                  refine AOL.nil ?_
                  refine thenN ?_
                  refine AW.seq ?_
                  refine AW.region ?_
                  refine AOL.p (P_move (v := .val _) rfl) rfl ?_
                  refine AOL.p (P_fieldAddr_val tok rfl rfl rfl rfl rfl rfl) rfl ?_
                  refine AOL.pk (P_load_box (k := 0) (c := .int .i64 _) tok rfl rfl rfl rfl) rfl rfl ?_
                  refine AOL.p (P_indexAddr_val tok rfl rfl rfl rfl rfl (hxs.1) (hxs.lt) (off1 _)) rfl ?_
                  refine AOL.pk (P_load_box (k := 1) (c := .int .i64 (numberS (keptA a) x.src)) tok rfl rfl rfl (numL_cell hxs)) rfl rfl ?_
                  refine AOL.p (P_fieldAddr_val tok rfl rfl rfl rfl rfl rfl) rfl ?_
                  refine AOL.e (E_store (k := 0) (v := .int .i64 _) (cs' := [.int .i64 _, .int .i64 _, .int .i64 _, .int .i64 _, .int .i64 _, _, .int .i64 _, .int .i64 _, .int .i64 _, .int .i64 _, .int .i64 _, .str _, _, _, _, _, _]) (H2 := _ :: _ :: _ :: _ :: _ :: _ :: _) tok rfl rfl rfl rfl rfl rfl rfl rfl rfl) rfl ?_
                  rintro _ _ ⟨rfl, rfl⟩
                  refine AOL.nil ?_
                  refine thenN ?_
                  refine AW.seq ?_
                  refine AW.seq ?_
                  refine AW.region ?_
                  refine AOL.p (P_fieldAddr_val tok rfl rfl rfl rfl rfl rfl) rfl ?_
                  refine AOL.pk (P_load_box (k := 0) (c := .int .i64 _) tok rfl rfl rfl rfl) rfl rfl ?_
                  refine AOL.p (P_geq rfl rfl) rfl ?_
                  refine AOL.nil ?_
                  refine thenN ?_
                  refine AW.cond (b := _) rfl (fun hc7 => ?_) (fun hc7 => ?_)
                  · skip
                    refine AW.region ?_
                    refine AOL.p (P_move (v := .val _) rfl) rfl ?_
                    refine AOL.p (P_fieldAddr_val tok rfl rfl rfl rfl rfl rfl) rfl ?_
                    refine AOL.pk (P_load_box (k := 0) (c := .int .i64 _) tok rfl rfl rfl rfl) rfl rfl ?_
                    refine AOL.p (P_indexAddr_val tok rfl rfl rfl rfl rfl ((hxd (of_decide_eq_true hc7)).1) ((hxd (of_decide_eq_true hc7)).lt) (off1 _)) rfl ?_
                    refine AOL.pk (P_load_box (k := 1) (c := .int .i64 (numberS (keptA a) x.dst)) tok rfl rfl rfl (numL_cell (hxd (of_decide_eq_true hc7)))) rfl rfl ?_
                    refine AOL.p (P_fieldAddr_val tok rfl rfl rfl rfl rfl rfl) rfl ?_
                    refine AOL.e (E_store (k := 0) (v := .int .i64 _) (cs' := [.int .i64 _, .int .i64 _, .int .i64 _, .int .i64 _, .int .i64 _, _, .int .i64 _, .int .i64 _, .int .i64 _, .int .i64 _, .int .i64 _, .str _, _, _, _, _, _]) (H2 := _ :: _ :: _ :: _ :: _ :: _ :: _) tok rfl rfl rfl rfl rfl rfl rfl rfl rfl) rfl ?_
                    rintro _ _ ⟨rfl, rfl⟩
                    refine AOL.nil ?_
                    refine thenN ?_
                    refine AW.region ?_
                    refine AOL.p (P_fieldAddr_val tok rfl rfl rfl rfl rfl rfl) rfl ?_
                    refine AOL.pk (P_load_box (k := 3) (c := .row _ _ _) tok rfl rfl rfl rfl) rfl rfl ?_
                    refine AOL.pk (P_load_box_agg (k := 0) (l := [.int .i64 _, .int .i64 _, .int .i64 _, .int .i64 _, .int .i64 _, _, .int .i64 _, .int .i64 _, .int .i64 _, .int .i64 _, .int .i64 _, .str _, _, _, _, _, _]) tok rfl rfl rfl rfl rfl) rfl rfl ?_
                    refine AOL.p (P_buildSlice (es := [[.int .i64 _, .int .i64 _, .int .i64 _, .int .i64 _, .int .i64 _, _, .int .i64 _, .int .i64 _, .int .i64 _, .int .i64 _, .int .i64 _, .str _, _, _, _, _, _]]) tok rfl rfl rfl rfl rfl rfl rfl rfl rfl) rfl ?_
                    refine AOL.e (E_append (k := 2) tok rfl rfl rfl rfl rfl rfl rfl rfl (sc_one rfl) (hsc) (by simp; omega) (by simp [maxLen]; omega)) rfl ?_
                    rintro _ _ ⟨v127, rfl, rfl⟩
                    refine AOL.p (P_fieldAddr_val tok rfl rfl rfl rfl rfl rfl) rfl ?_
                    refine AOL.e (E_store (k := 3) (v := .row _ _ _) (cs' := [.int .i64 _, .int .i64 _, _, _]) (H2 := _ :: _ :: _ :: _ :: _ :: _ :: _) tok rfl rfl rfl rfl rfl rfl rfl rfl rfl) rfl ?_
                    rintro _ _ ⟨rfl, rfl⟩
                    refine AOL.nil ?_
                    refine blkN ?_
                    refine thenN ?_
                    refine AW.region ?_
                    refine AOL.p (P_add rfl rfl rfl (by constructor <;> omega)) rfl ?_
                    refine AOL.p (P_move (v := .int .i64 _) rfl) rfl ?_
                    refine AOL.nil ?_
                    refine thenN ?_
                    refine ⟨(q.1 + 1, q.2.1 ++ [cEd ({ x with src := numberS (keptA a) x.src, dst := numberS (keptA a) x.dst } : Ed)], v127), ?_, ?_, GS.weaken ⟨rfl, rfl, rfl, rfl, rfl, rfl, rfl, trivial⟩ (.cons _ (.refl _))⟩
                    · exact ⟨hltx, by simp only; rw [keptEs_take hx, if_pos hyx, List.map_append, hR3.2, ← move_yes hc7]; rfl⟩
                    · simp only; omega
                  · skip
                    refine AW.skip ?_
                    refine thenN ?_
                    refine AW.region ?_
                    refine AOL.p (P_fieldAddr_val tok rfl rfl rfl rfl rfl rfl) rfl ?_
                    refine AOL.pk (P_load_box (k := 3) (c := .row _ _ _) tok rfl rfl rfl rfl) rfl rfl ?_
                    refine AOL.pk (P_load_box_agg (k := 0) (l := [.int .i64 _, .int .i64 _, .int .i64 _, .int .i64 _, .int .i64 _, _, .int .i64 _, .int .i64 _, .int .i64 _, .int .i64 _, .int .i64 _, .str _, _, _, _, _, _]) tok rfl rfl rfl rfl rfl) rfl rfl ?_
                    refine AOL.p (P_buildSlice (es := [[.int .i64 _, .int .i64 _, .int .i64 _, .int .i64 _, .int .i64 _, _, .int .i64 _, .int .i64 _, .int .i64 _, .int .i64 _, .int .i64 _, .str _, _, _, _, _, _]]) tok rfl rfl rfl rfl rfl rfl rfl rfl rfl) rfl ?_
                    refine AOL.e (E_append (k := 2) tok rfl rfl rfl rfl rfl rfl rfl rfl (sc_one rfl) (hsc) (by simp; omega) (by simp [maxLen]; omega)) rfl ?_
                    rintro _ _ ⟨v127, rfl, rfl⟩
                    refine AOL.p (P_fieldAddr_val tok rfl rfl rfl rfl rfl rfl) rfl ?_
                    refine AOL.e (E_store (k := 3) (v := .row _ _ _) (cs' := [.int .i64 _, .int .i64 _, _, _]) (H2 := _ :: _ :: _ :: _ :: _ :: _ :: _) tok rfl rfl rfl rfl rfl rfl rfl rfl rfl) rfl ?_
                    rintro _ _ ⟨rfl, rfl⟩
                    refine AOL.nil ?_
                    refine blkN ?_
                    refine thenN ?_
                    refine AW.region ?_
                    refine AOL.p (P_add rfl rfl rfl (by constructor <;> omega)) rfl ?_
                    refine AOL.p (P_move (v := .int .i64 _) rfl) rfl ?_
                    refine AOL.nil ?_
                    refine thenN ?_
                    refine ⟨(q.1 + 1, q.2.1 ++ [cEd ({ x with src := numberS (keptA a) x.src } : Ed)], v127), ?_, ?_, GS.weaken ⟨rfl, rfl, rfl, rfl, rfl, rfl, rfl, trivial⟩ (.cons _ (.refl _))⟩
                    · exact ⟨hltx, by simp only; rw [keptEs_take hx, if_pos hyx, List.map_append, hR3.2, ← move_no hc7]; rfl⟩
                    · simp only; omega
              · skip
                have hkq : a.edges.length ≤ q.1 := by have := of_decide_eq_false hc5; omega
                have hqe : q.2.1 = (keptEs (keptA a) a.edges).map cEd := by have h := hR3.2; rw [List.take_of_length_le hkq] at h; exact h
                refine AW.exit ?_
                refine thenE ?_
                refine thenE ?_
                refine blkHit ?_
                refine thenN ?_
                refine AW.seq ?_
                refine AW.region ?_
                refine AOL.ghost (GS.cell (H2 := _ :: _ :: _ :: _ :: _ :: _) 2 3 rfl rfl rfl rfl unrow_cell) ?_
                refine AOL.pk (P_load_box_agg (k := 2) (l := [.int .i64 _, .int .i64 _, _, _]) tok rfl rfl rfl rfl rfl) rfl rfl ?_
                refine AOL.e (E_store (k := 4) (v := .agg _) (cs' := [.int .i64 _, .int .i64 _, _, _]) (H2 := _ :: _ :: _ :: _ :: _ :: _) tok rfl rfl rfl rfl rfl rfl rfl rfl rfl) rfl ?_
                rintro _ _ ⟨rfl, rfl⟩
                refine AOL.p (P_assign (v := .int .i64 _) rfl) rfl ?_
                refine AOL.nil ?_
                refine thenN ?_
                refine AW.ret ?_
                refine ⟨.inr rfl, [.agg [.int .i64 _, .int .i64 _, _, _], .int .i64 _], .cons (.box _ _ _ 4 _ _ _ _ rfl rfl rfl rfl rfl rfl) <| .cons (.tmp _ _ rfl) <| .nil, .cons _ (.cons _ (.cons _ (.cons _ (.cons _ (.refl _))))), ?_⟩
                rw [h9, hpe, hqe]; rfl

end Go.Proofs.YtoolcpnahmgnnaaDoor
