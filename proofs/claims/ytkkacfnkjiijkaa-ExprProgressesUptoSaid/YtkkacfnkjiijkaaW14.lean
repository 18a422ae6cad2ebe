/-
  Walks of layer 8: folding a node, rebuilding. No condition.
-/
import Derived.Test.YtkkacfnkjiijkaaW13
import Derived.Test.YtkkacfnkjiijkaaW12
import Derived.KernelRfl
namespace Go.Proofs.Ytkkacfnkjiijkaa
open Go Go.Aw
set_option linter.unusedVariables false
set_option linter.unusedSimpArgs false

theorem known_any {x : Evr} {e : Ex} (h : e.args.any (fun a => a.op != 0) = true) : knownS' x e = (v0, false) := by unfold knownS'; rw [if_pos h]
theorem known_nil {x : Evr} {e : Ex} (h : ((e.args.length : Int) == 0) = true) : knownS' x e = (v0, false) := by
  have : e.args = [] := List.eq_nil_of_length_eq_zero (by simpa using h)
  unfold knownS'; rw [this]; rfl
theorem known_else {x : Evr} {e : Ex} (h : e.args.any (fun a => a.op != 0) = false) (h' : ((e.args.length : Int) == 0) = false) : knownS' x e = ((evalS x e).1, (evalS x e).2 == 0 && vcheckS (evalS x e).1 == 0) := by
  unfold knownS'; rw [if_neg (by simp [h]), if_neg (by simp [h'])]

set_option maxRecDepth 20000 in
set_option maxHeartbeats 400000 in
theorem c76 (x : Evr) (hx : x.ok) (e : Ex) (hn : nodesS e = 0) (hs : sizeN e ≤ 1048576) : APure Try.prog 76 [.agg (cX x), .agg (cE e)] (.tuple [.agg (cV (knownS' x e).1), .bool (knownS' x e).2]) := by
  have hal := args_le e hs
  refine APure.body (n := 42) tok Try.func76 rfl rfl rfl fun H => ?_
  refine AW.seq ?_
  refine AW.region ?_
  refine AOL.p (P_box (v := .agg _) (cs := [_, .int .i64 _, .int .i64 _, .int .i64 _, .int .i64 _, .int .i64 _, _, _]) rfl rfl rfl) rfl ?_
  refine AOL.p (P_box (v := .agg _) (cs := [.int .i64 _, _, .int .i64 _, .int .i64 _, .int .i64 _, .int .i64 _, .int .i64 _, .str _]) rfl rfl rfl) rfl ?_
  refine AOL.e (E_alloc (l := [.int .i64 0, .int .i64 0, .str []]) (by kernel_rfl)) rfl ?_
  rintro _ _ ⟨b4, rfl, rfl⟩
  refine AOL.p (P_assign (v := .bool _) rfl) rfl ?_
  refine AOL.nil ?_
  refine thenN ?_
  refine AW.seq ?_
  refine AW.seq ?_
  refine AW.region ?_
  refine AOL.p (P_fieldAddr_ptr (cs' := [_, .int .i64 _, .int .i64 _, .int .i64 _, .int .i64 _, .int .i64 _, .str _]) tok rfl rfl rfl rfl rfl rfl) rfl ?_
  refine AOL.p (P_load_ptr (c := .sl _ _) tok rfl rfl rfl) rfl ?_
  refine AOL.p (P_len_sl (n := e.args.length) tok rfl rfl rfl (by simp)) rfl ?_
  refine AOL.p (P_move (v := .int .i64 _) rfl) rfl ?_
  refine AOL.nil ?_
  refine thenN ?_
  refine AW.block ?_
  refine AW.loopS (fun (p : Nat) => (⟨[(2, .ptr (cX x)), (3, .ptr (cE e)), (4, .val (.pointer (some ⟨b4, 0, none⟩))), (11, .sl 8 (e.args.map encE)), (12, .int .i64 e.args.length), (13, .int .i64 (p : Int))], .box b4 24 [.int .i64 0, .int .i64 0, .str []] :: H, 42⟩ : St)) (fun (p : Nat) => p ≤ e.args.length ∧ (e.args.take p).any (fun a => a.op != 0) = false) (fun (p : Nat) => e.args.length - p) (0) ?_ (GS.weaken ⟨rfl, rfl, rfl, rfl, rfl, rfl, trivial⟩ (.refl _)) ?_
  · exact ⟨Nat.zero_le _, by simp⟩
  · rintro p hR
    refine AW.seq ?_
    refine AW.region ?_
    refine AOL.p (P_lss rfl rfl) rfl ?_
    refine AOL.nil ?_
    refine thenN ?_
    refine AW.seq ?_
    refine AW.cond (b := _) rfl (fun hc1 => ?_) (fun hc1 => ?_)
    · skip
      obtain ⟨a, ha⟩ := get_lt hc1
      have hlt := get_lt' ha
      have hm := List.mem_of_getElem? ha
      refine AW.skip ?_
      refine thenN ?_
      refine AW.seq ?_
      refine AW.block ?_
      refine AW.seq ?_
      refine AW.region ?_
      refine AOL.p (P_indexAddr (c := [.int .i64 _, _, .int .i64 _, .int .i64 _, .int .i64 _, .int .i64 _, .int .i64 _, .str _]) tok rfl rfl rfl rfl rfl rfl (by omega) (encE_at ha)) rfl ?_
      refine AOL.p (P_load_ptr_agg (l := [.int .i64 _, _, .int .i64 _, .int .i64 _, .int .i64 _, .int .i64 _, .int .i64 _, .str _]) tok rfl rfl rfl rfl rfl) rfl ?_
      refine AOL.e (E_alloc (l := [.int .i64 0, .sl 8 [], .int .i64 0, .int .i64 0, .int .i64 0, .int .i64 0, .int .i64 0, .str []]) (by kernel_rfl)) rfl ?_
      rintro _ _ ⟨b7, rfl, rfl⟩
      refine AOL.e (E_store (k := 0) (v := .agg _) (cs' := [.int .i64 _, _, .int .i64 _, .int .i64 _, .int .i64 _, .int .i64 _, .int .i64 _, .str _]) (H2 := _ :: _ :: _) tok rfl rfl rfl rfl rfl rfl rfl rfl rfl) rfl ?_
      rintro _ _ ⟨rfl, rfl⟩
      refine AOL.ghost (GS.freeze (t := 7) 0 rfl rfl) ?_
      refine AOL.nil ?_
      refine thenN ?_
      refine AW.seq ?_
      refine AW.region ?_
      refine AOL.p (P_fieldAddr_ptr (cs' := [.int .i64 _, _, .int .i64 _, .int .i64 _, .int .i64 _, .int .i64 _, .int .i64 _, .str _]) tok rfl rfl rfl rfl rfl rfl) rfl ?_
      refine AOL.p (P_load_ptr (c := .int .i64 _) tok rfl rfl rfl) rfl ?_
      refine AOL.p (P_neq rfl rfl) rfl ?_
      refine AOL.nil ?_
      refine thenN ?_
      refine AW.cond (b := _) rfl (fun hc2 => ?_) (fun hc2 => ?_)
      · skip
        have hany := any_of_get (fun a : Ex => a.op != 0) ha hc2
        refine AW.seq ?_
        refine AW.region ?_
        refine AOL.p (P_build (l := [.int .i64 _, .int .i64 _, .str _]) tok rfl rfl rfl) rfl ?_
        refine AOL.e (E_store (k := 0) (v := .agg _) (cs' := [.int .i64 _, .int .i64 _, .str _]) (H2 := _ :: _) tok rfl rfl rfl rfl rfl rfl rfl rfl rfl) rfl ?_
        rintro _ _ ⟨rfl, rfl⟩
        refine AOL.p (P_assign (v := .bool _) rfl) rfl ?_
        refine AOL.nil ?_
        refine thenN ?_
        refine AW.ret ?_
        refine blkR ?_
        refine thenR ?_
        refine thenR ?_
        refine blkR ?_
        refine thenR ?_
        refine ⟨.inr rfl, [.agg [.int .i64 _, .int .i64 _, .str _], .bool _], .cons (.box _ _ _ 0 _ _ _ _ rfl rfl rfl rfl rfl rfl) <| .cons (.tmp _ _ rfl) <| .nil, .cons _ (.refl _), ?_⟩
        rw [known_any hany]; rfl
      · skip
        refine AW.skip ?_
        refine blkN ?_
        refine thenN ?_
        refine AW.region ?_
        refine AOL.p (P_add rfl rfl rfl (by constructor <;> omega)) rfl ?_
        refine AOL.p (P_move (v := .int .i64 _) rfl) rfl ?_
        refine AOL.nil ?_
        refine thenN ?_
        refine ⟨p + 1, ?_, ?_, GS.weaken ⟨rfl, rfl, rfl, rfl, rfl, rfl, trivial⟩ (.refl _)⟩
        · exact ⟨hlt, by rw [any_take_get _ ha, hR.2, hc2]; rfl⟩
        · omega
    · skip
      have hte := take_end hc1
      have hany : e.args.any (fun a => a.op != 0) = false := by rw [← hte]; exact hR.2
      refine AW.exit ?_
      refine thenE ?_
      refine thenE ?_
      refine blkHit ?_
      refine thenN ?_
      refine AW.seq ?_
      refine AW.seq ?_
      refine AW.region ?_
      refine AOL.p (P_fieldAddr_ptr (cs' := [_, .int .i64 _, .int .i64 _, .int .i64 _, .int .i64 _, .int .i64 _, .str _]) tok rfl rfl rfl rfl rfl rfl) rfl ?_
      refine AOL.p (P_load_ptr (c := .sl _ _) tok rfl rfl rfl) rfl ?_
      refine AOL.p (P_len_sl (n := e.args.length) tok rfl rfl rfl (by simp)) rfl ?_
      refine AOL.p (P_eql rfl rfl) rfl ?_
      refine AOL.nil ?_
      refine thenN ?_
      refine AW.cond (b := _) rfl (fun hc3 => ?_) (fun hc3 => ?_)
      · skip
        refine AW.seq ?_
        refine AW.region ?_
        refine AOL.p (P_build (l := [.int .i64 _, .int .i64 _, .str _]) tok rfl rfl rfl) rfl ?_
        refine AOL.e (E_store (k := 0) (v := .agg _) (cs' := [.int .i64 _, .int .i64 _, .str _]) (H2 := _ :: _) tok rfl rfl rfl rfl rfl rfl rfl rfl rfl) rfl ?_
        rintro _ _ ⟨rfl, rfl⟩
        refine AOL.p (P_assign (v := .bool _) rfl) rfl ?_
        refine AOL.nil ?_
        refine thenN ?_
        refine AW.ret ?_
        refine thenR ?_
        refine ⟨.inr rfl, [.agg [.int .i64 _, .int .i64 _, .str _], .bool _], .cons (.box _ _ _ 0 _ _ _ _ rfl rfl rfl rfl rfl rfl) <| .cons (.tmp _ _ rfl) <| .nil, .cons _ (.refl _), ?_⟩
        rw [known_nil hc3]; rfl
      · skip
        refine AW.skip ?_
        refine thenN ?_
        refine AW.seq ?_
        refine AW.region ?_
        refine AOL.p (P_fieldAddr_ptr (cs' := [_, .int .i64 _, .int .i64 _, .int .i64 _, .int .i64 _, .int .i64 _, _, _]) tok rfl rfl rfl rfl rfl rfl) rfl ?_
        refine AOL.p (P_load_ptr_agg (l := [_, .int .i64 _, .int .i64 _, .int .i64 _, .int .i64 _, .int .i64 _, _, _]) tok rfl rfl rfl rfl rfl) rfl ?_
        refine AOL.p (P_load_ptr_agg (l := [.int .i64 _, _, .int .i64 _, .int .i64 _, .int .i64 _, .int .i64 _, .int .i64 _, .str _]) tok rfl rfl rfl rfl rfl) rfl ?_
        refine AOL.p (P_callf (by kernel_rfl) rfl rfl (c40 x hx e hn hs)) rfl ?_
        refine AOL.p (P_move (v := .tuple _) rfl) rfl ?_
        refine AOL.p (P_extract (v := .agg [.int .i64 _, .int .i64 _, .str _]) rfl rfl) rfl ?_
        refine AOL.p (P_extract (v := .int .i64 _) rfl rfl) rfl ?_
        refine AOL.e (E_alloc (l := [.int .i64 0, .int .i64 0, .str []]) (by kernel_rfl)) rfl ?_
        rintro _ _ ⟨b8, rfl, rfl⟩
        refine AOL.e (E_store (k := 0) (v := .agg _) (cs' := [.int .i64 _, .int .i64 _, .str _]) (H2 := _ :: _ :: _) tok rfl rfl rfl rfl rfl rfl rfl rfl rfl) rfl ?_
        rintro _ _ ⟨rfl, rfl⟩
        refine AOL.p (P_assign (v := .int .i64 _) rfl) rfl ?_
        refine AOL.ghost (GS.freeze (t := 8) 0 rfl rfl) ?_
        refine AOL.nil ?_
        refine thenN ?_
        refine AW.seq ?_
        refine AW.draw mixed (fun _ => True) trivial (by kernel_rfl) ?_
        refine Canon.pure _ _ 0 _ _ rfl (by kernel_rfl) (by kernel_rfl) rfl (.run rfl (P_load_ptr_agg (l := [.int .i64 _, .int .i64 _, .str _]) tok rfl rfl rfl rfl rfl)) ?_
        refine Canon.pure _ _ 1 _ _ rfl (by kernel_rfl) (by kernel_rfl) rfl (.run rfl (P_move (v := .int .i64 _) rfl)) ?_
        refine Canon.pure _ _ 2 _ _ rfl (by kernel_rfl) (by kernel_rfl) rfl (.run rfl (P_eql rfl rfl)) ?_
        refine Canon.pure _ _ 3 _ _ rfl (by kernel_rfl) (by kernel_rfl) rfl (.run rfl (P_move (v := .bool _) rfl)) ?_
        refine Canon.pure _ _ 4 _ _ rfl (by kernel_rfl) (by kernel_rfl) rfl (.opt _ (.agg _) [] rfl (EntL.all trivial) (fun hG => P_load_ptr_agg (l := [.int .i64 _, .int .i64 _, .str _]) tok rfl rfl rfl rfl rfl) rfl) ?_
        refine Canon.pure _ _ 5 _ _ rfl (by kernel_rfl) (by kernel_rfl) rfl (.opt _ (.int .i64 _) [(38, _)] rfl (EntL.all ⟨Ent.self _ _, trivial⟩) (fun hG => P_callf (by kernel_rfl) rfl rfl (c94 _)) rfl) ?_
        refine Canon.pure _ _ 6 _ _ rfl (by kernel_rfl) (by kernel_rfl) rfl (.opt _ (.bool _) [(39, _)] rfl (EntL.all ⟨Ent.self _ _, trivial⟩) (fun hG => P_eql rfl rfl) rfl) ?_
        refine Canon.pure _ _ 7 _ _ rfl (by kernel_rfl) (by kernel_rfl) rfl (.run rfl (P_pick_and rfl rfl rfl)) ?_
        refine Canon.eff _ _ 8 _ _ rfl (by kernel_rfl) rfl rfl (E_store (k := 0) (v := .agg _) (cs' := [.int .i64 _, .int .i64 _, .str _]) (H2 := _ :: _) tok rfl rfl rfl rfl rfl rfl rfl rfl rfl) (fun _ _ _ => trivial) ?_
        rintro _ _ ⟨rfl, rfl⟩
        refine Canon.pure _ _ 9 _ _ rfl (by kernel_rfl) (by kernel_rfl) rfl (.run rfl (P_assign (v := .bool _) rfl)) ?_
        refine Canon.done _ _ (by kernel_rfl) ?_
        refine thenN ?_
        refine AW.ret ?_
        refine ⟨.inr rfl, [.agg [.int .i64 _, .int .i64 _, .str _], .bool _], .cons (.box _ _ _ 0 _ _ _ _ rfl rfl rfl rfl rfl rfl) <| .cons (.tmp _ _ rfl) <| .nil, .cons _ (.refl _), ?_⟩
        rw [known_else hany hc3]; rfl
set_option maxRecDepth 20000 in
set_option maxHeartbeats 1600000 in
theorem c44 (x : Evr) (hx : x.ok) (e : Ex) (hn : nodesS e = 0) (hs : sizeN e ≤ 1048576) : APure Try.prog 44 [.agg (cX x), .agg (cE e)] (.agg (cE (fnodeS x e))) := by
  have hz := nodes_zero hn
  refine APure.body (n := 96) tok Try.func44 rfl rfl rfl fun H => ?_
  refine AW.seq ?_
  refine AW.region ?_
  refine AOL.p (P_box (v := .agg _) (cs := [_, .int .i64 _, .int .i64 _, .int .i64 _, .int .i64 _, .int .i64 _, _, _]) rfl rfl rfl) rfl ?_
  refine AOL.p (P_box (v := .agg _) (cs := [.int .i64 _, _, .int .i64 _, .int .i64 _, .int .i64 _, .int .i64 _, .int .i64 _, .str _]) rfl rfl rfl) rfl ?_
  refine AOL.e (E_alloc (l := [.int .i64 0, .sl 8 [], .int .i64 0, .int .i64 0, .int .i64 0, .int .i64 0, .int .i64 0, .str []]) (by kernel_rfl)) rfl ?_
  rintro _ _ ⟨b4, rfl, rfl⟩
  refine AOL.nil ?_
  refine thenN ?_
  refine AW.seq ?_
  refine AW.seq ?_
  refine AW.region ?_
  refine AOL.p (P_load_ptr_agg (l := [_, .int .i64 _, .int .i64 _, .int .i64 _, .int .i64 _, .int .i64 _, _, _]) tok rfl rfl rfl rfl rfl) rfl ?_
  refine AOL.p (P_load_ptr_agg (l := [.int .i64 _, _, .int .i64 _, .int .i64 _, .int .i64 _, .int .i64 _, .int .i64 _, .str _]) tok rfl rfl rfl rfl rfl) rfl ?_
  refine AOL.p (P_callf (by kernel_rfl) rfl rfl (c76 x hx e hn hs)) rfl ?_
  refine AOL.p (P_move (v := .tuple _) rfl) rfl ?_
  refine AOL.p (P_extract (v := .agg [.int .i64 _, .int .i64 _, .str _]) rfl rfl) rfl ?_
  refine AOL.p (P_extract (v := .bool _) rfl rfl) rfl ?_
  refine AOL.e (E_alloc (l := [.int .i64 0, .int .i64 0, .str []]) (by kernel_rfl)) rfl ?_
  rintro _ _ ⟨b5, rfl, rfl⟩
  refine AOL.e (E_store (k := 0) (v := .agg _) (cs' := [.int .i64 _, .int .i64 _, .str _]) (H2 := _ :: _ :: _) tok rfl rfl rfl rfl rfl rfl rfl rfl rfl) rfl ?_
  rintro _ _ ⟨rfl, rfl⟩
  refine AOL.p (P_assign (v := .bool _) rfl) rfl ?_
  refine AOL.ghost (GS.freeze (t := 5) 0 rfl rfl) ?_
  refine AOL.nil ?_
  refine thenN ?_
  refine AW.seq ?_
  refine AW.region ?_
  refine AOL.p (P_move (v := .bool _) rfl) rfl ?_
  refine AOL.nil ?_
  refine thenN ?_
  refine AW.cond (b := _) rfl (fun hc1 => ?_) (fun hc1 => ?_)
  · skip
    refine AW.seq ?_
    refine AW.region ?_
    refine AOL.p (P_load_ptr_agg (l := [.int .i64 _, .int .i64 _, .str _]) tok rfl rfl rfl rfl rfl) rfl ?_
    refine AOL.p (P_callf (by kernel_rfl) rfl rfl (c77 _)) rfl ?_
    refine AOL.e (E_store (k := 0) (v := .agg _) (cs' := [.int .i64 _, _, .int .i64 _, .int .i64 _, .int .i64 _, .int .i64 _, .int .i64 _, .str _]) (H2 := _ :: _) tok rfl rfl rfl rfl rfl rfl rfl rfl rfl) rfl ?_
    rintro _ _ ⟨rfl, rfl⟩
    refine AOL.nil ?_
    refine thenN ?_
    refine AW.ret ?_
    refine thenR ?_
    refine ⟨.inr rfl, [.agg [.int .i64 _, _, .int .i64 _, .int .i64 _, .int .i64 _, .int .i64 _, .int .i64 _, .str _]], .cons (.box _ _ _ 0 _ _ _ _ rfl rfl rfl rfl rfl rfl) <| .nil, .cons _ (.refl _), ?_⟩
    simp only [resOf, fnodeS]
    (first | rw [if_pos hc1] | skip)
    first | done | rfl
  · skip
    refine AW.skip ?_
    refine thenN ?_
    refine AW.seq ?_
    refine AW.seq ?_
    refine AW.region ?_
    refine AOL.p (P_fieldAddr_ptr (cs' := [.int .i64 _, _, .int .i64 _, .int .i64 _, .int .i64 _, .int .i64 _, .int .i64 _, .str _]) tok rfl rfl rfl rfl rfl rfl) rfl ?_
    refine AOL.p (P_load_ptr (c := .int .i64 _) tok rfl rfl rfl) rfl ?_
    refine AOL.p (P_eql rfl rfl) rfl ?_
    refine AOL.p (P_move (v := .bool _) rfl) rfl ?_
    refine AOL.g (y := .ptr _) _ [] rfl (EntL.all trivial) (fun hG => P_fieldAddr_ptr (cs' := [_, .int .i64 _, .int .i64 _, .int .i64 _, .int .i64 _, .int .i64 _, .str _]) tok rfl rfl rfl rfl rfl rfl) rfl ?_
    refine AOL.g (y := .sl _ _) _ [(22, _)] rfl (EntL.all ⟨Ent.self _ _, trivial⟩) (fun hG => P_load_ptr (c := .sl _ _) tok rfl rfl rfl) rfl ?_
    refine AOL.g (y := .ptr _) _ [(23, _)] rfl (EntL.all ⟨Ent.self _ _, trivial⟩) (fun hG => P_indexAddr (c := [.int .i64 _, _, .int .i64 _, .int .i64 _, .int .i64 _, .int .i64 _, .int .i64 _, .str _]) tok rfl rfl rfl rfl rfl rfl (by decide) (arg0_at (len_not hz.1 (by simpa [allG] using hG)))) rfl ?_
    refine AOL.g (y := .ptr _) _ [(24, _)] rfl (EntL.all ⟨Ent.self _ _, trivial⟩) (fun hG => P_fieldAddr_ptr (cs' := [.int .i64 _, _, .int .i64 _, .int .i64 _, .int .i64 _, .int .i64 _, .int .i64 _, .str _]) tok rfl rfl rfl rfl rfl rfl) rfl ?_
    refine AOL.g (y := .int .i64 _) _ [(25, _)] rfl (EntL.all ⟨Ent.self _ _, trivial⟩) (fun hG => P_load_ptr (c := .int .i64 _) tok rfl rfl rfl) rfl ?_
    refine AOL.g (y := .bool _) _ [(26, _)] rfl (EntL.all ⟨Ent.self _ _, trivial⟩) (fun hG => P_eql rfl rfl) rfl ?_
    refine AOL.p (P_pick_and rfl rfl rfl) rfl ?_
    refine AOL.nil ?_
    refine thenN ?_
    refine AW.cond (b := _) rfl (fun hc2 => ?_) (fun hc2 => ?_)
    · skip
      have h12 : e.op = 12 ∧ (arg0 e).op = 12 := by simpa using hc2
      have hl0 := len_not hz.1 h12.1
      have hz0 := nodes_zero (hz.2 _ (arg0_mem hl0))
      have hl1 := len_not hz0.1 h12.2
      refine AW.seq ?_
      refine AW.region ?_
      refine AOL.p (P_fieldAddr_ptr (cs' := [_, .int .i64 _, .int .i64 _, .int .i64 _, .int .i64 _, .int .i64 _, .str _]) tok rfl rfl rfl rfl rfl rfl) rfl ?_
      refine AOL.p (P_load_ptr (c := .sl _ _) tok rfl rfl rfl) rfl ?_
      refine AOL.p (P_indexAddr (c := [.int .i64 _, _, .int .i64 _, .int .i64 _, .int .i64 _, .int .i64 _, .int .i64 _, .str _]) tok rfl rfl rfl rfl rfl rfl (by decide) (arg0_at hl0)) rfl ?_
      refine AOL.p (P_fieldAddr_ptr (cs' := [_, .int .i64 _, .int .i64 _, .int .i64 _, .int .i64 _, .int .i64 _, .str _]) tok rfl rfl rfl rfl rfl rfl) rfl ?_
      refine AOL.p (P_load_ptr (c := .sl _ _) tok rfl rfl rfl) rfl ?_
      refine AOL.p (P_indexAddr (c := [.int .i64 _, _, .int .i64 _, .int .i64 _, .int .i64 _, .int .i64 _, .int .i64 _, .str _]) tok rfl rfl rfl rfl rfl rfl (by decide) (arg0_at hl1)) rfl ?_
      refine AOL.p (P_load_ptr_agg (l := [.int .i64 _, _, .int .i64 _, .int .i64 _, .int .i64 _, .int .i64 _, .int .i64 _, .str _]) tok rfl rfl rfl rfl rfl) rfl ?_
      refine AOL.e (E_store (k := 0) (v := .agg _) (cs' := [.int .i64 _, _, .int .i64 _, .int .i64 _, .int .i64 _, .int .i64 _, .int .i64 _, .str _]) (H2 := _ :: _) tok rfl rfl rfl rfl rfl rfl rfl rfl rfl) rfl ?_
      rintro _ _ ⟨rfl, rfl⟩
      refine AOL.nil ?_
      refine thenN ?_
      refine AW.ret ?_
      refine thenR ?_
      refine ⟨.inr rfl, [.agg [.int .i64 _, _, .int .i64 _, .int .i64 _, .int .i64 _, .int .i64 _, .int .i64 _, .str _]], .cons (.box _ _ _ 0 _ _ _ _ rfl rfl rfl rfl rfl rfl) <| .nil, .cons _ (.refl _), ?_⟩
      simp only [resOf, fnodeS]
      (first | rw [if_neg (Bool.eq_false_iff.mp hc1)] | skip); (first | rw [if_pos hc2] | skip)
      first | done | rfl
    · skip
      refine AW.skip ?_
      refine thenN ?_
      refine AW.seq ?_
      refine AW.seq ?_
      refine AW.region ?_
      refine AOL.p (P_fieldAddr_ptr (cs' := [.int .i64 _, _, .int .i64 _, .int .i64 _, .int .i64 _, .int .i64 _, .int .i64 _, .str _]) tok rfl rfl rfl rfl rfl rfl) rfl ?_
      refine AOL.p (P_load_ptr (c := .int .i64 _) tok rfl rfl rfl) rfl ?_
      refine AOL.p (P_neq rfl rfl) rfl ?_
      refine AOL.p (P_move (v := .bool _) rfl) rfl ?_
      refine AOL.g (y := .ptr _) _ [] rfl (EntL.all trivial) (fun hG => P_fieldAddr_ptr (cs' := [.int .i64 _, _, .int .i64 _, .int .i64 _, .int .i64 _, .int .i64 _, .int .i64 _, .str _]) tok rfl rfl rfl rfl rfl rfl) rfl ?_
      refine AOL.g (y := .int .i64 _) _ [(40, _)] rfl (EntL.all ⟨Ent.self _ _, trivial⟩) (fun hG => P_load_ptr (c := .int .i64 _) tok rfl rfl rfl) rfl ?_
      refine AOL.g (y := .bool _) _ [(41, _)] rfl (EntL.all ⟨Ent.self _ _, trivial⟩) (fun hG => P_neq rfl rfl) rfl ?_
      refine AOL.p (P_pick_and rfl rfl rfl) rfl ?_
      refine AOL.nil ?_
      refine thenN ?_
      refine AW.cond (b := _) rfl (fun hc3 => ?_) (fun hc3 => ?_)
      · skip
        refine AW.seq ?_
        refine AW.region ?_
        refine AOL.p (P_load_ptr_agg (l := [.int .i64 _, _, .int .i64 _, .int .i64 _, .int .i64 _, .int .i64 _, .int .i64 _, .str _]) tok rfl rfl rfl rfl rfl) rfl ?_
        refine AOL.e (E_store (k := 0) (v := .agg _) (cs' := [.int .i64 _, _, .int .i64 _, .int .i64 _, .int .i64 _, .int .i64 _, .int .i64 _, .str _]) (H2 := _ :: _) tok rfl rfl rfl rfl rfl rfl rfl rfl rfl) rfl ?_
        rintro _ _ ⟨rfl, rfl⟩
        refine AOL.nil ?_
        refine thenN ?_
        refine AW.ret ?_
        refine thenR ?_
        refine ⟨.inr rfl, [.agg [.int .i64 _, _, .int .i64 _, .int .i64 _, .int .i64 _, .int .i64 _, .int .i64 _, .str _]], .cons (.box _ _ _ 0 _ _ _ _ rfl rfl rfl rfl rfl rfl) <| .nil, .cons _ (.refl _), ?_⟩
        simp only [resOf, fnodeS]
        (first | rw [if_neg (Bool.eq_false_iff.mp hc1)] | skip); (first | rw [if_neg (Bool.eq_false_iff.mp hc2)] | skip); (first | rw [if_pos hc3] | skip)
        first | done | rfl
      · skip
        have ho : e.op = 10 ∨ e.op = 11 := by simp at hc3; omega
        have hl2 := len_two hz.1 ho
        have h00 : 0 < e.args.length := by omega
        refine AW.skip ?_
        refine thenN ?_
        refine AW.seq ?_
        refine AW.region ?_
        refine AOL.p (P_assign (v := .fn _ _ _) rfl) rfl ?_
        refine AOL.nil ?_
        refine thenN ?_
        refine AW.seq ?_
        refine AW.region ?_
        refine AOL.p (P_fieldAddr_ptr (cs' := [.int .i64 _, _, .int .i64 _, .int .i64 _, .int .i64 _, .int .i64 _, .int .i64 _, .str _]) tok rfl rfl rfl rfl rfl rfl) rfl ?_
        refine AOL.p (P_load_ptr (c := .int .i64 _) tok rfl rfl rfl) rfl ?_
        refine AOL.p (P_eql rfl rfl) rfl ?_
        refine AOL.p (P_assign (v := .bool _) rfl) rfl ?_
        refine AOL.nil ?_
        refine thenN ?_
        refine AW.seq ?_
        refine AW.block ?_
        refine AW.seq ?_
        refine AW.region ?_
        refine AOL.p (P_move (v := .fn _ _ _) rfl) rfl ?_
        refine AOL.p (P_fieldAddr_ptr (cs' := [_, .int .i64 _, .int .i64 _, .int .i64 _, .int .i64 _, .int .i64 _, .str _]) tok rfl rfl rfl rfl rfl rfl) rfl ?_
        refine AOL.p (P_load_ptr (c := .sl _ _) tok rfl rfl rfl) rfl ?_
        refine AOL.p (P_indexAddr (c := [.int .i64 _, _, .int .i64 _, .int .i64 _, .int .i64 _, .int .i64 _, .int .i64 _, .str _]) tok rfl rfl rfl rfl rfl rfl (by decide) (arg0_at h00)) rfl ?_
        refine AOL.p (P_load_ptr_agg (l := [.int .i64 _, _, .int .i64 _, .int .i64 _, .int .i64 _, .int .i64 _, .int .i64 _, .str _]) tok rfl rfl rfl rfl rfl) rfl ?_
        refine AOL.p (P_move (v := .bool _) rfl) rfl ?_
        refine AOL.p (P_call (by kernel_rfl) rfl rfl rfl (c78 _ _)) rfl ?_
        refine AOL.p (P_assign (v := .bool _) rfl) rfl ?_
        refine AOL.nil ?_
        refine thenN ?_
        refine AW.cond (b := _) rfl (fun hc4 => ?_) (fun hc4 => ?_)
        · skip
          refine AW.seq ?_
          refine AW.region ?_
          refine AOL.p (P_fieldAddr_ptr (cs' := [_, .int .i64 _, .int .i64 _, .int .i64 _, .int .i64 _, .int .i64 _, .str _]) tok rfl rfl rfl rfl rfl rfl) rfl ?_
          refine AOL.p (P_load_ptr (c := .sl _ _) tok rfl rfl rfl) rfl ?_
          refine AOL.p (P_indexAddr (c := [.int .i64 _, _, .int .i64 _, .int .i64 _, .int .i64 _, .int .i64 _, .int .i64 _, .str _]) tok rfl rfl rfl rfl rfl rfl (by decide) (arg1_at hl2)) rfl ?_
          refine AOL.p (P_load_ptr_agg (l := [.int .i64 _, _, .int .i64 _, .int .i64 _, .int .i64 _, .int .i64 _, .int .i64 _, .str _]) tok rfl rfl rfl rfl rfl) rfl ?_
          refine AOL.e (E_store (k := 0) (v := .agg _) (cs' := [.int .i64 _, _, .int .i64 _, .int .i64 _, .int .i64 _, .int .i64 _, .int .i64 _, .str _]) (H2 := _ :: _) tok rfl rfl rfl rfl rfl rfl rfl rfl rfl) rfl ?_
          rintro _ _ ⟨rfl, rfl⟩
          refine AOL.nil ?_
          refine thenN ?_
          refine AW.ret ?_
          refine blkR ?_
          refine thenR ?_
          refine ⟨.inr rfl, [.agg [.int .i64 _, _, .int .i64 _, .int .i64 _, .int .i64 _, .int .i64 _, .int .i64 _, .str _]], .cons (.box _ _ _ 0 _ _ _ _ rfl rfl rfl rfl rfl rfl) <| .nil, .cons _ (.refl _), ?_⟩
          simp only [resOf, fnodeS]
          (first | rw [if_neg (Bool.eq_false_iff.mp hc1)] | skip); (first | rw [if_neg (Bool.eq_false_iff.mp hc2)] | skip); (first | rw [if_neg (Bool.eq_false_iff.mp hc3)] | skip); (first | rw [if_pos hc4] | skip)
          first | done | rfl
        · skip
          refine AW.seq ?_
          refine AW.region ?_
          refine AOL.p (P_move (v := .fn _ _ _) rfl) rfl ?_
          refine AOL.p (P_fieldAddr_ptr (cs' := [_, .int .i64 _, .int .i64 _, .int .i64 _, .int .i64 _, .int .i64 _, .str _]) tok rfl rfl rfl rfl rfl rfl) rfl ?_
          refine AOL.p (P_load_ptr (c := .sl _ _) tok rfl rfl rfl) rfl ?_
          refine AOL.p (P_indexAddr (c := [.int .i64 _, _, .int .i64 _, .int .i64 _, .int .i64 _, .int .i64 _, .int .i64 _, .str _]) tok rfl rfl rfl rfl rfl rfl (by decide) (arg1_at hl2)) rfl ?_
          refine AOL.p (P_load_ptr_agg (l := [.int .i64 _, _, .int .i64 _, .int .i64 _, .int .i64 _, .int .i64 _, .int .i64 _, .str _]) tok rfl rfl rfl rfl rfl) rfl ?_
          refine AOL.p (P_move (v := .bool _) rfl) rfl ?_
          refine AOL.p (P_call (by kernel_rfl) rfl rfl rfl (c78 _ _)) rfl ?_
          refine AOL.p (P_assign (v := .bool _) rfl) rfl ?_
          refine AOL.nil ?_
          refine thenN ?_
          refine AW.cond (b := _) rfl (fun hc5 => ?_) (fun hc5 => ?_)
          · skip
            refine AW.seq ?_
            refine AW.region ?_
            refine AOL.p (P_fieldAddr_ptr (cs' := [_, .int .i64 _, .int .i64 _, .int .i64 _, .int .i64 _, .int .i64 _, .str _]) tok rfl rfl rfl rfl rfl rfl) rfl ?_
            refine AOL.p (P_load_ptr (c := .sl _ _) tok rfl rfl rfl) rfl ?_
            refine AOL.p (P_indexAddr (c := [.int .i64 _, _, .int .i64 _, .int .i64 _, .int .i64 _, .int .i64 _, .int .i64 _, .str _]) tok rfl rfl rfl rfl rfl rfl (by decide) (arg0_at h00)) rfl ?_
            refine AOL.p (P_load_ptr_agg (l := [.int .i64 _, _, .int .i64 _, .int .i64 _, .int .i64 _, .int .i64 _, .int .i64 _, .str _]) tok rfl rfl rfl rfl rfl) rfl ?_
            refine AOL.e (E_store (k := 0) (v := .agg _) (cs' := [.int .i64 _, _, .int .i64 _, .int .i64 _, .int .i64 _, .int .i64 _, .int .i64 _, .str _]) (H2 := _ :: _) tok rfl rfl rfl rfl rfl rfl rfl rfl rfl) rfl ?_
            rintro _ _ ⟨rfl, rfl⟩
            refine AOL.nil ?_
            refine thenN ?_
            refine AW.ret ?_
            refine blkR ?_
            refine thenR ?_
            refine ⟨.inr rfl, [.agg [.int .i64 _, _, .int .i64 _, .int .i64 _, .int .i64 _, .int .i64 _, .int .i64 _, .str _]], .cons (.box _ _ _ 0 _ _ _ _ rfl rfl rfl rfl rfl rfl) <| .nil, .cons _ (.refl _), ?_⟩
            simp only [resOf, fnodeS]
            (first | rw [if_neg (Bool.eq_false_iff.mp hc1)] | skip); (first | rw [if_neg (Bool.eq_false_iff.mp hc2)] | skip); (first | rw [if_neg (Bool.eq_false_iff.mp hc3)] | skip); (first | rw [if_neg (Bool.eq_false_iff.mp hc4)] | skip); (first | rw [if_pos hc5] | skip)
            first | done | rfl
          · skip
            refine AW.seq ?_
            refine AW.region ?_
            refine AOL.p (P_move (v := .fn _ _ _) rfl) rfl ?_
            refine AOL.p (P_fieldAddr_ptr (cs' := [_, .int .i64 _, .int .i64 _, .int .i64 _, .int .i64 _, .int .i64 _, .str _]) tok rfl rfl rfl rfl rfl rfl) rfl ?_
            refine AOL.p (P_load_ptr (c := .sl _ _) tok rfl rfl rfl) rfl ?_
            refine AOL.p (P_indexAddr (c := [.int .i64 _, _, .int .i64 _, .int .i64 _, .int .i64 _, .int .i64 _, .int .i64 _, .str _]) tok rfl rfl rfl rfl rfl rfl (by decide) (arg0_at h00)) rfl ?_
            refine AOL.p (P_load_ptr_agg (l := [.int .i64 _, _, .int .i64 _, .int .i64 _, .int .i64 _, .int .i64 _, .int .i64 _, .str _]) tok rfl rfl rfl rfl rfl) rfl ?_
            refine AOL.p (P_move (v := .bool _) rfl) rfl ?_
            refine AOL.p (P_not rfl) rfl ?_
            refine AOL.p (P_call (by kernel_rfl) rfl rfl rfl (c78 _ _)) rfl ?_
            refine AOL.p (P_move (v := .bool _) rfl) rfl ?_
            refine AOL.g (y := .fn _ _ _) _ [] rfl (EntL.all trivial) (fun hG => P_move (v := .fn _ _ _) rfl) rfl ?_
            refine AOL.g (y := .ptr _) _ [] rfl (EntL.all trivial) (fun hG => P_fieldAddr_ptr (cs' := [_, .int .i64 _, .int .i64 _, .int .i64 _, .int .i64 _, .int .i64 _, .str _]) tok rfl rfl rfl rfl rfl rfl) rfl ?_
            refine AOL.g (y := .sl _ _) _ [(83, _)] rfl (EntL.all ⟨Ent.self _ _, trivial⟩) (fun hG => P_load_ptr (c := .sl _ _) tok rfl rfl rfl) rfl ?_
            refine AOL.g (y := .ptr _) _ [(84, _)] rfl (EntL.all ⟨Ent.self _ _, trivial⟩) (fun hG => P_indexAddr (c := [.int .i64 _, _, .int .i64 _, .int .i64 _, .int .i64 _, .int .i64 _, .int .i64 _, .str _]) tok rfl rfl rfl rfl rfl rfl (by decide) (arg1_at hl2)) rfl ?_
            refine AOL.g (y := .agg _) _ [(85, _)] rfl (EntL.all ⟨Ent.self _ _, trivial⟩) (fun hG => P_load_ptr_agg (l := [.int .i64 _, _, .int .i64 _, .int .i64 _, .int .i64 _, .int .i64 _, .int .i64 _, .str _]) tok rfl rfl rfl rfl rfl) rfl ?_
            refine AOL.g (y := .bool _) _ [] rfl (EntL.all trivial) (fun hG => P_move (v := .bool _) rfl) rfl ?_
            refine AOL.g (y := .bool _) _ [(87, _)] rfl (EntL.all ⟨Ent.self _ _, trivial⟩) (fun hG => P_not rfl) rfl ?_
            refine AOL.g (y := .bool _) _ [(86, _), (88, _), (82, _)] rfl (EntL.all ⟨Ent.self _ _, Ent.self _ _, Ent.self _ _, trivial⟩) (fun hG => P_call (by kernel_rfl) rfl rfl rfl (c78 _ _)) rfl ?_
            refine AOL.p (P_pick_or rfl rfl rfl) rfl ?_
            refine AOL.p (P_assign (v := .bool _) rfl) rfl ?_
            refine AOL.nil ?_
            refine thenN ?_
            refine AW.cond (b := _) rfl (fun hc6 => ?_) (fun hc6 => ?_)
            · skip
              refine AW.seq ?_
              refine AW.region ?_
              refine AOL.p (P_move (v := .bool _) rfl) rfl ?_
              refine AOL.p (P_not rfl) rfl ?_
              refine AOL.p (P_callf (by kernel_rfl) rfl rfl (c42 _)) rfl ?_
              refine AOL.p (P_callf (by kernel_rfl) rfl rfl (c77 _)) rfl ?_
              refine AOL.e (E_store (k := 0) (v := .agg _) (cs' := [.int .i64 _, _, .int .i64 _, .int .i64 _, .int .i64 _, .int .i64 _, .int .i64 _, .str _]) (H2 := _ :: _) tok rfl rfl rfl rfl rfl rfl rfl rfl rfl) rfl ?_
              rintro _ _ ⟨rfl, rfl⟩
              refine AOL.nil ?_
              refine thenN ?_
              refine AW.ret ?_
              refine blkR ?_
              refine thenR ?_
              refine ⟨.inr rfl, [.agg [.int .i64 _, _, .int .i64 _, .int .i64 _, .int .i64 _, .int .i64 _, .int .i64 _, .str _]], .cons (.box _ _ _ 0 _ _ _ _ rfl rfl rfl rfl rfl rfl) <| .nil, .cons _ (.refl _), ?_⟩
              simp only [resOf, fnodeS]
              (first | rw [if_neg (Bool.eq_false_iff.mp hc1)] | skip); (first | rw [if_neg (Bool.eq_false_iff.mp hc2)] | skip); (first | rw [if_neg (Bool.eq_false_iff.mp hc3)] | skip); (first | rw [if_neg (Bool.eq_false_iff.mp hc4)] | skip); (first | rw [if_neg (Bool.eq_false_iff.mp hc5)] | skip); (first | rw [if_pos hc6] | skip)
              first | done | rfl
            · skip
              refine AW.skip ?_
              refine blkN ?_
              refine thenN ?_
              refine AW.seq ?_
              refine AW.region ?_
              refine AOL.p (P_load_ptr_agg (l := [.int .i64 _, _, .int .i64 _, .int .i64 _, .int .i64 _, .int .i64 _, .int .i64 _, .str _]) tok rfl rfl rfl rfl rfl) rfl ?_
              refine AOL.e (E_store (k := 0) (v := .agg _) (cs' := [.int .i64 _, _, .int .i64 _, .int .i64 _, .int .i64 _, .int .i64 _, .int .i64 _, .str _]) (H2 := _ :: _) tok rfl rfl rfl rfl rfl rfl rfl rfl rfl) rfl ?_
              rintro _ _ ⟨rfl, rfl⟩
              refine AOL.nil ?_
              refine thenN ?_
              refine AW.ret ?_
              refine ⟨.inr rfl, [.agg [.int .i64 _, _, .int .i64 _, .int .i64 _, .int .i64 _, .int .i64 _, .int .i64 _, .str _]], .cons (.box _ _ _ 0 _ _ _ _ rfl rfl rfl rfl rfl rfl) <| .nil, .cons _ (.refl _), ?_⟩
              simp only [resOf, fnodeS]
              (first | rw [if_neg (Bool.eq_false_iff.mp hc1)] | skip); (first | rw [if_neg (Bool.eq_false_iff.mp hc2)] | skip); (first | rw [if_neg (Bool.eq_false_iff.mp hc3)] | skip); (first | rw [if_neg (Bool.eq_false_iff.mp hc4)] | skip); (first | rw [if_neg (Bool.eq_false_iff.mp hc5)] | skip); (first | rw [if_neg (Bool.eq_false_iff.mp hc6)] | skip)
              first | done | rfl
set_option maxRecDepth 20000 in
set_option maxHeartbeats 1600000 in
theorem c43 (f : Ex → Ex) (fid : Nat) (first cap : List AV) (hb : fnB Try.prog fid = true) (Q : Ex → Prop) (hQ : ∀ e, Q e → ∀ a ∈ e.args, Q a) (hf : ∀ e, Q e → APure Try.prog fid (first ++ [.agg (cE (outS f e))] ++ cap) (.agg (cE (f (outS f e))))) (e : Ex) (he : Q e) (hs : sizeN e ≤ 1048576) : APure Try.prog 43 [.agg (cE e), .fn (.func fid) first cap] (.agg (cE (rebS f e))) := by
  revert he hs
  induction e using Ex.ind
  rename_i e ih
  intro he hs
  have hal := args_le e hs
  refine APure.body (n := 29) tok Try.func43 rfl rfl rfl fun H => ?_
  refine AW.seq ?_
  refine AW.region ?_
  refine AOL.p (P_box (v := .agg _) (cs := [.int .i64 _, _, .int .i64 _, .int .i64 _, .int .i64 _, .int .i64 _, .int .i64 _, .str _]) rfl rfl rfl) rfl ?_
  refine AOL.e (E_alloc (l := [.int .i64 0, .sl 8 [], .int .i64 0, .int .i64 0, .int .i64 0, .int .i64 0, .int .i64 0, .str []]) (by kernel_rfl)) rfl ?_
  rintro _ _ ⟨b4, rfl, rfl⟩
  refine AOL.nil ?_
  refine thenN ?_
  refine AW.seq ?_
  refine AW.region ?_
  refine AOL.p (P_load_ptr_agg (l := [.int .i64 _, _, .int .i64 _, .int .i64 _, .int .i64 _, .int .i64 _, .int .i64 _, .str _]) tok rfl rfl rfl rfl rfl) rfl ?_
  refine AOL.e (E_alloc (l := [.int .i64 0, .sl 8 [], .int .i64 0, .int .i64 0, .int .i64 0, .int .i64 0, .int .i64 0, .str []]) (by kernel_rfl)) rfl ?_
  rintro _ _ ⟨b5, rfl, rfl⟩
  refine AOL.e (E_store (k := 0) (v := .agg _) (cs' := [.int .i64 _, _, .int .i64 _, .int .i64 _, .int .i64 _, .int .i64 _, .int .i64 _, .str _]) (H2 := _ :: _ :: _) tok rfl rfl rfl rfl rfl rfl rfl rfl rfl) rfl ?_
  rintro _ _ ⟨rfl, rfl⟩
  refine AOL.nil ?_
  refine thenN ?_
  refine AW.seq ?_
  refine AW.region ?_
  refine AOL.p (P_fieldAddr_val tok rfl rfl rfl rfl rfl rfl) rfl ?_
  refine AOL.e (E_store (k := 0) (v := .val _) (cs' := [.int .i64 _, _, .int .i64 _, .int .i64 _, .int .i64 _, .int .i64 _, .int .i64 _, .str _]) (H2 := _ :: _ :: _) tok rfl rfl rfl rfl rfl rfl rfl rfl rfl) rfl ?_
  rintro _ _ ⟨rfl, rfl⟩
  refine AOL.ghost (GS.cellRow 0 1 26 8 rfl rfl rfl rfl) ?_
  refine AOL.nil ?_
  refine thenN ?_
  refine AW.seq ?_
  refine AW.seq ?_
  refine AW.region ?_
  refine AOL.p (P_fieldAddr_ptr (cs' := [_, .int .i64 _, .int .i64 _, .int .i64 _, .int .i64 _, .int .i64 _, .str _]) tok rfl rfl rfl rfl rfl rfl) rfl ?_
  refine AOL.p (P_load_ptr (c := .sl _ _) tok rfl rfl rfl) rfl ?_
  refine AOL.p (P_len_sl (n := e.args.length) tok rfl rfl rfl (by simp)) rfl ?_
  refine AOL.p (P_move (v := .int .i64 _) rfl) rfl ?_
  refine AOL.nil ?_
  refine thenN ?_
  refine AW.block ?_
  refine AW.loopS (fun (p : Nat × List (List AV) × Value) => (⟨[(1, .fn (.func fid) first cap), (2, .ptr (cE e)), (4, .val (.pointer (some ⟨b4, 0, none⟩))), (5, .val (.pointer (some ⟨b5, 0, none⟩))), (11, .sl 8 (e.args.map encE)), (12, .int .i64 e.args.length), (13, .int .i64 (p.1 : Int))], .row p.2.2 p.2.1.length 26 8 :: .box b5 26 [.int .i64 e.op, .row p.2.2 8 p.2.1, .int .i64 e.var, .int .i64 e.field, .int .i64 e.kind, .int .i64 e.val.kind, .int .i64 e.val.num, .str e.val.text] :: .box b4 26 [.int .i64 0, .sl 8 [], .int .i64 0, .int .i64 0, .int .i64 0, .int .i64 0, .int .i64 0, .str []] :: H, 29⟩ : St)) (fun (p : Nat × List (List AV) × Value) => p.1 ≤ e.args.length ∧ p.2.1 = ((e.args.take p.1).map (rebS f)).map encE) (fun (p : Nat × List (List AV) × Value) => e.args.length - p.1) ((0, [], .slice none 0 0)) ?_ (GS.weaken ⟨rfl, rfl, rfl, rfl, rfl, rfl, rfl, trivial⟩ (.refl _)) ?_
  · exact ⟨Nat.zero_le _, by simp⟩
  · rintro p hR
    refine AW.seq ?_
    refine AW.region ?_
    refine AOL.p (P_lss rfl rfl) rfl ?_
    refine AOL.nil ?_
    refine thenN ?_
    refine AW.seq ?_
    refine AW.cond (b := _) rfl (fun hc1 => ?_) (fun hc1 => ?_)
    · skip
      obtain ⟨a, ha⟩ := get_lt hc1
      have hlt := get_lt' ha
      have hm := List.mem_of_getElem? ha
      have hsc : ∀ c ∈ p.2.1, scalars c = true := by rw [hR.2]; exact sc_map fun a => by rw [encE_eq]; rfl
      refine AW.skip ?_
      refine thenN ?_
      refine AW.seq ?_
      refine AW.block ?_
      refine AW.seq ?_
      refine AW.region ?_
      refine AOL.p (P_indexAddr (c := [.int .i64 _, _, .int .i64 _, .int .i64 _, .int .i64 _, .int .i64 _, .int .i64 _, .str _]) tok rfl rfl rfl rfl rfl rfl (by omega) (encE_at ha)) rfl ?_
      refine AOL.p (P_load_ptr_agg (l := [.int .i64 _, _, .int .i64 _, .int .i64 _, .int .i64 _, .int .i64 _, .int .i64 _, .str _]) tok rfl rfl rfl rfl rfl) rfl ?_
      refine AOL.e (E_alloc (l := [.int .i64 0, .sl 8 [], .int .i64 0, .int .i64 0, .int .i64 0, .int .i64 0, .int .i64 0, .str []]) (by kernel_rfl)) rfl ?_
      rintro _ _ ⟨b7, rfl, rfl⟩
      refine AOL.e (E_store (k := 0) (v := .agg _) (cs' := [.int .i64 _, _, .int .i64 _, .int .i64 _, .int .i64 _, .int .i64 _, .int .i64 _, .str _]) (H2 := _ :: _ :: _ :: _ :: _) tok rfl rfl rfl rfl rfl rfl rfl rfl rfl) rfl ?_
      rintro _ _ ⟨rfl, rfl⟩
      refine AOL.ghost (GS.freeze (t := 7) 0 rfl rfl) ?_
      refine AOL.nil ?_
      refine thenN ?_
      refine AW.draw mixed (fun H' => _ ∈ H') (List.mem_of_getElem? (i := 1) rfl) (by kernel_rfl) ?_
      refine Canon.pure _ _ 0 _ _ rfl (by kernel_rfl) (by kernel_rfl) rfl (.run rfl (P_fieldAddr_val tok rfl rfl rfl rfl rfl rfl)) ?_
      refine Canon.pure _ _ 1 _ _ rfl (by kernel_rfl) (by kernel_rfl) rfl (.run rfl (OpP.mem (fun k => P_load_box (k := k) (c := .row _ _ _) tok rfl rfl rfl rfl) (fun _ h => h))) ?_
      refine Canon.pure _ _ 2 _ _ rfl (by kernel_rfl) (by kernel_rfl) rfl (.run rfl (P_load_ptr_agg (l := [.int .i64 _, _, .int .i64 _, .int .i64 _, .int .i64 _, .int .i64 _, .int .i64 _, .str _]) tok rfl rfl rfl rfl rfl)) ?_
      refine Canon.pure _ _ 3 _ _ rfl (by kernel_rfl) (by kernel_rfl) rfl (.run rfl (P_move (v := .fn _ _ _) rfl)) ?_
      refine Canon.pure _ _ 4 _ _ rfl (by kernel_rfl) (by kernel_rfl) rfl (.run rfl (P_callf (by kernel_rfl) rfl rfl (ih a hm (hQ e he a hm) (by have := size_arg hm; omega)))) ?_
      refine Canon.pure _ _ 5 _ _ rfl (by kernel_rfl) (by kernel_rfl) rfl (.run rfl (P_buildSlice (es := [[.int .i64 _, _, .int .i64 _, .int .i64 _, .int .i64 _, .int .i64 _, .int .i64 _, .str _]]) tok rfl rfl rfl rfl rfl rfl rfl rfl rfl)) ?_
      refine Canon.eff _ _ 6 _ _ rfl (by kernel_rfl) rfl rfl (E_append (k := 0) tok rfl rfl rfl rfl rfl rfl rfl rfl (sc_one rfl) (hsc) (by simp [hR.2]; omega) (by simp [hR.2, maxLen]; omega)) (by rintro _ _ ⟨v23, rfl, rfl⟩; simp) ?_
      rintro _ _ ⟨v23, rfl, rfl⟩
      refine Canon.pure _ _ 7 _ _ rfl (by kernel_rfl) (by kernel_rfl) rfl (.run rfl (P_fieldAddr_val tok rfl rfl rfl rfl rfl rfl)) ?_
      refine Canon.last _ _ 8 _ _ rfl (by kernel_rfl) rfl rfl (E_store (k := 1) (v := .row _ _ _) (cs' := [.int .i64 _, _, .int .i64 _, .int .i64 _, .int .i64 _, .int .i64 _, .int .i64 _, .str _]) (H2 := _ :: _ :: _ :: _) tok rfl rfl rfl rfl rfl rfl rfl rfl rfl) (by kernel_rfl) ?_
      rintro _ _ ⟨rfl, rfl⟩
      refine blkN ?_
      refine thenN ?_
      refine AW.region ?_
      refine AOL.p (P_add rfl rfl rfl (by constructor <;> omega)) rfl ?_
      refine AOL.p (P_move (v := .int .i64 _) rfl) rfl ?_
      refine AOL.nil ?_
      refine thenN ?_
      refine ⟨(p.1 + 1, p.2.1 ++ [cE (rebS f a)], v23), ?_, ?_, GS.weaken ⟨rfl, rfl, rfl, rfl, rfl, rfl, rfl, trivial⟩ (.refl _)⟩
      · simp only; exact ⟨hlt, by rw [take_get ha, hR.2]; simp [encE_eq]⟩
      · first | omega | (simp only; omega)
    · skip
      have hte := take_end hc1
      obtain ⟨k, es, rv⟩ := p
      simp only at hR hte
      obtain rfl : es = (e.args.map (rebS f)).map encE := by rw [hR.2, hte]
      refine AW.exit ?_
      refine thenE ?_
      refine thenE ?_
      refine blkHit ?_
      refine thenN ?_
      refine AW.seq ?_
      refine AW.region ?_
      refine AOL.p (P_move (v := .fn _ _ _) rfl) rfl ?_
      refine AOL.ghost (GS.cell 1 1 rfl rfl rfl rfl unrow_cell) ?_
      refine AOL.pk (P_load_box_agg (k := 1) (l := [.int .i64 _, _, .int .i64 _, .int .i64 _, .int .i64 _, .int .i64 _, .int .i64 _, .str _]) tok rfl rfl rfl rfl rfl) rfl rfl ?_
      refine AOL.p (P_call hb rfl rfl rfl (hf e he)) rfl ?_
      refine AOL.e (E_store (k := 2) (v := .agg _) (cs' := [.int .i64 _, _, .int .i64 _, .int .i64 _, .int .i64 _, .int .i64 _, .int .i64 _, .str _]) (H2 := _ :: _ :: _ :: _) tok rfl rfl rfl rfl rfl rfl rfl rfl rfl) rfl ?_
      rintro _ _ ⟨rfl, rfl⟩
      refine AOL.nil ?_
      refine thenN ?_
      refine AW.ret ?_
      refine ⟨.inr rfl, [.agg [.int .i64 _, _, .int .i64 _, .int .i64 _, .int .i64 _, .int .i64 _, .int .i64 _, .str _]], .cons (.box _ _ _ 2 _ _ _ _ rfl rfl rfl rfl rfl rfl) <| .nil, .cons _ (.cons _ (.cons _ (.refl _))), ?_⟩
      rw [rebS_eq]; rfl

end Go.Proofs.Ytkkacfnkjiijkaa
