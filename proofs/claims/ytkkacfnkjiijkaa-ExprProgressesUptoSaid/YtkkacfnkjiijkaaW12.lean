/-
  Walks of layer 8: eval, Eval, Truth of the reference. No condition.
-/
import Derived.Test.YtkkacfnkjiijkaaW11
import Derived.Test.YtkkacfnkjiijkaaW10
import Derived.KernelRfl
namespace Go.Proofs.Ytkkacfnkjiijkaa
open Go Go.Aw
set_option linter.unusedVariables false
set_option linter.unusedSimpArgs false

theorem node_apply {op : Int} {l : List Vl} (h : (l.length = 1 ∧ op = 12) ∨ (l.length = 2 ∧ 5 ≤ op ∧ op ≤ 11)) :
    APure Try.prog 74 [.int .i64 op, .sl 3 (l.map cV)] (.agg (cV (if op == 9 then flagS (eqV (l.headD v0) ((l[1]?).getD v0)) else applyS op (l.headD v0).num (l.getLastD v0).num))) := by
  rcases h with ⟨h, rfl⟩ | ⟨h, _⟩
  · match l, h with
    | [v], _ => exact c74one v
  · match l, h with
    | [v, w], _ => exact c74 op v w

set_option maxRecDepth 20000 in
set_option maxHeartbeats 1600000 in
theorem c41 (vars : List (List Ev)) (own : Int) (ev : Ev) (hx : ∀ l ∈ vars, l.length ≤ 1048576) (e : Ex) (hn : nodesS e = 0) (hs : sizeN e ≤ 1048576) : APure Try.prog 41 [.agg (cE e), .agg (cEnv vars), .int .i64 own, .agg (cEv ev)] (.tuple [.agg (cV (evalS (⟨vars, own, ev⟩ : Evr) e).1), .int .i64 (evalS (⟨vars, own, ev⟩ : Evr) e).2]) := by
  revert hn hs
  induction e using Ex.ind
  rename_i e ih
  intro hn hs
  have hz := nodes_zero hn
  have hfl := node_field hz.1
  have hal := args_le e hs
  refine APure.body (n := 71) tok Try.func41 rfl rfl rfl fun H => ?_
  refine AW.seq ?_
  refine AW.region ?_
  refine AOL.p (P_box (v := .agg _) (cs := [.int .i64 _, _, .int .i64 _, .int .i64 _, .int .i64 _, .int .i64 _, .int .i64 _, .str _]) rfl rfl rfl) rfl ?_
  refine AOL.p (P_box (v := .agg _) (cs := [_]) rfl rfl rfl) rfl ?_
  refine AOL.p (P_box (v := .agg _) (cs := [.int .i64 _, .int .i64 _, .int .i64 _, .int .i64 _, _]) rfl rfl rfl) rfl ?_
  refine AOL.e (E_alloc (l := [.int .i64 0, .int .i64 0, .str []]) (by kernel_rfl)) rfl ?_
  rintro _ _ ⟨b8, rfl, rfl⟩
  refine AOL.p (P_assign (v := .int .i64 _) rfl) rfl ?_
  refine AOL.nil ?_
  refine thenN ?_
  refine AW.seq ?_
  refine AW.seq ?_
  refine AW.region ?_
  refine AOL.p (P_fieldAddr_ptr (cs' := [_, .int .i64 _, .int .i64 _, .int .i64 _, .int .i64 _, .int .i64 _, .str _]) tok rfl rfl rfl rfl rfl rfl) rfl ?_
  refine AOL.p (P_load_ptr (c := .sl _ _) tok rfl rfl rfl) rfl ?_
  refine AOL.p (P_len_sl (n := e.args.length) tok rfl rfl rfl (by simp)) rfl ?_
  refine AOL.p (P_eql rfl rfl) rfl ?_
  refine AOL.nil ?_
  refine thenN ?_
  refine AW.cond (b := _) rfl (fun hc1 => ?_) (fun hc1 => ?_)
  · skip
    refine AW.seq ?_
    refine AW.region ?_
    refine AOL.p (P_load_ptr_agg (l := [.int .i64 _, _, .int .i64 _, .int .i64 _, .int .i64 _, .int .i64 _, .int .i64 _, .str _]) tok rfl rfl rfl rfl rfl) rfl ?_
    refine AOL.p (P_load_ptr_agg (l := [_]) tok rfl rfl rfl rfl rfl) rfl ?_
    refine AOL.p (P_move (v := .int .i64 _) rfl) rfl ?_
    refine AOL.p (P_load_ptr_agg (l := [.int .i64 _, .int .i64 _, .int .i64 _, .int .i64 _, _]) tok rfl rfl rfl rfl rfl) rfl ?_
    refine AOL.p (P_callf (by kernel_rfl) rfl rfl (c72 vars own ev hx e hfl)) rfl ?_
    refine AOL.p (P_extract (v := .agg [.int .i64 _, .int .i64 _, .str _]) rfl rfl) rfl ?_
    refine AOL.p (P_extract (v := .int .i64 _) rfl rfl) rfl ?_
    refine AOL.e (E_store (k := 0) (v := .agg _) (cs' := [.int .i64 _, .int .i64 _, .str _]) (H2 := _ :: _) tok rfl rfl rfl rfl rfl rfl rfl rfl rfl) rfl ?_
    rintro _ _ ⟨rfl, rfl⟩
    refine AOL.p (P_assign (v := .int .i64 _) rfl) rfl ?_
    refine AOL.nil ?_
    refine thenN ?_
    refine AW.ret ?_
    refine thenR ?_
    refine ⟨.inr rfl, [.agg [.int .i64 _, .int .i64 _, .str _], .int .i64 _], .cons (.box _ _ _ 0 _ _ _ _ rfl rfl rfl rfl rfl rfl) <| .cons (.tmp _ _ rfl) <| .nil, .cons _ (.refl _), ?_⟩
    rw [evalS_eq (⟨vars, own, ev⟩ : Evr) e, if_pos (by simpa [List.isEmpty_iff] using hc1)]; rfl
  · skip
    refine AW.skip ?_
    refine thenN ?_
    refine AW.seq ?_
    refine AW.region ?_
    refine AOL.p (P_assign (v := .val _) rfl) rfl ?_
    refine AOL.ghost (GS.row (t := 10) 24 3 rfl) ?_
    refine AOL.nil ?_
    refine thenN ?_
    refine AW.seq ?_
    refine AW.region ?_
    refine AOL.p (P_assign (v := .val _) rfl) rfl ?_
    refine AOL.ghost (GS.row (t := 11) 3 1 rfl) ?_
    refine AOL.nil ?_
    refine thenN ?_
    refine AW.seq ?_
    refine AW.seq ?_
    refine AW.region ?_
    refine AOL.p (P_assign (v := .int .i64 _) rfl) rfl ?_
    refine AOL.nil ?_
    refine thenN ?_
    refine AW.block ?_
    refine AW.loopS (fun (p : Nat × List (List AV) × Value × List (List AV) × Value) => (⟨[(2, .int .i64 own), (4, .ptr (cE e)), (5, .ptr (cEnv vars)), (7, .ptr (cEv ev)), (8, .val (.pointer (some ⟨b8, 0, none⟩))), (10, .row p.2.2.1 3 p.2.1), (11, .row p.2.2.2.2 1 p.2.2.2.1), (12, .int .i64 (p.1 : Int))], .row p.2.2.2.2 p.2.2.2.1.length 3 1 :: .row p.2.2.1 p.2.1.length 24 3 :: .box b8 24 [.int .i64 0, .int .i64 0, .str []] :: H, 71⟩ : St)) (fun (p : Nat × List (List AV) × Value × List (List AV) × Value) => p.1 ≤ e.args.length ∧ firstS (fun a => (evalS (⟨vars, own, ev⟩ : Evr) a).2) e.args = firstS (fun a => (evalS (⟨vars, own, ev⟩ : Evr) a).2) (e.args.drop p.1) ∧ p.2.1 = ((e.args.take p.1).map (fun a => (evalS (⟨vars, own, ev⟩ : Evr) a).1)).map cV ∧ p.2.2.2.1 = ((e.args.take p.1).map (fun a => (evalS (⟨vars, own, ev⟩ : Evr) a).1.kind)).map (fun k => [AV.int .i64 k])) (fun (p : Nat × List (List AV) × Value × List (List AV) × Value) => e.args.length - p.1) ((0, [], .slice none 0 0, [], .slice none 0 0)) ?_ (GS.weaken ⟨rfl, rfl, rfl, rfl, rfl, rfl, rfl, rfl, trivial⟩ (.refl _)) ?_
    · exact ⟨Nat.zero_le _, by simp, by simp, by simp⟩
    · rintro p hR
      have hsc : ∀ c ∈ p.2.1, scalars c = true := by rw [hR.2.2.1]; exact sc_map fun _ => rfl
      have hsc2 : ∀ c ∈ p.2.2.2.1, scalars c = true := by rw [hR.2.2.2]; exact sc_map fun _ => rfl
      refine AW.seq ?_
      refine AW.seq ?_
      refine AW.region ?_
      refine AOL.p (P_move (v := .int .i64 _) rfl) rfl ?_
      refine AOL.p (P_fieldAddr_ptr (cs' := [_, .int .i64 _, .int .i64 _, .int .i64 _, .int .i64 _, .int .i64 _, .str _]) tok rfl rfl rfl rfl rfl rfl) rfl ?_
      refine AOL.p (P_load_ptr (c := .sl _ _) tok rfl rfl rfl) rfl ?_
      refine AOL.p (P_len_sl (n := e.args.length) tok rfl rfl rfl (by simp)) rfl ?_
      refine AOL.p (P_lss rfl rfl) rfl ?_
      refine AOL.nil ?_
      refine thenN ?_
      refine AW.cond (b := _) rfl (fun hc2 => ?_) (fun hc2 => ?_)
      · skip
        obtain ⟨a, ha⟩ := get_lt hc2
        have hlt := get_lt' ha
        have hm := List.mem_of_getElem? ha
        refine AW.skip ?_
        refine thenN ?_
        refine AW.seq ?_
        refine AW.block ?_
        refine AW.seq ?_
        refine AW.draw mixed (fun _ => True) trivial (by kernel_rfl) ?_
        refine Canon.pure _ _ 0 _ _ rfl (by kernel_rfl) (by kernel_rfl) rfl (.run rfl (P_fieldAddr_ptr (cs' := [_, .int .i64 _, .int .i64 _, .int .i64 _, .int .i64 _, .int .i64 _, .str _]) tok rfl rfl rfl rfl rfl rfl)) ?_
        refine Canon.pure _ _ 1 _ _ rfl (by kernel_rfl) (by kernel_rfl) rfl (.run rfl (P_load_ptr (c := .sl _ _) tok rfl rfl rfl)) ?_
        refine Canon.pure _ _ 2 _ _ rfl (by kernel_rfl) (by kernel_rfl) rfl (.run rfl (P_move (v := .int .i64 _) rfl)) ?_
        refine Canon.pure _ _ 3 _ _ rfl (by kernel_rfl) (by kernel_rfl) rfl (.run rfl (P_indexAddr (c := [.int .i64 _, _, .int .i64 _, .int .i64 _, .int .i64 _, .int .i64 _, .int .i64 _, .str _]) tok rfl rfl rfl rfl rfl rfl (by omega) (encE_at ha))) ?_
        refine Canon.pure _ _ 4 _ _ rfl (by kernel_rfl) (by kernel_rfl) rfl (.run rfl (P_load_ptr_agg (l := [.int .i64 _, _, .int .i64 _, .int .i64 _, .int .i64 _, .int .i64 _, .int .i64 _, .str _]) tok rfl rfl rfl rfl rfl)) ?_
        refine Canon.pure _ _ 5 _ _ rfl (by kernel_rfl) (by kernel_rfl) rfl (.run rfl (P_load_ptr_agg (l := [_]) tok rfl rfl rfl rfl rfl)) ?_
        refine Canon.pure _ _ 6 _ _ rfl (by kernel_rfl) (by kernel_rfl) rfl (.run rfl (P_move (v := .int .i64 _) rfl)) ?_
        refine Canon.pure _ _ 7 _ _ rfl (by kernel_rfl) (by kernel_rfl) rfl (.run rfl (P_load_ptr_agg (l := [.int .i64 _, .int .i64 _, .int .i64 _, .int .i64 _, _]) tok rfl rfl rfl rfl rfl)) ?_
        refine Canon.pure _ _ 8 _ _ rfl (by kernel_rfl) (by kernel_rfl) rfl (.run rfl (P_callf (by kernel_rfl) rfl rfl (ih a hm (hz.2 a hm) (by have := size_arg hm; omega)))) ?_
        refine Canon.pure _ _ 9 _ _ rfl (by kernel_rfl) (by kernel_rfl) rfl (.run rfl (P_move (v := .tuple _) rfl)) ?_
        refine Canon.pure _ _ 10 _ _ rfl (by kernel_rfl) (by kernel_rfl) rfl (.run rfl (P_extract (v := .agg [.int .i64 _, .int .i64 _, .str _]) rfl rfl)) ?_
        refine Canon.pure _ _ 11 _ _ rfl (by kernel_rfl) (by kernel_rfl) rfl (.run rfl (P_extract (v := .int .i64 _) rfl rfl)) ?_
        refine Canon.eff _ _ 12 _ _ rfl (by kernel_rfl) rfl rfl (E_alloc (l := [.int .i64 0, .int .i64 0, .str []]) (by kernel_rfl)) (fun _ _ _ => trivial) ?_
        rintro _ _ ⟨b13, rfl, rfl⟩
        refine Canon.eff _ _ 13 _ _ rfl (by kernel_rfl) rfl rfl (E_store (k := 0) (v := .agg _) (cs' := [.int .i64 _, .int .i64 _, .str _]) (H2 := _ :: _ :: _ :: _ :: _) tok rfl rfl rfl rfl rfl rfl rfl rfl rfl) (fun _ _ _ => trivial) ?_
        rintro _ _ ⟨rfl, rfl⟩
        refine Canon.pure _ _ 14 _ _ rfl (by kernel_rfl) (by kernel_rfl) rfl (.run rfl (P_assign (v := .int .i64 _) rfl)) ?_
        refine Canon.done _ _ (by kernel_rfl) ?_
        refine thenN ?_
        refine AW.ghost (GS.freeze (t := 13) 0 rfl rfl) ?_
        refine AW.seq ?_
        refine AW.seq ?_
        refine AW.region ?_
        refine AOL.p (P_move (v := .int .i64 _) rfl) rfl ?_
        refine AOL.p (P_neq rfl rfl) rfl ?_
        refine AOL.nil ?_
        refine thenN ?_
        refine AW.cond (b := _) rfl (fun hc3 => ?_) (fun hc3 => ?_)
        · skip
          refine AW.seq ?_
          refine AW.region ?_
          refine AOL.p (P_build (l := [.int .i64 _, .int .i64 _, .str _]) tok rfl rfl rfl) rfl ?_
          refine AOL.p (P_move (v := .int .i64 _) rfl) rfl ?_
          refine AOL.e (E_store (k := 2) (v := .agg _) (cs' := [.int .i64 _, .int .i64 _, .str _]) (H2 := _ :: _ :: _ :: _) tok rfl rfl rfl rfl rfl rfl rfl rfl rfl) rfl ?_
          rintro _ _ ⟨rfl, rfl⟩
          refine AOL.p (P_assign (v := .int .i64 _) rfl) rfl ?_
          refine AOL.nil ?_
          refine thenN ?_
          refine AW.ret ?_
          refine thenR ?_
          refine blkR ?_
          refine thenR ?_
          refine thenR ?_
          refine blkR ?_
          refine thenR ?_
          refine ⟨.inr rfl, [.agg [.int .i64 _, .int .i64 _, .str _], .int .i64 _], .cons (.box _ _ _ 2 _ _ _ _ rfl rfl rfl rfl rfl rfl) <| .cons (.tmp _ _ rfl) <| .nil, .cons _ (.cons _ (.cons _ (.refl _))), ?_⟩
          have hne : ¬ e.args.isEmpty = true := by simpa [List.isEmpty_iff] using hc1
          have hfe : firstS (fun a => (evalS (⟨vars, own, ev⟩ : Evr) a).2) e.args = (evalS (⟨vars, own, ev⟩ : Evr) a).2 := by rw [hR.2.1, drop_cons ha, firstS, if_pos hc3]
          rw [evalS_eq (⟨vars, own, ev⟩ : Evr) e, if_neg hne, hfe, if_pos hc3]; rfl
        · skip
          refine AW.skip ?_
          refine thenN ?_
          refine AW.draw mixed (fun _ => True) trivial (by kernel_rfl) ?_
          refine Canon.pure _ _ 0 _ _ rfl (by kernel_rfl) (by kernel_rfl) rfl (.run rfl (P_move (v := .row _ _ _) rfl)) ?_
          refine Canon.pure _ _ 1 _ _ rfl (by kernel_rfl) (by kernel_rfl) rfl (.run rfl (P_load_ptr_agg (l := [.int .i64 _, .int .i64 _, .str _]) tok rfl rfl rfl rfl rfl)) ?_
          refine Canon.pure _ _ 2 _ _ rfl (by kernel_rfl) (by kernel_rfl) rfl (.run rfl (P_buildSlice (es := [[.int .i64 _, .int .i64 _, .str _]]) tok rfl rfl rfl rfl rfl rfl rfl rfl rfl)) ?_
          refine Canon.pure _ _ 4 _ _ rfl (by kernel_rfl) (by kernel_rfl) rfl (.run rfl (P_move (v := .row _ _ _) rfl)) ?_
          refine Canon.pure _ _ 5 _ _ rfl (by kernel_rfl) (by kernel_rfl) rfl (.run rfl (P_fieldAddr_ptr (cs' := [.int .i64 _, .int .i64 _, .str _]) tok rfl rfl rfl rfl rfl rfl)) ?_
          refine Canon.pure _ _ 6 _ _ rfl (by kernel_rfl) (by kernel_rfl) rfl (.run rfl (P_load_ptr (c := .int .i64 _) tok rfl rfl rfl)) ?_
          refine Canon.pure _ _ 7 _ _ rfl (by kernel_rfl) (by kernel_rfl) rfl (.run rfl (P_buildSlice (es := [[.int .i64 _]]) tok rfl rfl rfl rfl rfl rfl rfl rfl rfl)) ?_
          refine Canon.eff _ _ 3 _ _ rfl (by kernel_rfl) rfl rfl (E_append (k := 1) tok rfl rfl rfl rfl rfl rfl rfl rfl (sc_one rfl) (hsc) (by simp [hR.2.2.1]; omega) (by simp [hR.2.2.1, maxLen]; omega)) (fun _ _ _ => trivial) ?_
          rintro _ _ ⟨v53, rfl, rfl⟩
          refine Canon.eff _ _ 8 _ _ rfl (by kernel_rfl) rfl rfl (E_append (k := 0) tok rfl rfl rfl rfl rfl rfl rfl rfl (sc_one rfl) (hsc2) (by simp [hR.2.2.2]; omega) (by simp [hR.2.2.2, maxLen]; omega)) (fun _ _ _ => trivial) ?_
          rintro _ _ ⟨v58, rfl, rfl⟩
          refine Canon.pure _ _ 9 _ _ rfl (by kernel_rfl) (by kernel_rfl) rfl (.run rfl (P_assign (v := .row _ _ _) rfl)) ?_
          refine Canon.pure _ _ 10 _ _ rfl (by kernel_rfl) (by kernel_rfl) rfl (.run rfl (P_assign (v := .row _ _ _) rfl)) ?_
          refine Canon.done _ _ (by kernel_rfl) ?_
          refine blkN ?_
          refine thenN ?_
          refine AW.region ?_
          refine AOL.p (P_move (v := .int .i64 _) rfl) rfl ?_
          refine AOL.p (P_add rfl rfl rfl (by constructor <;> omega)) rfl ?_
          refine AOL.p (P_assign (v := .int .i64 _) rfl) rfl ?_
          refine AOL.nil ?_
          refine thenN ?_
          refine ⟨(p.1 + 1, p.2.1 ++ [cV (evalS (⟨vars, own, ev⟩ : Evr) a).1], v53, p.2.2.2.1 ++ [[.int .i64 (evalS (⟨vars, own, ev⟩ : Evr) a).1.kind]], v58), ?_, ?_, GS.weaken ⟨rfl, rfl, rfl, rfl, rfl, rfl, rfl, rfl, trivial⟩ (.refl _)⟩
          · simp only; exact ⟨hlt, by rw [hR.2.1, drop_cons ha, firstS, if_neg (by simpa using hc3)], by rw [take_get ha, hR.2.2.1]; simp, by rw [take_get ha, hR.2.2.2]; simp⟩
          · first | omega | (simp only; omega)
      · skip
        have hte := take_end hc2
        have hd := get_end hc2
        have hf : firstS (fun a => (evalS (⟨vars, own, ev⟩ : Evr) a).2) e.args = 0 := by rw [hR.2.1, hd]; rfl
        obtain ⟨k, es, rv, es2, rv2⟩ := p
        simp only at hR hte
        have h6 : es = (e.args.map (fun a => (evalS (⟨vars, own, ev⟩ : Evr) a).1)).map cV := by rw [hR.2.2.1, hte]
        have h7 : es2 = (e.args.map (fun a => (evalS (⟨vars, own, ev⟩ : Evr) a).1.kind)).map (fun k => [AV.int .i64 k]) := by rw [hR.2.2.2, hte]
        subst h6
        subst h7
        refine AW.exit ?_
        refine thenE ?_
        refine thenE ?_
        refine blkHit ?_
        refine thenN ?_
        refine AW.seq ?_
        refine AW.seq ?_
        refine AW.region ?_
        refine AOL.p (P_fieldAddr_ptr (cs' := [.int .i64 _, _, .int .i64 _, .int .i64 _, .int .i64 _, .int .i64 _, .int .i64 _, .str _]) tok rfl rfl rfl rfl rfl rfl) rfl ?_
        refine AOL.p (P_load_ptr (c := .int .i64 _) tok rfl rfl rfl) rfl ?_
        refine AOL.ghost (GS.unrow 11 rfl) ?_
        refine AOL.p (P_move (v := .sl _ _) rfl) rfl ?_
        refine AOL.p (P_callf (by kernel_rfl) rfl rfl (c73 e.op (e.args.map (fun a => (evalS (⟨vars, own, ev⟩ : Evr) a).1.kind)))) rfl ?_
        refine AOL.p (P_assign (v := .int .i64 _) rfl) rfl ?_
        refine AOL.nil ?_
        refine thenN ?_
        refine AW.seq ?_
        refine AW.region ?_
        refine AOL.p (P_move (v := .int .i64 _) rfl) rfl ?_
        refine AOL.p (P_neq rfl rfl) rfl ?_
        refine AOL.nil ?_
        refine thenN ?_
        refine AW.cond (b := _) rfl (fun hc4 => ?_) (fun hc4 => ?_)
        · skip
          refine AW.seq ?_
          refine AW.region ?_
          refine AOL.p (P_build (l := [.int .i64 _, .int .i64 _, .str _]) tok rfl rfl rfl) rfl ?_
          refine AOL.p (P_move (v := .int .i64 _) rfl) rfl ?_
          refine AOL.e (E_store (k := 2) (v := .agg _) (cs' := [.int .i64 _, .int .i64 _, .str _]) (H2 := _ :: _ :: _ :: _) tok rfl rfl rfl rfl rfl rfl rfl rfl rfl) rfl ?_
          rintro _ _ ⟨rfl, rfl⟩
          refine AOL.p (P_assign (v := .int .i64 _) rfl) rfl ?_
          refine AOL.nil ?_
          refine thenN ?_
          refine AW.ret ?_
          refine thenR ?_
          refine ⟨.inr rfl, [.agg [.int .i64 _, .int .i64 _, .str _], .int .i64 _], .cons (.box _ _ _ 2 _ _ _ _ rfl rfl rfl rfl rfl rfl) <| .cons (.tmp _ _ rfl) <| .nil, .cons _ (.cons _ (.cons _ (.refl _))), ?_⟩
          have hne : ¬ e.args.isEmpty = true := by simpa [List.isEmpty_iff] using hc1
          have hk : (e.args.map (fun a => (evalS (⟨vars, own, ev⟩ : Evr) a).1)).map (·.kind) = e.args.map (fun a => (evalS (⟨vars, own, ev⟩ : Evr) a).1.kind) := by simp
          rw [evalS_eq (⟨vars, own, ev⟩ : Evr) e, if_neg hne, hf, if_neg (show ¬ ((0:Int) != 0) = true by decide), nodeV, hk, if_pos hc4]; rfl
        · skip
          have hsh := node_args hz.1 hc1
          have hap := node_apply (op := e.op) (l := e.args.map (fun a => (evalS (⟨vars, own, ev⟩ : Evr) a).1)) (by simpa using hsh)
          refine AW.skip ?_
          refine thenN ?_
          refine AW.seq ?_
          refine AW.region ?_
          refine AOL.p (P_fieldAddr_ptr (cs' := [.int .i64 _, _, .int .i64 _, .int .i64 _, .int .i64 _, .int .i64 _, .int .i64 _, .str _]) tok rfl rfl rfl rfl rfl rfl) rfl ?_
          refine AOL.p (P_load_ptr (c := .int .i64 _) tok rfl rfl rfl) rfl ?_
          refine AOL.ghost (GS.unrow 10 rfl) ?_
          refine AOL.p (P_move (v := .sl _ _) rfl) rfl ?_
          refine AOL.p (P_callf (by kernel_rfl) rfl rfl (hap)) rfl ?_
          refine AOL.e (E_store (k := 2) (v := .agg _) (cs' := [.int .i64 _, .int .i64 _, .str _]) (H2 := _ :: _ :: _ :: _) tok rfl rfl rfl rfl rfl rfl rfl rfl rfl) rfl ?_
          rintro _ _ ⟨rfl, rfl⟩
          refine AOL.p (P_assign (v := .int .i64 _) rfl) rfl ?_
          refine AOL.nil ?_
          refine thenN ?_
          refine AW.ret ?_
          refine ⟨.inr rfl, [.agg [.int .i64 _, .int .i64 _, .str _], .int .i64 _], .cons (.box _ _ _ 2 _ _ _ _ rfl rfl rfl rfl rfl rfl) <| .cons (.tmp _ _ rfl) <| .nil, .cons _ (.cons _ (.cons _ (.refl _))), ?_⟩
          have hne : ¬ e.args.isEmpty = true := by simpa [List.isEmpty_iff] using hc1
          have hk : (e.args.map (fun a => (evalS (⟨vars, own, ev⟩ : Evr) a).1)).map (·.kind) = e.args.map (fun a => (evalS (⟨vars, own, ev⟩ : Evr) a).1.kind) := by simp
          rw [evalS_eq (⟨vars, own, ev⟩ : Evr) e, if_neg hne, hf, if_neg (show ¬ ((0:Int) != 0) = true by decide), nodeV, hk, if_neg (Bool.eq_false_iff.mp hc4)]
          by_cases h9 : (e.op == 9) = true
          · simp only [if_pos h9]; rfl
          · simp only [if_neg h9]; rfl
set_option maxRecDepth 20000 in
set_option maxHeartbeats 400000 in
theorem c15 (vars : List (List Ev)) (own : Int) (ev : Ev) (hx : ∀ l ∈ vars, l.length ≤ 1048576) (e : Ex) (hs : sizeN e ≤ 1048576) : APure Try.prog 15 [.agg (cE e), .agg (cEnv vars), .int .i64 own, .agg (cEv ev)] (.tuple [.agg (cV (EvalS (⟨vars, own, ev⟩ : Evr) e).1), .int .i64 (EvalS (⟨vars, own, ev⟩ : Evr) e).2]) := by
  refine APure.body (n := 24) tok Try.func15 rfl rfl rfl fun H => ?_
  refine AW.seq ?_
  refine AW.region ?_
  refine AOL.p (P_box (v := .agg _) (cs := [.int .i64 _, _, .int .i64 _, .int .i64 _, .int .i64 _, .int .i64 _, .int .i64 _, .str _]) rfl rfl rfl) rfl ?_
  refine AOL.p (P_box (v := .agg _) (cs := [_]) rfl rfl rfl) rfl ?_
  refine AOL.p (P_box (v := .agg _) (cs := [.int .i64 _, .int .i64 _, .int .i64 _, .int .i64 _, _]) rfl rfl rfl) rfl ?_
  refine AOL.e (E_alloc (l := [.int .i64 0, .int .i64 0, .str []]) (by kernel_rfl)) rfl ?_
  rintro _ _ ⟨b8, rfl, rfl⟩
  refine AOL.p (P_assign (v := .int .i64 _) rfl) rfl ?_
  refine AOL.nil ?_
  refine thenN ?_
  refine AW.seq ?_
  refine AW.seq ?_
  refine AW.region ?_
  refine AOL.p (P_load_ptr_agg (l := [.int .i64 _, _, .int .i64 _, .int .i64 _, .int .i64 _, .int .i64 _, .int .i64 _, .str _]) tok rfl rfl rfl rfl rfl) rfl ?_
  refine AOL.p (P_callf (by kernel_rfl) rfl rfl (c25 e hs)) rfl ?_
  refine AOL.p (P_assign (v := .int .i64 _) rfl) rfl ?_
  refine AOL.nil ?_
  refine thenN ?_
  refine AW.seq ?_
  refine AW.region ?_
  refine AOL.p (P_move (v := .int .i64 _) rfl) rfl ?_
  refine AOL.p (P_neq rfl rfl) rfl ?_
  refine AOL.nil ?_
  refine thenN ?_
  refine AW.cond (b := _) rfl (fun hc1 => ?_) (fun hc1 => ?_)
  · skip
    refine AW.seq ?_
    refine AW.region ?_
    refine AOL.p (P_build (l := [.int .i64 _, .int .i64 _, .str _]) tok rfl rfl rfl) rfl ?_
    refine AOL.p (P_move (v := .int .i64 _) rfl) rfl ?_
    refine AOL.e (E_store (k := 0) (v := .agg _) (cs' := [.int .i64 _, .int .i64 _, .str _]) (H2 := _ :: _) tok rfl rfl rfl rfl rfl rfl rfl rfl rfl) rfl ?_
    rintro _ _ ⟨rfl, rfl⟩
    refine AOL.p (P_assign (v := .int .i64 _) rfl) rfl ?_
    refine AOL.nil ?_
    refine thenN ?_
    refine AW.ret ?_
    refine thenR ?_
    refine ⟨.inr rfl, [.agg [.int .i64 _, .int .i64 _, .str _], .int .i64 _], .cons (.box _ _ _ 0 _ _ _ _ rfl rfl rfl rfl rfl rfl) <| .cons (.tmp _ _ rfl) <| .nil, .cons _ (.refl _), ?_⟩
    simp only [resOf, EvalS]
    (first | rw [if_pos hc1] | skip)
    first | done | rfl
  · skip
    refine AW.skip ?_
    refine thenN ?_
    refine AW.seq ?_
    refine AW.region ?_
    refine AOL.p (P_load_ptr_agg (l := [.int .i64 _, _, .int .i64 _, .int .i64 _, .int .i64 _, .int .i64 _, .int .i64 _, .str _]) tok rfl rfl rfl rfl rfl) rfl ?_
    refine AOL.p (P_load_ptr_agg (l := [_]) tok rfl rfl rfl rfl rfl) rfl ?_
    refine AOL.p (P_move (v := .int .i64 _) rfl) rfl ?_
    refine AOL.p (P_load_ptr_agg (l := [.int .i64 _, .int .i64 _, .int .i64 _, .int .i64 _, _]) tok rfl rfl rfl rfl rfl) rfl ?_
    refine AOL.p (P_callf (by kernel_rfl) rfl rfl (c41 vars own ev hx e (check_nodes (by simpa using hc1)) hs)) rfl ?_
    refine AOL.p (P_extract (v := .agg [.int .i64 _, .int .i64 _, .str _]) rfl rfl) rfl ?_
    refine AOL.p (P_extract (v := .int .i64 _) rfl rfl) rfl ?_
    refine AOL.e (E_store (k := 0) (v := .agg _) (cs' := [.int .i64 _, .int .i64 _, .str _]) (H2 := _ :: _) tok rfl rfl rfl rfl rfl rfl rfl rfl rfl) rfl ?_
    rintro _ _ ⟨rfl, rfl⟩
    refine AOL.p (P_assign (v := .int .i64 _) rfl) rfl ?_
    refine AOL.nil ?_
    refine thenN ?_
    refine AW.ret ?_
    refine ⟨.inr rfl, [.agg [.int .i64 _, .int .i64 _, .str _], .int .i64 _], .cons (.box _ _ _ 0 _ _ _ _ rfl rfl rfl rfl rfl rfl) <| .cons (.tmp _ _ rfl) <| .nil, .cons _ (.refl _), ?_⟩
    simp only [resOf, EvalS]
    (first | rw [if_neg (Bool.eq_false_iff.mp hc1)] | skip)
    first | done | rfl
set_option maxRecDepth 20000 in
set_option maxHeartbeats 400000 in
theorem c17 (vars : List (List Ev)) (own : Int) (ev : Ev) (hx : ∀ l ∈ vars, l.length ≤ 1048576) (e : Ex) (hs : sizeN e ≤ 1048576) : APure Try.prog 17 [.agg (cE e), .agg (cEnv vars), .int .i64 own, .agg (cEv ev)] (.bool (TruthS (⟨vars, own, ev⟩ : Evr) e)) := by
  refine APure.body (n := 26) tok Try.func17 rfl rfl rfl fun H => ?_
  refine AW.seq ?_
  refine AW.region ?_
  refine AOL.p (P_box (v := .agg _) (cs := [.int .i64 _, _, .int .i64 _, .int .i64 _, .int .i64 _, .int .i64 _, .int .i64 _, .str _]) rfl rfl rfl) rfl ?_
  refine AOL.p (P_box (v := .agg _) (cs := [_]) rfl rfl rfl) rfl ?_
  refine AOL.p (P_box (v := .agg _) (cs := [.int .i64 _, .int .i64 _, .int .i64 _, .int .i64 _, _]) rfl rfl rfl) rfl ?_
  refine AOL.p (P_assign (v := .bool _) rfl) rfl ?_
  refine AOL.nil ?_
  refine thenN ?_
  refine AW.seq ?_
  refine AW.region ?_
  refine AOL.p (P_load_ptr_agg (l := [.int .i64 _, _, .int .i64 _, .int .i64 _, .int .i64 _, .int .i64 _, .int .i64 _, .str _]) tok rfl rfl rfl rfl rfl) rfl ?_
  refine AOL.p (P_load_ptr_agg (l := [_]) tok rfl rfl rfl rfl rfl) rfl ?_
  refine AOL.p (P_move (v := .int .i64 _) rfl) rfl ?_
  refine AOL.p (P_load_ptr_agg (l := [.int .i64 _, .int .i64 _, .int .i64 _, .int .i64 _, _]) tok rfl rfl rfl rfl rfl) rfl ?_
  refine AOL.p (P_callf (by kernel_rfl) rfl rfl (c15 vars own ev hx e hs)) rfl ?_
  refine AOL.p (P_move (v := .tuple _) rfl) rfl ?_
  refine AOL.p (P_extract (v := .agg [.int .i64 _, .int .i64 _, .str _]) rfl rfl) rfl ?_
  refine AOL.p (P_extract (v := .int .i64 _) rfl rfl) rfl ?_
  refine AOL.e (E_alloc (l := [.int .i64 0, .int .i64 0, .str []]) (by kernel_rfl)) rfl ?_
  rintro _ _ ⟨b9, rfl, rfl⟩
  refine AOL.e (E_store (k := 0) (v := .agg _) (cs' := [.int .i64 _, .int .i64 _, .str _]) (H2 := _ :: _) tok rfl rfl rfl rfl rfl rfl rfl rfl rfl) rfl ?_
  rintro _ _ ⟨rfl, rfl⟩
  refine AOL.p (P_assign (v := .int .i64 _) rfl) rfl ?_
  refine AOL.ghost (GS.freeze (t := 9) 0 rfl rfl) ?_
  refine AOL.nil ?_
  refine thenN ?_
  refine AW.seq ?_
  refine AW.draw mixed (fun _ => True) trivial (by kernel_rfl) ?_
  refine Canon.pure _ _ 0 _ _ rfl (by kernel_rfl) (by kernel_rfl) rfl (.run rfl (P_move (v := .int .i64 _) rfl)) ?_
  refine Canon.pure _ _ 1 _ _ rfl (by kernel_rfl) (by kernel_rfl) rfl (.run rfl (P_eql rfl rfl)) ?_
  refine Canon.pure _ _ 2 _ _ rfl (by kernel_rfl) (by kernel_rfl) rfl (.run rfl (P_move (v := .bool _) rfl)) ?_
  refine Canon.pure _ _ 3 _ _ rfl (by kernel_rfl) (by kernel_rfl) rfl (.opt _ (.agg _) [] rfl (EntL.all trivial) (fun hG => P_load_ptr_agg (l := [.int .i64 _, .int .i64 _, .str _]) tok rfl rfl rfl rfl rfl) rfl) ?_
  refine Canon.pure _ _ 4 _ _ rfl (by kernel_rfl) (by kernel_rfl) rfl (.opt _ (.agg _) [] rfl (EntL.all trivial) (fun hG => P_callf (by kernel_rfl) rfl rfl (c38 true)) rfl) ?_
  refine Canon.pure _ _ 5 _ _ rfl (by kernel_rfl) (by kernel_rfl) rfl (.opt _ (.bool _) [(22, _), (23, _)] rfl (EntL.all ⟨Ent.self _ _, Ent.self _ _, trivial⟩) (fun hG => P_eql_agg tok rfl rfl rfl rfl rfl) rfl) ?_
  refine Canon.pure _ _ 6 _ _ rfl (by kernel_rfl) (by kernel_rfl) rfl (.run rfl (P_pick_and rfl rfl rfl)) ?_
  refine Canon.pure _ _ 7 _ _ rfl (by kernel_rfl) (by kernel_rfl) rfl (.run rfl (P_assign (v := .bool _) rfl)) ?_
  refine Canon.done _ _ (by kernel_rfl) ?_
  refine thenN ?_
  refine AW.ret ?_
  refine ⟨.inr rfl, [.bool _], .cons (.tmp _ _ rfl) <| .nil, .refl _, ?_⟩
  simp only [resOf, TruthS]
  simp only [Bool.and_true]

end Go.Proofs.Ytkkacfnkjiijkaa
