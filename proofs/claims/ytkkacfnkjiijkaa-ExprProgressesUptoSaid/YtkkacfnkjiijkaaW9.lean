/-
  Walks of layer 8: eval. No condition.
-/
import Derived.Test.YtkkacfnkjiijkaaW8
import Derived.Test.YtkkacfnkjiijkaaM4
import Derived.KernelRfl
namespace Go.Proofs.Ytkkacfnkjiijkaa
open Go Go.Aw
set_option linter.unusedVariables false
set_option linter.unusedSimpArgs false

theorem ops_get (op : Int) (h : 5 ≤ op ∧ op ≤ 12 ∧ op ≠ 9) : ∃ f cap, mget OPS op = some (.fn (.func f) [] cap) ∧ fnB Try.prog f = true ∧ ∀ a b, APure Try.prog f (.int .i64 a :: .int .i64 b :: cap) (.agg (cV (applyS op a b))) := by
  have h2 : op = 5 ∨ op = 6 ∨ op = 7 ∨ op = 8 ∨ op = 10 ∨ op = 11 ∨ op = 12 := by omega
  rcases h2 with rfl | rfl | rfl | rfl | rfl | rfl | rfl
  · exact ⟨63, _, rfl, by kernel_rfl, c63⟩
  · exact ⟨64, _, rfl, by kernel_rfl, c64⟩
  · exact ⟨65, _, rfl, by kernel_rfl, c65⟩
  · exact ⟨66, _, rfl, by kernel_rfl, c66⟩
  · exact ⟨67, _, rfl, by kernel_rfl, c67⟩
  · exact ⟨68, _, rfl, by kernel_rfl, c68⟩
  · exact ⟨69, _, rfl, by kernel_rfl, c69⟩

theorem ends_of {α : Type} {l : List α} (h : l.length ≠ 0) : ∃ a b, l[0]? = some a ∧ l[((l.length : Int) - 1).toNat]? = some b ∧ ∀ d, l.headD d = a ∧ l.getLastD d = b := by
  have e : ((l.length : Int) - 1).toNat = l.length - 1 := by omega
  rw [e]
  refine ⟨l[0], l[l.length - 1], List.getElem?_eq_getElem (by omega), List.getElem?_eq_getElem (by omega), fun d => ?_⟩
  cases l with
  | nil => simp at h
  | cons x r => simp [List.getLastD_eq_getLast?, List.getLast?_eq_getElem?]

set_option maxRecDepth 20000 in
set_option maxHeartbeats 1600000 in
theorem c40 (x : Evr) (hx : x.ok) (e : Ex) (hn : nodesS e = 0) (hs : sizeN e ≤ 1048576) : APure Try.prog 40 [.agg (cX x), .agg (cE e)] (.tuple [.agg (cV (evalS x e).1), .int .i64 (evalS x e).2]) := by
  revert hn hs
  induction e using Ex.ind
  rename_i e ih
  intro hn hs
  have hz := nodes_zero hn
  have hfl := node_field hz.1
  have hal := args_le e hs
  refine APure.body (n := 85) tok Try.func40 rfl rfl rfl fun H => ?_
  refine AW.seq ?_
  refine AW.region ?_
  refine AOL.p (P_box (v := .agg _) (cs := [_, .int .i64 _, .int .i64 _, .int .i64 _, .int .i64 _, .int .i64 _, _, _]) rfl rfl rfl) rfl ?_
  refine AOL.p (P_box (v := .agg _) (cs := [.int .i64 _, _, .int .i64 _, .int .i64 _, .int .i64 _, .int .i64 _, .int .i64 _, .str _]) rfl rfl rfl) rfl ?_
  refine AOL.e (E_alloc (l := [.int .i64 0, .int .i64 0, .str []]) (by kernel_rfl)) rfl ?_
  rintro _ _ ⟨b4, rfl, rfl⟩
  refine AOL.p (P_assign (v := .int .i64 _) rfl) rfl ?_
  refine AOL.nil ?_
  refine thenN ?_
  refine AW.seq ?_
  refine AW.seq ?_
  refine AW.region ?_
  refine AOL.p (P_fieldAddr_ptr (cs' := [_, .int .i64 _, .int .i64 _, .int .i64 _, .int .i64 _, .int .i64 _, .str _]) tok rfl rfl rfl rfl rfl rfl) rfl ?_
  refine AOL.p (P_load_ptr (c := .sl _ _) tok rfl rfl rfl) rfl ?_
  refine AOL.p (P_len_sl (n := e.args.length) tok rfl rfl rfl (by simp)) rfl ?_
  refine AOL.p (P_eql rfl rfl) rfl ?_
  refine AOL.nil ?_
  refine thenN ?_
  refine AW.cond (b := _) rfl (fun hc1 => ?_) (fun hc1 => ?_)
  · skip
    refine AW.seq ?_
    refine AW.region ?_
    refine AOL.p (P_load_ptr_agg (l := [_, .int .i64 _, .int .i64 _, .int .i64 _, .int .i64 _, .int .i64 _, _, _]) tok rfl rfl rfl rfl rfl) rfl ?_
    refine AOL.p (P_load_ptr_agg (l := [.int .i64 _, _, .int .i64 _, .int .i64 _, .int .i64 _, .int .i64 _, .int .i64 _, .str _]) tok rfl rfl rfl rfl rfl) rfl ?_
    refine AOL.p (P_callf (by kernel_rfl) rfl rfl (c70 x hx e hfl)) rfl ?_
    refine AOL.p (P_extract (v := .agg [.int .i64 _, .int .i64 _, .str _]) rfl rfl) rfl ?_
    refine AOL.p (P_extract (v := .int .i64 _) rfl rfl) rfl ?_
    refine AOL.e (E_store (k := 0) (v := .agg _) (cs' := [.int .i64 _, .int .i64 _, .str _]) (H2 := _ :: _) tok rfl rfl rfl rfl rfl rfl rfl rfl rfl) rfl ?_
    rintro _ _ ⟨rfl, rfl⟩
    refine AOL.p (P_assign (v := .int .i64 _) rfl) rfl ?_
    refine AOL.nil ?_
    refine thenN ?_
    refine AW.ret ?_
    refine thenR ?_
    refine ⟨.inr rfl, [.agg [.int .i64 _, .int .i64 _, .str _], .int .i64 _], .cons (.box _ _ _ 0 _ _ _ _ rfl rfl rfl rfl rfl rfl) <| .cons (.tmp _ _ rfl) <| .nil, .cons _ (.refl _), ?_⟩
    rw [evalS_eq x e, if_pos (by simpa [List.isEmpty_iff] using hc1)]; rfl
  · skip
    refine AW.skip ?_
    refine thenN ?_
    refine AW.seq ?_
    refine AW.region ?_
    refine AOL.p (P_assign (v := .val _) rfl) rfl ?_
    refine AOL.ghost (GS.row (t := 6) 24 3 rfl) ?_
    refine AOL.nil ?_
    refine thenN ?_
    refine AW.seq ?_
    refine AW.region ?_
    refine AOL.p (P_assign (v := .val _) rfl) rfl ?_
    refine AOL.ghost (GS.row (t := 7) 3 1 rfl) ?_
    refine AOL.nil ?_
    refine thenN ?_
    refine AW.seq ?_
    refine AW.seq ?_
    refine AW.region ?_
    refine AOL.p (P_fieldAddr_ptr (cs' := [_, .int .i64 _, .int .i64 _, .int .i64 _, .int .i64 _, .int .i64 _, .str _]) tok rfl rfl rfl rfl rfl rfl) rfl ?_
    refine AOL.p (P_load_ptr (c := .sl _ _) tok rfl rfl rfl) rfl ?_
    refine AOL.p (P_len_sl (n := e.args.length) tok rfl rfl rfl (by simp)) rfl ?_
    refine AOL.p (P_move (v := .int .i64 _) rfl) rfl ?_
    refine AOL.nil ?_
    refine thenN ?_
    refine AW.block ?_
    refine AW.loopS (fun (p : Nat × List (List AV) × Value × List (List AV) × Value) => (⟨[(2, .ptr (cX x)), (3, .ptr (cE e)), (4, .val (.pointer (some ⟨b4, 0, none⟩))), (6, .row p.2.2.1 3 p.2.1), (7, .row p.2.2.2.2 1 p.2.2.2.1), (23, .sl 8 (e.args.map encE)), (24, .int .i64 e.args.length), (25, .int .i64 (p.1 : Int))], .row p.2.2.2.2 p.2.2.2.1.length 3 1 :: .row p.2.2.1 p.2.1.length 24 3 :: .box b4 24 [.int .i64 0, .int .i64 0, .str []] :: H, 85⟩ : St)) (fun (p : Nat × List (List AV) × Value × List (List AV) × Value) => p.1 ≤ e.args.length ∧ firstS (fun a => (evalS x a).2) e.args = firstS (fun a => (evalS x a).2) (e.args.drop p.1) ∧ p.2.1 = ((e.args.take p.1).map (fun a => (evalS x a).1)).map cV ∧ p.2.2.2.1 = ((e.args.take p.1).map (fun a => (evalS x a).1.kind)).map (fun k => [AV.int .i64 k])) (fun (p : Nat × List (List AV) × Value × List (List AV) × Value) => e.args.length - p.1) ((0, [], .slice none 0 0, [], .slice none 0 0)) ?_ (GS.weaken ⟨rfl, rfl, rfl, rfl, rfl, rfl, rfl, rfl, trivial⟩ (.refl _)) ?_
    · exact ⟨Nat.zero_le _, by simp, by simp, by simp⟩
    · rintro p hR
      have hsc : ∀ c ∈ p.2.1, scalars c = true := by rw [hR.2.2.1]; exact sc_map fun _ => rfl
      have hsc2 : ∀ c ∈ p.2.2.2.1, scalars c = true := by rw [hR.2.2.2]; exact sc_map fun _ => rfl
      refine AW.seq ?_
      refine AW.region ?_
      refine AOL.p (P_lss rfl rfl) rfl ?_
      refine AOL.nil ?_
      refine thenN ?_
      refine AW.seq ?_
      refine AW.cond (b := _) rfl (fun hc2 => ?_) (fun hc2 => ?_)
      · skip
        obtain ⟨a, ha⟩ := get_lt hc2
        have hlt := get_lt' ha
        have hm := List.mem_of_getElem? ha
        refine AW.skip ?_
        refine thenN ?_
        refine AW.seq ?_
        refine AW.block ?_
        refine AW.seq ?_
        refine AW.region ?_
        refine AOL.p (P_indexAddr (c := [.int .i64 _, _, .int .i64 _, .int .i64 _, .int .i64 _, .int .i64 _, .int .i64 _, .str _]) tok rfl rfl rfl rfl rfl rfl (by omega) (encE_at ha)) rfl ?_
        refine AOL.p (P_load_ptr_agg (l := [.int .i64 _, _, .int .i64 _, .int .i64 _, .int .i64 _, .int .i64 _, .int .i64 _, .str _]) tok rfl rfl rfl rfl rfl) rfl ?_
        refine AOL.e (E_alloc (l := [.int .i64 0, .sl 8 [], .int .i64 0, .int .i64 0, .int .i64 0, .int .i64 0, .int .i64 0, .str []]) (by kernel_rfl)) rfl ?_
        rintro _ _ ⟨b9, rfl, rfl⟩
        refine AOL.e (E_store (k := 0) (v := .agg _) (cs' := [.int .i64 _, _, .int .i64 _, .int .i64 _, .int .i64 _, .int .i64 _, .int .i64 _, .str _]) (H2 := _ :: _ :: _ :: _ :: _) tok rfl rfl rfl rfl rfl rfl rfl rfl rfl) rfl ?_
        rintro _ _ ⟨rfl, rfl⟩
        refine AOL.ghost (GS.freeze (t := 9) 0 rfl rfl) ?_
        refine AOL.nil ?_
        refine thenN ?_
        refine AW.seq ?_
        refine AW.region ?_
        refine AOL.p (P_load_ptr_agg (l := [_, .int .i64 _, .int .i64 _, .int .i64 _, .int .i64 _, .int .i64 _, _, _]) tok rfl rfl rfl rfl rfl) rfl ?_
        refine AOL.p (P_load_ptr_agg (l := [.int .i64 _, _, .int .i64 _, .int .i64 _, .int .i64 _, .int .i64 _, .int .i64 _, .str _]) tok rfl rfl rfl rfl rfl) rfl ?_
        refine AOL.p (P_callf (by kernel_rfl) rfl rfl (ih a hm (hz.2 a hm) (by have := size_arg hm; omega))) rfl ?_
        refine AOL.p (P_move (v := .tuple _) rfl) rfl ?_
        refine AOL.p (P_extract (v := .agg [.int .i64 _, .int .i64 _, .str _]) rfl rfl) rfl ?_
        refine AOL.p (P_extract (v := .int .i64 _) rfl rfl) rfl ?_
        refine AOL.e (E_alloc (l := [.int .i64 0, .int .i64 0, .str []]) (by kernel_rfl)) rfl ?_
        rintro _ _ ⟨b10, rfl, rfl⟩
        refine AOL.e (E_store (k := 0) (v := .agg _) (cs' := [.int .i64 _, .int .i64 _, .str _]) (H2 := _ :: _ :: _ :: _ :: _) tok rfl rfl rfl rfl rfl rfl rfl rfl rfl) rfl ?_
        rintro _ _ ⟨rfl, rfl⟩
        refine AOL.p (P_assign (v := .int .i64 _) rfl) rfl ?_
        refine AOL.ghost (GS.freeze (t := 10) 0 rfl rfl) ?_
        refine AOL.nil ?_
        refine thenN ?_
        refine AW.seq ?_
        refine AW.seq ?_
        refine AW.region ?_
        refine AOL.p (P_move (v := .int .i64 _) rfl) rfl ?_
        refine AOL.p (P_neq rfl rfl) rfl ?_
        refine AOL.nil ?_
        refine thenN ?_
        refine AW.cond (b := _) rfl (fun hc3 => ?_) (fun hc3 => ?_)
        · skip
          refine AW.seq ?_
          refine AW.region ?_
          refine AOL.p (P_build (l := [.int .i64 _, .int .i64 _, .str _]) tok rfl rfl rfl) rfl ?_
          refine AOL.p (P_move (v := .int .i64 _) rfl) rfl ?_
          refine AOL.e (E_store (k := 2) (v := .agg _) (cs' := [.int .i64 _, .int .i64 _, .str _]) (H2 := _ :: _ :: _ :: _) tok rfl rfl rfl rfl rfl rfl rfl rfl rfl) rfl ?_
          rintro _ _ ⟨rfl, rfl⟩
          refine AOL.p (P_assign (v := .int .i64 _) rfl) rfl ?_
          refine AOL.nil ?_
          refine thenN ?_
          refine AW.ret ?_
          refine thenR ?_
          refine blkR ?_
          refine thenR ?_
          refine thenR ?_
          refine blkR ?_
          refine thenR ?_
          refine ⟨.inr rfl, [.agg [.int .i64 _, .int .i64 _, .str _], .int .i64 _], .cons (.box _ _ _ 2 _ _ _ _ rfl rfl rfl rfl rfl rfl) <| .cons (.tmp _ _ rfl) <| .nil, .cons _ (.cons _ (.cons _ (.refl _))), ?_⟩
          have hne : ¬ e.args.isEmpty = true := by simpa [List.isEmpty_iff] using hc1
          have hfe : firstS (fun a => (evalS x a).2) e.args = (evalS x a).2 := by rw [hR.2.1, drop_cons ha, firstS, if_pos hc3]
          rw [evalS_eq x e, if_neg hne, hfe, if_pos hc3]; rfl
        · skip
          refine AW.skip ?_
          refine thenN ?_
          refine AW.draw mixed (fun _ => True) trivial (by kernel_rfl) ?_
          refine Canon.pure _ _ 0 _ _ rfl (by kernel_rfl) (by kernel_rfl) rfl (.run rfl (P_move (v := .row _ _ _) rfl)) ?_
          refine Canon.pure _ _ 1 _ _ rfl (by kernel_rfl) (by kernel_rfl) rfl (.run rfl (P_load_ptr_agg (l := [.int .i64 _, .int .i64 _, .str _]) tok rfl rfl rfl rfl rfl)) ?_
          refine Canon.pure _ _ 2 _ _ rfl (by kernel_rfl) (by kernel_rfl) rfl (.run rfl (P_buildSlice (es := [[.int .i64 _, .int .i64 _, .str _]]) tok rfl rfl rfl rfl rfl rfl rfl rfl rfl)) ?_
          refine Canon.pure _ _ 4 _ _ rfl (by kernel_rfl) (by kernel_rfl) rfl (.run rfl (P_move (v := .row _ _ _) rfl)) ?_
          refine Canon.pure _ _ 5 _ _ rfl (by kernel_rfl) (by kernel_rfl) rfl (.run rfl (P_fieldAddr_ptr (cs' := [.int .i64 _, .int .i64 _, .str _]) tok rfl rfl rfl rfl rfl rfl)) ?_
          refine Canon.pure _ _ 6 _ _ rfl (by kernel_rfl) (by kernel_rfl) rfl (.run rfl (P_load_ptr (c := .int .i64 _) tok rfl rfl rfl)) ?_
          refine Canon.pure _ _ 7 _ _ rfl (by kernel_rfl) (by kernel_rfl) rfl (.run rfl (P_buildSlice (es := [[.int .i64 _]]) tok rfl rfl rfl rfl rfl rfl rfl rfl rfl)) ?_
          refine Canon.eff _ _ 3 _ _ rfl (by kernel_rfl) rfl rfl (E_append (k := 1) tok rfl rfl rfl rfl rfl rfl rfl rfl (sc_one rfl) (hsc) (by simp [hR.2.2.1]; omega) (by simp [hR.2.2.1, maxLen]; omega)) (fun _ _ _ => trivial) ?_
          rintro _ _ ⟨v42, rfl, rfl⟩
          refine Canon.eff _ _ 8 _ _ rfl (by kernel_rfl) rfl rfl (E_append (k := 0) tok rfl rfl rfl rfl rfl rfl rfl rfl (sc_one rfl) (hsc2) (by simp [hR.2.2.2]; omega) (by simp [hR.2.2.2, maxLen]; omega)) (fun _ _ _ => trivial) ?_
          rintro _ _ ⟨v47, rfl, rfl⟩
          refine Canon.pure _ _ 9 _ _ rfl (by kernel_rfl) (by kernel_rfl) rfl (.run rfl (P_assign (v := .row _ _ _) rfl)) ?_
          refine Canon.pure _ _ 10 _ _ rfl (by kernel_rfl) (by kernel_rfl) rfl (.run rfl (P_assign (v := .row _ _ _) rfl)) ?_
          refine Canon.done _ _ (by kernel_rfl) ?_
          refine blkN ?_
          refine thenN ?_
          refine AW.region ?_
          refine AOL.p (P_add rfl rfl rfl (by constructor <;> omega)) rfl ?_
          refine AOL.p (P_move (v := .int .i64 _) rfl) rfl ?_
          refine AOL.nil ?_
          refine thenN ?_
          refine ⟨(p.1 + 1, p.2.1 ++ [cV (evalS x a).1], v42, p.2.2.2.1 ++ [[.int .i64 (evalS x a).1.kind]], v47), ?_, ?_, GS.weaken ⟨rfl, rfl, rfl, rfl, rfl, rfl, rfl, rfl, trivial⟩ (.refl _)⟩
          · simp only; exact ⟨hlt, by rw [hR.2.1, drop_cons ha, firstS, if_neg (by simpa using hc3)], by rw [take_get ha, hR.2.2.1]; simp, by rw [take_get ha, hR.2.2.2]; simp⟩
          · first | omega | (simp only; omega)
      · skip
        have hte := take_end hc2
        have hd := get_end hc2
        have hf : firstS (fun a => (evalS x a).2) e.args = 0 := by rw [hR.2.1, hd]; rfl
        obtain ⟨k, es, rv, es2, rv2⟩ := p
        simp only at hR hte
        have h6 : es = (e.args.map (fun a => (evalS x a).1)).map cV := by rw [hR.2.2.1, hte]
        have h7 : es2 = (e.args.map (fun a => (evalS x a).1.kind)).map (fun k => [AV.int .i64 k]) := by rw [hR.2.2.2, hte]
        subst h6
        subst h7
        refine AW.exit ?_
        refine thenE ?_
        refine thenE ?_
        refine blkHit ?_
        refine thenN ?_
        refine AW.seq ?_
        refine AW.seq ?_
        refine AW.region ?_
        refine AOL.p (P_fieldAddr_ptr (cs' := [.int .i64 _, _, .int .i64 _, .int .i64 _, .int .i64 _, .int .i64 _, .int .i64 _, .str _]) tok rfl rfl rfl rfl rfl rfl) rfl ?_
        refine AOL.p (P_load_ptr (c := .int .i64 _) tok rfl rfl rfl) rfl ?_
        refine AOL.ghost (GS.unrow 7 rfl) ?_
        refine AOL.ghost (GS.unrow 6 rfl) ?_
        refine AOL.p (P_move (v := .sl _ _) rfl) rfl ?_
        refine AOL.p (P_callf (by kernel_rfl) rfl rfl (c71 e.op (e.args.map (fun a => (evalS x a).1.kind)))) rfl ?_
        refine AOL.p (P_assign (v := .int .i64 _) rfl) rfl ?_
        refine AOL.nil ?_
        refine thenN ?_
        refine AW.seq ?_
        refine AW.region ?_
        refine AOL.p (P_move (v := .int .i64 _) rfl) rfl ?_
        refine AOL.p (P_neq rfl rfl) rfl ?_
        refine AOL.nil ?_
        refine thenN ?_
        refine AW.cond (b := _) rfl (fun hc4 => ?_) (fun hc4 => ?_)
        · skip
          refine AW.seq ?_
          refine AW.region ?_
          refine AOL.p (P_build (l := [.int .i64 _, .int .i64 _, .str _]) tok rfl rfl rfl) rfl ?_
          refine AOL.p (P_move (v := .int .i64 _) rfl) rfl ?_
          refine AOL.e (E_store (k := 2) (v := .agg _) (cs' := [.int .i64 _, .int .i64 _, .str _]) (H2 := _ :: _ :: _ :: _) tok rfl rfl rfl rfl rfl rfl rfl rfl rfl) rfl ?_
          rintro _ _ ⟨rfl, rfl⟩
          refine AOL.p (P_assign (v := .int .i64 _) rfl) rfl ?_
          refine AOL.nil ?_
          refine thenN ?_
          refine AW.ret ?_
          refine thenR ?_
          refine ⟨.inr rfl, [.agg [.int .i64 _, .int .i64 _, .str _], .int .i64 _], .cons (.box _ _ _ 2 _ _ _ _ rfl rfl rfl rfl rfl rfl) <| .cons (.tmp _ _ rfl) <| .nil, .cons _ (.cons _ (.cons _ (.refl _))), ?_⟩
          have hne : ¬ e.args.isEmpty = true := by simpa [List.isEmpty_iff] using hc1
          have hk : (e.args.map (fun a => (evalS x a).1)).map (·.kind) = e.args.map (fun a => (evalS x a).1.kind) := by simp
          rw [evalS_eq x e, if_neg hne, hf, if_neg (by decide), nodeV, hk, if_pos hc4]; rfl
        · skip
          have hsh := node_args hz.1 hc1
          have hl0 : (e.args.map (fun a => (evalS x a).1)).length ≠ 0 := by simp; intro h0; rw [h0] at hc1; simp at hc1
          have hl4 : (e.args.map (fun a => (evalS x a).1)).length ≤ 1048576 := by simpa using hal
          refine (ends_of hl0).elim fun v hv => hv.elim fun w hw => ?_
          have hv0 := hw.1
          have hvl := hw.2.1
          have hvd := hw.2.2
          refine AW.skip ?_
          refine thenN ?_
          refine AW.seq ?_
          refine AW.seq ?_
          refine AW.region ?_
          refine AOL.p (P_fieldAddr_ptr (cs' := [.int .i64 _, _, .int .i64 _, .int .i64 _, .int .i64 _, .int .i64 _, .int .i64 _, .str _]) tok rfl rfl rfl rfl rfl rfl) rfl ?_
          refine AOL.p (P_load_ptr (c := .int .i64 _) tok rfl rfl rfl) rfl ?_
          refine AOL.p (P_eql rfl rfl) rfl ?_
          refine AOL.nil ?_
          refine thenN ?_
          refine AW.cond (b := _) rfl (fun hc5 => ?_) (fun hc5 => ?_)
          · skip
            have h9 : e.op = 9 := by simpa using hc5
            have hl2 : (e.args.map (fun a => (evalS x a).1)).length = 2 := by simp; omega
            have hv1 : (e.args.map (fun a => (evalS x a).1))[1]? = some w := by rw [← hvl, hl2]; rfl
            refine AW.seq ?_
            refine AW.draw mixed (fun _ => True) trivial (by kernel_rfl) ?_
            refine Canon.pure _ _ 0 _ _ rfl (by kernel_rfl) (by kernel_rfl) rfl (.run rfl (P_move (v := .sl _ _) rfl)) ?_
            refine Canon.pure _ _ 1 _ _ rfl (by kernel_rfl) (by kernel_rfl) rfl (.run rfl (P_indexAddr (c := [.int .i64 _, .int .i64 _, .str _]) tok rfl rfl rfl rfl rfl rfl (by omega) (map_at hv0))) ?_
            refine Canon.pure _ _ 2 _ _ rfl (by kernel_rfl) (by kernel_rfl) rfl (.run rfl (P_load_ptr_agg (l := [.int .i64 _, .int .i64 _, .str _]) tok rfl rfl rfl rfl rfl)) ?_
            refine Canon.pure _ _ 3 _ _ rfl (by kernel_rfl) (by kernel_rfl) rfl (.run rfl (P_move (v := .sl _ _) rfl)) ?_
            refine Canon.pure _ _ 4 _ _ rfl (by kernel_rfl) (by kernel_rfl) rfl (.run rfl (P_indexAddr (c := [.int .i64 _, .int .i64 _, .str _]) tok rfl rfl rfl rfl rfl rfl (by omega) (map_at hv1))) ?_
            refine Canon.pure _ _ 5 _ _ rfl (by kernel_rfl) (by kernel_rfl) rfl (.run rfl (P_load_ptr_agg (l := [.int .i64 _, .int .i64 _, .str _]) tok rfl rfl rfl rfl rfl)) ?_
            refine Canon.pure _ _ 6 _ _ rfl (by kernel_rfl) (by kernel_rfl) rfl (.run rfl (P_eql_agg tok rfl rfl rfl rfl rfl)) ?_
            refine Canon.pure _ _ 7 _ _ rfl (by kernel_rfl) (by kernel_rfl) rfl (.run rfl (P_callf (by kernel_rfl) rfl rfl (c42 _))) ?_
            refine Canon.eff _ _ 8 _ _ rfl (by kernel_rfl) rfl rfl (E_store (k := 2) (v := .agg _) (cs' := [.int .i64 _, .int .i64 _, .str _]) (H2 := _ :: _ :: _ :: _) tok rfl rfl rfl rfl rfl rfl rfl rfl rfl) (fun _ _ _ => trivial) ?_
            rintro _ _ ⟨rfl, rfl⟩
            refine Canon.pure _ _ 9 _ _ rfl (by kernel_rfl) (by kernel_rfl) rfl (.run rfl (P_assign (v := .int .i64 _) rfl)) ?_
            refine Canon.done _ _ (by kernel_rfl) ?_
            refine thenN ?_
            refine AW.ret ?_
            refine thenR ?_
            refine ⟨.inr rfl, [.agg [.int .i64 _, .int .i64 _, .str _], .int .i64 _], .cons (.box _ _ _ 2 _ _ _ _ rfl rfl rfl rfl rfl rfl) <| .cons (.tmp _ _ rfl) <| .nil, .cons _ (.cons _ (.cons _ (.refl _))), ?_⟩
            have hne : ¬ e.args.isEmpty = true := by simpa [List.isEmpty_iff] using hc1
            have hk : (e.args.map (fun a => (evalS x a).1)).map (·.kind) = e.args.map (fun a => (evalS x a).1.kind) := by simp
            rw [evalS_eq x e, if_neg hne, hf, if_neg (by decide), nodeV, hk, if_neg (Bool.eq_false_iff.mp hc4), (hvd v0).1]
            first
            | (rw [if_pos hc5, hv1]; simp only [Bool.and_true]; first | done | rfl)
            | (rw [if_neg (Bool.eq_false_iff.mp hc5), (hvd v0).2] <;> rfl)
            | skip
          · skip
            have h9 : e.op ≠ 9 := by simpa using hc5
            refine (ops_get e.op (by omega)).elim fun f hf1 => hf1.elim fun cap hf2 => ?_
            have hmg := hf2.1
            have hfn := hf2.2.1
            have hap := hf2.2.2
            refine AW.skip ?_
            refine thenN ?_
            refine AW.seq ?_
            refine AW.draw mixed (fun _ => True) trivial (by kernel_rfl) ?_
            refine Canon.pure _ _ 0 _ _ rfl (by kernel_rfl) (by kernel_rfl) rfl (.run rfl (P_fieldAddr_ptr (cs' := [_]) tok rfl rfl rfl rfl rfl rfl)) ?_
            refine Canon.pure _ _ 1 _ _ rfl (by kernel_rfl) (by kernel_rfl) rfl (.run rfl (P_load_ptr (c := .mapv _) tok rfl rfl rfl)) ?_
            refine Canon.pure _ _ 2 _ _ rfl (by kernel_rfl) (by kernel_rfl) rfl (.run rfl (P_fieldAddr_ptr (cs' := [.int .i64 _, _, .int .i64 _, .int .i64 _, .int .i64 _, .int .i64 _, .int .i64 _, .str _]) tok rfl rfl rfl rfl rfl rfl)) ?_
            refine Canon.pure _ _ 3 _ _ rfl (by kernel_rfl) (by kernel_rfl) rfl (.run rfl (P_load_ptr (c := .int .i64 _) tok rfl rfl rfl)) ?_
            refine Canon.pure _ _ 4 _ _ rfl (by kernel_rfl) (by kernel_rfl) rfl (.run rfl (P_lookup tok rfl rfl rfl rfl rfl rfl (hmg))) ?_
            refine Canon.pure _ _ 5 _ _ rfl (by kernel_rfl) (by kernel_rfl) rfl (.run rfl (P_move (v := .sl _ _) rfl)) ?_
            refine Canon.pure _ _ 6 _ _ rfl (by kernel_rfl) (by kernel_rfl) rfl (.run rfl (P_indexAddr (c := [.int .i64 _, .int .i64 _, .str _]) tok rfl rfl rfl rfl rfl rfl (by omega) (map_at hv0))) ?_
            refine Canon.pure _ _ 7 _ _ rfl (by kernel_rfl) (by kernel_rfl) rfl (.run rfl (P_fieldAddr_ptr (cs' := [.int .i64 _, .str _]) tok rfl rfl rfl rfl rfl rfl)) ?_
            refine Canon.pure _ _ 8 _ _ rfl (by kernel_rfl) (by kernel_rfl) rfl (.run rfl (P_load_ptr (c := .int .i64 _) tok rfl rfl rfl)) ?_
            refine Canon.pure _ _ 9 _ _ rfl (by kernel_rfl) (by kernel_rfl) rfl (.run rfl (P_move (v := .sl _ _) rfl)) ?_
            refine Canon.pure _ _ 10 _ _ rfl (by kernel_rfl) (by kernel_rfl) rfl (.run rfl (P_move (v := .sl _ _) rfl)) ?_
            refine Canon.pure _ _ 11 _ _ rfl (by kernel_rfl) (by kernel_rfl) rfl (.run rfl (P_len_sl (n := (e.args.map (fun a => (evalS x a).1)).length) tok rfl rfl rfl (by simp))) ?_
            refine Canon.pure _ _ 12 _ _ rfl (by kernel_rfl) (by kernel_rfl) rfl (.run rfl (P_sub rfl rfl rfl (by constructor <;> omega))) ?_
            refine Canon.pure _ _ 13 _ _ rfl (by kernel_rfl) (by kernel_rfl) rfl (.run rfl (P_indexAddr (c := [.int .i64 _, .int .i64 _, .str _]) tok rfl rfl rfl rfl rfl rfl (by simp at hl0 ⊢; omega) (map_at hvl))) ?_
            refine Canon.pure _ _ 14 _ _ rfl (by kernel_rfl) (by kernel_rfl) rfl (.run rfl (P_fieldAddr_ptr (cs' := [.int .i64 _, .str _]) tok rfl rfl rfl rfl rfl rfl)) ?_
            refine Canon.pure _ _ 15 _ _ rfl (by kernel_rfl) (by kernel_rfl) rfl (.run rfl (P_load_ptr (c := .int .i64 _) tok rfl rfl rfl)) ?_
            refine Canon.pure _ _ 16 _ _ rfl (by kernel_rfl) (by kernel_rfl) rfl (.run rfl (P_call hfn rfl rfl rfl (hap _ _))) ?_
            refine Canon.eff _ _ 17 _ _ rfl (by kernel_rfl) rfl rfl (E_store (k := 2) (v := .agg _) (cs' := [.int .i64 _, .int .i64 _, .str _]) (H2 := _ :: _ :: _ :: _) tok rfl rfl rfl rfl rfl rfl rfl rfl rfl) (fun _ _ _ => trivial) ?_
            rintro _ _ ⟨rfl, rfl⟩
            refine Canon.pure _ _ 18 _ _ rfl (by kernel_rfl) (by kernel_rfl) rfl (.run rfl (P_assign (v := .int .i64 _) rfl)) ?_
            refine Canon.done _ _ (by kernel_rfl) ?_
            refine thenN ?_
            refine AW.ret ?_
            refine ⟨.inr rfl, [.agg [.int .i64 _, .int .i64 _, .str _], .int .i64 _], .cons (.box _ _ _ 2 _ _ _ _ rfl rfl rfl rfl rfl rfl) <| .cons (.tmp _ _ rfl) <| .nil, .cons _ (.cons _ (.cons _ (.refl _))), ?_⟩
            have hne : ¬ e.args.isEmpty = true := by simpa [List.isEmpty_iff] using hc1
            have hk : (e.args.map (fun a => (evalS x a).1)).map (·.kind) = e.args.map (fun a => (evalS x a).1.kind) := by simp
            rw [evalS_eq x e, if_neg hne, hf, if_neg (by decide), nodeV, hk, if_neg (Bool.eq_false_iff.mp hc4), (hvd v0).1]
            first
            | (rw [if_pos hc5, hv1]; simp only [Bool.and_true]; first | done | rfl)
            | (rw [if_neg (Bool.eq_false_iff.mp hc5), (hvd v0).2] <;> rfl)
            | skip

end Go.Proofs.Ytkkacfnkjiijkaa
