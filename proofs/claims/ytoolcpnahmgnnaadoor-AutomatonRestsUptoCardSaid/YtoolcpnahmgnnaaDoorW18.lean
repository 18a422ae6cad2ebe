/-
  Walks of layer 23: the text of an automaton. No condition.
-/
import Derived.Test.YtoolcpnahmgnnaaDoorW17
import Derived.KernelRfl
namespace Go.Proofs.YtoolcpnahmgnnaaDoor
open Go Go.Aw
set_option linter.unusedVariables false
set_option linter.unusedSimpArgs false

theorem ACall.arg3 {P : Program} {f : FuncId} {H : List HO} {x y : AV} {z : Nat} {es es' : List (List AV)} {Q : AV → List HO → Prop} (h : es = es') (k : ACall P f H [x, y, .sl z es'] Q) : ACall P f H [x, y, .sl z es] Q := h ▸ k
theorem sc_two {c d : List AV} (hc : scalars c = true) (hd : scalars d = true) : ∀ x ∈ [c, d], scalars x = true := fun x hx => by
  simp only [List.mem_cons, List.not_mem_nil, or_false] at hx
  rcases hx with rfl | rfl
  · exact hc
  · exact hd
set_option maxRecDepth 20000 in
set_option maxHeartbeats 6400000 in
theorem a_edgeLine (x : Ed) (hi : EdI x) (hs : EdSm x) : APure Tryd.prog 44 [.agg (cEd x)] (.str (edgeT x)) := by
  have hlk := hs.l
  have hkk := hs.k
  have htl := edgeT_len hi hs
  refine APure.body (n := 53) tok Tryd.func44 rfl rfl rfl fun H => ?_
  refine AW.seq ?_
  refine AW.region ?_
  refine AOL.p (P_box (v := .agg _) (cs := [.int .i64 _, .int .i64 _, .int .i64 _, .int .i64 _, .int .i64 _, _, .int .i64 _, .int .i64 _, .int .i64 _, .int .i64 _, .int .i64 _, .str _, _, _, _, _, _]) rfl rfl rfl) rfl ?_
  refine AOL.p (P_assign (v := .str _) rfl) rfl ?_
  refine AOL.nil ?_
  refine thenN ?_
  refine AW.seq ?_
  refine AW.region ?_
  refine AOL.e (E_alloc (l := [.val (.slice none 0 0)]) (by kernel_rfl)) rfl ?_
  rintro _ _ ⟨b3, rfl, rfl⟩
  refine AOL.ghost (GS.cellRow 0 0 9 1 rfl rfl rfl rfl) ?_
  refine AOL.nil ?_
  refine thenN ?_
  refine AW.seq ?_
  refine AW.region ?_
  refine AOL.p (P_fieldAddr_ptr (cs' := [.int .i64 _, .int .i64 _, .int .i64 _, _, .int .i64 _, .int .i64 _, .int .i64 _, .int .i64 _, .int .i64 _, .str _, _, _, _, _, _]) tok rfl rfl rfl rfl rfl rfl) rfl ?_
  refine AOL.p (P_load_ptr (c := .int .i64 _) tok rfl rfl rfl) rfl ?_
  refine AOL.p (P_fieldAddr_ptr (cs' := [.int .i64 _, .int .i64 _, _, .int .i64 _, .int .i64 _, .int .i64 _, .int .i64 _, .int .i64 _, .str _, _, _, _, _, _]) tok rfl rfl rfl rfl rfl rfl) rfl ?_
  refine AOL.p (P_load_ptr (c := .int .i64 _) tok rfl rfl rfl) rfl ?_
  refine AOL.p (P_buildSlice (es := [[.int .i64 _], [.int .i64 _]]) tok rfl rfl rfl rfl rfl rfl rfl rfl rfl) rfl ?_
  refine AOL.e (E_callf (by kernel_rfl) rfl rfl (l_add b3 _ [] sEdge [x.var, x.type] (two_i64 hi.var hi.type) (by simp) _)) rfl ?_
  rintro _ _ ⟨v13, rfl, rfl⟩
  refine AOL.nil ?_
  refine thenN ?_
  refine AW.seq ?_
  refine AW.region ?_
  refine AOL.p (P_fieldAddr_ptr (cs' := [.int .i64 _, .int .i64 _, .int .i64 _, .int .i64 _, _, .int .i64 _, .int .i64 _, .int .i64 _, .int .i64 _, .int .i64 _, .str _, _, _, _, _, _]) tok rfl rfl rfl rfl rfl rfl) rfl ?_
  refine AOL.p (P_load_ptr (c := .int .i64 _) tok rfl rfl rfl) rfl ?_
  refine AOL.p (P_buildSlice (es := [[.int .i64 _]]) tok rfl rfl rfl rfl rfl rfl rfl rfl rfl) rfl ?_
  refine AOL.e (E_callf (by kernel_rfl) rfl rfl (l_add b3 _ _ sTo [x.dst] (one_i64 hi.dst) (by simp [addW]) _)) rfl ?_
  rintro _ _ ⟨v17, rfl, rfl⟩
  refine AOL.nil ?_
  refine thenN ?_
  refine AW.seq ?_
  refine AW.region ?_
  refine AOL.p (P_fieldAddr_ptr (cs' := [_, _, _, _, _]) tok rfl rfl rfl rfl rfl rfl) rfl ?_
  refine AOL.p (P_load_ptr (c := .sl _ _) tok rfl rfl rfl) rfl ?_
  refine AOL.e (E_callf (by kernel_rfl) rfl rfl (l_list b3 _ _ sOpens x.opens hi.o (by simp only [List.length_append, List.length_nil, addW_len, List.length_cons, limI_len]; have h1 := listW_len sOpens x.opens; have h2 := listW_len sCloses x.closes; have h3 := listW_len sInside x.inside; have h4 := listW_len sLimits (limI x.limits); have h5 := hs.o; have h6 := hs.c; have h7 := hs.i; have h8 := hs.l; rw [limI_len] at h4; omega) _)) rfl ?_
  rintro _ _ ⟨v20, rfl, rfl⟩
  refine AOL.nil ?_
  refine thenN ?_
  refine AW.seq ?_
  refine AW.region ?_
  refine AOL.p (P_fieldAddr_ptr (cs' := [_, _, _, _]) tok rfl rfl rfl rfl rfl rfl) rfl ?_
  refine AOL.p (P_load_ptr (c := .sl _ _) tok rfl rfl rfl) rfl ?_
  refine AOL.e (E_callf (by kernel_rfl) rfl rfl (l_list b3 _ _ sCloses x.closes hi.c (by simp only [List.length_append, List.length_nil, addW_len, List.length_cons, limI_len]; have h1 := listW_len sOpens x.opens; have h2 := listW_len sCloses x.closes; have h3 := listW_len sInside x.inside; have h4 := listW_len sLimits (limI x.limits); have h5 := hs.o; have h6 := hs.c; have h7 := hs.i; have h8 := hs.l; rw [limI_len] at h4; omega) _)) rfl ?_
  rintro _ _ ⟨v23, rfl, rfl⟩
  refine AOL.nil ?_
  refine thenN ?_
  refine AW.seq ?_
  refine AW.region ?_
  refine AOL.p (P_fieldAddr_ptr (cs' := [_]) tok rfl rfl rfl rfl rfl rfl) rfl ?_
  refine AOL.p (P_load_ptr (c := .sl _ _) tok rfl rfl rfl) rfl ?_
  refine AOL.e (E_callf (by kernel_rfl) rfl rfl (l_list b3 _ _ sInside x.inside hi.i (by simp only [List.length_append, List.length_nil, addW_len, List.length_cons, limI_len]; have h1 := listW_len sOpens x.opens; have h2 := listW_len sCloses x.closes; have h3 := listW_len sInside x.inside; have h4 := listW_len sLimits (limI x.limits); have h5 := hs.o; have h6 := hs.c; have h7 := hs.i; have h8 := hs.l; rw [limI_len] at h4; omega) _)) rfl ?_
  rintro _ _ ⟨v26, rfl, rfl⟩
  refine AOL.nil ?_
  refine thenN ?_
  refine AW.seq ?_
  refine AW.region ?_
  refine AOL.p (P_assign (v := .val _) rfl) rfl ?_
  refine AOL.ghost (GS.row (t := 4) 3 1 rfl) ?_
  refine AOL.nil ?_
  refine thenN ?_
  refine AW.seq ?_
  refine AW.seq ?_
  refine AW.region ?_
  refine AOL.p (P_fieldAddr_ptr (cs' := [_, _]) tok rfl rfl rfl rfl rfl rfl) rfl ?_
  refine AOL.p (P_load_ptr (c := .sl _ _) tok rfl rfl rfl) rfl ?_
  refine AOL.p (P_len_sl (n := x.limits.length) tok rfl rfl rfl (by simp)) rfl ?_
  refine AOL.p (P_move (v := .int .i64 _) rfl) rfl ?_
  refine AOL.nil ?_
  refine thenN ?_
  refine AW.block ?_
  refine AW.loopS (fun (p : Nat × List (List AV) × Value) => (⟨[(1, .ptr (cEd x)), (3, .val (.pointer (some ⟨b3, 0, none⟩))), (4, .row p.2.2 1 p.2.1), (28, .sl 2 (x.limits.map cLi)), (29, .int .i64 x.limits.length), (30, .int .i64 (p.1 : Int))], .row p.2.2 p.2.1.length 3 1 :: .row v26 (wc ((((([] ++ addW sEdge [x.var, x.type]) ++ addW sTo [x.dst]) ++ listW sOpens x.opens) ++ listW sCloses x.closes) ++ listW sInside x.inside)).length 9 1 :: .box b3 88 [.row v26 1 (wc ((((([] ++ addW sEdge [x.var, x.type]) ++ addW sTo [x.dst]) ++ listW sOpens x.opens) ++ listW sCloses x.closes) ++ listW sInside x.inside))] :: H, 53⟩ : St)) (fun (p : Nat × List (List AV) × Value) => p.1 ≤ x.limits.length ∧ p.2.1 = (limI (x.limits.take p.1)).map cI) (fun (p : Nat × List (List AV) × Value) => x.limits.length - p.1) ((0, [], .slice none 0 0)) ?_ (GS.weaken ⟨rfl, rfl, rfl, rfl, rfl, rfl, trivial⟩ (.refl _)) ?_
  · exact ⟨Nat.zero_le _, rfl⟩
  · rintro p hR
    have hsc : ∀ c ∈ p.2.1, scalars c = true := by rw [hR.2]; exact sc_map fun _ => rfl
    have hel : p.2.1.length ≤ 2 * p.1 := by rw [hR.2, List.length_map, limI_len, List.length_take]; omega
    refine AW.seq ?_
    refine AW.region ?_
    refine AOL.p (P_lss rfl rfl) rfl ?_
    refine AOL.nil ?_
    refine thenN ?_
    refine AW.seq ?_
    refine AW.cond (b := _) rfl (fun hc1 => ?_) (fun hc1 => ?_)
    · skip
      obtain ⟨y, hy⟩ := get_lt2 (l := x.limits) (k := p.1) (by have := of_decide_eq_true hc1; omega)
      have hlty := get_lt' hy
      refine AW.skip ?_
      refine thenN ?_
      refine AW.seq ?_
      refine AW.block ?_
      refine AW.seq ?_
      refine AW.region ?_
      refine AOL.p (P_indexAddr (c := [.int .i64 _, .int .i64 _]) tok rfl rfl rfl rfl rfl rfl (by omega) (cLi_at hy)) rfl ?_
      refine AOL.p (P_load_ptr_agg (l := [.int .i64 _, .int .i64 _]) tok rfl rfl rfl rfl rfl) rfl ?_
      refine AOL.e (E_alloc (l := [.int .i64 0, .int .i64 0]) (by kernel_rfl)) rfl ?_
      rintro _ _ ⟨b6, rfl, rfl⟩
      refine AOL.e (E_store (k := 0) (v := .agg _) (cs' := [.int .i64 _, .int .i64 _]) (H2 := _ :: _ :: _ :: _ :: _) tok rfl rfl rfl rfl rfl rfl rfl rfl rfl) rfl ?_
      rintro _ _ ⟨rfl, rfl⟩
      refine AOL.ghost (GS.freeze (t := 6) 0 rfl rfl) ?_
      refine AOL.nil ?_
      refine thenN ?_
      refine AW.region ?_
      refine AOL.p (P_move (v := .row _ _ _) rfl) rfl ?_
      refine AOL.p (P_fieldAddr_ptr (cs' := [.int .i64 _, .int .i64 _]) tok rfl rfl rfl rfl rfl rfl) rfl ?_
      refine AOL.p (P_load_ptr (c := .int .i64 _) tok rfl rfl rfl) rfl ?_
      refine AOL.p (P_fieldAddr_ptr (cs' := [.int .i64 _]) tok rfl rfl rfl rfl rfl rfl) rfl ?_
      refine AOL.p (P_load_ptr (c := .int .i64 _) tok rfl rfl rfl) rfl ?_
      refine AOL.p (P_buildSlice (es := [[.int .i64 _], [.int .i64 _]]) tok rfl rfl rfl rfl rfl rfl rfl rfl rfl) rfl ?_
      refine AOL.e (E_append (k := 0) tok rfl rfl rfl rfl rfl rfl rfl rfl (sc_two rfl rfl) (hsc) (by simp; omega) (by simp [maxLen]; omega)) rfl ?_
      rintro _ _ ⟨v40, rfl, rfl⟩
      refine AOL.p (P_assign (v := .row _ _ _) rfl) rfl ?_
      refine AOL.nil ?_
      refine blkN ?_
      refine thenN ?_
      refine AW.region ?_
      refine AOL.p (P_add rfl rfl rfl (by constructor <;> omega)) rfl ?_
      refine AOL.p (P_move (v := .int .i64 _) rfl) rfl ?_
      refine AOL.nil ?_
      refine thenN ?_
      refine ⟨(p.1 + 1, p.2.1 ++ [[.int .i64 y.scope], [.int .i64 y.span]], v40), ?_, ?_, GS.weaken ⟨rfl, rfl, rfl, rfl, rfl, rfl, trivial⟩ (.refl _)⟩
      · exact ⟨hlty, by simp only; rw [limI_take hy, List.map_append, hR.2]; rfl⟩
      · simp only; omega
    · skip
      have hk : x.limits.length ≤ p.1 := by have := of_decide_eq_false hc1; omega
      have hpe : p.2.1 = (limI x.limits).map cI := by have h := hR.2; rw [List.take_of_length_le hk] at h; exact h
      refine AW.exit ?_
      refine thenE ?_
      refine thenE ?_
      refine blkHit ?_
      refine thenN ?_
      refine AW.seq ?_
      refine AW.region ?_
      refine AOL.p (P_move (v := .row _ _ _) rfl) rfl ?_
      refine AOL.ghost (GS.unrow 42 rfl) ?_
      refine AOL.e (E_callf (by kernel_rfl) rfl rfl (ACall.front2 (R := _ :: _) 2 1 rfl rfl rfl (ACall.arg3 hpe (l_list b3 _ _ sLimits (limI x.limits) hi.l (by simp only [List.length_append, List.length_nil, addW_len, List.length_cons, limI_len]; have h1 := listW_len sOpens x.opens; have h2 := listW_len sCloses x.closes; have h3 := listW_len sInside x.inside; have h4 := listW_len sLimits (limI x.limits); have h5 := hs.o; have h6 := hs.c; have h7 := hs.i; have h8 := hs.l; rw [limI_len] at h4; omega) _)))) rfl ?_
      rintro _ _ ⟨v43, rfl, rfl⟩
      refine AOL.nil ?_
      refine thenN ?_
      refine AW.seq ?_
      refine AW.seq ?_
      refine AW.region ?_
      refine AOL.p (P_fieldAddr_ptr (cs' := [_, _, _]) tok rfl rfl rfl rfl rfl rfl) rfl ?_
      refine AOL.p (P_load_ptr (c := .sl _ _) tok rfl rfl rfl) rfl ?_
      refine AOL.p (P_len_sl (n := x.checks.length) tok rfl rfl rfl (by simp)) rfl ?_
      refine AOL.p (P_assign (v := .int .i64 _) rfl) rfl ?_
      refine AOL.nil ?_
      refine thenN ?_
      refine AW.seq ?_
      refine AW.region ?_
      refine AOL.p (P_move (v := .int .i64 _) rfl) rfl ?_
      refine AOL.p (P_gtr rfl rfl) rfl ?_
      refine AOL.nil ?_
      refine thenN ?_
      refine AW.cond (b := _) rfl (fun hc2 => ?_) (fun hc2 => ?_)
      · skip
        have hw : ((((((([] ++ addW sEdge [x.var, x.type]) ++ addW sTo [x.dst]) ++ listW sOpens x.opens) ++ listW sCloses x.closes) ++ listW sInside x.inside) ++ listW sLimits (limI x.limits)) ++ addW sChecks [(x.checks.length : Int)]) = edgeW x := by unfold edgeW chkW; rw [if_pos hc2, List.nil_append]
        have hwl : ((((((([] ++ addW sEdge [x.var, x.type]) ++ addW sTo [x.dst]) ++ listW sOpens x.opens) ++ listW sCloses x.closes) ++ listW sInside x.inside) ++ listW sLimits (limI x.limits)) ++ addW sChecks [(x.checks.length : Int)]).length ≤ 100000000 := by simp only [List.length_append, List.length_nil, addW_len, List.length_cons, limI_len]; have h1 := listW_len sOpens x.opens; have h2 := listW_len sCloses x.closes; have h3 := listW_len sInside x.inside; have h4 := listW_len sLimits (limI x.limits); have h5 := hs.o; have h6 := hs.c; have h7 := hs.i; have h8 := hs.l; rw [limI_len] at h4; omega
        refine AW.region ?_
        refine AOL.p (P_move (v := .int .i64 _) rfl) rfl ?_
        refine AOL.p (P_buildSlice (es := [[.int .i64 _]]) tok rfl rfl rfl rfl rfl rfl rfl rfl rfl) rfl ?_
        refine AOL.e (E_callf (by kernel_rfl) rfl rfl (l_add b3 _ _ sChecks [(x.checks.length : Int)] (one_i64 (I64_nat hkk)) (by simp only [List.length_append, List.length_nil, addW_len, List.length_cons, limI_len]; have h1 := listW_len sOpens x.opens; have h2 := listW_len sCloses x.closes; have h3 := listW_len sInside x.inside; have h4 := listW_len sLimits (limI x.limits); have h5 := hs.o; have h6 := hs.c; have h7 := hs.i; have h8 := hs.l; rw [limI_len] at h4; omega) _)) rfl ?_
        rintro _ _ ⟨v51, rfl, rfl⟩
        refine AOL.nil ?_
        refine thenN ?_
        refine AW.seq ?_
        refine AW.region ?_
        refine AOL.e (E_callf (by kernel_rfl) rfl rfl (l_text b3 _ _ hwl (by rw [hw]; exact Nat.le_trans htl (by decide)) _)) rfl ?_
        rintro _ _ ⟨rfl, rfl⟩
        refine AOL.p (P_assign (v := .str _) rfl) rfl ?_
        refine AOL.nil ?_
        refine thenN ?_
        refine AW.ret ?_
        refine ⟨.inr rfl, [.str _], .cons (.tmp _ _ rfl) <| .nil, .cons _ (.cons _ (.cons _ (.refl _))), ?_⟩
        rw [hw]; rfl
      · skip
        have hw : (((((([] ++ addW sEdge [x.var, x.type]) ++ addW sTo [x.dst]) ++ listW sOpens x.opens) ++ listW sCloses x.closes) ++ listW sInside x.inside) ++ listW sLimits (limI x.limits)) = edgeW x := by unfold edgeW chkW; rw [if_neg (Bool.eq_false_iff.mp hc2), List.nil_append, List.append_nil]
        have hwl : (((((([] ++ addW sEdge [x.var, x.type]) ++ addW sTo [x.dst]) ++ listW sOpens x.opens) ++ listW sCloses x.closes) ++ listW sInside x.inside) ++ listW sLimits (limI x.limits)).length ≤ 100000000 := by simp only [List.length_append, List.length_nil, addW_len, List.length_cons, limI_len]; have h1 := listW_len sOpens x.opens; have h2 := listW_len sCloses x.closes; have h3 := listW_len sInside x.inside; have h4 := listW_len sLimits (limI x.limits); have h5 := hs.o; have h6 := hs.c; have h7 := hs.i; have h8 := hs.l; rw [limI_len] at h4; omega
        refine AW.skip ?_
        refine thenN ?_
        refine AW.seq ?_
        refine AW.region ?_
        refine AOL.e (E_callf (by kernel_rfl) rfl rfl (l_text b3 _ _ hwl (by rw [hw]; exact Nat.le_trans htl (by decide)) _)) rfl ?_
        rintro _ _ ⟨rfl, rfl⟩
        refine AOL.p (P_assign (v := .str _) rfl) rfl ?_
        refine AOL.nil ?_
        refine thenN ?_
        refine AW.ret ?_
        refine ⟨.inr rfl, [.str _], .cons (.tmp _ _ rfl) <| .nil, .cons _ (.cons _ (.cons _ (.refl _))), ?_⟩
        rw [hw]; rfl
set_option maxRecDepth 20000 in
set_option maxHeartbeats 12800000 in
theorem a_Format (a : Au) (sa : Sm a) (ia : Im a) : APure Tryd.prog 18 [.agg (cAu a)] (.tuple [.str (formatS a).1, .int .i64 (formatS a).2]) := by
  refine APure.body (n := 65) tok Tryd.func18 rfl rfl rfl fun H => ?_
  refine AW.seq ?_
  refine AW.region ?_
  refine AOL.p (P_box (v := .agg _) (cs := [.int .i64 _, .int .i64 _, _, _]) rfl rfl rfl) rfl ?_
  refine AOL.p (P_assign (v := .str _) rfl) rfl ?_
  refine AOL.p (P_assign (v := .int .i64 _) rfl) rfl ?_
  refine AOL.nil ?_
  refine thenN ?_
  refine AW.seq ?_
  refine AW.seq ?_
  refine AW.region ?_
  refine AOL.p (P_load_ptr_agg (l := [.int .i64 _, .int .i64 _, _, _]) tok rfl rfl rfl rfl rfl) rfl ?_
  refine AOL.p (P_callf (by kernel_rfl) rfl rfl (a_Check a sa)) rfl ?_
  refine AOL.p (P_assign (v := .int .i64 _) rfl) rfl ?_
  refine AOL.nil ?_
  refine thenN ?_
  refine AW.seq ?_
  refine AW.region ?_
  refine AOL.p (P_move (v := .int .i64 _) rfl) rfl ?_
  refine AOL.p (P_neq rfl rfl) rfl ?_
  refine AOL.nil ?_
  refine thenN ?_
  refine AW.cond (b := _) rfl (fun hc1 => ?_) (fun hc1 => ?_)
  · skip
    have h9 := format_err hc1
    refine AW.seq ?_
    refine AW.region ?_
    refine AOL.p (P_move (v := .int .i64 _) rfl) rfl ?_
    refine AOL.p (P_assign (v := .str _) rfl) rfl ?_
    refine AOL.p (P_assign (v := .int .i64 _) rfl) rfl ?_
    refine AOL.nil ?_
    refine thenN ?_
    refine AW.ret ?_
    refine thenR ?_
    refine ⟨.inr rfl, [.str _, .int .i64 _], .cons (.tmp _ _ rfl) <| .cons (.tmp _ _ rfl) <| .nil, .refl _, ?_⟩
    rw [h9]; rfl
  · skip
    have h9 := format_ok hc1
    have hw : Wf a := check_wf.1 (by simpa using hc1)
    have hN := hw.most
    have hM := hw.many
    have hwl := whole_len sa ia hN hM
    refine AW.skip ?_
    refine thenN ?_
    refine AW.seq ?_
    refine AW.region ?_
    refine AOL.e (E_alloc (l := [.val (.pointer none), .val (.slice none 0 0)]) (by kernel_rfl)) rfl ?_
    rintro _ _ ⟨b5, rfl, rfl⟩
    refine AOL.ghost (GS.cellRow 0 1 5 1 rfl rfl rfl rfl) ?_
    refine AOL.nil ?_
    refine thenN ?_
    refine AW.seq ?_
    refine AW.seq ?_
    refine AW.region ?_
    refine AOL.p (P_fieldAddr_ptr (cs' := [_, _]) tok rfl rfl rfl rfl rfl rfl) rfl ?_
    refine AOL.p (P_load_ptr (c := .sl _ _) tok rfl rfl rfl) rfl ?_
    refine AOL.p (P_len_sl (n := a.states.length) tok rfl rfl rfl (by simp)) rfl ?_
    refine AOL.p (P_move (v := .int .i64 _) rfl) rfl ?_
    refine AOL.nil ?_
    refine thenN ?_
    refine AW.block ?_
    refine AW.loopS (fun (p : Nat × Str × Value × Option Addr) => (⟨[(1, .ptr (cAu a)), (5, .val (.pointer (some ⟨b5, 0, none⟩))), (19, .sl 1 (a.states.map cSt)), (20, .int .i64 a.states.length), (21, .int .i64 (p.1 : Int))], .row p.2.2.1 (byc p.2.1).length 5 1 :: .box b5 85 [.val (.pointer p.2.2.2), .row p.2.2.1 1 (byc p.2.1)] :: H, 65⟩ : St)) (fun (p : Nat × Str × Value × Option Addr) => p.1 ≤ a.states.length ∧ wholeT a = p.2.1 ++ fmtGo a p.1 (a.states.drop p.1) ∧ (p.2.2.2 = none ∨ p.2.2.2 = some ⟨b5, 0, none⟩)) (fun (p : Nat × Str × Value × Option Addr) => a.states.length - p.1) ((0, [], .slice none 0 0, none)) ?_ (GS.weaken ⟨rfl, rfl, rfl, rfl, rfl, trivial⟩ (.refl _)) ?_
    · exact ⟨Nat.zero_le _, rfl, .inl rfl⟩
    · rintro p hR
      have hpl := pre_len hR.2.1 hwl
      refine AW.seq ?_
      refine AW.region ?_
      refine AOL.p (P_lss rfl rfl) rfl ?_
      refine AOL.nil ?_
      refine thenN ?_
      refine AW.seq ?_
      refine AW.cond (b := _) rfl (fun hc2 => ?_) (fun hc2 => ?_)
      · skip
        obtain ⟨s, hs⟩ := get_lt2 (l := a.states) (k := p.1) (by have := of_decide_eq_true hc2; omega)
        have hlts := get_lt' hs
        have hsm := List.mem_of_getElem? hs
        have hsl := (sa.g s hsm).1
        have hst := whole_step hR.2.1 hs
        refine AW.skip ?_
        refine thenN ?_
        refine AW.seq ?_
        refine AW.block ?_
        refine AW.seq ?_
        refine AW.region ?_
        refine AOL.p (P_move (v := .int .i64 _) rfl) rfl ?_
        refine AOL.p (P_indexAddr (c := [_]) tok rfl rfl rfl rfl rfl rfl (by omega) (cSt_at hs)) rfl ?_
        refine AOL.p (P_load_ptr_agg (l := [_]) tok rfl rfl rfl rfl rfl) rfl ?_
        refine AOL.e (E_alloc (l := [.sl 11 []]) (by kernel_rfl)) rfl ?_
        rintro _ _ ⟨b7, rfl, rfl⟩
        refine AOL.p (P_assign (v := .int .i64 _) rfl) rfl ?_
        refine AOL.e (E_store (k := 0) (v := .agg _) (cs' := [_]) (H2 := _ :: _ :: _ :: _) tok rfl rfl rfl rfl rfl rfl rfl rfl rfl) rfl ?_
        rintro _ _ ⟨rfl, rfl⟩
        refine AOL.ghost (GS.freeze (t := 7) 0 rfl rfl) ?_
        refine AOL.nil ?_
        refine thenN ?_
        refine AW.seq ?_
        refine AW.region ?_
        refine AOL.e (E_alloc (l := [.val (.slice none 0 0)]) (by kernel_rfl)) rfl ?_
        rintro _ _ ⟨b8, rfl, rfl⟩
        refine AOL.ghost (GS.cellRow 0 0 9 1 rfl rfl rfl rfl) ?_
        refine AOL.nil ?_
        refine thenN ?_
        refine AW.seq ?_
        refine AW.region ?_
        refine AOL.p (P_move (v := .int .i64 _) rfl) rfl ?_
        refine AOL.p (P_buildSlice (es := [[.int .i64 _]]) tok rfl rfl rfl rfl rfl rfl rfl rfl rfl) rfl ?_
        refine AOL.e (E_callf (by kernel_rfl) rfl rfl (l_add b8 _ [] sState [(p.1 : Int)] (one_i64 (I64_nat (by omega))) (by simp) _)) rfl ?_
        rintro _ _ ⟨v28, rfl, rfl⟩
        refine AOL.nil ?_
        refine thenN ?_
        refine AW.seq ?_
        refine AW.seq ?_
        refine AW.region ?_
        refine AOL.p (P_fieldAddr_ptr (cs' := [_]) tok rfl rfl rfl rfl rfl rfl) rfl ?_
        refine AOL.p (P_load_ptr (c := .sl _ _) tok rfl rfl rfl) rfl ?_
        refine AOL.p (P_len_sl (n := s.length) tok rfl rfl rfl (by simp)) rfl ?_
        refine AOL.p (P_move (v := .int .i64 _) rfl) rfl ?_
        refine AOL.nil ?_
        refine thenN ?_
        refine AW.block ?_
        refine AW.loopS (fun (q : Nat × List Str × Value) => (⟨[(1, .ptr (cAu a)), (5, .val (.pointer (some ⟨b5, 0, none⟩))), (6, .int .i64 (p.1 : Int)), (8, .val (.pointer (some ⟨b8, 0, none⟩))), (19, .sl 1 (a.states.map cSt)), (20, .int .i64 a.states.length), (21, .int .i64 (p.1 : Int)), (30, .sl 11 (s.map cGu)), (31, .int .i64 s.length), (32, .int .i64 (q.1 : Int))], .row q.2.2 (wc q.2.1).length 9 1 :: .box b8 88 [.row q.2.2 1 (wc q.2.1)] :: .row p.2.2.1 (byc p.2.1).length 5 1 :: .box b5 85 [.val (.pointer p.2.2.2), .row p.2.2.1 1 (byc p.2.1)] :: H, 65⟩ : St)) (fun (q : Nat × List Str × Value) => q.1 ≤ s.length ∧ q.2.1 = (([] ++ addW sState [(p.1 : Int)]) ++ guardsW (s.take q.1))) (fun (q : Nat × List Str × Value) => s.length - q.1) ((0, [] ++ addW sState [(p.1 : Int)], v28)) ?_ (GS.weaken ⟨rfl, rfl, rfl, rfl, rfl, rfl, rfl, rfl, rfl, rfl, trivial⟩ (.refl _)) ?_
        · exact ⟨Nat.zero_le _, (List.append_nil _).symm⟩
        · rintro q hR2
          have hel : q.2.1.length ≤ 2 + 4 * q.1 := by rw [hR2.2]; simp only [List.length_append, List.length_nil, addW_len, List.length_cons, guardsW_len, List.length_take]; omega
          refine AW.seq ?_
          refine AW.region ?_
          refine AOL.p (P_lss rfl rfl) rfl ?_
          refine AOL.nil ?_
          refine thenN ?_
          refine AW.seq ?_
          refine AW.cond (b := _) rfl (fun hc3 => ?_) (fun hc3 => ?_)
          · skip
            obtain ⟨g, hg⟩ := get_lt2 (l := s) (k := q.1) (by have := of_decide_eq_true hc3; omega)
            have hltg := get_lt' hg
            have hgi := ia.g s hsm g (List.mem_of_getElem? hg)
            refine AW.skip ?_
            refine thenN ?_
            refine AW.seq ?_
            refine AW.block ?_
            refine AW.seq ?_
            refine AW.region ?_
            refine AOL.p (P_indexAddr (c := [.int .i64 _, .int .i64 _, .int .i64 _, .int .i64 _, _, .int .i64 _, .int .i64 _, .int .i64 _, .int .i64 _, .int .i64 _, .str _]) tok rfl rfl rfl rfl rfl rfl (by omega) (cGu_at hg)) rfl ?_
            refine AOL.p (P_load_ptr_agg (l := [.int .i64 _, .int .i64 _, .int .i64 _, .int .i64 _, _, .int .i64 _, .int .i64 _, .int .i64 _, .int .i64 _, .int .i64 _, .str _]) tok rfl rfl rfl rfl rfl) rfl ?_
            refine AOL.e (E_alloc (l := [.int .i64 0, .int .i64 0, .int .i64 0, .int .i64 0, .sl 8 [], .int .i64 0, .int .i64 0, .int .i64 0, .int .i64 0, .int .i64 0, .str []]) (by kernel_rfl)) rfl ?_
            rintro _ _ ⟨b10, rfl, rfl⟩
            refine AOL.e (E_store (k := 0) (v := .agg _) (cs' := [.int .i64 _, .int .i64 _, .int .i64 _, .int .i64 _, _, .int .i64 _, .int .i64 _, .int .i64 _, .int .i64 _, .int .i64 _, .str _]) (H2 := _ :: _ :: _ :: _ :: _ :: _) tok rfl rfl rfl rfl rfl rfl rfl rfl rfl) rfl ?_
            rintro _ _ ⟨rfl, rfl⟩
            refine AOL.ghost (GS.freeze (t := 10) 0 rfl rfl) ?_
            refine AOL.nil ?_
            refine thenN ?_
            refine AW.region ?_
            refine AOL.p (P_fieldAddr_ptr (cs' := [.int .i64 _, .int .i64 _, .int .i64 _, .int .i64 _, _, .int .i64 _, .int .i64 _, .int .i64 _, .int .i64 _, .int .i64 _, .str _]) tok rfl rfl rfl rfl rfl rfl) rfl ?_
            refine AOL.p (P_load_ptr (c := .int .i64 _) tok rfl rfl rfl) rfl ?_
            refine AOL.p (P_fieldAddr_ptr (cs' := [.int .i64 _, .int .i64 _, .int .i64 _, _, .int .i64 _, .int .i64 _, .int .i64 _, .int .i64 _, .int .i64 _, .str _]) tok rfl rfl rfl rfl rfl rfl) rfl ?_
            refine AOL.p (P_load_ptr (c := .int .i64 _) tok rfl rfl rfl) rfl ?_
            refine AOL.p (P_fieldAddr_ptr (cs' := [.int .i64 _, .int .i64 _, _, .int .i64 _, .int .i64 _, .int .i64 _, .int .i64 _, .int .i64 _, .str _]) tok rfl rfl rfl rfl rfl rfl) rfl ?_
            refine AOL.p (P_load_ptr (c := .int .i64 _) tok rfl rfl rfl) rfl ?_
            refine AOL.p (P_buildSlice (es := [[.int .i64 _], [.int .i64 _], [.int .i64 _]]) tok rfl rfl rfl rfl rfl rfl rfl rfl rfl) rfl ?_
            refine AOL.e (E_callf (by kernel_rfl) rfl rfl (l_add b8 _ q.2.1 sGuard [g.scope, g.type, g.var] (three_i64 hgi.1 hgi.2.1 hgi.2.2) (by simp only [List.length_cons, List.length_nil]; omega) _)) rfl ?_
            rintro _ _ ⟨v43, rfl, rfl⟩
            refine AOL.nil ?_
            refine blkN ?_
            refine thenN ?_
            refine AW.region ?_
            refine AOL.p (P_add rfl rfl rfl (by constructor <;> omega)) rfl ?_
            refine AOL.p (P_move (v := .int .i64 _) rfl) rfl ?_
            refine AOL.nil ?_
            refine thenN ?_
            refine ⟨(q.1 + 1, q.2.1 ++ addW sGuard [g.scope, g.type, g.var], v43), ?_, ?_, GS.weaken ⟨rfl, rfl, rfl, rfl, rfl, rfl, rfl, rfl, rfl, rfl, trivial⟩ (.refl _)⟩
            · exact ⟨hltg, by simp only; rw [guardsW_take hg, ← List.append_assoc, hR2.2]⟩
            · simp only; omega
          · skip
            have hkg : s.length ≤ q.1 := by have := of_decide_eq_false hc3; omega
            have hqt : lineT q.2.1 = lineT (stateW p.1 s) := by rw [hR2.2, List.take_of_length_le hkg, List.nil_append]; rfl
            refine AW.exit ?_
            refine thenE ?_
            refine thenE ?_
            refine blkHit ?_
            refine thenN ?_
            refine AW.seq ?_
            refine AW.region ?_
            refine AOL.e (E_callf (by kernel_rfl) rfl rfl (l_text b8 _ q.2.1 (by omega) (by rw [hqt]; exact Nat.le_trans (stateT_len (by omega) (ia.g s hsm) hsl) (by decide)) _)) rfl ?_
            rintro _ _ ⟨rfl, rfl⟩
            refine AOL.e (E_callf (by kernel_rfl) rfl rfl (ACall.front2 (R := _ :: _ :: _) 3 2 rfl rfl rfl (k_write b5 85 p.2.2.2 hR.2.2 _ p.2.1 (lineT q.2.1) [] (by kernel_rfl) (by rw [hqt]; have := stateT_len (i := p.1) (by omega) (ia.g s hsm) hsl; unfold stateT at this; omega) _))) rfl ?_
            rintro _ _ ⟨v46, rfl, rfl⟩
            refine AOL.nil ?_
            refine thenN ?_
            refine AW.seq ?_
            refine AW.region ?_
            refine AOL.p (P_load_ptr_agg (l := [.int .i64 _, .int .i64 _, _, _]) tok rfl rfl rfl rfl rfl) rfl ?_
            refine AOL.p (P_move (v := .int .i64 _) rfl) rfl ?_
            refine AOL.p (P_callf (by kernel_rfl) rfl rfl (a_leaving a (p.1 : Int) sa.m)) rfl ?_
            refine AOL.p (P_len_sl (n := (fromS a.edges (p.1 : Int)).length) tok rfl rfl rfl (by rw [List.length_map]; exact leave_len (p.1 : Int) 0 a.edges)) rfl ?_
            refine AOL.p (P_move (v := .int .i64 _) rfl) rfl ?_
            refine AOL.nil ?_
            refine thenN ?_
            refine AW.block ?_
            have hlen2 : (fromS a.edges (p.1 : Int)).length ≤ 2048 := Nat.le_trans (List.length_filter_le ..) hM
            refine AW.loopS (fun (u : Nat × Str × Value) => (⟨[(1, .ptr (cAu a)), (5, .val (.pointer (some ⟨b5, 0, none⟩))), (6, .int .i64 (p.1 : Int)), (19, .sl 1 (a.states.map cSt)), (20, .int .i64 a.states.length), (21, .int .i64 (p.1 : Int)), (49, .sl 1 ((leaveS a.edges (p.1 : Int)).map cI)), (50, .int .i64 (fromS a.edges (p.1 : Int)).length), (51, .int .i64 (u.1 : Int))], .row u.2.2 (byc u.2.1).length 5 1 :: .box b5 85 [.val (.pointer (some ⟨b5, 0, none⟩)), .row u.2.2 1 (byc u.2.1)] :: H, 65⟩ : St)) (fun (u : Nat × Str × Value) => u.1 ≤ (fromS a.edges (p.1 : Int)).length ∧ u.2.1 = (p.2.1 ++ stateT p.1 s) ++ ((fromS a.edges (p.1 : Int)).take u.1).flatMap edgeT) (fun (u : Nat × Str × Value) => (fromS a.edges (p.1 : Int)).length - u.1) ((0, p.2.1 ++ lineT q.2.1, v46)) ?_ (GS.weaken ⟨rfl, rfl, rfl, rfl, rfl, rfl, rfl, rfl, rfl, trivial⟩ (.cons_cons _ (.cons_cons _ (.cons _ (.cons _ (.refl _)))))) ?_
            · exact ⟨Nat.zero_le _, by simp only; rw [hqt]; exact (List.append_nil _).symm⟩
            · rintro u hR3
              have hul : u.2.1.length ≤ 120000000000000 := pre_len (u := ((fromS a.edges (p.1 : Int)).drop u.1).flatMap edgeT ++ fmtGo a (p.1 + 1) (a.states.drop (p.1 + 1))) (by rw [hR3.2, hst, flat_split edgeT _ u.1]; simp only [List.append_assoc]) hwl
              refine AW.seq ?_
              refine AW.region ?_
              refine AOL.p (P_lss rfl rfl) rfl ?_
              refine AOL.nil ?_
              refine thenN ?_
              refine AW.seq ?_
              refine AW.cond (b := _) rfl (fun hc4 => ?_) (fun hc4 => ?_)
              · skip
                obtain ⟨i, hi⟩ := get_lt2 (l := leaveS a.edges (p.1 : Int)) (k := u.1) (by have := of_decide_eq_true hc4; have := leave_len (p.1 : Int) 0 a.edges; unfold leaveS; omega)
                have hi9 := leave_at hi
                have hi0 := hi9.1
                refine hi9.2.elim fun x hx9 => ?_
                have hxe := hx9.1
                have hx := hx9.2.1
                have hltx := get_lt' hx
                have hme := List.mem_of_getElem? hxe
                have hix := ia.e x hme
                have hex := sa.e x hme
                refine AW.skip ?_
                refine thenN ?_
                refine AW.seq ?_
                refine AW.block ?_
                refine AW.seq ?_
                refine AW.region ?_
                refine AOL.p (P_indexAddr (c := [.int .i64 _]) tok rfl rfl rfl rfl rfl rfl (by omega) (cI_at hi)) rfl ?_
                refine AOL.p (P_load_ptr (c := .int .i64 _) tok rfl rfl rfl) rfl ?_
                refine AOL.p (P_assign (v := .int .i64 _) rfl) rfl ?_
                refine AOL.nil ?_
                refine thenN ?_
                refine AW.region ?_
                refine AOL.p (P_fieldAddr_ptr (cs' := [_]) tok rfl rfl rfl rfl rfl rfl) rfl ?_
                refine AOL.p (P_load_ptr (c := .sl _ _) tok rfl rfl rfl) rfl ?_
                refine AOL.p (P_move (v := .int .i64 _) rfl) rfl ?_
                refine AOL.p (P_indexAddr (c := [.int .i64 _, .int .i64 _, .int .i64 _, .int .i64 _, .int .i64 _, _, .int .i64 _, .int .i64 _, .int .i64 _, .int .i64 _, .int .i64 _, .str _, _, _, _, _, _]) tok rfl rfl rfl rfl rfl rfl (hi0) (cEd_at hxe)) rfl ?_
                refine AOL.p (P_load_ptr_agg (l := [.int .i64 _, .int .i64 _, .int .i64 _, .int .i64 _, .int .i64 _, _, .int .i64 _, .int .i64 _, .int .i64 _, .int .i64 _, .int .i64 _, .str _, _, _, _, _, _]) tok rfl rfl rfl rfl rfl) rfl ?_
                refine AOL.p (P_callf (by kernel_rfl) rfl rfl (a_edgeLine x hix hex)) rfl ?_
                refine AOL.e (E_callf (by kernel_rfl) rfl rfl (k_write b5 85 (some ⟨b5, 0, none⟩) (.inr rfl) _ u.2.1 (edgeT x) [] (by kernel_rfl) (by have := edgeT_len hix hex; omega) _)) rfl ?_
                rintro _ _ ⟨v61, rfl, rfl⟩
                refine AOL.nil ?_
                refine blkN ?_
                refine thenN ?_
                refine AW.region ?_
                refine AOL.p (P_add rfl rfl rfl (by constructor <;> omega)) rfl ?_
                refine AOL.p (P_move (v := .int .i64 _) rfl) rfl ?_
                refine AOL.nil ?_
                refine thenN ?_
                refine ⟨(u.1 + 1, u.2.1 ++ edgeT x, v61), ?_, ?_, GS.weaken ⟨rfl, rfl, rfl, rfl, rfl, rfl, rfl, rfl, rfl, trivial⟩ (.refl _)⟩
                · exact ⟨hltx, by simp only; rw [flat_take edgeT hx, hR3.2]; simp only [List.append_assoc]⟩
                · simp only; omega
              · skip
                have hkl : (fromS a.edges (p.1 : Int)).length ≤ u.1 := by have := of_decide_eq_false hc4; omega
                refine AW.exit ?_
                refine thenE ?_
                refine thenE ?_
                refine blkHit ?_
                refine blkN ?_
                refine thenN ?_
                refine AW.region ?_
                refine AOL.p (P_add rfl rfl rfl (by constructor <;> omega)) rfl ?_
                refine AOL.p (P_move (v := .int .i64 _) rfl) rfl ?_
                refine AOL.nil ?_
                refine thenN ?_
                refine ⟨(p.1 + 1, u.2.1, u.2.2, some ⟨b5, 0, none⟩), ?_, ?_, GS.weaken ⟨rfl, rfl, rfl, rfl, rfl, trivial⟩ (.refl _)⟩
                · refine ⟨hlts, ?_, .inr rfl⟩
                  simp only
                  rw [hR3.2, List.take_of_length_le hkl, hst]; simp only [List.append_assoc]
                · simp only; omega
      · skip
        have hk : a.states.length ≤ p.1 := by have := of_decide_eq_false hc2; omega
        have hpt : p.2.1 = wholeT a := by have h := hR.2.1; rw [List.drop_eq_nil_of_le hk] at h; rw [h]; exact (List.append_nil _).symm
        refine AW.exit ?_
        refine thenE ?_
        refine thenE ?_
        refine blkHit ?_
        refine thenN ?_
        refine AW.seq ?_
        refine AW.region ?_
        refine AOL.e (E_callf (by kernel_rfl) rfl rfl (k_string b5 85 _ _ p.2.1 [] _)) rfl ?_
        rintro _ _ ⟨rfl, rfl⟩
        refine AOL.p (P_assign (v := .str _) rfl) rfl ?_
        refine AOL.p (P_assign (v := .int .i64 _) rfl) rfl ?_
        refine AOL.nil ?_
        refine thenN ?_
        refine AW.ret ?_
        refine ⟨.inr rfl, [.str _, .int .i64 _], .cons (.tmp _ _ rfl) <| .cons (.tmp _ _ rfl) <| .nil, .cons _ (.cons _ (.refl _)), ?_⟩
        rw [h9, hpt]; rfl

end Go.Proofs.YtoolcpnahmgnnaaDoor
