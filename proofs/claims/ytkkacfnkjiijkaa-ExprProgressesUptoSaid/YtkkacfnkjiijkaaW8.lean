/-
  Walks of layer 8: leaves. No condition.
-/
import Derived.Test.YtkkacfnkjiijkaaW6
import Derived.KernelRfl
namespace Go.Proofs.Ytkkacfnkjiijkaa
open Go Go.Aw
set_option linter.unusedVariables false
set_option linter.unusedSimpArgs false

set_option maxRecDepth 20000 in
set_option maxHeartbeats 800000 in
theorem c70 (x : Evr) (hx : x.ok) (e : Ex) (hk : 0 ≤ e.field) : APure Try.prog 70 [.agg (cX x), .agg (cE e)] (.tuple [.agg (cV (leafS x e).1), .int .i64 (leafS x e).2]) := by
  refine APure.body (n := 71) tok Try.func70 rfl rfl rfl fun H => ?_
  refine AW.seq ?_
  refine AW.region ?_
  refine AOL.p (P_box (v := .agg _) (cs := [_, .int .i64 _, .int .i64 _, .int .i64 _, .int .i64 _, .int .i64 _, _, _]) rfl rfl rfl) rfl ?_
  refine AOL.p (P_box (v := .agg _) (cs := [.int .i64 _, _, .int .i64 _, .int .i64 _, .int .i64 _, .int .i64 _, .int .i64 _, .str _]) rfl rfl rfl) rfl ?_
  refine AOL.e (E_alloc (l := [.int .i64 0, .int .i64 0, .str []]) (by kernel_rfl)) rfl ?_
  rintro _ _ ⟨b4, rfl, rfl⟩
  refine AOL.p (P_assign (v := .int .i64 _) rfl) rfl ?_
  refine AOL.nil ?_
  refine thenN ?_
  refine AW.seq ?_
  refine AW.region ?_
  refine AOL.p (P_load_ptr_agg (l := [_, .int .i64 _, .int .i64 _, .int .i64 _, .int .i64 _, .int .i64 _, _, _]) tok rfl rfl rfl rfl rfl) rfl ?_
  refine AOL.p (P_fieldAddr_ptr (cs' := [.int .i64 _, .int .i64 _, .int .i64 _, .int .i64 _, .int .i64 _, .str _]) tok rfl rfl rfl rfl rfl rfl) rfl ?_
  refine AOL.p (P_load_ptr (c := .int .i64 _) tok rfl rfl rfl) rfl ?_
  refine AOL.p (P_callf (by kernel_rfl) rfl rfl (c91 x e.var)) rfl ?_
  refine AOL.p (P_assign (v := .sl _ _) rfl) rfl ?_
  refine AOL.nil ?_
  refine thenN ?_
  refine AW.seq ?_
  refine AW.seq ?_
  refine AW.region ?_
  refine AOL.p (P_fieldAddr_ptr (cs' := [.int .i64 _, _, .int .i64 _, .int .i64 _, .int .i64 _, .int .i64 _, .int .i64 _, .str _]) tok rfl rfl rfl rfl rfl rfl) rfl ?_
  refine AOL.p (P_load_ptr (c := .int .i64 _) tok rfl rfl rfl) rfl ?_
  refine AOL.nil ?_
  refine thenN ?_
  refine AW.block ?_
  refine AW.seq ?_
  refine AW.region ?_
  refine AOL.p (P_eql rfl rfl) rfl ?_
  refine AOL.p (P_assign (v := .bool _) rfl) rfl ?_
  refine AOL.nil ?_
  refine thenN ?_
  refine AW.cond (b := _) rfl (fun hc1 => ?_) (fun hc1 => ?_)
  · skip
    refine AW.seq ?_
    refine AW.region ?_
    refine AOL.p (P_fieldAddr_ptr (cs' := [.int .i64 _, .int .i64 _, .str _]) tok rfl rfl rfl rfl rfl rfl) rfl ?_
    refine AOL.p (P_load_ptr_agg (l := [.int .i64 _, .int .i64 _, .str _]) tok rfl rfl rfl rfl rfl) rfl ?_
    refine AOL.e (E_store (k := 0) (v := .agg _) (cs' := [.int .i64 _, .int .i64 _, .str _]) (H2 := _ :: _) tok rfl rfl rfl rfl rfl rfl rfl rfl rfl) rfl ?_
    rintro _ _ ⟨rfl, rfl⟩
    refine AOL.p (P_assign (v := .int .i64 _) rfl) rfl ?_
    refine AOL.nil ?_
    refine thenN ?_
    refine AW.ret ?_
    refine blkR ?_
    refine thenR ?_
    refine ⟨.inr rfl, [.agg [.int .i64 _, .int .i64 _, .str _], .int .i64 _], .cons (.box _ _ _ 0 _ _ _ _ rfl rfl rfl rfl rfl rfl) <| .cons (.tmp _ _ rfl) <| .nil, .cons _ (.refl _), ?_⟩
    simp only [resOf, leafS, readS]
    try simp only [hgd]
    (first | rw [if_pos hc1] | skip)
    first | done | rfl | (exfalso; simp_all; done) | skip
  · skip
    refine AW.seq ?_
    refine AW.region ?_
    refine AOL.p (P_eql rfl rfl) rfl ?_
    refine AOL.p (P_assign (v := .bool _) rfl) rfl ?_
    refine AOL.nil ?_
    refine thenN ?_
    refine AW.cond (b := _) rfl (fun hc2 => ?_) (fun hc2 => ?_)
    · skip
      refine AW.seq ?_
      refine AW.region ?_
      refine AOL.p (P_move (v := .sl _ _) rfl) rfl ?_
      refine AOL.p (P_len_sl (n := (eventsS x.vars e.var).length) tok rfl rfl rfl (by simp)) rfl ?_
      refine AOL.p (P_build (l := [.int .i64 _, .int .i64 _, .str _]) tok rfl rfl rfl) rfl ?_
      refine AOL.e (E_store (k := 0) (v := .agg _) (cs' := [.int .i64 _, .int .i64 _, .str _]) (H2 := _ :: _) tok rfl rfl rfl rfl rfl rfl rfl rfl rfl) rfl ?_
      rintro _ _ ⟨rfl, rfl⟩
      refine AOL.p (P_assign (v := .int .i64 _) rfl) rfl ?_
      refine AOL.nil ?_
      refine thenN ?_
      refine AW.ret ?_
      refine blkR ?_
      refine thenR ?_
      refine ⟨.inr rfl, [.agg [.int .i64 _, .int .i64 _, .str _], .int .i64 _], .cons (.box _ _ _ 0 _ _ _ _ rfl rfl rfl rfl rfl rfl) <| .cons (.tmp _ _ rfl) <| .nil, .cons _ (.refl _), ?_⟩
      simp only [resOf, leafS, readS]
      try simp only [hgd]
      (first | rw [if_neg (Bool.eq_false_iff.mp hc1)] | skip); (first | rw [if_pos hc2] | skip)
      first | done | rfl | (exfalso; simp_all; done) | skip
    · skip
      refine AW.seq ?_
      refine AW.region ?_
      refine AOL.p (P_eql rfl rfl) rfl ?_
      refine AOL.p (P_assign (v := .bool _) rfl) rfl ?_
      refine AOL.nil ?_
      refine thenN ?_
      refine AW.cond (b := _) rfl (fun hc3 => ?_) (fun hc3 => ?_)
      · skip
        refine AW.seq ?_
        refine AW.region ?_
        refine AOL.p (P_load_ptr_agg (l := [_, .int .i64 _, .int .i64 _, .int .i64 _, .int .i64 _, .int .i64 _, _, _]) tok rfl rfl rfl rfl rfl) rfl ?_
        refine AOL.p (P_load_ptr_agg (l := [.int .i64 _, _, .int .i64 _, .int .i64 _, .int .i64 _, .int .i64 _, .int .i64 _, .str _]) tok rfl rfl rfl rfl rfl) rfl ?_
        refine AOL.p (P_callf (by kernel_rfl) rfl rfl (c92 x hx e hk)) rfl ?_
        refine AOL.p (P_extract (v := .agg [.int .i64 _, .int .i64 _, .str _]) rfl rfl) rfl ?_
        refine AOL.p (P_extract (v := .int .i64 _) rfl rfl) rfl ?_
        refine AOL.e (E_store (k := 0) (v := .agg _) (cs' := [.int .i64 _, .int .i64 _, .str _]) (H2 := _ :: _) tok rfl rfl rfl rfl rfl rfl rfl rfl rfl) rfl ?_
        rintro _ _ ⟨rfl, rfl⟩
        refine AOL.p (P_assign (v := .int .i64 _) rfl) rfl ?_
        refine AOL.nil ?_
        refine thenN ?_
        refine AW.ret ?_
        refine blkR ?_
        refine thenR ?_
        refine ⟨.inr rfl, [.agg [.int .i64 _, .int .i64 _, .str _], .int .i64 _], .cons (.box _ _ _ 0 _ _ _ _ rfl rfl rfl rfl rfl rfl) <| .cons (.tmp _ _ rfl) <| .nil, .cons _ (.refl _), ?_⟩
        simp only [resOf, leafS, readS]
        try simp only [hgd]
        (first | rw [if_neg (Bool.eq_false_iff.mp hc1)] | skip); (first | rw [if_neg (Bool.eq_false_iff.mp hc2)] | skip); (first | rw [if_pos hc3] | skip)
        first | done | rfl | (exfalso; simp_all; done) | skip
      · skip
        refine AW.skip ?_
        refine blkN ?_
        refine thenN ?_
        refine AW.seq ?_
        refine AW.region ?_
        refine AOL.p (P_fieldAddr_ptr (cs' := [.int .i64 _, .int .i64 _, .int .i64 _, .int .i64 _, _, _]) tok rfl rfl rfl rfl rfl rfl) rfl ?_
        refine AOL.p (P_load_ptr_agg (l := [.int .i64 _, .int .i64 _, .int .i64 _, .int .i64 _, _]) tok rfl rfl rfl rfl rfl) rfl ?_
        refine AOL.e (E_alloc (l := [.int .i64 0, .int .i64 0, .int .i64 0, .int .i64 0, .sl 3 []]) (by kernel_rfl)) rfl ?_
        rintro _ _ ⟨b7, rfl, rfl⟩
        refine AOL.e (E_store (k := 0) (v := .agg _) (cs' := [.int .i64 _, .int .i64 _, .int .i64 _, .int .i64 _, _]) (H2 := _ :: _ :: _) tok rfl rfl rfl rfl rfl rfl rfl rfl rfl) rfl ?_
        rintro _ _ ⟨rfl, rfl⟩
        refine AOL.nil ?_
        refine thenN ?_
        refine AW.seq ?_
        refine AW.seq ?_
        refine AW.region ?_
        refine AOL.p (P_fieldAddr_ptr (cs' := [.int .i64 _, .int .i64 _, .int .i64 _, .int .i64 _, .int .i64 _, .str _]) tok rfl rfl rfl rfl rfl rfl) rfl ?_
        refine AOL.p (P_load_ptr (c := .int .i64 _) tok rfl rfl rfl) rfl ?_
        refine AOL.p (P_fieldAddr_ptr (cs' := [.int .i64 _, .int .i64 _, .int .i64 _, .int .i64 _, .int .i64 _, _, _]) tok rfl rfl rfl rfl rfl rfl) rfl ?_
        refine AOL.p (P_load_ptr (c := .int .i64 _) tok rfl rfl rfl) rfl ?_
        refine AOL.p (P_neq rfl rfl) rfl ?_
        refine AOL.nil ?_
        refine thenN ?_
        refine AW.cond (b := _) rfl (fun hc4 => ?_) (fun hc4 => ?_)
        · skip
          refine AW.seq ?_
          refine AW.seq ?_
          refine AW.region ?_
          refine AOL.p (P_move (v := .sl _ _) rfl) rfl ?_
          refine AOL.p (P_len_sl (n := (eventsS x.vars e.var).length) tok rfl rfl rfl (by simp)) rfl ?_
          refine AOL.p (P_eql rfl rfl) rfl ?_
          refine AOL.nil ?_
          refine thenN ?_
          refine AW.cond (b := _) rfl (fun hc5 => ?_) (fun hc5 => ?_)
          · skip
            refine AW.seq ?_
            refine AW.region ?_
            refine AOL.p (P_build (l := [.int .i64 _, .int .i64 _, .str _]) tok rfl rfl rfl) rfl ?_
            refine AOL.e (E_store (k := 1) (v := .agg _) (cs' := [.int .i64 _, .int .i64 _, .str _]) (H2 := _ :: _ :: _) tok rfl rfl rfl rfl rfl rfl rfl rfl rfl) rfl ?_
            rintro _ _ ⟨rfl, rfl⟩
            refine AOL.p (P_assign (v := .int .i64 _) rfl) rfl ?_
            refine AOL.nil ?_
            refine thenN ?_
            refine AW.ret ?_
            refine thenR ?_
            refine thenR ?_
            refine ⟨.inr rfl, [.agg [.int .i64 _, .int .i64 _, .str _], .int .i64 _], .cons (.box _ _ _ 1 _ _ _ _ rfl rfl rfl rfl rfl rfl) <| .cons (.tmp _ _ rfl) <| .nil, .cons _ (.cons _ (.refl _)), ?_⟩
            simp only [resOf, leafS, readS]
            try simp only [hgd]
            (first | rw [if_neg (Bool.eq_false_iff.mp hc1)] | skip); (first | rw [if_neg (Bool.eq_false_iff.mp hc2)] | skip); (first | rw [if_neg (Bool.eq_false_iff.mp hc3)] | skip); (first | rw [if_pos hc4] | skip); (first | rw [if_pos hc5] | skip)
            first | done | rfl | (exfalso; simp_all; done) | skip
          · skip
            have hlg := last_get hc5
            have hle := events_le hx e.var
            have hne : (eventsS x.vars e.var).length ≠ 0 := by simpa using hc5
            refine hlg.elim fun a hal => ?_
            have ha := hal.1
            have hl := hal.2
            have hgd : (eventsS x.vars e.var).getLast?.getD ev0 = a := by rw [hl]; rfl
            refine AW.skip ?_
            refine thenN ?_
            refine AW.region ?_
            refine AOL.p (P_move (v := .sl _ _) rfl) rfl ?_
            refine AOL.p (P_move (v := .sl _ _) rfl) rfl ?_
            refine AOL.p (P_len_sl (n := (eventsS x.vars e.var).length) tok rfl rfl rfl (by simp)) rfl ?_
            refine AOL.p (P_sub rfl rfl rfl (by constructor <;> omega)) rfl ?_
            refine AOL.p (P_indexAddr (c := [.int .i64 _, .int .i64 _, .int .i64 _, .int .i64 _, _]) tok rfl rfl rfl rfl rfl rfl (by omega) (map_at ha)) rfl ?_
            refine AOL.p (P_load_ptr_agg (l := [.int .i64 _, .int .i64 _, .int .i64 _, .int .i64 _, _]) tok rfl rfl rfl rfl rfl) rfl ?_
            refine AOL.e (E_store (k := 0) (v := .agg _) (cs' := [.int .i64 _, .int .i64 _, .int .i64 _, .int .i64 _, _]) (H2 := _ :: _ :: _) tok rfl rfl rfl rfl rfl rfl rfl rfl rfl) rfl ?_
            rintro _ _ ⟨rfl, rfl⟩
            refine AOL.nil ?_
            refine thenN ?_
            refine AW.seq ?_
            refine AW.seq ?_
            refine AW.region ?_
            refine AOL.p (P_fieldAddr_ptr (cs' := [.int .i64 _, _, .int .i64 _, .int .i64 _, .int .i64 _, .int .i64 _, .int .i64 _, .str _]) tok rfl rfl rfl rfl rfl rfl) rfl ?_
            refine AOL.p (P_load_ptr (c := .int .i64 _) tok rfl rfl rfl) rfl ?_
            refine AOL.p (P_eql rfl rfl) rfl ?_
            refine AOL.nil ?_
            refine thenN ?_
            refine AW.cond (b := _) rfl (fun hc6 => ?_) (fun hc6 => ?_)
            · skip
              refine AW.seq ?_
              refine AW.region ?_
              refine AOL.p (P_fieldAddr_val tok rfl rfl rfl rfl rfl rfl) rfl ?_
              refine AOL.pk (P_load_box (k := 0) (c := .int .i64 _) tok rfl rfl rfl rfl) rfl rfl ?_
              refine AOL.p (P_build (l := [.int .i64 _, .int .i64 _, .str _]) tok rfl rfl rfl) rfl ?_
              refine AOL.e (E_store (k := 1) (v := .agg _) (cs' := [.int .i64 _, .int .i64 _, .str _]) (H2 := _ :: _ :: _) tok rfl rfl rfl rfl rfl rfl rfl rfl rfl) rfl ?_
              rintro _ _ ⟨rfl, rfl⟩
              refine AOL.p (P_assign (v := .int .i64 _) rfl) rfl ?_
              refine AOL.nil ?_
              refine thenN ?_
              refine AW.ret ?_
              refine thenR ?_
              refine ⟨.inr rfl, [.agg [.int .i64 _, .int .i64 _, .str _], .int .i64 _], .cons (.box _ _ _ 1 _ _ _ _ rfl rfl rfl rfl rfl rfl) <| .cons (.tmp _ _ rfl) <| .nil, .cons _ (.cons _ (.refl _)), ?_⟩
              simp only [resOf, leafS, readS]
              try simp only [hgd]
              (first | rw [if_neg (Bool.eq_false_iff.mp hc1)] | skip); (first | rw [if_neg (Bool.eq_false_iff.mp hc2)] | skip); (first | rw [if_neg (Bool.eq_false_iff.mp hc3)] | skip); (first | rw [if_pos hc4] | skip); (first | rw [if_neg (Bool.eq_false_iff.mp hc5)] | skip); (first | rw [if_pos hc6] | skip)
              first | done | rfl | (exfalso; simp_all; done) | skip
            · skip
              refine AW.skip ?_
              refine thenN ?_
              refine AW.seq ?_
              refine AW.region ?_
              refine AOL.pk (P_load_box_agg (k := 0) (l := [.int .i64 _, .int .i64 _, .int .i64 _, .int .i64 _, _]) tok rfl rfl rfl rfl rfl) rfl rfl ?_
              refine AOL.p (P_fieldAddr_ptr (cs' := [.int .i64 _, .int .i64 _, .int .i64 _, .int .i64 _, .str _]) tok rfl rfl rfl rfl rfl rfl) rfl ?_
              refine AOL.p (P_load_ptr (c := .int .i64 _) tok rfl rfl rfl) rfl ?_
              refine AOL.p (P_callf (by kernel_rfl) rfl rfl (c93 _ e.field hk)) rfl ?_
              refine AOL.p (P_move (v := .tuple _) rfl) rfl ?_
              refine AOL.p (P_extract (v := .agg [.int .i64 _, .int .i64 _, .str _]) rfl rfl) rfl ?_
              refine AOL.p (P_extract (v := .int .i64 _) rfl rfl) rfl ?_
              refine AOL.e (E_alloc (l := [.int .i64 0, .int .i64 0, .str []]) (by kernel_rfl)) rfl ?_
              rintro _ _ ⟨b8, rfl, rfl⟩
              refine AOL.e (E_store (k := 0) (v := .agg _) (cs' := [.int .i64 _, .int .i64 _, .str _]) (H2 := _ :: _ :: _ :: _) tok rfl rfl rfl rfl rfl rfl rfl rfl rfl) rfl ?_
              rintro _ _ ⟨rfl, rfl⟩
              refine AOL.p (P_assign (v := .int .i64 _) rfl) rfl ?_
              refine AOL.ghost (GS.freeze (t := 8) 0 rfl rfl) ?_
              refine AOL.nil ?_
              refine thenN ?_
              refine AW.seq ?_
              refine AW.seq ?_
              refine AW.region ?_
              refine AOL.p (P_move (v := .int .i64 _) rfl) rfl ?_
              refine AOL.p (P_eql rfl rfl) rfl ?_
              refine AOL.nil ?_
              refine thenN ?_
              refine AW.cond (b := _) rfl (fun hc7 => ?_) (fun hc7 => ?_)
              · skip
                refine AW.region ?_
                refine AOL.p (P_load_ptr_agg (l := [.int .i64 _, .int .i64 _, .str _]) tok rfl rfl rfl rfl rfl) rfl ?_
                refine AOL.p (P_callf (by kernel_rfl) rfl rfl (c94 _)) rfl ?_
                refine AOL.p (P_assign (v := .int .i64 _) rfl) rfl ?_
                refine AOL.nil ?_
                refine thenN ?_
                refine AW.seq ?_
                refine AW.seq ?_
                refine AW.region ?_
                refine AOL.p (P_move (v := .int .i64 _) rfl) rfl ?_
                refine AOL.p (P_neq rfl rfl) rfl ?_
                refine AOL.nil ?_
                refine thenN ?_
                refine AW.cond (b := _) rfl (fun hc8 => ?_) (fun hc8 => ?_)
                · skip
                  refine AW.seq ?_
                  refine AW.region ?_
                  refine AOL.p (P_build (l := [.int .i64 _, .int .i64 _, .str _]) tok rfl rfl rfl) rfl ?_
                  refine AOL.p (P_move (v := .int .i64 _) rfl) rfl ?_
                  refine AOL.e (E_store (k := 1) (v := .agg _) (cs' := [.int .i64 _, .int .i64 _, .str _]) (H2 := _ :: _ :: _) tok rfl rfl rfl rfl rfl rfl rfl rfl rfl) rfl ?_
                  rintro _ _ ⟨rfl, rfl⟩
                  refine AOL.p (P_assign (v := .int .i64 _) rfl) rfl ?_
                  refine AOL.nil ?_
                  refine thenN ?_
                  refine AW.ret ?_
                  refine thenR ?_
                  refine ⟨.inr rfl, [.agg [.int .i64 _, .int .i64 _, .str _], .int .i64 _], .cons (.box _ _ _ 1 _ _ _ _ rfl rfl rfl rfl rfl rfl) <| .cons (.tmp _ _ rfl) <| .nil, .cons _ (.cons _ (.refl _)), ?_⟩
                  simp only [resOf, leafS, readS]
                  try simp only [hgd]
                  (first | rw [if_neg (Bool.eq_false_iff.mp hc1)] | skip); (first | rw [if_neg (Bool.eq_false_iff.mp hc2)] | skip); (first | rw [if_neg (Bool.eq_false_iff.mp hc3)] | skip); (first | rw [if_pos hc4] | skip); (first | rw [if_neg (Bool.eq_false_iff.mp hc5)] | skip); (first | rw [if_neg (Bool.eq_false_iff.mp hc6)] | skip); (first | rw [if_pos hc7] | skip); (first | rw [if_pos hc8] | skip)
                  first | done | rfl | (exfalso; simp_all; done) | skip
                · skip
                  refine AW.skip ?_
                  refine thenN ?_
                  refine AW.seq ?_
                  refine AW.region ?_
                  refine AOL.p (P_load_ptr_agg (l := [.int .i64 _, .int .i64 _, .str _]) tok rfl rfl rfl rfl rfl) rfl ?_
                  refine AOL.e (E_store (k := 1) (v := .agg _) (cs' := [.int .i64 _, .int .i64 _, .str _]) (H2 := _ :: _ :: _) tok rfl rfl rfl rfl rfl rfl rfl rfl rfl) rfl ?_
                  rintro _ _ ⟨rfl, rfl⟩
                  refine AOL.p (P_assign (v := .int .i64 _) rfl) rfl ?_
                  refine AOL.nil ?_
                  refine thenN ?_
                  refine AW.ret ?_
                  refine ⟨.inr rfl, [.agg [.int .i64 _, .int .i64 _, .str _], .int .i64 _], .cons (.box _ _ _ 1 _ _ _ _ rfl rfl rfl rfl rfl rfl) <| .cons (.tmp _ _ rfl) <| .nil, .cons _ (.cons _ (.refl _)), ?_⟩
                  simp only [resOf, leafS, readS]
                  try simp only [hgd]
                  (first | rw [if_neg (Bool.eq_false_iff.mp hc1)] | skip); (first | rw [if_neg (Bool.eq_false_iff.mp hc2)] | skip); (first | rw [if_neg (Bool.eq_false_iff.mp hc3)] | skip); (first | rw [if_pos hc4] | skip); (first | rw [if_neg (Bool.eq_false_iff.mp hc5)] | skip); (first | rw [if_neg (Bool.eq_false_iff.mp hc6)] | skip); (first | rw [if_pos hc7] | skip); (first | rw [if_neg (Bool.eq_false_iff.mp hc8)] | skip)
                  first | done | rfl | (exfalso; simp_all; done) | skip
              · skip
                refine AW.skip ?_
                refine thenN ?_
                refine AW.seq ?_
                refine AW.seq ?_
                refine AW.region ?_
                refine AOL.p (P_move (v := .int .i64 _) rfl) rfl ?_
                refine AOL.p (P_neq rfl rfl) rfl ?_
                refine AOL.nil ?_
                refine thenN ?_
                refine AW.cond (b := _) rfl (fun hc9 => ?_) (fun hc9 => ?_)
                · skip
                  refine AW.seq ?_
                  refine AW.region ?_
                  refine AOL.p (P_build (l := [.int .i64 _, .int .i64 _, .str _]) tok rfl rfl rfl) rfl ?_
                  refine AOL.p (P_move (v := .int .i64 _) rfl) rfl ?_
                  refine AOL.e (E_store (k := 1) (v := .agg _) (cs' := [.int .i64 _, .int .i64 _, .str _]) (H2 := _ :: _ :: _) tok rfl rfl rfl rfl rfl rfl rfl rfl rfl) rfl ?_
                  rintro _ _ ⟨rfl, rfl⟩
                  refine AOL.p (P_assign (v := .int .i64 _) rfl) rfl ?_
                  refine AOL.nil ?_
                  refine thenN ?_
                  refine AW.ret ?_
                  refine thenR ?_
                  refine ⟨.inr rfl, [.agg [.int .i64 _, .int .i64 _, .str _], .int .i64 _], .cons (.box _ _ _ 1 _ _ _ _ rfl rfl rfl rfl rfl rfl) <| .cons (.tmp _ _ rfl) <| .nil, .cons _ (.cons _ (.refl _)), ?_⟩
                  simp only [resOf, leafS, readS]
                  try simp only [hgd]
                  (first | rw [if_neg (Bool.eq_false_iff.mp hc1)] | skip); (first | rw [if_neg (Bool.eq_false_iff.mp hc2)] | skip); (first | rw [if_neg (Bool.eq_false_iff.mp hc3)] | skip); (first | rw [if_pos hc4] | skip); (first | rw [if_neg (Bool.eq_false_iff.mp hc5)] | skip); (first | rw [if_neg (Bool.eq_false_iff.mp hc6)] | skip); (first | rw [if_neg (Bool.eq_false_iff.mp hc7)] | skip); (first | rw [if_pos hc9] | skip)
                  first | done | rfl | (exfalso; simp_all; done) | skip
                · skip
                  refine AW.skip ?_
                  refine thenN ?_
                  refine AW.seq ?_
                  refine AW.region ?_
                  refine AOL.p (P_load_ptr_agg (l := [.int .i64 _, .int .i64 _, .str _]) tok rfl rfl rfl rfl rfl) rfl ?_
                  refine AOL.e (E_store (k := 1) (v := .agg _) (cs' := [.int .i64 _, .int .i64 _, .str _]) (H2 := _ :: _ :: _) tok rfl rfl rfl rfl rfl rfl rfl rfl rfl) rfl ?_
                  rintro _ _ ⟨rfl, rfl⟩
                  refine AOL.p (P_assign (v := .int .i64 _) rfl) rfl ?_
                  refine AOL.nil ?_
                  refine thenN ?_
                  refine AW.ret ?_
                  refine ⟨.inr rfl, [.agg [.int .i64 _, .int .i64 _, .str _], .int .i64 _], .cons (.box _ _ _ 1 _ _ _ _ rfl rfl rfl rfl rfl rfl) <| .cons (.tmp _ _ rfl) <| .nil, .cons _ (.cons _ (.refl _)), ?_⟩
                  simp only [resOf, leafS, readS]
                  try simp only [hgd]
                  (first | rw [if_neg (Bool.eq_false_iff.mp hc1)] | skip); (first | rw [if_neg (Bool.eq_false_iff.mp hc2)] | skip); (first | rw [if_neg (Bool.eq_false_iff.mp hc3)] | skip); (first | rw [if_pos hc4] | skip); (first | rw [if_neg (Bool.eq_false_iff.mp hc5)] | skip); (first | rw [if_neg (Bool.eq_false_iff.mp hc6)] | skip); (first | rw [if_neg (Bool.eq_false_iff.mp hc7)] | skip); (first | rw [if_neg (Bool.eq_false_iff.mp hc9)] | skip)
                  first | done | rfl | (exfalso; simp_all; done) | skip
        · skip
          refine AW.skip ?_
          refine thenN ?_
          refine AW.seq ?_
          refine AW.seq ?_
          refine AW.region ?_
          refine AOL.p (P_fieldAddr_ptr (cs' := [.int .i64 _, _, .int .i64 _, .int .i64 _, .int .i64 _, .int .i64 _, .int .i64 _, .str _]) tok rfl rfl rfl rfl rfl rfl) rfl ?_
          refine AOL.p (P_load_ptr (c := .int .i64 _) tok rfl rfl rfl) rfl ?_
          refine AOL.p (P_eql rfl rfl) rfl ?_
          refine AOL.nil ?_
          refine thenN ?_
          refine AW.cond (b := _) rfl (fun hc10 => ?_) (fun hc10 => ?_)
          · skip
            refine AW.seq ?_
            refine AW.region ?_
            refine AOL.p (P_fieldAddr_val tok rfl rfl rfl rfl rfl rfl) rfl ?_
            refine AOL.pk (P_load_box (k := 0) (c := .int .i64 _) tok rfl rfl rfl rfl) rfl rfl ?_
            refine AOL.p (P_build (l := [.int .i64 _, .int .i64 _, .str _]) tok rfl rfl rfl) rfl ?_
            refine AOL.e (E_store (k := 1) (v := .agg _) (cs' := [.int .i64 _, .int .i64 _, .str _]) (H2 := _ :: _ :: _) tok rfl rfl rfl rfl rfl rfl rfl rfl rfl) rfl ?_
            rintro _ _ ⟨rfl, rfl⟩
            refine AOL.p (P_assign (v := .int .i64 _) rfl) rfl ?_
            refine AOL.nil ?_
            refine thenN ?_
            refine AW.ret ?_
            refine thenR ?_
            refine ⟨.inr rfl, [.agg [.int .i64 _, .int .i64 _, .str _], .int .i64 _], .cons (.box _ _ _ 1 _ _ _ _ rfl rfl rfl rfl rfl rfl) <| .cons (.tmp _ _ rfl) <| .nil, .cons _ (.cons _ (.refl _)), ?_⟩
            simp only [resOf, leafS, readS]
            try simp only [hgd]
            (first | rw [if_neg (Bool.eq_false_iff.mp hc1)] | skip); (first | rw [if_neg (Bool.eq_false_iff.mp hc2)] | skip); (first | rw [if_neg (Bool.eq_false_iff.mp hc3)] | skip); (first | rw [if_neg (Bool.eq_false_iff.mp hc4)] | skip); (first | rw [if_pos hc10] | skip)
            first | done | rfl | (exfalso; simp_all; done) | skip
          · skip
            refine AW.skip ?_
            refine thenN ?_
            refine AW.seq ?_
            refine AW.region ?_
            refine AOL.pk (P_load_box_agg (k := 0) (l := [.int .i64 _, .int .i64 _, .int .i64 _, .int .i64 _, _]) tok rfl rfl rfl rfl rfl) rfl rfl ?_
            refine AOL.p (P_fieldAddr_ptr (cs' := [.int .i64 _, .int .i64 _, .int .i64 _, .int .i64 _, .str _]) tok rfl rfl rfl rfl rfl rfl) rfl ?_
            refine AOL.p (P_load_ptr (c := .int .i64 _) tok rfl rfl rfl) rfl ?_
            refine AOL.p (P_callf (by kernel_rfl) rfl rfl (c93 _ e.field hk)) rfl ?_
            refine AOL.p (P_move (v := .tuple _) rfl) rfl ?_
            refine AOL.p (P_extract (v := .agg [.int .i64 _, .int .i64 _, .str _]) rfl rfl) rfl ?_
            refine AOL.p (P_extract (v := .int .i64 _) rfl rfl) rfl ?_
            refine AOL.e (E_alloc (l := [.int .i64 0, .int .i64 0, .str []]) (by kernel_rfl)) rfl ?_
            rintro _ _ ⟨b8, rfl, rfl⟩
            refine AOL.e (E_store (k := 0) (v := .agg _) (cs' := [.int .i64 _, .int .i64 _, .str _]) (H2 := _ :: _ :: _ :: _) tok rfl rfl rfl rfl rfl rfl rfl rfl rfl) rfl ?_
            rintro _ _ ⟨rfl, rfl⟩
            refine AOL.p (P_assign (v := .int .i64 _) rfl) rfl ?_
            refine AOL.ghost (GS.freeze (t := 8) 0 rfl rfl) ?_
            refine AOL.nil ?_
            refine thenN ?_
            refine AW.seq ?_
            refine AW.seq ?_
            refine AW.region ?_
            refine AOL.p (P_move (v := .int .i64 _) rfl) rfl ?_
            refine AOL.p (P_eql rfl rfl) rfl ?_
            refine AOL.nil ?_
            refine thenN ?_
            refine AW.cond (b := _) rfl (fun hc11 => ?_) (fun hc11 => ?_)
            · skip
              refine AW.region ?_
              refine AOL.p (P_load_ptr_agg (l := [.int .i64 _, .int .i64 _, .str _]) tok rfl rfl rfl rfl rfl) rfl ?_
              refine AOL.p (P_callf (by kernel_rfl) rfl rfl (c94 _)) rfl ?_
              refine AOL.p (P_assign (v := .int .i64 _) rfl) rfl ?_
              refine AOL.nil ?_
              refine thenN ?_
              refine AW.seq ?_
              refine AW.seq ?_
              refine AW.region ?_
              refine AOL.p (P_move (v := .int .i64 _) rfl) rfl ?_
              refine AOL.p (P_neq rfl rfl) rfl ?_
              refine AOL.nil ?_
              refine thenN ?_
              refine AW.cond (b := _) rfl (fun hc12 => ?_) (fun hc12 => ?_)
              · skip
                refine AW.seq ?_
                refine AW.region ?_
                refine AOL.p (P_build (l := [.int .i64 _, .int .i64 _, .str _]) tok rfl rfl rfl) rfl ?_
                refine AOL.p (P_move (v := .int .i64 _) rfl) rfl ?_
                refine AOL.e (E_store (k := 1) (v := .agg _) (cs' := [.int .i64 _, .int .i64 _, .str _]) (H2 := _ :: _ :: _) tok rfl rfl rfl rfl rfl rfl rfl rfl rfl) rfl ?_
                rintro _ _ ⟨rfl, rfl⟩
                refine AOL.p (P_assign (v := .int .i64 _) rfl) rfl ?_
                refine AOL.nil ?_
                refine thenN ?_
                refine AW.ret ?_
                refine thenR ?_
                refine ⟨.inr rfl, [.agg [.int .i64 _, .int .i64 _, .str _], .int .i64 _], .cons (.box _ _ _ 1 _ _ _ _ rfl rfl rfl rfl rfl rfl) <| .cons (.tmp _ _ rfl) <| .nil, .cons _ (.cons _ (.refl _)), ?_⟩
                simp only [resOf, leafS, readS]
                try simp only [hgd]
                (first | rw [if_neg (Bool.eq_false_iff.mp hc1)] | skip); (first | rw [if_neg (Bool.eq_false_iff.mp hc2)] | skip); (first | rw [if_neg (Bool.eq_false_iff.mp hc3)] | skip); (first | rw [if_neg (Bool.eq_false_iff.mp hc4)] | skip); (first | rw [if_neg (Bool.eq_false_iff.mp hc10)] | skip); (first | rw [if_pos hc11] | skip); (first | rw [if_pos hc12] | skip)
                first | done | rfl | (exfalso; simp_all; done) | skip
              · skip
                refine AW.skip ?_
                refine thenN ?_
                refine AW.seq ?_
                refine AW.region ?_
                refine AOL.p (P_load_ptr_agg (l := [.int .i64 _, .int .i64 _, .str _]) tok rfl rfl rfl rfl rfl) rfl ?_
                refine AOL.e (E_store (k := 1) (v := .agg _) (cs' := [.int .i64 _, .int .i64 _, .str _]) (H2 := _ :: _ :: _) tok rfl rfl rfl rfl rfl rfl rfl rfl rfl) rfl ?_
                rintro _ _ ⟨rfl, rfl⟩
                refine AOL.p (P_assign (v := .int .i64 _) rfl) rfl ?_
                refine AOL.nil ?_
                refine thenN ?_
                refine AW.ret ?_
                refine ⟨.inr rfl, [.agg [.int .i64 _, .int .i64 _, .str _], .int .i64 _], .cons (.box _ _ _ 1 _ _ _ _ rfl rfl rfl rfl rfl rfl) <| .cons (.tmp _ _ rfl) <| .nil, .cons _ (.cons _ (.refl _)), ?_⟩
                simp only [resOf, leafS, readS]
                try simp only [hgd]
                (first | rw [if_neg (Bool.eq_false_iff.mp hc1)] | skip); (first | rw [if_neg (Bool.eq_false_iff.mp hc2)] | skip); (first | rw [if_neg (Bool.eq_false_iff.mp hc3)] | skip); (first | rw [if_neg (Bool.eq_false_iff.mp hc4)] | skip); (first | rw [if_neg (Bool.eq_false_iff.mp hc10)] | skip); (first | rw [if_pos hc11] | skip); (first | rw [if_neg (Bool.eq_false_iff.mp hc12)] | skip)
                first | done | rfl | (exfalso; simp_all; done) | skip
            · skip
              refine AW.skip ?_
              refine thenN ?_
              refine AW.seq ?_
              refine AW.seq ?_
              refine AW.region ?_
              refine AOL.p (P_move (v := .int .i64 _) rfl) rfl ?_
              refine AOL.p (P_neq rfl rfl) rfl ?_
              refine AOL.nil ?_
              refine thenN ?_
              refine AW.cond (b := _) rfl (fun hc13 => ?_) (fun hc13 => ?_)
              · skip
                refine AW.seq ?_
                refine AW.region ?_
                refine AOL.p (P_build (l := [.int .i64 _, .int .i64 _, .str _]) tok rfl rfl rfl) rfl ?_
                refine AOL.p (P_move (v := .int .i64 _) rfl) rfl ?_
                refine AOL.e (E_store (k := 1) (v := .agg _) (cs' := [.int .i64 _, .int .i64 _, .str _]) (H2 := _ :: _ :: _) tok rfl rfl rfl rfl rfl rfl rfl rfl rfl) rfl ?_
                rintro _ _ ⟨rfl, rfl⟩
                refine AOL.p (P_assign (v := .int .i64 _) rfl) rfl ?_
                refine AOL.nil ?_
                refine thenN ?_
                refine AW.ret ?_
                refine thenR ?_
                refine ⟨.inr rfl, [.agg [.int .i64 _, .int .i64 _, .str _], .int .i64 _], .cons (.box _ _ _ 1 _ _ _ _ rfl rfl rfl rfl rfl rfl) <| .cons (.tmp _ _ rfl) <| .nil, .cons _ (.cons _ (.refl _)), ?_⟩
                simp only [resOf, leafS, readS]
                try simp only [hgd]
                (first | rw [if_neg (Bool.eq_false_iff.mp hc1)] | skip); (first | rw [if_neg (Bool.eq_false_iff.mp hc2)] | skip); (first | rw [if_neg (Bool.eq_false_iff.mp hc3)] | skip); (first | rw [if_neg (Bool.eq_false_iff.mp hc4)] | skip); (first | rw [if_neg (Bool.eq_false_iff.mp hc10)] | skip); (first | rw [if_neg (Bool.eq_false_iff.mp hc11)] | skip); (first | rw [if_pos hc13] | skip)
                first | done | rfl | (exfalso; simp_all; done) | skip
              · skip
                refine AW.skip ?_
                refine thenN ?_
                refine AW.seq ?_
                refine AW.region ?_
                refine AOL.p (P_load_ptr_agg (l := [.int .i64 _, .int .i64 _, .str _]) tok rfl rfl rfl rfl rfl) rfl ?_
                refine AOL.e (E_store (k := 1) (v := .agg _) (cs' := [.int .i64 _, .int .i64 _, .str _]) (H2 := _ :: _ :: _) tok rfl rfl rfl rfl rfl rfl rfl rfl rfl) rfl ?_
                rintro _ _ ⟨rfl, rfl⟩
                refine AOL.p (P_assign (v := .int .i64 _) rfl) rfl ?_
                refine AOL.nil ?_
                refine thenN ?_
                refine AW.ret ?_
                refine ⟨.inr rfl, [.agg [.int .i64 _, .int .i64 _, .str _], .int .i64 _], .cons (.box _ _ _ 1 _ _ _ _ rfl rfl rfl rfl rfl rfl) <| .cons (.tmp _ _ rfl) <| .nil, .cons _ (.cons _ (.refl _)), ?_⟩
                simp only [resOf, leafS, readS]
                try simp only [hgd]
                (first | rw [if_neg (Bool.eq_false_iff.mp hc1)] | skip); (first | rw [if_neg (Bool.eq_false_iff.mp hc2)] | skip); (first | rw [if_neg (Bool.eq_false_iff.mp hc3)] | skip); (first | rw [if_neg (Bool.eq_false_iff.mp hc4)] | skip); (first | rw [if_neg (Bool.eq_false_iff.mp hc10)] | skip); (first | rw [if_neg (Bool.eq_false_iff.mp hc11)] | skip); (first | rw [if_neg (Bool.eq_false_iff.mp hc13)] | skip)
                first | done | rfl | (exfalso; simp_all; done) | skip
set_option maxRecDepth 20000 in
set_option maxHeartbeats 400000 in
theorem c74one (v : Vl) : APure Try.prog 74 [.int .i64 12, .sl 3 [cV v]] (.agg (cV (applyS 12 v.num v.num))) := by
  refine APure.body (n := 100) tok Try.func74 rfl rfl rfl fun H => ?_
  refine AW.seq ?_
  refine AW.region ?_
  refine AOL.e (E_alloc (l := [.int .i64 0, .int .i64 0, .str []]) (by kernel_rfl)) rfl ?_
  rintro _ _ ⟨b4, rfl, rfl⟩
  refine AOL.nil ?_
  refine thenN ?_
  refine AW.seq ?_
  refine AW.seq ?_
  refine AW.region ?_
  refine AOL.p (P_move (v := .int .i64 _) rfl) rfl ?_
  refine AOL.nil ?_
  refine thenN ?_
  refine AW.block ?_
  refine AW.seq ?_
  refine AW.region ?_
  refine AOL.p (P_eql rfl rfl) rfl ?_
  refine AOL.p (P_assign (v := .bool _) rfl) rfl ?_
  refine AOL.nil ?_
  refine thenN ?_
  refine AW.cond (b := _) rfl (fun hc1 => ?_) (fun hc1 => ?_)
  · skip
    exact absurd hc1 (by decide)
  · skip
    refine AW.seq ?_
    refine AW.region ?_
    refine AOL.p (P_eql rfl rfl) rfl ?_
    refine AOL.p (P_assign (v := .bool _) rfl) rfl ?_
    refine AOL.nil ?_
    refine thenN ?_
    refine AW.cond (b := _) rfl (fun hc2 => ?_) (fun hc2 => ?_)
    · skip
      exact absurd hc2 (by decide)
    · skip
      refine AW.seq ?_
      refine AW.region ?_
      refine AOL.p (P_eql rfl rfl) rfl ?_
      refine AOL.p (P_assign (v := .bool _) rfl) rfl ?_
      refine AOL.nil ?_
      refine thenN ?_
      refine AW.cond (b := _) rfl (fun hc3 => ?_) (fun hc3 => ?_)
      · skip
        exact absurd hc3 (by decide)
      · skip
        refine AW.seq ?_
        refine AW.region ?_
        refine AOL.p (P_eql rfl rfl) rfl ?_
        refine AOL.p (P_assign (v := .bool _) rfl) rfl ?_
        refine AOL.nil ?_
        refine thenN ?_
        refine AW.cond (b := _) rfl (fun hc4 => ?_) (fun hc4 => ?_)
        · skip
          exact absurd hc4 (by decide)
        · skip
          refine AW.seq ?_
          refine AW.region ?_
          refine AOL.p (P_eql rfl rfl) rfl ?_
          refine AOL.p (P_assign (v := .bool _) rfl) rfl ?_
          refine AOL.nil ?_
          refine thenN ?_
          refine AW.cond (b := _) rfl (fun hc5 => ?_) (fun hc5 => ?_)
          · skip
            exact absurd hc5 (by decide)
          · skip
            refine AW.seq ?_
            refine AW.region ?_
            refine AOL.p (P_eql rfl rfl) rfl ?_
            refine AOL.p (P_assign (v := .bool _) rfl) rfl ?_
            refine AOL.nil ?_
            refine thenN ?_
            refine AW.cond (b := _) rfl (fun hc6 => ?_) (fun hc6 => ?_)
            · skip
              exact absurd hc6 (by decide)
            · skip
              refine AW.seq ?_
              refine AW.region ?_
              refine AOL.p (P_eql rfl rfl) rfl ?_
              refine AOL.p (P_assign (v := .bool _) rfl) rfl ?_
              refine AOL.nil ?_
              refine thenN ?_
              refine AW.cond (b := _) rfl (fun hc7 => ?_) (fun hc7 => ?_)
              · skip
                exact absurd hc7 (by decide)
              · skip
                refine AW.skip ?_
                refine blkN ?_
                refine thenN ?_
                refine AW.seq ?_
                refine AW.region ?_
                refine AOL.p (P_move (v := .sl _ _) rfl) rfl ?_
                refine AOL.p (P_indexAddr (c := [.int .i64 _, .int .i64 _, .str _]) tok rfl rfl rfl rfl rfl rfl (by omega) (rfl)) rfl ?_
                refine AOL.p (P_fieldAddr_ptr (cs' := [.int .i64 _, .str _]) tok rfl rfl rfl rfl rfl rfl) rfl ?_
                refine AOL.p (P_load_ptr (c := .int .i64 _) tok rfl rfl rfl) rfl ?_
                refine AOL.p (P_neq rfl rfl) rfl ?_
                refine AOL.p (P_callf (by kernel_rfl) rfl rfl (c38 _)) rfl ?_
                refine AOL.e (E_store (k := 0) (v := .agg _) (cs' := [.int .i64 _, .int .i64 _, .str _]) (H2 := _ :: _) tok rfl rfl rfl rfl rfl rfl rfl rfl rfl) rfl ?_
                rintro _ _ ⟨rfl, rfl⟩
                refine AOL.nil ?_
                refine thenN ?_
                refine AW.ret ?_
                refine ⟨.inr rfl, [.agg [.int .i64 _, .int .i64 _, .str _]], .cons (.box _ _ _ 0 _ _ _ _ rfl rfl rfl rfl rfl rfl) <| .nil, .cons _ (.refl _), ?_⟩
                rfl

end Go.Proofs.Ytkkacfnkjiijkaa
