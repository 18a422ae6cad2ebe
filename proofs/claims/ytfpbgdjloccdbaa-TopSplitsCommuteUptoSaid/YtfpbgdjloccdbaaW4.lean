/-
  Walks of events: their checks. No condition.
-/
import Derived.Test.YtfpbgdjloccdbaaW3
import Derived.Test.YtfpbgdjloccdbaaS03
import Derived.KernelRfl
namespace Go.Proofs.Ytfpbgdjloccdbaa
open Go Go.Aw
set_option linter.unusedVariables false
set_option linter.unusedSimpArgs false

theorem ifF {α : Type} {b : Bool} {x y : α} (h : b = false) : (if b = true then x else y) = y := if_neg (by rw [h]; decide)
theorem get_def {α : Type} {l : List α} {k : Nat} (d : α) (h : k < l.length) : l[k]? = some ((l[k]?).getD d) := by
  rw [List.getElem?_eq_getElem h]; rfl
theorem any_take {α : Type} (f : α → Bool) {l : List α} {k : Nat} {x : α} (h : l[k]? = some x) : (l.take (k + 1)).any f = ((l.take k).any f || f x) := by rw [take_get h]; simp
theorem vals_drop {l : List Vl} {m : List Fi} {k : Nat} {v : Vl} {f : Fi} (hv : l[k]? = some v) (hf : m[k]? = some f) : valsS (l.drop k) (m.drop k) = if valE v f != 0 then valE v f else valsS (l.drop (k + 1)) (m.drop (k + 1)) := by
  rw [drop_cons hv, drop_cons hf, valsS]
theorem vals_end (m : List Fi) : valsS [] m = 0 := by cases m <;> rfl
theorem vals_end2 (l : List Vl) : valsS l [] = 0 := by cases l <;> rfl
theorem keys_drop {l : List Int} {m : List Sc} {k : Nat} {v : Int} {f : Sc} (hv : l[k]? = some v) (hf : m[k]? = some f) : keysS (l.drop k) (m.drop k) = if keyE v f != 0 then keyE v f else keysS (l.drop (k + 1)) (m.drop (k + 1)) := by
  rw [drop_cons hv, drop_cons hf, keysS]
theorem keys_end (m : List Sc) : keysS [] m = 0 := by cases m <;> rfl
theorem ty_in {n : Nat} {t : Int} (h : (decide (t < 0) || decide ((n : Int) ≤ t)) = false) : 0 ≤ t ∧ t.toNat < n := by
  simp only [Bool.or_eq_false_iff, decide_eq_false_iff_not] at h
  omega
def cI (n : Int) : List AV := [.int .i64 n]
theorem len_eq {n m : Nat} (h : ((n : Int) != (m : Int)) = false) : n = m := by
  have h1 : (n : Int) = m := by simpa using h
  omega

set_option maxRecDepth 20000 in
set_option maxHeartbeats 400000 in
theorem e_numbers (e : Ev) : APure Try.prog 86 [.agg (cEv e)] (.int .i64 (numbersE e)) := by
  refine APure.body (n := 31) tok Try.func86 rfl rfl rfl fun H => ?_
  refine AW.seq ?_
  refine AW.region ?_
  refine AOL.p (P_box (v := .agg _) (cs := [.int .i64 _, .int .i64 _, .int .i64 _, .int .i64 _, _]) rfl rfl rfl) rfl ?_
  refine AOL.p (P_assign (v := .int .i64 _) rfl) rfl ?_
  refine AOL.nil ?_
  refine thenN ?_
  refine AW.seq ?_
  refine AW.block ?_
  refine AW.seq ?_
  refine AW.region ?_
  refine AOL.p (P_fieldAddr_ptr (cs' := [.int .i64 _, .int .i64 _, .int .i64 _, .int .i64 _, _]) tok rfl rfl rfl rfl rfl rfl) rfl ?_
  refine AOL.p (P_load_ptr (c := .int .i64 _) tok rfl rfl rfl) rfl ?_
  refine AOL.p (P_lss rfl rfl) rfl ?_
  refine AOL.p (P_move (v := .bool _) rfl) rfl ?_
  refine AOL.g (y := .ptr _) _ [] rfl (EntL.all trivial) (fun hG => P_fieldAddr_ptr (cs' := [.int .i64 _, .int .i64 _, .int .i64 _, .int .i64 _, _]) tok rfl rfl rfl rfl rfl rfl) rfl ?_
  refine AOL.g (y := .int .i64 _) _ [(8, _)] rfl (EntL.all ⟨Ent.self _ _, trivial⟩) (fun hG => P_load_ptr (c := .int .i64 _) tok rfl rfl rfl) rfl ?_
  refine AOL.g (y := .bool _) _ [(9, _)] rfl (EntL.all ⟨Ent.self _ _, trivial⟩) (fun hG => P_geq rfl rfl) rfl ?_
  refine AOL.p (P_pick_or rfl rfl rfl) rfl ?_
  refine AOL.p (P_assign (v := .bool _) rfl) rfl ?_
  refine AOL.nil ?_
  refine thenN ?_
  refine AW.cond (b := _) rfl (fun hc1 => ?_) (fun hc1 => ?_)
  · skip
    refine AW.seq ?_
    refine AW.region ?_
    refine AOL.p (P_assign (v := .int .i64 _) rfl) rfl ?_
    refine AOL.nil ?_
    refine thenN ?_
    refine AW.ret ?_
    refine blkR ?_
    refine thenR ?_
    refine ⟨.inr rfl, [.int .i64 _], .cons (.tmp _ _ rfl) <| .nil, .refl _, ?_⟩
    try simp only [str0, Bool.and_true] at *
    first
      | (simp only [resOf, numbersE]; (first | rw [if_pos hc1] | skip); first | done | rfl)
      | (try simp only [Bool.not_eq_true', Bool.not_eq_false'] at *
         first
         | (simp only [resOf, numbersE, *, Bool.false_eq_true, ↓reduceIte, Bool.true_or, Bool.or_true, Bool.false_or, Bool.or_false, Bool.true_and, Bool.and_true, Bool.false_and, Bool.and_false, Bool.not_true, Bool.not_false]; done)
         | (simp [resOf, numbersE, *]; done)
         | (simp_all [resOf, numbersE]; done))
      | skip
  · skip
    refine AW.seq ?_
    refine AW.region ?_
    refine AOL.p (P_fieldAddr_ptr (cs' := [.int .i64 _, .int .i64 _, .int .i64 _, _]) tok rfl rfl rfl rfl rfl rfl) rfl ?_
    refine AOL.p (P_load_ptr (c := .int .i64 _) tok rfl rfl rfl) rfl ?_
    refine AOL.p (P_lss rfl rfl) rfl ?_
    refine AOL.p (P_move (v := .bool _) rfl) rfl ?_
    refine AOL.g (y := .ptr _) _ [] rfl (EntL.all trivial) (fun hG => P_fieldAddr_ptr (cs' := [.int .i64 _, .int .i64 _, .int .i64 _, _]) tok rfl rfl rfl rfl rfl rfl) rfl ?_
    refine AOL.g (y := .int .i64 _) _ [(17, _)] rfl (EntL.all ⟨Ent.self _ _, trivial⟩) (fun hG => P_load_ptr (c := .int .i64 _) tok rfl rfl rfl) rfl ?_
    refine AOL.g (y := .bool _) _ [(18, _)] rfl (EntL.all ⟨Ent.self _ _, trivial⟩) (fun hG => P_gtr rfl rfl) rfl ?_
    refine AOL.p (P_pick_or rfl rfl rfl) rfl ?_
    refine AOL.p (P_move (v := .bool _) rfl) rfl ?_
    refine AOL.g (y := .ptr _) _ [] rfl (EntL.all trivial) (fun hG => P_fieldAddr_ptr (cs' := [.int .i64 _, _]) tok rfl rfl rfl rfl rfl rfl) rfl ?_
    refine AOL.g (y := .int .i64 _) _ [(22, _)] rfl (EntL.all ⟨Ent.self _ _, trivial⟩) (fun hG => P_load_ptr (c := .int .i64 _) tok rfl rfl rfl) rfl ?_
    refine AOL.g (y := .bool _) _ [(23, _)] rfl (EntL.all ⟨Ent.self _ _, trivial⟩) (fun hG => P_lss rfl rfl) rfl ?_
    refine AOL.p (P_pick_or rfl rfl rfl) rfl ?_
    refine AOL.p (P_move (v := .bool _) rfl) rfl ?_
    refine AOL.g (y := .ptr _) _ [] rfl (EntL.all trivial) (fun hG => P_fieldAddr_ptr (cs' := [.int .i64 _, _]) tok rfl rfl rfl rfl rfl rfl) rfl ?_
    refine AOL.g (y := .int .i64 _) _ [(27, _)] rfl (EntL.all ⟨Ent.self _ _, trivial⟩) (fun hG => P_load_ptr (c := .int .i64 _) tok rfl rfl rfl) rfl ?_
    refine AOL.g (y := .bool _) _ [(28, _)] rfl (EntL.all ⟨Ent.self _ _, trivial⟩) (fun hG => P_gtr rfl rfl) rfl ?_
    refine AOL.p (P_pick_or rfl rfl rfl) rfl ?_
    refine AOL.p (P_assign (v := .bool _) rfl) rfl ?_
    refine AOL.nil ?_
    refine thenN ?_
    refine AW.cond (b := _) rfl (fun hc2 => ?_) (fun hc2 => ?_)
    · skip
      refine AW.seq ?_
      refine AW.region ?_
      refine AOL.p (P_assign (v := .int .i64 _) rfl) rfl ?_
      refine AOL.nil ?_
      refine thenN ?_
      refine AW.ret ?_
      refine blkR ?_
      refine thenR ?_
      refine ⟨.inr rfl, [.int .i64 _], .cons (.tmp _ _ rfl) <| .nil, .refl _, ?_⟩
      try simp only [str0, Bool.and_true] at *
      first
        | (simp only [resOf, numbersE]; (first | rw [if_neg (Bool.eq_false_iff.mp hc1)] | skip); (first | rw [if_pos hc2] | skip); first | done | rfl)
        | (try simp only [Bool.not_eq_true', Bool.not_eq_false'] at *
           first
           | (simp only [resOf, numbersE, *, Bool.false_eq_true, ↓reduceIte, Bool.true_or, Bool.or_true, Bool.false_or, Bool.or_false, Bool.true_and, Bool.and_true, Bool.false_and, Bool.and_false, Bool.not_true, Bool.not_false]; done)
           | (simp [resOf, numbersE, *]; done)
           | (simp_all [resOf, numbersE]; done))
        | skip
    · skip
      refine AW.skip ?_
      refine blkN ?_
      refine thenN ?_
      refine AW.seq ?_
      refine AW.region ?_
      refine AOL.p (P_assign (v := .int .i64 _) rfl) rfl ?_
      refine AOL.nil ?_
      refine thenN ?_
      refine AW.ret ?_
      refine ⟨.inr rfl, [.int .i64 _], .cons (.tmp _ _ rfl) <| .nil, .refl _, ?_⟩
      try simp only [str0, Bool.and_true] at *
      first
        | (simp only [resOf, numbersE]; (first | rw [if_neg (Bool.eq_false_iff.mp hc1)] | skip); (first | rw [if_neg (Bool.eq_false_iff.mp hc2)] | skip); first | done | rfl)
        | (try simp only [Bool.not_eq_true', Bool.not_eq_false'] at *
           first
           | (simp only [resOf, numbersE, *, Bool.false_eq_true, ↓reduceIte, Bool.true_or, Bool.or_true, Bool.false_or, Bool.or_false, Bool.true_and, Bool.and_true, Bool.false_and, Bool.and_false, Bool.not_true, Bool.not_false]; done)
           | (simp [resOf, numbersE, *]; done)
           | (simp_all [resOf, numbersE]; done))
        | skip
set_option maxRecDepth 20000 in
set_option maxHeartbeats 800000 in
theorem e_valid (types : List Sc) (e : Ev) : APure Try.prog 68 [.sl 2 (types.map cSc), .agg (cEv e)] (.int .i64 (validE types e)) := by
  refine APure.body (n := 59) tok Try.func68 rfl rfl rfl fun H => ?_
  refine AW.seq ?_
  refine AW.region ?_
  refine AOL.p (P_box (v := .agg _) (cs := [.int .i64 _, .int .i64 _, .int .i64 _, .int .i64 _, _]) rfl rfl rfl) rfl ?_
  refine AOL.p (P_assign (v := .int .i64 _) rfl) rfl ?_
  refine AOL.nil ?_
  refine thenN ?_
  refine AW.seq ?_
  refine AW.seq ?_
  refine AW.region ?_
  refine AOL.p (P_load_ptr_agg (l := [.int .i64 _, .int .i64 _, .int .i64 _, .int .i64 _, _]) tok rfl rfl rfl rfl rfl) rfl ?_
  refine AOL.p (P_callf (by kernel_rfl) rfl rfl (e_numbers e)) rfl ?_
  refine AOL.p (P_assign (v := .int .i64 _) rfl) rfl ?_
  refine AOL.nil ?_
  refine thenN ?_
  refine AW.seq ?_
  refine AW.region ?_
  refine AOL.p (P_move (v := .int .i64 _) rfl) rfl ?_
  refine AOL.p (P_neq rfl rfl) rfl ?_
  refine AOL.nil ?_
  refine thenN ?_
  refine AW.cond (b := _) rfl (fun hc1 => ?_) (fun hc1 => ?_)
  · skip
    refine AW.seq ?_
    refine AW.region ?_
    refine AOL.p (P_move (v := .int .i64 _) rfl) rfl ?_
    refine AOL.p (P_assign (v := .int .i64 _) rfl) rfl ?_
    refine AOL.nil ?_
    refine thenN ?_
    refine AW.ret ?_
    refine thenR ?_
    refine ⟨.inr rfl, [.int .i64 _], .cons (.tmp _ _ rfl) <| .nil, .refl _, ?_⟩
    exact congrArg (AV.int .i64) (by unfold validE; rw [if_pos hc1])
  · skip
    refine AW.skip ?_
    refine thenN ?_
    refine AW.seq ?_
    refine AW.seq ?_
    refine AW.region ?_
    refine AOL.p (P_fieldAddr_ptr (cs' := [.int .i64 _, .int .i64 _, _]) tok rfl rfl rfl rfl rfl rfl) rfl ?_
    refine AOL.p (P_load_ptr (c := .int .i64 _) tok rfl rfl rfl) rfl ?_
    refine AOL.p (P_lss rfl rfl) rfl ?_
    refine AOL.p (P_move (v := .bool _) rfl) rfl ?_
    refine AOL.g (y := .ptr _) _ [] rfl (EntL.all trivial) (fun hG => P_fieldAddr_ptr (cs' := [.int .i64 _, .int .i64 _, _]) tok rfl rfl rfl rfl rfl rfl) rfl ?_
    refine AOL.g (y := .int .i64 _) _ [(19, _)] rfl (EntL.all ⟨Ent.self _ _, trivial⟩) (fun hG => P_load_ptr (c := .int .i64 _) tok rfl rfl rfl) rfl ?_
    refine AOL.g (y := .sl _ _) _ [] rfl (EntL.all trivial) (fun hG => P_move (v := .sl _ _) rfl) rfl ?_
    refine AOL.g (y := .int .i64 _) _ [(21, _)] rfl (EntL.all ⟨Ent.self _ _, trivial⟩) (fun hG => P_len_sl (n := types.length) tok rfl rfl rfl (by simp)) rfl ?_
    refine AOL.g (y := .bool _) _ [(20, _), (22, _)] rfl (EntL.all ⟨Ent.self _ _, Ent.self _ _, trivial⟩) (fun hG => P_geq rfl rfl) rfl ?_
    refine AOL.p (P_pick_or rfl rfl rfl) rfl ?_
    refine AOL.nil ?_
    refine thenN ?_
    refine AW.cond (b := _) rfl (fun hc2 => ?_) (fun hc2 => ?_)
    · skip
      refine AW.seq ?_
      refine AW.region ?_
      refine AOL.p (P_assign (v := .int .i64 _) rfl) rfl ?_
      refine AOL.nil ?_
      refine thenN ?_
      refine AW.ret ?_
      refine thenR ?_
      refine ⟨.inr rfl, [.int .i64 _], .cons (.tmp _ _ rfl) <| .nil, .refl _, ?_⟩
      exact congrArg (AV.int .i64) (by unfold validE; rw [ifF hc1, if_pos hc2])
    · skip
      have hty := ty_in hc2
      have hsc : types[e.type.toNat]? = some ((types[e.type.toNat]?).getD sc0) := get_def sc0 hty.2
      refine AW.skip ?_
      refine thenN ?_
      refine AW.seq ?_
      refine AW.region ?_
      refine AOL.p (P_move (v := .sl _ _) rfl) rfl ?_
      refine AOL.p (P_fieldAddr_ptr (cs' := [.int .i64 _, .int .i64 _, _]) tok rfl rfl rfl rfl rfl rfl) rfl ?_
      refine AOL.p (P_load_ptr (c := .int .i64 _) tok rfl rfl rfl) rfl ?_
      refine AOL.p (P_indexAddr (c := [.str _, _]) tok rfl rfl rfl rfl rfl rfl (hty.1) (map_at hsc)) rfl ?_
      refine AOL.p (P_fieldAddr_ptr (cs' := [_]) tok rfl rfl rfl rfl rfl rfl) rfl ?_
      refine AOL.p (P_load_ptr (c := .sl _ _) tok rfl rfl rfl) rfl ?_
      refine AOL.p (P_assign (v := .sl _ _) rfl) rfl ?_
      refine AOL.nil ?_
      refine thenN ?_
      refine AW.seq ?_
      refine AW.seq ?_
      refine AW.region ?_
      refine AOL.p (P_fieldAddr_ptr (cs' := [_]) tok rfl rfl rfl rfl rfl rfl) rfl ?_
      refine AOL.p (P_load_ptr (c := .sl _ _) tok rfl rfl rfl) rfl ?_
      refine AOL.p (P_len_sl (n := e.values.length) tok rfl rfl rfl (by simp)) rfl ?_
      refine AOL.p (P_move (v := .sl _ _) rfl) rfl ?_
      refine AOL.p (P_len_sl (n := (fieldsOf types e).length) tok rfl rfl rfl (by simp [fieldsOf])) rfl ?_
      refine AOL.p (P_neq rfl rfl) rfl ?_
      refine AOL.nil ?_
      refine thenN ?_
      refine AW.cond (b := _) rfl (fun hc3 => ?_) (fun hc3 => ?_)
      · skip
        refine AW.seq ?_
        refine AW.region ?_
        refine AOL.p (P_assign (v := .int .i64 _) rfl) rfl ?_
        refine AOL.nil ?_
        refine thenN ?_
        refine AW.ret ?_
        refine thenR ?_
        refine ⟨.inr rfl, [.int .i64 _], .cons (.tmp _ _ rfl) <| .nil, .refl _, ?_⟩
        exact congrArg (AV.int .i64) (by unfold validE; rw [ifF hc1, ifF hc2, if_pos hc3])
      · skip
        have hfl := len_eq hc3
        refine AW.skip ?_
        refine thenN ?_
        refine AW.seq ?_
        refine AW.seq ?_
        refine AW.region ?_
        refine AOL.p (P_fieldAddr_ptr (cs' := [_]) tok rfl rfl rfl rfl rfl rfl) rfl ?_
        refine AOL.p (P_load_ptr (c := .sl _ _) tok rfl rfl rfl) rfl ?_
        refine AOL.p (P_len_sl (n := e.values.length) tok rfl rfl rfl (by simp)) rfl ?_
        refine AOL.p (P_move (v := .int .i64 _) rfl) rfl ?_
        refine AOL.nil ?_
        refine thenN ?_
        refine AW.block ?_
        refine AW.sllen 38 rfl fun hlen => ?_
        simp only [List.length_map, maxLen] at hlen
        refine AW.loopS (fun (k : Nat) => (⟨[(3, .ptr (cEv e)), (6, .sl 2 ((fieldsOf types e).map cFi)), (38, .sl 3 (e.values.map cV)), (39, .int .i64 e.values.length), (40, .int .i64 (k : Int))], H, 59⟩ : St)) (fun (k : Nat) => k ≤ e.values.length ∧ valsS e.values (fieldsOf types e) = valsS (e.values.drop k) ((fieldsOf types e).drop k)) (fun (k : Nat) => e.values.length - k) (0) ?_ (GS.weaken ⟨rfl, rfl, rfl, rfl, rfl, trivial⟩ (.refl _)) ?_
        · exact ⟨Nat.zero_le _, rfl⟩
        · rintro k hR
          refine AW.seq ?_
          refine AW.region ?_
          refine AOL.p (P_lss rfl rfl) rfl ?_
          refine AOL.nil ?_
          refine thenN ?_
          refine AW.seq ?_
          refine AW.cond (b := _) rfl (fun hc4 => ?_) (fun hc4 => ?_)
          · skip
            obtain ⟨a, ha⟩ := get_lt hc4
            have hlt := get_lt' ha
            have hm := List.mem_of_getElem? ha
            have hfk : (fieldsOf types e)[k]? = some (((fieldsOf types e)[k]?).getD fi0) := get_def fi0 (by omega)
            have hstep := vals_drop ha hfk
            refine AW.skip ?_
            refine thenN ?_
            refine AW.seq ?_
            refine AW.block ?_
            refine AW.seq ?_
            refine AW.region ?_
            refine AOL.p (P_move (v := .int .i64 _) rfl) rfl ?_
            refine AOL.p (P_indexAddr (c := [.int .i64 _, .int .i64 _, .str _]) tok rfl rfl rfl rfl rfl rfl (by omega) (map_at ha)) rfl ?_
            refine AOL.p (P_load_ptr_agg (l := [.int .i64 _, .int .i64 _, .str _]) tok rfl rfl rfl rfl rfl) rfl ?_
            refine AOL.e (E_alloc (l := [.int .i64 0, .int .i64 0, .str []]) (by kernel_rfl)) rfl ?_
            rintro _ _ ⟨b8, rfl, rfl⟩
            refine AOL.p (P_assign (v := .int .i64 _) rfl) rfl ?_
            refine AOL.e (E_store (k := 0) (v := .agg _) (cs' := [.int .i64 _, .int .i64 _, .str _]) (H2 := _ :: _) tok rfl rfl rfl rfl rfl rfl rfl rfl rfl) rfl ?_
            rintro _ _ ⟨rfl, rfl⟩
            refine AOL.ghost (GS.freeze (t := 8) 0 rfl rfl) ?_
            refine AOL.nil ?_
            refine thenN ?_
            refine AW.seq ?_
            refine AW.seq ?_
            refine AW.region ?_
            refine AOL.p (P_load_ptr_agg (l := [.int .i64 _, .int .i64 _, .str _]) tok rfl rfl rfl rfl rfl) rfl ?_
            refine AOL.p (P_callf (by kernel_rfl) rfl rfl (c94 a)) rfl ?_
            refine AOL.p (P_assign (v := .int .i64 _) rfl) rfl ?_
            refine AOL.nil ?_
            refine thenN ?_
            refine AW.seq ?_
            refine AW.region ?_
            refine AOL.p (P_move (v := .int .i64 _) rfl) rfl ?_
            refine AOL.p (P_neq rfl rfl) rfl ?_
            refine AOL.nil ?_
            refine thenN ?_
            refine AW.cond (b := _) rfl (fun hc5 => ?_) (fun hc5 => ?_)
            · skip
              refine AW.seq ?_
              refine AW.region ?_
              refine AOL.p (P_move (v := .int .i64 _) rfl) rfl ?_
              refine AOL.p (P_assign (v := .int .i64 _) rfl) rfl ?_
              refine AOL.nil ?_
              refine thenN ?_
              refine AW.ret ?_
              refine thenR ?_
              refine blkR ?_
              refine thenR ?_
              refine thenR ?_
              refine blkR ?_
              refine thenR ?_
              refine ⟨.inr rfl, [.int .i64 _], .cons (.tmp _ _ rfl) <| .nil, .refl _, ?_⟩
              have he : valE a (((fieldsOf types e)[k]?).getD fi0) = vcheckS a := by unfold valE; rw [if_pos hc5]
              exact congrArg (AV.int .i64) (by unfold validE; rw [ifF hc1, ifF hc2, ifF hc3, hR.2, hstep, he, if_pos hc5])
            · skip
              refine AW.skip ?_
              refine thenN ?_
              refine AW.seq ?_
              refine AW.draw mixed (fun _ => True) trivial (by kernel_rfl) ?_
              refine Canon.pure _ _ 0 _ _ rfl (by kernel_rfl) (by kernel_rfl) rfl (.run rfl (P_fieldAddr_ptr (cs' := [.int .i64 _, .int .i64 _, .str _]) tok rfl rfl rfl rfl rfl rfl)) ?_
              refine Canon.pure _ _ 1 _ _ rfl (by kernel_rfl) (by kernel_rfl) rfl (.run rfl (P_load_ptr (c := .int .i64 _) tok rfl rfl rfl)) ?_
              refine Canon.pure _ _ 2 _ _ rfl (by kernel_rfl) (by kernel_rfl) rfl (.run rfl (P_move (v := .sl _ _) rfl)) ?_
              refine Canon.pure _ _ 3 _ _ rfl (by kernel_rfl) (by kernel_rfl) rfl (.run rfl (P_move (v := .int .i64 _) rfl)) ?_
              refine Canon.pure _ _ 4 _ _ rfl (by kernel_rfl) (by kernel_rfl) rfl (.run rfl (P_indexAddr (c := [.str _, .int .i64 _]) tok rfl rfl rfl rfl rfl rfl (by omega) (map_at hfk))) ?_
              refine Canon.pure _ _ 5 _ _ rfl (by kernel_rfl) (by kernel_rfl) rfl (.run rfl (P_fieldAddr_ptr (cs' := [.int .i64 _]) tok rfl rfl rfl rfl rfl rfl)) ?_
              refine Canon.pure _ _ 6 _ _ rfl (by kernel_rfl) (by kernel_rfl) rfl (.run rfl (P_load_ptr (c := .int .i64 _) tok rfl rfl rfl)) ?_
              refine Canon.pure _ _ 7 _ _ rfl (by kernel_rfl) (by kernel_rfl) rfl (.run rfl (P_neq rfl rfl)) ?_
              refine Canon.done _ _ (by kernel_rfl) ?_
              refine thenN ?_
              refine AW.cond (b := _) rfl (fun hc6 => ?_) (fun hc6 => ?_)
              · skip
                refine AW.seq ?_
                refine AW.region ?_
                refine AOL.p (P_assign (v := .int .i64 _) rfl) rfl ?_
                refine AOL.nil ?_
                refine thenN ?_
                refine AW.ret ?_
                refine blkR ?_
                refine thenR ?_
                refine thenR ?_
                refine blkR ?_
                refine thenR ?_
                refine ⟨.inr rfl, [.int .i64 _], .cons (.tmp _ _ rfl) <| .nil, .refl _, ?_⟩
                have he : valE a (((fieldsOf types e)[k]?).getD fi0) = 9 := by unfold valE; rw [ifF hc5, if_pos hc6]
                exact congrArg (AV.int .i64) (by unfold validE; rw [ifF hc1, ifF hc2, ifF hc3, hR.2, hstep, he]; rfl)
              · skip
                refine AW.skip ?_
                refine blkN ?_
                refine thenN ?_
                refine AW.region ?_
                refine AOL.p (P_add rfl rfl rfl (by constructor <;> omega)) rfl ?_
                refine AOL.p (P_move (v := .int .i64 _) rfl) rfl ?_
                refine AOL.nil ?_
                refine thenN ?_
                refine ⟨k + 1, ?_, ?_, GS.weaken ⟨rfl, rfl, rfl, rfl, rfl, trivial⟩ (.refl _)⟩
                · exact ⟨hlt, by rw [hR.2, hstep, if_neg]; unfold valE; rw [ifF hc5, ifF hc6]; decide⟩
                · omega
          · skip
            have hd := get_end hc4
            refine AW.exit ?_
            refine thenE ?_
            refine thenE ?_
            refine blkHit ?_
            refine thenN ?_
            refine AW.seq ?_
            refine AW.region ?_
            refine AOL.p (P_assign (v := .int .i64 _) rfl) rfl ?_
            refine AOL.nil ?_
            refine thenN ?_
            refine AW.ret ?_
            refine ⟨.inr rfl, [.int .i64 _], .cons (.tmp _ _ rfl) <| .nil, .refl _, ?_⟩
            exact congrArg (AV.int .i64) (by unfold validE; rw [ifF hc1, ifF hc2, ifF hc3, hR.2, hd, vals_end])
set_option maxRecDepth 20000 in
set_option maxHeartbeats 400000 in
theorem e_Check (types : List Sc) (hl : types.length ≤ 1048576) (hs : ∀ s ∈ types, scOK s) (e : Ev) : APure Try.prog 44 [.sl 2 (types.map cSc), .agg (cEv e)] (.int .i64 (evCheckE types e)) := by
  refine APure.body (n := 14) tok Try.func44 rfl rfl rfl fun H => ?_
  refine AW.seq ?_
  refine AW.region ?_
  refine AOL.p (P_box (v := .agg _) (cs := [.int .i64 _, .int .i64 _, .int .i64 _, .int .i64 _, _]) rfl rfl rfl) rfl ?_
  refine AOL.p (P_assign (v := .int .i64 _) rfl) rfl ?_
  refine AOL.nil ?_
  refine thenN ?_
  refine AW.seq ?_
  refine AW.seq ?_
  refine AW.region ?_
  refine AOL.p (P_move (v := .sl _ _) rfl) rfl ?_
  refine AOL.p (P_callf (by kernel_rfl) rfl rfl (c57 types hl hs)) rfl ?_
  refine AOL.p (P_assign (v := .int .i64 _) rfl) rfl ?_
  refine AOL.nil ?_
  refine thenN ?_
  refine AW.seq ?_
  refine AW.region ?_
  refine AOL.p (P_move (v := .int .i64 _) rfl) rfl ?_
  refine AOL.p (P_neq rfl rfl) rfl ?_
  refine AOL.nil ?_
  refine thenN ?_
  refine AW.cond (b := _) rfl (fun hc1 => ?_) (fun hc1 => ?_)
  · skip
    refine AW.seq ?_
    refine AW.region ?_
    refine AOL.p (P_move (v := .int .i64 _) rfl) rfl ?_
    refine AOL.p (P_assign (v := .int .i64 _) rfl) rfl ?_
    refine AOL.nil ?_
    refine thenN ?_
    refine AW.ret ?_
    refine thenR ?_
    refine ⟨.inr rfl, [.int .i64 _], .cons (.tmp _ _ rfl) <| .nil, .refl _, ?_⟩
    try simp only [str0, Bool.and_true] at *
    first
      | (simp only [resOf, evCheckE]; (first | rw [if_pos hc1] | skip); first | done | rfl)
      | (try simp only [Bool.not_eq_true', Bool.not_eq_false'] at *
         first
         | (simp only [resOf, evCheckE, *, Bool.false_eq_true, ↓reduceIte, Bool.true_or, Bool.or_true, Bool.false_or, Bool.or_false, Bool.true_and, Bool.and_true, Bool.false_and, Bool.and_false, Bool.not_true, Bool.not_false]; done)
         | (simp [resOf, evCheckE, *]; done)
         | (simp_all [resOf, evCheckE]; done))
      | skip
  · skip
    refine AW.skip ?_
    refine thenN ?_
    refine AW.seq ?_
    refine AW.region ?_
    refine AOL.p (P_move (v := .sl _ _) rfl) rfl ?_
    refine AOL.p (P_load_ptr_agg (l := [.int .i64 _, .int .i64 _, .int .i64 _, .int .i64 _, _]) tok rfl rfl rfl rfl rfl) rfl ?_
    refine AOL.p (P_callf (by kernel_rfl) rfl rfl (e_valid types e)) rfl ?_
    refine AOL.p (P_assign (v := .int .i64 _) rfl) rfl ?_
    refine AOL.nil ?_
    refine thenN ?_
    refine AW.ret ?_
    refine ⟨.inr rfl, [.int .i64 _], .cons (.tmp _ _ rfl) <| .nil, .refl _, ?_⟩
    try simp only [str0, Bool.and_true] at *
    first
      | (simp only [resOf, evCheckE]; (first | rw [if_neg (Bool.eq_false_iff.mp hc1)] | skip); first | done | rfl)
      | (try simp only [Bool.not_eq_true', Bool.not_eq_false'] at *
         first
         | (simp only [resOf, evCheckE, *, Bool.false_eq_true, ↓reduceIte, Bool.true_or, Bool.or_true, Bool.false_or, Bool.or_false, Bool.true_and, Bool.and_true, Bool.false_and, Bool.and_false, Bool.not_true, Bool.not_false]; done)
         | (simp [resOf, evCheckE, *]; done)
         | (simp_all [resOf, evCheckE]; done))
      | skip
set_option maxRecDepth 20000 in
set_option maxHeartbeats 800000 in
theorem r_Valid (types : List Sc) (hs : ∀ s ∈ types, scOK s) (e : Ev) : APure Try.prog 17 [.sl 2 (types.map cSc), .agg (cEv e)] (.int .i64 (validE types e)) := by
  refine APure.body (n := 83) tok Try.func17 rfl rfl rfl fun H => ?_
  refine AW.seq ?_
  refine AW.region ?_
  refine AOL.p (P_box (v := .agg _) (cs := [.int .i64 _, .int .i64 _, .int .i64 _, .int .i64 _, _]) rfl rfl rfl) rfl ?_
  refine AOL.p (P_assign (v := .int .i64 _) rfl) rfl ?_
  refine AOL.nil ?_
  refine thenN ?_
  refine AW.seq ?_
  refine AW.seq ?_
  refine AW.region ?_
  refine AOL.p (P_fieldAddr_ptr (cs' := [.int .i64 _, .int .i64 _, .int .i64 _, .int .i64 _, _]) tok rfl rfl rfl rfl rfl rfl) rfl ?_
  refine AOL.p (P_load_ptr (c := .int .i64 _) tok rfl rfl rfl) rfl ?_
  refine AOL.p (P_lss rfl rfl) rfl ?_
  refine AOL.p (P_move (v := .bool _) rfl) rfl ?_
  refine AOL.g (y := .ptr _) _ [] rfl (EntL.all trivial) (fun hG => P_fieldAddr_ptr (cs' := [.int .i64 _, .int .i64 _, .int .i64 _, .int .i64 _, _]) tok rfl rfl rfl rfl rfl rfl) rfl ?_
  refine AOL.g (y := .int .i64 _) _ [(12, _)] rfl (EntL.all ⟨Ent.self _ _, trivial⟩) (fun hG => P_load_ptr (c := .int .i64 _) tok rfl rfl rfl) rfl ?_
  refine AOL.g (y := .bool _) _ [(13, _)] rfl (EntL.all ⟨Ent.self _ _, trivial⟩) (fun hG => P_geq rfl rfl) rfl ?_
  refine AOL.p (P_pick_or rfl rfl rfl) rfl ?_
  refine AOL.nil ?_
  refine thenN ?_
  refine AW.cond (b := _) rfl (fun hc1 => ?_) (fun hc1 => ?_)
  · skip
    refine AW.seq ?_
    refine AW.region ?_
    refine AOL.p (P_assign (v := .int .i64 _) rfl) rfl ?_
    refine AOL.nil ?_
    refine thenN ?_
    refine AW.ret ?_
    refine thenR ?_
    refine ⟨.inr rfl, [.int .i64 _], .cons (.tmp _ _ rfl) <| .nil, .refl _, ?_⟩
    have h0 : numbersE e = 32 := by unfold numbersE; rw [if_pos hc1]
    exact congrArg (AV.int .i64) (by unfold validE; rw [h0]; rfl)
  · skip
    have hn0 : (numbersE e != 0) = false ∨ (decide (e.seq < 0) || decide (1099511627776 < e.seq) || decide (e.time < 0) || decide (1099511627776 < e.time)) = true := by
          unfold numbersE; rw [ifF hc1]; cases (decide (e.seq < 0) || decide (1099511627776 < e.seq) || decide (e.time < 0) || decide (1099511627776 < e.time)) <;> simp
    refine AW.skip ?_
    refine thenN ?_
    refine AW.seq ?_
    refine AW.seq ?_
    refine AW.region ?_
    refine AOL.p (P_fieldAddr_ptr (cs' := [.int .i64 _, .int .i64 _, .int .i64 _, _]) tok rfl rfl rfl rfl rfl rfl) rfl ?_
    refine AOL.p (P_load_ptr (c := .int .i64 _) tok rfl rfl rfl) rfl ?_
    refine AOL.p (P_lss rfl rfl) rfl ?_
    refine AOL.p (P_move (v := .bool _) rfl) rfl ?_
    refine AOL.g (y := .ptr _) _ [] rfl (EntL.all trivial) (fun hG => P_fieldAddr_ptr (cs' := [.int .i64 _, .int .i64 _, .int .i64 _, _]) tok rfl rfl rfl rfl rfl rfl) rfl ?_
    refine AOL.g (y := .int .i64 _) _ [(20, _)] rfl (EntL.all ⟨Ent.self _ _, trivial⟩) (fun hG => P_load_ptr (c := .int .i64 _) tok rfl rfl rfl) rfl ?_
    refine AOL.g (y := .bool _) _ [(21, _)] rfl (EntL.all ⟨Ent.self _ _, trivial⟩) (fun hG => P_gtr rfl rfl) rfl ?_
    refine AOL.p (P_pick_or rfl rfl rfl) rfl ?_
    refine AOL.p (P_move (v := .bool _) rfl) rfl ?_
    refine AOL.g (y := .ptr _) _ [] rfl (EntL.all trivial) (fun hG => P_fieldAddr_ptr (cs' := [.int .i64 _, _]) tok rfl rfl rfl rfl rfl rfl) rfl ?_
    refine AOL.g (y := .int .i64 _) _ [(25, _)] rfl (EntL.all ⟨Ent.self _ _, trivial⟩) (fun hG => P_load_ptr (c := .int .i64 _) tok rfl rfl rfl) rfl ?_
    refine AOL.g (y := .bool _) _ [(26, _)] rfl (EntL.all ⟨Ent.self _ _, trivial⟩) (fun hG => P_lss rfl rfl) rfl ?_
    refine AOL.p (P_pick_or rfl rfl rfl) rfl ?_
    refine AOL.p (P_move (v := .bool _) rfl) rfl ?_
    refine AOL.g (y := .ptr _) _ [] rfl (EntL.all trivial) (fun hG => P_fieldAddr_ptr (cs' := [.int .i64 _, _]) tok rfl rfl rfl rfl rfl rfl) rfl ?_
    refine AOL.g (y := .int .i64 _) _ [(30, _)] rfl (EntL.all ⟨Ent.self _ _, trivial⟩) (fun hG => P_load_ptr (c := .int .i64 _) tok rfl rfl rfl) rfl ?_
    refine AOL.g (y := .bool _) _ [(31, _)] rfl (EntL.all ⟨Ent.self _ _, trivial⟩) (fun hG => P_gtr rfl rfl) rfl ?_
    refine AOL.p (P_pick_or rfl rfl rfl) rfl ?_
    refine AOL.nil ?_
    refine thenN ?_
    refine AW.cond (b := _) rfl (fun hc2 => ?_) (fun hc2 => ?_)
    · skip
      refine AW.seq ?_
      refine AW.region ?_
      refine AOL.p (P_assign (v := .int .i64 _) rfl) rfl ?_
      refine AOL.nil ?_
      refine thenN ?_
      refine AW.ret ?_
      refine thenR ?_
      refine ⟨.inr rfl, [.int .i64 _], .cons (.tmp _ _ rfl) <| .nil, .refl _, ?_⟩
      have h0 : numbersE e = 2 := by unfold numbersE; rw [ifF hc1, if_pos hc2]
      exact congrArg (AV.int .i64) (by unfold validE; rw [h0]; rfl)
    · skip
      have hn1 : (numbersE e != 0) = false := hn0.resolve_right (by rw [hc2]; decide)
      refine AW.skip ?_
      refine thenN ?_
      refine AW.seq ?_
      refine AW.seq ?_
      refine AW.region ?_
      refine AOL.p (P_fieldAddr_ptr (cs' := [.int .i64 _, .int .i64 _, _]) tok rfl rfl rfl rfl rfl rfl) rfl ?_
      refine AOL.p (P_load_ptr (c := .int .i64 _) tok rfl rfl rfl) rfl ?_
      refine AOL.p (P_lss rfl rfl) rfl ?_
      refine AOL.p (P_move (v := .bool _) rfl) rfl ?_
      refine AOL.g (y := .ptr _) _ [] rfl (EntL.all trivial) (fun hG => P_fieldAddr_ptr (cs' := [.int .i64 _, .int .i64 _, _]) tok rfl rfl rfl rfl rfl rfl) rfl ?_
      refine AOL.g (y := .int .i64 _) _ [(38, _)] rfl (EntL.all ⟨Ent.self _ _, trivial⟩) (fun hG => P_load_ptr (c := .int .i64 _) tok rfl rfl rfl) rfl ?_
      refine AOL.g (y := .sl _ _) _ [] rfl (EntL.all trivial) (fun hG => P_move (v := .sl _ _) rfl) rfl ?_
      refine AOL.g (y := .int .i64 _) _ [(40, _)] rfl (EntL.all ⟨Ent.self _ _, trivial⟩) (fun hG => P_len_sl (n := types.length) tok rfl rfl rfl (by simp)) rfl ?_
      refine AOL.g (y := .bool _) _ [(39, _), (41, _)] rfl (EntL.all ⟨Ent.self _ _, Ent.self _ _, trivial⟩) (fun hG => P_geq rfl rfl) rfl ?_
      refine AOL.p (P_pick_or rfl rfl rfl) rfl ?_
      refine AOL.nil ?_
      refine thenN ?_
      refine AW.cond (b := _) rfl (fun hc3 => ?_) (fun hc3 => ?_)
      · skip
        refine AW.seq ?_
        refine AW.region ?_
        refine AOL.p (P_assign (v := .int .i64 _) rfl) rfl ?_
        refine AOL.nil ?_
        refine thenN ?_
        refine AW.ret ?_
        refine thenR ?_
        refine ⟨.inr rfl, [.int .i64 _], .cons (.tmp _ _ rfl) <| .nil, .refl _, ?_⟩
        exact congrArg (AV.int .i64) (by unfold validE; rw [ifF hn1, if_pos hc3])
      · skip
        have hty := ty_in hc3
        have hsc : types[e.type.toNat]? = some ((types[e.type.toNat]?).getD sc0) := get_def sc0 hty.2
        refine AW.skip ?_
        refine thenN ?_
        refine AW.seq ?_
        refine AW.region ?_
        refine AOL.p (P_move (v := .sl _ _) rfl) rfl ?_
        refine AOL.p (P_fieldAddr_ptr (cs' := [.int .i64 _, .int .i64 _, _]) tok rfl rfl rfl rfl rfl rfl) rfl ?_
        refine AOL.p (P_load_ptr (c := .int .i64 _) tok rfl rfl rfl) rfl ?_
        refine AOL.p (P_indexAddr (c := [.str _, _]) tok rfl rfl rfl rfl rfl rfl (hty.1) (map_at hsc)) rfl ?_
        refine AOL.p (P_fieldAddr_ptr (cs' := [_]) tok rfl rfl rfl rfl rfl rfl) rfl ?_
        refine AOL.p (P_load_ptr (c := .sl _ _) tok rfl rfl rfl) rfl ?_
        refine AOL.p (P_assign (v := .sl _ _) rfl) rfl ?_
        refine AOL.nil ?_
        refine thenN ?_
        refine AW.seq ?_
        refine AW.seq ?_
        refine AW.region ?_
        refine AOL.p (P_fieldAddr_ptr (cs' := [_]) tok rfl rfl rfl rfl rfl rfl) rfl ?_
        refine AOL.p (P_load_ptr (c := .sl _ _) tok rfl rfl rfl) rfl ?_
        refine AOL.p (P_len_sl (n := e.values.length) tok rfl rfl rfl (by simp)) rfl ?_
        refine AOL.p (P_move (v := .sl _ _) rfl) rfl ?_
        refine AOL.p (P_len_sl (n := (fieldsOf types e).length) tok rfl rfl rfl (by simp [fieldsOf])) rfl ?_
        refine AOL.p (P_neq rfl rfl) rfl ?_
        refine AOL.nil ?_
        refine thenN ?_
        refine AW.cond (b := _) rfl (fun hc4 => ?_) (fun hc4 => ?_)
        · skip
          refine AW.seq ?_
          refine AW.region ?_
          refine AOL.p (P_assign (v := .int .i64 _) rfl) rfl ?_
          refine AOL.nil ?_
          refine thenN ?_
          refine AW.ret ?_
          refine thenR ?_
          refine ⟨.inr rfl, [.int .i64 _], .cons (.tmp _ _ rfl) <| .nil, .refl _, ?_⟩
          exact congrArg (AV.int .i64) (by unfold validE; rw [ifF hn1, ifF hc3, if_pos hc4])
        · skip
          have hfl := len_eq hc4
          have hfb : (fieldsOf types e).length ≤ 1048576 := (hs _ (List.mem_of_getElem? hsc)).2.1
          refine AW.skip ?_
          refine thenN ?_
          refine AW.seq ?_
          refine AW.seq ?_
          refine AW.region ?_
          refine AOL.p (P_assign (v := .int .i64 _) rfl) rfl ?_
          refine AOL.nil ?_
          refine thenN ?_
          refine AW.block ?_
          refine AW.loopS (fun (k : Nat) => (⟨[(3, .ptr (cEv e)), (5, .sl 2 ((fieldsOf types e).map cFi)), (6, .int .i64 (k : Int))], H, 83⟩ : St)) (fun (k : Nat) => k ≤ e.values.length ∧ valsS e.values (fieldsOf types e) = valsS (e.values.drop k) ((fieldsOf types e).drop k)) (fun (k : Nat) => e.values.length - k) (0) ?_ (GS.weaken ⟨rfl, rfl, rfl, trivial⟩ (.refl _)) ?_
          · exact ⟨Nat.zero_le _, rfl⟩
          · rintro k hR
            refine AW.seq ?_
            refine AW.seq ?_
            refine AW.region ?_
            refine AOL.p (P_move (v := .int .i64 _) rfl) rfl ?_
            refine AOL.p (P_move (v := .sl _ _) rfl) rfl ?_
            refine AOL.p (P_len_sl (n := (fieldsOf types e).length) tok rfl rfl rfl (by simp)) rfl ?_
            refine AOL.p (P_lss rfl rfl) rfl ?_
            refine AOL.nil ?_
            refine thenN ?_
            refine AW.cond (b := _) rfl (fun hc5 => ?_) (fun hc5 => ?_)
            · skip
              have hk5 : k < (fieldsOf types e).length := by have := of_decide_eq_true hc5; omega
              obtain ⟨a, ha⟩ := get_lt (l := e.values) (k := k) (by simp; omega)
              have hlt := get_lt' ha
              have hm := List.mem_of_getElem? ha
              have hfk : (fieldsOf types e)[k]? = some (((fieldsOf types e)[k]?).getD fi0) := get_def fi0 (by omega)
              have hstep := vals_drop ha hfk
              refine AW.skip ?_
              refine thenN ?_
              refine AW.seq ?_
              refine AW.block ?_
              refine AW.seq ?_
              refine AW.seq ?_
              refine AW.region ?_
              refine AOL.p (P_fieldAddr_ptr (cs' := [_]) tok rfl rfl rfl rfl rfl rfl) rfl ?_
              refine AOL.p (P_load_ptr (c := .sl _ _) tok rfl rfl rfl) rfl ?_
              refine AOL.p (P_move (v := .int .i64 _) rfl) rfl ?_
              refine AOL.p (P_indexAddr (c := [.int .i64 _, .int .i64 _, .str _]) tok rfl rfl rfl rfl rfl rfl (by omega) (map_at ha)) rfl ?_
              refine AOL.p (P_load_ptr_agg (l := [.int .i64 _, .int .i64 _, .str _]) tok rfl rfl rfl rfl rfl) rfl ?_
              refine AOL.p (P_callf (by kernel_rfl) rfl rfl (c79 a)) rfl ?_
              refine AOL.p (P_assign (v := .int .i64 _) rfl) rfl ?_
              refine AOL.nil ?_
              refine thenN ?_
              refine AW.seq ?_
              refine AW.region ?_
              refine AOL.p (P_move (v := .int .i64 _) rfl) rfl ?_
              refine AOL.p (P_neq rfl rfl) rfl ?_
              refine AOL.nil ?_
              refine thenN ?_
              refine AW.cond (b := _) rfl (fun hc6 => ?_) (fun hc6 => ?_)
              · skip
                refine AW.seq ?_
                refine AW.region ?_
                refine AOL.p (P_move (v := .int .i64 _) rfl) rfl ?_
                refine AOL.p (P_assign (v := .int .i64 _) rfl) rfl ?_
                refine AOL.nil ?_
                refine thenN ?_
                refine AW.ret ?_
                refine thenR ?_
                refine blkR ?_
                refine thenR ?_
                refine thenR ?_
                refine blkR ?_
                refine thenR ?_
                refine ⟨.inr rfl, [.int .i64 _], .cons (.tmp _ _ rfl) <| .nil, .refl _, ?_⟩
                have he : valE a (((fieldsOf types e)[k]?).getD fi0) = vcheckS a := by unfold valE; rw [if_pos hc6]
                exact congrArg (AV.int .i64) (by unfold validE; rw [ifF hn1, ifF hc3, ifF hc4, hR.2, hstep, he, if_pos hc6])
              · skip
                refine AW.skip ?_
                refine thenN ?_
                refine AW.seq ?_
                refine AW.draw mixed (fun _ => True) trivial (by kernel_rfl) ?_
                refine Canon.pure _ _ 0 _ _ rfl (by kernel_rfl) (by kernel_rfl) rfl (.run rfl (P_fieldAddr_ptr (cs' := [_]) tok rfl rfl rfl rfl rfl rfl)) ?_
                refine Canon.pure _ _ 1 _ _ rfl (by kernel_rfl) (by kernel_rfl) rfl (.run rfl (P_load_ptr (c := .sl _ _) tok rfl rfl rfl)) ?_
                refine Canon.pure _ _ 2 _ _ rfl (by kernel_rfl) (by kernel_rfl) rfl (.run rfl (P_move (v := .int .i64 _) rfl)) ?_
                refine Canon.pure _ _ 3 _ _ rfl (by kernel_rfl) (by kernel_rfl) rfl (.run rfl (P_indexAddr (c := [.int .i64 _, .int .i64 _, .str _]) tok rfl rfl rfl rfl rfl rfl (by omega) (map_at ha))) ?_
                refine Canon.pure _ _ 4 _ _ rfl (by kernel_rfl) (by kernel_rfl) rfl (.run rfl (P_fieldAddr_ptr (cs' := [.int .i64 _, .int .i64 _, .str _]) tok rfl rfl rfl rfl rfl rfl)) ?_
                refine Canon.pure _ _ 5 _ _ rfl (by kernel_rfl) (by kernel_rfl) rfl (.run rfl (P_load_ptr (c := .int .i64 _) tok rfl rfl rfl)) ?_
                refine Canon.pure _ _ 6 _ _ rfl (by kernel_rfl) (by kernel_rfl) rfl (.run rfl (P_move (v := .sl _ _) rfl)) ?_
                refine Canon.pure _ _ 7 _ _ rfl (by kernel_rfl) (by kernel_rfl) rfl (.run rfl (P_move (v := .int .i64 _) rfl)) ?_
                refine Canon.pure _ _ 8 _ _ rfl (by kernel_rfl) (by kernel_rfl) rfl (.run rfl (P_indexAddr (c := [.str _, .int .i64 _]) tok rfl rfl rfl rfl rfl rfl (by omega) (map_at hfk))) ?_
                refine Canon.pure _ _ 9 _ _ rfl (by kernel_rfl) (by kernel_rfl) rfl (.run rfl (P_fieldAddr_ptr (cs' := [.int .i64 _]) tok rfl rfl rfl rfl rfl rfl)) ?_
                refine Canon.pure _ _ 10 _ _ rfl (by kernel_rfl) (by kernel_rfl) rfl (.run rfl (P_load_ptr (c := .int .i64 _) tok rfl rfl rfl)) ?_
                refine Canon.pure _ _ 11 _ _ rfl (by kernel_rfl) (by kernel_rfl) rfl (.run rfl (P_neq rfl rfl)) ?_
                refine Canon.done _ _ (by kernel_rfl) ?_
                refine thenN ?_
                refine AW.cond (b := _) rfl (fun hc7 => ?_) (fun hc7 => ?_)
                · skip
                  refine AW.seq ?_
                  refine AW.region ?_
                  refine AOL.p (P_assign (v := .int .i64 _) rfl) rfl ?_
                  refine AOL.nil ?_
                  refine thenN ?_
                  refine AW.ret ?_
                  refine blkR ?_
                  refine thenR ?_
                  refine thenR ?_
                  refine blkR ?_
                  refine thenR ?_
                  refine ⟨.inr rfl, [.int .i64 _], .cons (.tmp _ _ rfl) <| .nil, .refl _, ?_⟩
                  have he : valE a (((fieldsOf types e)[k]?).getD fi0) = 9 := by unfold valE; rw [ifF hc6, if_pos hc7]
                  exact congrArg (AV.int .i64) (by unfold validE; rw [ifF hn1, ifF hc3, ifF hc4, hR.2, hstep, he]; rfl)
                · skip
                  refine AW.skip ?_
                  refine blkN ?_
                  refine thenN ?_
                  refine AW.region ?_
                  refine AOL.p (P_move (v := .int .i64 _) rfl) rfl ?_
                  refine AOL.p (P_add rfl rfl rfl (by constructor <;> omega)) rfl ?_
                  refine AOL.p (P_assign (v := .int .i64 _) rfl) rfl ?_
                  refine AOL.nil ?_
                  refine thenN ?_
                  refine ⟨k + 1, ?_, ?_, GS.weaken ⟨rfl, rfl, rfl, trivial⟩ (.refl _)⟩
                  · exact ⟨hlt, by rw [hR.2, hstep, if_neg]; unfold valE; rw [ifF hc6, ifF hc7]; decide⟩
                  · omega
            · skip
              have hd := get_end hc5
              refine AW.exit ?_
              refine thenE ?_
              refine thenE ?_
              refine blkHit ?_
              refine thenN ?_
              refine AW.seq ?_
              refine AW.region ?_
              refine AOL.p (P_assign (v := .int .i64 _) rfl) rfl ?_
              refine AOL.nil ?_
              refine thenN ?_
              refine AW.ret ?_
              refine ⟨.inr rfl, [.int .i64 _], .cons (.tmp _ _ rfl) <| .nil, .refl _, ?_⟩
              exact congrArg (AV.int .i64) (by unfold validE; rw [ifF hn1, ifF hc3, ifF hc4, hR.2, hd, vals_end2])
set_option maxRecDepth 20000 in
set_option maxHeartbeats 400000 in
theorem r_Check (types : List Sc) (hl : types.length ≤ 1048576) (hs : ∀ s ∈ types, scOK s) (e : Ev) : APure Try.prog 7 [.sl 2 (types.map cSc), .agg (cEv e)] (.int .i64 (evCheckE types e)) := by
  refine APure.body (n := 14) tok Try.func7 rfl rfl rfl fun H => ?_
  refine AW.seq ?_
  refine AW.region ?_
  refine AOL.p (P_box (v := .agg _) (cs := [.int .i64 _, .int .i64 _, .int .i64 _, .int .i64 _, _]) rfl rfl rfl) rfl ?_
  refine AOL.p (P_assign (v := .int .i64 _) rfl) rfl ?_
  refine AOL.nil ?_
  refine thenN ?_
  refine AW.seq ?_
  refine AW.seq ?_
  refine AW.region ?_
  refine AOL.p (P_move (v := .sl _ _) rfl) rfl ?_
  refine AOL.p (P_callf (by kernel_rfl) rfl rfl (c59 types hl hs)) rfl ?_
  refine AOL.p (P_assign (v := .int .i64 _) rfl) rfl ?_
  refine AOL.nil ?_
  refine thenN ?_
  refine AW.seq ?_
  refine AW.region ?_
  refine AOL.p (P_move (v := .int .i64 _) rfl) rfl ?_
  refine AOL.p (P_neq rfl rfl) rfl ?_
  refine AOL.nil ?_
  refine thenN ?_
  refine AW.cond (b := _) rfl (fun hc1 => ?_) (fun hc1 => ?_)
  · skip
    refine AW.seq ?_
    refine AW.region ?_
    refine AOL.p (P_move (v := .int .i64 _) rfl) rfl ?_
    refine AOL.p (P_assign (v := .int .i64 _) rfl) rfl ?_
    refine AOL.nil ?_
    refine thenN ?_
    refine AW.ret ?_
    refine thenR ?_
    refine ⟨.inr rfl, [.int .i64 _], .cons (.tmp _ _ rfl) <| .nil, .refl _, ?_⟩
    try simp only [str0, Bool.and_true] at *
    first
      | (simp only [resOf, evCheckE]; (first | rw [if_pos hc1] | skip); first | done | rfl)
      | (try simp only [Bool.not_eq_true', Bool.not_eq_false'] at *
         first
         | (simp only [resOf, evCheckE, *, Bool.false_eq_true, ↓reduceIte, Bool.true_or, Bool.or_true, Bool.false_or, Bool.or_false, Bool.true_and, Bool.and_true, Bool.false_and, Bool.and_false, Bool.not_true, Bool.not_false]; done)
         | (simp [resOf, evCheckE, *]; done)
         | (simp_all [resOf, evCheckE]; done))
      | skip
  · skip
    refine AW.skip ?_
    refine thenN ?_
    refine AW.seq ?_
    refine AW.region ?_
    refine AOL.p (P_move (v := .sl _ _) rfl) rfl ?_
    refine AOL.p (P_load_ptr_agg (l := [.int .i64 _, .int .i64 _, .int .i64 _, .int .i64 _, _]) tok rfl rfl rfl rfl rfl) rfl ?_
    refine AOL.p (P_callf (by kernel_rfl) rfl rfl (r_Valid types hs e)) rfl ?_
    refine AOL.p (P_assign (v := .int .i64 _) rfl) rfl ?_
    refine AOL.nil ?_
    refine thenN ?_
    refine AW.ret ?_
    refine ⟨.inr rfl, [.int .i64 _], .cons (.tmp _ _ rfl) <| .nil, .refl _, ?_⟩
    try simp only [str0, Bool.and_true] at *
    first
      | (simp only [resOf, evCheckE]; (first | rw [if_neg (Bool.eq_false_iff.mp hc1)] | skip); first | done | rfl)
      | (try simp only [Bool.not_eq_true', Bool.not_eq_false'] at *
         first
         | (simp only [resOf, evCheckE, *, Bool.false_eq_true, ↓reduceIte, Bool.true_or, Bool.or_true, Bool.false_or, Bool.or_false, Bool.true_and, Bool.and_true, Bool.false_and, Bool.and_false, Bool.not_true, Bool.not_false]; done)
         | (simp [resOf, evCheckE, *]; done)
         | (simp_all [resOf, evCheckE]; done))
      | skip
set_option maxRecDepth 20000 in
set_option maxHeartbeats 800000 in
theorem r_CheckKey (types : List Sc) (hl : types.length ≤ 1048576) (key : List Int) : APure Try.prog 6 [.sl 2 (types.map cSc), .sl 1 (key.map cI)] (.int .i64 (ckeyE types key)) := by
  refine APure.body (n := 38) tok Try.func6 rfl rfl rfl fun H => ?_
  refine AW.seq ?_
  refine AW.region ?_
  refine AOL.p (P_assign (v := .int .i64 _) rfl) rfl ?_
  refine AOL.nil ?_
  refine thenN ?_
  refine AW.seq ?_
  refine AW.seq ?_
  refine AW.region ?_
  refine AOL.p (P_move (v := .sl _ _) rfl) rfl ?_
  refine AOL.p (P_len_sl (n := key.length) tok rfl rfl rfl (by simp)) rfl ?_
  refine AOL.p (P_eql rfl rfl) rfl ?_
  refine AOL.nil ?_
  refine thenN ?_
  refine AW.cond (b := _) rfl (fun hc1 => ?_) (fun hc1 => ?_)
  · skip
    refine AW.seq ?_
    refine AW.region ?_
    refine AOL.p (P_assign (v := .int .i64 _) rfl) rfl ?_
    refine AOL.nil ?_
    refine thenN ?_
    refine AW.ret ?_
    refine thenR ?_
    refine ⟨.inr rfl, [.int .i64 _], .cons (.tmp _ _ rfl) <| .nil, .refl _, ?_⟩
    exact congrArg (AV.int .i64) (by unfold ckeyE; rw [if_pos hc1])
  · skip
    refine AW.skip ?_
    refine thenN ?_
    refine AW.seq ?_
    refine AW.seq ?_
    refine AW.region ?_
    refine AOL.p (P_move (v := .sl _ _) rfl) rfl ?_
    refine AOL.p (P_len_sl (n := key.length) tok rfl rfl rfl (by simp)) rfl ?_
    refine AOL.p (P_move (v := .sl _ _) rfl) rfl ?_
    refine AOL.p (P_len_sl (n := types.length) tok rfl rfl rfl (by simp)) rfl ?_
    refine AOL.p (P_neq rfl rfl) rfl ?_
    refine AOL.nil ?_
    refine thenN ?_
    refine AW.cond (b := _) rfl (fun hc2 => ?_) (fun hc2 => ?_)
    · skip
      refine AW.seq ?_
      refine AW.region ?_
      refine AOL.p (P_assign (v := .int .i64 _) rfl) rfl ?_
      refine AOL.nil ?_
      refine thenN ?_
      refine AW.ret ?_
      refine thenR ?_
      refine ⟨.inr rfl, [.int .i64 _], .cons (.tmp _ _ rfl) <| .nil, .refl _, ?_⟩
      exact congrArg (AV.int .i64) (by unfold ckeyE; rw [ifF hc1, if_pos hc2])
    · skip
      have hkl := len_eq hc2
      refine AW.skip ?_
      refine thenN ?_
      refine AW.seq ?_
      refine AW.seq ?_
      refine AW.region ?_
      refine AOL.p (P_assign (v := .int .i64 _) rfl) rfl ?_
      refine AOL.nil ?_
      refine thenN ?_
      refine AW.block ?_
      refine AW.loopS (fun (k : Nat) => (⟨[(0, .sl 2 (types.map cSc)), (1, .sl 1 (key.map cI)), (5, .int .i64 (k : Int))], H, 38⟩ : St)) (fun (k : Nat) => k ≤ key.length ∧ keysS key types = keysS (key.drop k) (types.drop k)) (fun (k : Nat) => key.length - k) (0) ?_ (GS.weaken ⟨rfl, rfl, rfl, trivial⟩ (.refl _)) ?_
      · exact ⟨Nat.zero_le _, rfl⟩
      · rintro k hR
        refine AW.seq ?_
        refine AW.seq ?_
        refine AW.region ?_
        refine AOL.p (P_move (v := .int .i64 _) rfl) rfl ?_
        refine AOL.p (P_move (v := .sl _ _) rfl) rfl ?_
        refine AOL.p (P_len_sl (n := key.length) tok rfl rfl rfl (by simp)) rfl ?_
        refine AOL.p (P_lss rfl rfl) rfl ?_
        refine AOL.nil ?_
        refine thenN ?_
        refine AW.cond (b := _) rfl (fun hc3 => ?_) (fun hc3 => ?_)
        · skip
          obtain ⟨a, ha⟩ := get_lt hc3
          have hlt := get_lt' ha
          have hm := List.mem_of_getElem? ha
          have hsk : types[k]? = some ((types[k]?).getD sc0) := get_def sc0 (by omega)
          have hstep := keys_drop ha hsk
          refine AW.skip ?_
          refine thenN ?_
          refine AW.seq ?_
          refine AW.block ?_
          refine AW.seq ?_
          refine AW.draw mixed (fun _ => True) trivial (by kernel_rfl) ?_
          refine Canon.pure _ _ 0 _ _ rfl (by kernel_rfl) (by kernel_rfl) rfl (.run rfl (P_move (v := .sl _ _) rfl)) ?_
          refine Canon.pure _ _ 1 _ _ rfl (by kernel_rfl) (by kernel_rfl) rfl (.run rfl (P_move (v := .int .i64 _) rfl)) ?_
          refine Canon.pure _ _ 2 _ _ rfl (by kernel_rfl) (by kernel_rfl) rfl (.run rfl (P_indexAddr (c := [.int .i64 _]) tok rfl rfl rfl rfl rfl rfl (by omega) (map_at ha))) ?_
          refine Canon.pure _ _ 3 _ _ rfl (by kernel_rfl) (by kernel_rfl) rfl (.run rfl (P_load_ptr (c := .int .i64 _) tok rfl rfl rfl)) ?_
          refine Canon.pure _ _ 4 _ _ rfl (by kernel_rfl) (by kernel_rfl) rfl (.run rfl (P_lss rfl rfl)) ?_
          refine Canon.pure _ _ 5 _ _ rfl (by kernel_rfl) (by kernel_rfl) rfl (.run rfl (P_move (v := .bool _) rfl)) ?_
          refine Canon.pure _ _ 6 _ _ rfl (by kernel_rfl) (by kernel_rfl) rfl (.opt _ (.sl _ _) [] rfl (EntL.all trivial) (fun hG => P_move (v := .sl _ _) rfl) rfl) ?_
          refine Canon.pure _ _ 7 _ _ rfl (by kernel_rfl) (by kernel_rfl) rfl (.opt _ (.int .i64 _) [] rfl (EntL.all trivial) (fun hG => P_move (v := .int .i64 _) rfl) rfl) ?_
          refine Canon.pure _ _ 8 _ _ rfl (by kernel_rfl) (by kernel_rfl) rfl (.opt _ (.ptr _) [(26, _), (27, _)] rfl (EntL.all ⟨Ent.self _ _, Ent.self _ _, trivial⟩) (fun hG => P_indexAddr (c := [.int .i64 _]) tok rfl rfl rfl rfl rfl rfl (by omega) (map_at ha)) rfl) ?_
          refine Canon.pure _ _ 9 _ _ rfl (by kernel_rfl) (by kernel_rfl) rfl (.opt _ (.int .i64 _) [(28, _)] rfl (EntL.all ⟨Ent.self _ _, trivial⟩) (fun hG => P_load_ptr (c := .int .i64 _) tok rfl rfl rfl) rfl) ?_
          refine Canon.pure _ _ 10 _ _ rfl (by kernel_rfl) (by kernel_rfl) rfl (.opt _ (.sl _ _) [] rfl (EntL.all trivial) (fun hG => P_move (v := .sl _ _) rfl) rfl) ?_
          refine Canon.pure _ _ 11 _ _ rfl (by kernel_rfl) (by kernel_rfl) rfl (.opt _ (.int .i64 _) [] rfl (EntL.all trivial) (fun hG => P_move (v := .int .i64 _) rfl) rfl) ?_
          refine Canon.pure _ _ 12 _ _ rfl (by kernel_rfl) (by kernel_rfl) rfl (.opt _ (.ptr _) [(30, _), (31, _)] rfl (EntL.all ⟨Ent.self _ _, Ent.self _ _, trivial⟩) (fun hG => P_indexAddr (c := [.str _, _]) tok rfl rfl rfl rfl rfl rfl (by omega) (map_at hsk)) rfl) ?_
          refine Canon.pure _ _ 13 _ _ rfl (by kernel_rfl) (by kernel_rfl) rfl (.opt _ (.ptr _) [(32, _)] rfl (EntL.all ⟨Ent.self _ _, trivial⟩) (fun hG => P_fieldAddr_ptr (cs' := [_]) tok rfl rfl rfl rfl rfl rfl) rfl) ?_
          refine Canon.pure _ _ 14 _ _ rfl (by kernel_rfl) (by kernel_rfl) rfl (.opt _ (.sl _ _) [(33, _)] rfl (EntL.all ⟨Ent.self _ _, trivial⟩) (fun hG => P_load_ptr (c := .sl _ _) tok rfl rfl rfl) rfl) ?_
          refine Canon.pure _ _ 15 _ _ rfl (by kernel_rfl) (by kernel_rfl) rfl (.opt _ (.int .i64 _) [(34, _)] rfl (EntL.all ⟨Ent.self _ _, trivial⟩) (fun hG => P_len_sl (n := ((types[k]?).getD sc0).fields.length) tok rfl rfl rfl (by simp)) rfl) ?_
          refine Canon.pure _ _ 16 _ _ rfl (by kernel_rfl) (by kernel_rfl) rfl (.opt _ (.bool _) [(29, _), (35, _)] rfl (EntL.all ⟨Ent.self _ _, Ent.self _ _, trivial⟩) (fun hG => P_geq rfl rfl) rfl) ?_
          refine Canon.pure _ _ 17 _ _ rfl (by kernel_rfl) (by kernel_rfl) rfl (.run rfl (P_pick_or rfl rfl rfl)) ?_
          refine Canon.done _ _ (by kernel_rfl) ?_
          refine thenN ?_
          refine AW.cond (b := _) rfl (fun hc4 => ?_) (fun hc4 => ?_)
          · skip
            refine AW.seq ?_
            refine AW.region ?_
            refine AOL.p (P_assign (v := .int .i64 _) rfl) rfl ?_
            refine AOL.nil ?_
            refine thenN ?_
            refine AW.ret ?_
            refine blkR ?_
            refine thenR ?_
            refine thenR ?_
            refine blkR ?_
            refine thenR ?_
            refine ⟨.inr rfl, [.int .i64 _], .cons (.tmp _ _ rfl) <| .nil, .refl _, ?_⟩
            have he : keyE a ((types[k]?).getD sc0) = 16 := by unfold keyE; rw [if_pos hc4]
            exact congrArg (AV.int .i64) (by unfold ckeyE; rw [ifF hc1, ifF hc2, hR.2, hstep, he]; rfl)
          · skip
            refine AW.skip ?_
            refine blkN ?_
            refine thenN ?_
            refine AW.region ?_
            refine AOL.p (P_move (v := .int .i64 _) rfl) rfl ?_
            refine AOL.p (P_add rfl rfl rfl (by constructor <;> omega)) rfl ?_
            refine AOL.p (P_assign (v := .int .i64 _) rfl) rfl ?_
            refine AOL.nil ?_
            refine thenN ?_
            refine ⟨k + 1, ?_, ?_, GS.weaken ⟨rfl, rfl, rfl, trivial⟩ (.refl _)⟩
            · exact ⟨hlt, by rw [hR.2, hstep, if_neg]; unfold keyE; rw [ifF hc4]; decide⟩
            · omega
        · skip
          have hd := get_end hc3
          refine AW.exit ?_
          refine thenE ?_
          refine thenE ?_
          refine blkHit ?_
          refine thenN ?_
          refine AW.seq ?_
          refine AW.region ?_
          refine AOL.p (P_assign (v := .int .i64 _) rfl) rfl ?_
          refine AOL.nil ?_
          refine thenN ?_
          refine AW.ret ?_
          refine ⟨.inr rfl, [.int .i64 _], .cons (.tmp _ _ rfl) <| .nil, .refl _, ?_⟩
          exact congrArg (AV.int .i64) (by unfold ckeyE; rw [ifF hc1, ifF hc2, hR.2, hd, keys_end])

end Go.Proofs.Ytfpbgdjloccdbaa
