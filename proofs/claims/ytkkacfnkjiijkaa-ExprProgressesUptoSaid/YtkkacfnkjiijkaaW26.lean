/-
  Walks of layer 8: environments that suit. No condition.
-/
import Derived.Test.YtkkacfnkjiijkaaW25
import Derived.Test.YtkkacfnkjiijkaaM11
import Derived.KernelRfl
namespace Go.Proofs.Ytkkacfnkjiijkaa
open Go Go.Aw
set_option linter.unusedVariables false
set_option linter.unusedSimpArgs false

theorem enc_len {m : Int} (h : 97 ≤ m ∧ m ≤ 99) : (Utf8.encode m).data.toList.length = 1 := by
  have h3 : m = 97 ∨ m = 98 ∨ m = 99 := by omega
  rcases h3 with rfl | rfl | rfl <;> decide
theorem good_int {k : Int} (h : -128 ≤ k ∧ k ≤ 127) : Good ⟨0, k, []⟩ 0 := by
  refine ⟨rfl, ?_⟩
  unfold vcheckS vsizeS
  simp; omega
theorem good_flag (b : Bool) : Good (flagS b) 1 := ⟨flag_kind b, flag_ok b⟩
theorem good_str {t : List UInt8} (h : t.length = 1) : Good ⟨2, 0, t⟩ 2 := by
  refine ⟨rfl, ?_⟩
  unfold vcheckS vsizeS
  simp [h]
/-- the values laid up to k -/
def SU (s : Sc) (es : List (List AV)) (k : Nat) : Prop := ∃ vs : List Vl, es = vs.map cV ∧ vs.length = k ∧ ∀ (i : Nat) (f : Fi), i < k → s.fields[i]? = some f → ∃ w, vs[i]? = some w ∧ Good w f.kind
theorem SU_next {s : Sc} {es : List (List AV)} {k : Nat} {f : Fi} {w : Vl} (h : SU s es k) (hf : s.fields[k]? = some f) (hw : Good w f.kind) : SU s (es ++ [cV w]) (k + 1) := by
  obtain ⟨vs, h1, h2, h3⟩ := h
  refine ⟨vs ++ [w], by simp [h1], by simp [h2], fun i g hi hg => ?_⟩
  by_cases e : i < k
  · obtain ⟨u, hu, hgu⟩ := h3 i g e hg
    exact ⟨u, by rw [List.getElem?_append_left (by omega)]; exact hu, hgu⟩
  · have : i = k := by omega
    subst this
    rw [hf] at hg; cases hg
    exact ⟨w, by rw [List.getElem?_append_right (by omega)]; simp [h2], hw⟩
theorem SU_len {s : Sc} {es : List (List AV)} {k : Nat} (h : SU s es k) : es.length = k := by obtain ⟨vs, h1, h2, _⟩ := h; rw [h1, List.length_map, h2]
theorem SU_sc {s : Sc} {es : List (List AV)} {k : Nat} (h : SU s es k) : ∀ c ∈ es, scalars c = true := by obtain ⟨vs, h1, _⟩ := h; rw [h1]; exact sc_map fun _ => rfl
def SE (types : List Sc) (vars : List Va) (es : List (List AV)) (k : Nat) : Prop := ∃ env : List (List Ev), es = env.map cEvs ∧ env.length = k ∧ (∀ l ∈ env, l.length ≤ 1048576) ∧
  ∀ (i : Nat) (v : Va), i < k → vars[i]? = some v → ∃ s ev, types[v.type.toNat]? = some s ∧ env[i]? = some [ev] ∧ SuitEv s ev
theorem SE_next {types : List Sc} {vars : List Va} {es : List (List AV)} {k : Nat} {v : Va} {s : Sc} {ev : Ev} (h : SE types vars es k) (hv : vars[k]? = some v) (hs : types[v.type.toNat]? = some s) (he : SuitEv s ev) : SE types vars (es ++ [cEvs [ev]]) (k + 1) := by
  obtain ⟨env, h1, h2, h2', h3⟩ := h
  refine ⟨env ++ [[ev]], by simp [h1], by simp [h2], ?_, fun i u hi hu => ?_⟩
  · intro l hl
    rcases List.mem_append.1 hl with hl | hl
    · exact h2' l hl
    · simp at hl; rw [hl]; simp
  · by_cases e : i < k
    · obtain ⟨s', ev', g1, g2, g3⟩ := h3 i u e hu
      exact ⟨s', ev', g1, by rw [List.getElem?_append_left (by omega)]; exact g2, g3⟩
    · have : i = k := by omega
      subst this
      rw [hv] at hu; cases hu
      exact ⟨s, ev, hs, by rw [List.getElem?_append_right (by omega)]; simp [h2], he⟩
theorem SE_len {types : List Sc} {vars : List Va} {es : List (List AV)} {k : Nat} (h : SE types vars es k) : es.length = k := by obtain ⟨vs, h1, h2, _⟩ := h; rw [h1, List.length_map, h2]
theorem SE_sc {types : List Sc} {vars : List Va} {es : List (List AV)} {k : Nat} (h : SE types vars es k) : ∀ c ∈ es, scalars c = true := by obtain ⟨vs, h1, _⟩ := h; rw [h1]; exact sc_map fun _ => rfl
theorem short_of {types : List Sc} {vars : List Va} (h : shortS types vars = true) : types.length ≤ 20 ∧ vars.length ≤ 20 ∧ ∀ s ∈ types, s.fields.length ≤ 12 := by
  unfold shortS at h
  simp only [Bool.and_eq_true, decide_eq_true_eq, Bool.not_eq_true'] at h
  have hl : types.length ≤ 20 := by omega
  refine ⟨hl, by omega, fun s hs => ?_⟩
  have h1 := h.1
  rw [List.take_of_length_le (by omega)] at h1
  refine Nat.le_of_not_lt fun hlt => ?_
  have : (types.any fun s => decide (12 < (s.fields.length : Int))) = true := List.any_eq_true.2 ⟨s, hs, by simp; omega⟩
  rw [h1] at this; cases this
def kindsOK (types : List Sc) : Prop := ∀ s ∈ types, ∀ f ∈ s.fields, f.kind = 0 ∨ f.kind = 1 ∨ f.kind = 2
theorem fields_kinds : ∀ (l : List Fi) (seen : List (List UInt8)), fieldsS seen l = 0 → ∀ f ∈ l, f.kind = 0 ∨ f.kind = 1 ∨ f.kind = 2
  | [], _, _, _, h => by cases h
  | g :: r, seen, h, f, hf => by
    have h0 : fieldE seen g = 0 := by
      rw [fieldsS] at h
      by_cases e : fieldE seen g = 0
      · exact e
      · rw [if_pos (by simpa using e)] at h; exact absurd h e
    rw [fields_step h0] at h
    rcases List.mem_cons.1 hf with rfl | hf
    · unfold fieldE at h0
      split at h0
      · cases h0
      split at h0
      · cases h0
      split at h0
      · cases h0
      · rename_i hk; simp at hk; omega
    · exact fields_kinds r _ h f hf
theorem types_kinds : ∀ (l : List Sc) (seen : List (List UInt8)), typesS seen l = 0 → kindsOK l
  | [], _, _, _, h => by cases h
  | s :: r, seen, h, u, hu => by
    have h0 : typeE seen s = 0 := by
      rw [typesS] at h
      by_cases e : typeE seen s = 0
      · exact e
      · rw [if_pos (by simpa using e)] at h; exact absurd h e
    rw [types_step h0] at h
    rcases List.mem_cons.1 hu with rfl | hu
    · have h1 : schS u = 0 := by
        unfold typeE at h0
        by_cases e : schS u = 0
        · exact e
        · rw [if_pos (by simpa using e)] at h0; exact absurd h0 e
      unfold schS at h1
      split at h1
      · cases h1
      split at h1
      · cases h1
      exact fields_kinds _ _ h1
    · exact types_kinds r _ h u hu
theorem all_kinds {l : List Sc} (h : allTS l = 0) : kindsOK l := by
  unfold allTS at h
  split at h
  · cases h
  · exact types_kinds _ _ h
def cNs (l : List Int) : List (List AV) := l.map fun k => [AV.int .i8 k]
theorem tmod3 {k : Int} (h : -128 ≤ k ∧ k ≤ 127) : 97 ≤ 97 + (k + 128).tmod 3 ∧ 97 + (k + 128).tmod 3 ≤ 99 := by
  have h1 := Int.tmod_nonneg (a := k + 128) 3 (by omega)
  have h2 := Int.tmod_lt_of_pos (k + 128) (b := 3) (by omega)
  omega

set_option maxRecDepth 20000 in
set_option maxHeartbeats 3200000 in
theorem c33 (types : List Sc) (vars : List Va) (hty : TyOK8 types vars) (hsh : shortS types vars = true) (hko : kindsOK types) (ns : List Int) (hns : ∀ x ∈ ns, -128 ≤ x ∧ x ≤ 127) (hnl : ns.length ≤ 1048576) (H : List HO) : ACall Try.prog 33 H [.sl 2 (types.map cSc), .sl 2 (vars.map cVa), .sl 1 (cNs ns)] (fun r H' => ∃ env, r = .agg (cEnv env) ∧ Suits types vars env ∧ (∀ l ∈ env, l.length ≤ 1048576) ∧ H' = H) := by
  have hML : 1048576 ≤ maxLen := by decide
  have hso := short_of hsh
  refine ACall.body (n := 100) tok Try.func33 rfl rfl rfl ?_
  refine AW.seq ?_
  refine AW.region ?_
  refine AOL.e (E_alloc (l := [.sl 1 []]) (by kernel_rfl)) rfl ?_
  rintro _ _ ⟨b6, rfl, rfl⟩
  refine AOL.nil ?_
  refine thenN ?_
  refine AW.seq ?_
  refine AW.region ?_
  refine AOL.e (E_alloc (l := [.val (.slice none 0 0)]) (by kernel_rfl)) rfl ?_
  rintro _ _ ⟨b7, rfl, rfl⟩
  refine AOL.ghost (GS.cellRow 0 0 60 1 rfl rfl rfl rfl) ?_
  refine AOL.nil ?_
  refine thenN ?_
  refine AW.seq ?_
  refine AW.region ?_
  refine AOL.p (P_assign (v := .int .i64 _) rfl) rfl ?_
  refine AOL.nil ?_
  refine thenN ?_
  refine AW.seq ?_
  refine AW.seq ?_
  refine AW.region ?_
  refine AOL.p (P_assign (v := .int .i64 _) rfl) rfl ?_
  refine AOL.nil ?_
  refine thenN ?_
  refine AW.block ?_
  refine AW.loopS (fun (p : Nat × List (List AV) × Value × Int) => (⟨[(0, .sl 2 (types.map cSc)), (1, .sl 2 (vars.map cVa)), (2, .sl 1 (cNs ns)), (6, .val (.pointer (some ⟨b6, 0, none⟩))), (7, .val (.pointer (some ⟨b7, 0, none⟩))), (8, .int .i64 p.2.2.2), (9, .int .i64 (p.1 : Int))], .row p.2.2.1 p.2.1.length 60 1 :: .box b7 29 [.row p.2.2.1 1 p.2.1] :: .box b6 29 [.sl 1 []] :: H, 100⟩ : St)) (fun (p : Nat × List (List AV) × Value × Int) => p.1 ≤ vars.length ∧ SE types vars p.2.1 p.1 ∧ 0 ≤ p.2.2.2 ∧ p.2.2.2 ≤ 12 * (p.1 : Int)) (fun (p : Nat × List (List AV) × Value × Int) => vars.length - p.1) ((0, [], .slice none 0 0, 0)) ?_ (GS.weaken ⟨rfl, rfl, rfl, rfl, rfl, rfl, rfl, trivial⟩ (.refl _)) ?_
  · exact ⟨Nat.zero_le _, ⟨[], rfl, rfl, by simp, fun i v h => absurd h (Nat.not_lt_zero _)⟩, by simp, by simp⟩
  · rintro p hR
    refine AW.seq ?_
    refine AW.seq ?_
    refine AW.region ?_
    refine AOL.p (P_move (v := .int .i64 _) rfl) rfl ?_
    refine AOL.p (P_move (v := .sl _ _) rfl) rfl ?_
    refine AOL.p (P_len_sl (n := vars.length) tok rfl rfl rfl (by simp)) rfl ?_
    refine AOL.p (P_lss rfl rfl) rfl ?_
    refine AOL.nil ?_
    refine thenN ?_
    refine AW.cond (b := _) rfl (fun hc1 => ?_) (fun hc1 => ?_)
    · skip
      obtain ⟨a, ha⟩ := get_lt hc1
      have hlt := get_lt' ha
      have hat := hty a (List.mem_of_getElem? ha)
      refine (get_int (l := types) hat.1 hat.2).elim fun s hs => ?_
      have hsm := List.mem_of_getElem? hs
      have hsf := hso.2.2 s hsm
      refine AW.skip ?_
      refine thenN ?_
      refine AW.seq ?_
      refine AW.block ?_
      refine AW.seq ?_
      refine AW.region ?_
      refine AOL.p (P_move (v := .int .i64 _) rfl) rfl ?_
      refine AOL.p (P_move (v := .sl _ _) rfl) rfl ?_
      refine AOL.p (P_move (v := .int .i64 _) rfl) rfl ?_
      refine AOL.p (P_indexAddr (c := [.str _, .int .i64 _]) tok rfl rfl rfl rfl rfl rfl (by omega) (map_at ha)) rfl ?_
      refine AOL.p (P_fieldAddr_ptr (cs' := [.int .i64 _]) tok rfl rfl rfl rfl rfl rfl) rfl ?_
      refine AOL.p (P_load_ptr (c := .int .i64 _) tok rfl rfl rfl) rfl ?_
      refine AOL.p (P_buildZ (l0 := [.int .i64 0, .int .i64 0, .int .i64 0, .int .i64 0, .val (.slice none 0 0)]) (l := [.int .i64 _, .int .i64 _, .int .i64 _, .int .i64 _, _]) tok rfl rfl (by kernel_rfl) rfl) rfl ?_
      refine AOL.e (E_alloc (l := [.int .i64 0, .int .i64 0, .int .i64 0, .int .i64 0, .sl 3 []]) (by kernel_rfl)) rfl ?_
      rintro _ _ ⟨b10, rfl, rfl⟩
      refine AOL.e (E_store (k := 0) (v := .agg _) (cs' := [.int .i64 _, .int .i64 _, .int .i64 _, .int .i64 _, _]) (H2 := _ :: _ :: _ :: _ :: _) tok rfl rfl rfl rfl rfl rfl rfl rfl rfl) rfl ?_
      rintro _ _ ⟨rfl, rfl⟩
      refine AOL.ghost (GS.cellRow 0 4 24 3 rfl rfl rfl rfl) ?_
      refine AOL.nil ?_
      refine thenN ?_
      refine AW.seq ?_
      refine AW.region ?_
      refine AOL.p (P_move (v := .sl _ _) rfl) rfl ?_
      refine AOL.p (P_move (v := .sl _ _) rfl) rfl ?_
      refine AOL.p (P_move (v := .int .i64 _) rfl) rfl ?_
      refine AOL.p (P_indexAddr (c := [.str _, .int .i64 _]) tok rfl rfl rfl rfl rfl rfl (by omega) (map_at ha)) rfl ?_
      refine AOL.p (P_fieldAddr_ptr (cs' := [.int .i64 _]) tok rfl rfl rfl rfl rfl rfl) rfl ?_
      refine AOL.p (P_load_ptr (c := .int .i64 _) tok rfl rfl rfl) rfl ?_
      refine AOL.p (P_indexAddr (c := [.str _, _]) tok rfl rfl rfl rfl rfl rfl (hat.1) (map_at hs)) rfl ?_
      refine AOL.p (P_fieldAddr_ptr (cs' := [_]) tok rfl rfl rfl rfl rfl rfl) rfl ?_
      refine AOL.p (P_load_ptr (c := .sl _ _) tok rfl rfl rfl) rfl ?_
      refine AOL.p (P_assign (v := .sl _ _) rfl) rfl ?_
      refine AOL.nil ?_
      refine thenN ?_
      refine AW.seq ?_
      refine AW.seq ?_
      refine AW.region ?_
      refine AOL.p (P_assign (v := .int .i64 _) rfl) rfl ?_
      refine AOL.nil ?_
      refine thenN ?_
      refine AW.block ?_
      refine AW.loopS (fun (q : Nat × List (List AV) × Value × Int) => (⟨[(0, .sl 2 (types.map cSc)), (1, .sl 2 (vars.map cVa)), (2, .sl 1 (cNs ns)), (6, .val (.pointer (some ⟨b6, 0, none⟩))), (7, .val (.pointer (some ⟨b7, 0, none⟩))), (8, .int .i64 q.2.2.2), (9, .int .i64 (p.1 : Int)), (10, .val (.pointer (some ⟨b10, 0, none⟩))), (11, .sl 2 (s.fields.map cFi)), (12, .int .i64 (q.1 : Int))], .row q.2.2.1 q.2.1.length 24 3 :: .box b10 32 [.int .i64 0, .int .i64 0, .int .i64 a.type, .int .i64 (p.1 : Int), .row q.2.2.1 3 q.2.1] :: .row p.2.2.1 p.2.1.length 60 1 :: .box b7 29 [.row p.2.2.1 1 p.2.1] :: .box b6 29 [.sl 1 []] :: H, 100⟩ : St)) (fun (q : Nat × List (List AV) × Value × Int) => q.1 ≤ s.fields.length ∧ SU s q.2.1 q.1 ∧ p.2.2.2 ≤ q.2.2.2 ∧ q.2.2.2 ≤ p.2.2.2 + q.1) (fun (q : Nat × List (List AV) × Value × Int) => s.fields.length - q.1) ((0, [], .slice none 0 0, p.2.2.2)) ?_ (GS.weaken ⟨rfl, rfl, rfl, rfl, rfl, rfl, rfl, rfl, rfl, rfl, trivial⟩ (.refl _)) ?_
      · exact ⟨Nat.zero_le _, ⟨[], rfl, rfl, fun i f h => absurd h (Nat.not_lt_zero _)⟩, Int.le_refl _, by simp⟩
      · rintro q hS
        refine AW.seq ?_
        refine AW.seq ?_
        refine AW.region ?_
        refine AOL.p (P_move (v := .int .i64 _) rfl) rfl ?_
        refine AOL.p (P_move (v := .sl _ _) rfl) rfl ?_
        refine AOL.p (P_len_sl (n := s.fields.length) tok rfl rfl rfl (by simp)) rfl ?_
        refine AOL.p (P_lss rfl rfl) rfl ?_
        refine AOL.nil ?_
        refine thenN ?_
        refine AW.cond (b := _) rfl (fun hc2 => ?_) (fun hc2 => ?_)
        · skip
          obtain ⟨f, hf⟩ := get_lt hc2
          have hltq := get_lt' hf
          have hfk := hko s hsm f (List.mem_of_getElem? hf)
          refine AW.skip ?_
          refine thenN ?_
          refine AW.seq ?_
          refine AW.block ?_
          refine AW.seq ?_
          refine AW.region ?_
          refine AOL.p (P_assign (v := .int .i64 _) rfl) rfl ?_
          refine AOL.nil ?_
          refine thenN ?_
          refine AW.cut (fun (c : Int × Int) => (⟨[(0, .sl 2 (types.map cSc)), (1, .sl 2 (vars.map cVa)), (2, .sl 1 (cNs ns)), (6, .val (.pointer (some ⟨b6, 0, none⟩))), (7, .val (.pointer (some ⟨b7, 0, none⟩))), (8, .int .i64 c.2), (9, .int .i64 (p.1 : Int)), (10, .val (.pointer (some ⟨b10, 0, none⟩))), (11, .sl 2 (s.fields.map cFi)), (12, .int .i64 (q.1 : Int)), (13, .int .i64 c.1)], .row q.2.2.1 q.2.1.length 24 3 :: .box b10 32 [.int .i64 0, .int .i64 0, .int .i64 a.type, .int .i64 (p.1 : Int), .row q.2.2.1 3 q.2.1] :: .row p.2.2.1 p.2.1.length 60 1 :: .box b7 29 [.row p.2.2.1 1 p.2.1] :: .box b6 29 [.sl 1 []] :: H, 100⟩ : St)) (fun (c : Int × Int) => (-128 ≤ c.1 ∧ c.1 ≤ 127) ∧ q.2.2.2 ≤ c.2 ∧ c.2 ≤ q.2.2.2 + 1) ?_ ?_
          · skip
            refine AW.seq ?_
            refine AW.region ?_
            refine AOL.p (P_move (v := .sl _ _) rfl) rfl ?_
            refine AOL.p (P_len_sl (n := ns.length) tok rfl rfl rfl (by simp [cNs])) rfl ?_
            refine AOL.p (P_gtr rfl rfl) rfl ?_
            refine AOL.nil ?_
            refine thenN ?_
            refine AW.cond (b := _) rfl (fun hc3 => ?_) (fun hc3 => ?_)
            · skip
              have hn0 : 0 < ns.length := by simpa using hc3
              have ht0 := Int.tmod_nonneg (a := q.2.2.2) (ns.length : Int) (by omega)
              have ht1 := Int.tmod_lt_of_pos q.2.2.2 (b := (ns.length : Int)) (by omega)
              obtain ⟨x, hx⟩ := get_int (l := ns) ht0 ht1
              have hxb := hns x (List.mem_of_getElem? hx)
              refine AW.seq ?_
              refine AW.region ?_
              refine AOL.p (P_move (v := .sl _ _) rfl) rfl ?_
              refine AOL.p (P_move (v := .int .i64 _) rfl) rfl ?_
              refine AOL.p (P_move (v := .sl _ _) rfl) rfl ?_
              refine AOL.p (P_len_sl (n := ns.length) tok rfl rfl rfl (by simp [cNs])) rfl ?_
              refine AOL.p (P_rem rfl rfl (by omega)) rfl ?_
              refine AOL.p (P_indexAddr (c := [.int .i8 _]) tok rfl rfl rfl rfl rfl rfl (ht0) (map_at (f := fun k => [AV.int .i8 k]) hx)) rfl ?_
              refine AOL.p (P_load_ptr (c := .int .i8 _) tok rfl rfl rfl) rfl ?_
              refine AOL.p (P_conv (m := x) tok rfl rfl rfl rfl rfl (IntWalk.i64_in _ (by omega))) rfl ?_
              refine AOL.p (P_assign (v := .int .i64 _) rfl) rfl ?_
              refine AOL.nil ?_
              refine thenN ?_
              refine AW.region ?_
              refine AOL.p (P_move (v := .int .i64 _) rfl) rfl ?_
              refine AOL.p (P_add rfl rfl rfl (by constructor <;> omega)) rfl ?_
              refine AOL.p (P_assign (v := .int .i64 _) rfl) rfl ?_
              refine AOL.nil ?_
              refine thenN ?_
              refine ⟨(x, q.2.2.2 + 1), ?_, GS.weaken ⟨rfl, rfl, rfl, rfl, rfl, rfl, rfl, rfl, rfl, rfl, rfl, trivial⟩ (.refl _)⟩
              exact ⟨by simp only; omega, by simp only; omega, by simp only; omega⟩
            · skip
              refine AW.skip ?_
              refine thenN ?_
              refine ⟨(0, q.2.2.2), ?_, GS.weaken ⟨rfl, rfl, rfl, rfl, rfl, rfl, rfl, rfl, rfl, rfl, rfl, trivial⟩ (.refl _)⟩
              exact ⟨by simp only; omega, by simp only; omega, by simp only; omega⟩
          · rintro c hC
            have hsc := SU_sc hS.2.1
            have hln := SU_len hS.2.1
            refine AW.seq ?_
            refine AW.region ?_
            refine AOL.p (P_move (v := .sl _ _) rfl) rfl ?_
            refine AOL.p (P_move (v := .int .i64 _) rfl) rfl ?_
            refine AOL.p (P_indexAddr (c := [.str _, .int .i64 _]) tok rfl rfl rfl rfl rfl rfl (by omega) (map_at hf)) rfl ?_
            refine AOL.p (P_fieldAddr_ptr (cs' := [.int .i64 _]) tok rfl rfl rfl rfl rfl rfl) rfl ?_
            refine AOL.p (P_load_ptr (c := .int .i64 _) tok rfl rfl rfl) rfl ?_
            refine AOL.nil ?_
            refine thenN ?_
            refine AW.block ?_
            refine AW.seq ?_
            refine AW.region ?_
            refine AOL.p (P_eql rfl rfl) rfl ?_
            refine AOL.p (P_assign (v := .bool _) rfl) rfl ?_
            refine AOL.nil ?_
            refine thenN ?_
            refine AW.cond (b := _) rfl (fun hc4 => ?_) (fun hc4 => ?_)
            · skip
              have hk0 : f.kind = 0 := by simpa using hc4
              refine AW.region ?_
              refine AOL.p (P_fieldAddr_val tok rfl rfl rfl rfl rfl rfl) rfl ?_
              refine AOL.pk (P_load_box (k := 1) (c := .row _ _ _) tok rfl rfl rfl rfl) rfl rfl ?_
              refine AOL.p (P_move (v := .int .i64 _) rfl) rfl ?_
              refine AOL.p (P_build (l := [.int .i64 _, .int .i64 _, .str _]) tok rfl rfl rfl) rfl ?_
              refine AOL.p (P_buildSlice (es := [[.int .i64 _, .int .i64 _, .str _]]) tok rfl rfl rfl rfl rfl rfl rfl rfl rfl) rfl ?_
              refine AOL.e (E_append (k := 0) tok rfl rfl rfl rfl rfl rfl rfl rfl (sc_one rfl) (hsc) (by simp; omega) (by simp; omega)) rfl ?_
              rintro _ _ ⟨v79, rfl, rfl⟩
              refine AOL.p (P_fieldAddr_val tok rfl rfl rfl rfl rfl rfl) rfl ?_
              refine AOL.e (E_store (k := 1) (v := .row _ _ _) (cs' := [.int .i64 _, .int .i64 _, .int .i64 _, .int .i64 _, _]) (H2 := _ :: _ :: _ :: _ :: _ :: _) tok rfl rfl rfl rfl rfl rfl rfl rfl rfl) rfl ?_
              rintro _ _ ⟨rfl, rfl⟩
              refine AOL.nil ?_
              refine blkN ?_
              refine blkN ?_
              refine thenN ?_
              refine AW.region ?_
              refine AOL.p (P_move (v := .int .i64 _) rfl) rfl ?_
              refine AOL.p (P_add rfl rfl rfl (by constructor <;> omega)) rfl ?_
              refine AOL.p (P_assign (v := .int .i64 _) rfl) rfl ?_
              refine AOL.nil ?_
              refine thenN ?_
              refine ⟨(q.1 + 1, q.2.1 ++ [cV ⟨0, c.1, []⟩], v79, c.2), ?_, ?_, GS.weaken ⟨rfl, rfl, rfl, rfl, rfl, rfl, rfl, rfl, rfl, rfl, trivial⟩ (.refl _)⟩
              · exact ⟨hltq, SU_next hS.2.1 hf (by rw [hk0]; exact good_int hC.1), by simp only; omega, by simp only; omega⟩
              · first | omega | (simp only; omega)
            · skip
              refine AW.seq ?_
              refine AW.region ?_
              refine AOL.p (P_eql rfl rfl) rfl ?_
              refine AOL.p (P_assign (v := .bool _) rfl) rfl ?_
              refine AOL.nil ?_
              refine thenN ?_
              refine AW.cond (b := _) rfl (fun hc5 => ?_) (fun hc5 => ?_)
              · skip
                have hk1 : f.kind = 1 := by simpa using hc5
                refine AW.draw mixed (fun H' => _ ∈ H') (List.mem_of_getElem? (i := 1) rfl) (by kernel_rfl) ?_
                refine Canon.pure _ _ 0 _ _ rfl (by kernel_rfl) (by kernel_rfl) rfl (.run rfl (P_fieldAddr_val tok rfl rfl rfl rfl rfl rfl)) ?_
                refine Canon.pure _ _ 1 _ _ rfl (by kernel_rfl) (by kernel_rfl) rfl (.run rfl (OpP.mem (fun k => P_load_box (k := k) (c := .row _ _ _) tok rfl rfl rfl rfl) (fun _ h => h))) ?_
                refine Canon.pure _ _ 2 _ _ rfl (by kernel_rfl) (by kernel_rfl) rfl (.run rfl (P_move (v := .int .i64 _) rfl)) ?_
                refine Canon.pure _ _ 3 _ _ rfl (by kernel_rfl) (by kernel_rfl) rfl (.run rfl (P_rem rfl rfl (by omega))) ?_
                refine Canon.pure _ _ 4 _ _ rfl (by kernel_rfl) (by kernel_rfl) rfl (.run rfl (P_eql rfl rfl)) ?_
                refine Canon.pure _ _ 5 _ _ rfl (by kernel_rfl) (by kernel_rfl) rfl (.run rfl (P_callf (by kernel_rfl) rfl rfl (c38 _))) ?_
                refine Canon.pure _ _ 6 _ _ rfl (by kernel_rfl) (by kernel_rfl) rfl (.run rfl (P_buildSlice (es := [[.int .i64 _, .int .i64 _, .str _]]) tok rfl rfl rfl rfl rfl rfl rfl rfl rfl)) ?_
                refine Canon.eff _ _ 7 _ _ rfl (by kernel_rfl) rfl rfl (E_append (k := 0) tok rfl rfl rfl rfl rfl rfl rfl rfl (sc_one rfl) (hsc) (by simp; omega) (by simp; omega)) (by rintro _ _ ⟨v90, rfl, rfl⟩; simp) ?_
                rintro _ _ ⟨v90, rfl, rfl⟩
                refine Canon.pure _ _ 8 _ _ rfl (by kernel_rfl) (by kernel_rfl) rfl (.run rfl (P_fieldAddr_val tok rfl rfl rfl rfl rfl rfl)) ?_
                refine Canon.last _ _ 9 _ _ rfl (by kernel_rfl) rfl rfl (E_store (k := 1) (v := .row _ _ _) (cs' := [.int .i64 _, .int .i64 _, .int .i64 _, .int .i64 _, _]) (H2 := _ :: _ :: _ :: _ :: _ :: _) tok rfl rfl rfl rfl rfl rfl rfl rfl rfl) (by kernel_rfl) ?_
                rintro _ _ ⟨rfl, rfl⟩
                refine blkN ?_
                refine blkN ?_
                refine thenN ?_
                refine AW.region ?_
                refine AOL.p (P_move (v := .int .i64 _) rfl) rfl ?_
                refine AOL.p (P_add rfl rfl rfl (by constructor <;> omega)) rfl ?_
                refine AOL.p (P_assign (v := .int .i64 _) rfl) rfl ?_
                refine AOL.nil ?_
                refine thenN ?_
                refine ⟨(q.1 + 1, q.2.1 ++ [cV (flagS (c.1.tmod 2 == 0))], v90, c.2), ?_, ?_, GS.weaken ⟨rfl, rfl, rfl, rfl, rfl, rfl, rfl, rfl, rfl, rfl, trivial⟩ (.refl _)⟩
                · exact ⟨hltq, SU_next hS.2.1 hf (by rw [hk1]; exact good_flag _), by simp only; omega, by simp only; omega⟩
                · first | omega | (simp only; omega)
              · skip
                have hk2 : f.kind = 2 := by simp at hc4 hc5; omega
                have h3 := tmod3 hC.1
                refine AW.region ?_
                refine AOL.p (P_fieldAddr_val tok rfl rfl rfl rfl rfl rfl) rfl ?_
                refine AOL.pk (P_load_box (k := 1) (c := .row _ _ _) tok rfl rfl rfl rfl) rfl rfl ?_
                refine AOL.p (P_move (v := .int .i64 _) rfl) rfl ?_
                refine AOL.p (P_add rfl rfl rfl (by constructor <;> omega)) rfl ?_
                refine AOL.p (P_rem rfl rfl (by omega)) rfl ?_
                refine AOL.p (P_add rfl rfl rfl (by constructor <;> omega)) rfl ?_
                refine AOL.p (P_conv (m := (97 + (c.1 + 128).tmod 3)) tok rfl rfl rfl rfl rfl (IntWalk.i32_in _ (by omega))) rfl ?_
                refine AOL.p (P_convStr tok rfl rfl rfl rfl rfl rfl (by rw [enc_len h3]; decide)) rfl ?_
                refine AOL.p (P_build (l := [.int .i64 _, .int .i64 _, .str _]) tok rfl rfl rfl) rfl ?_
                refine AOL.p (P_buildSlice (es := [[.int .i64 _, .int .i64 _, .str _]]) tok rfl rfl rfl rfl rfl rfl rfl rfl rfl) rfl ?_
                refine AOL.e (E_append (k := 0) tok rfl rfl rfl rfl rfl rfl rfl rfl (sc_one rfl) (hsc) (by simp; omega) (by simp; omega)) rfl ?_
                rintro _ _ ⟨v70, rfl, rfl⟩
                refine AOL.p (P_fieldAddr_val tok rfl rfl rfl rfl rfl rfl) rfl ?_
                refine AOL.e (E_store (k := 1) (v := .row _ _ _) (cs' := [.int .i64 _, .int .i64 _, .int .i64 _, .int .i64 _, _]) (H2 := _ :: _ :: _ :: _ :: _ :: _) tok rfl rfl rfl rfl rfl rfl rfl rfl rfl) rfl ?_
                rintro _ _ ⟨rfl, rfl⟩
                refine AOL.nil ?_
                refine blkN ?_
                refine blkN ?_
                refine thenN ?_
                refine AW.region ?_
                refine AOL.p (P_move (v := .int .i64 _) rfl) rfl ?_
                refine AOL.p (P_add rfl rfl rfl (by constructor <;> omega)) rfl ?_
                refine AOL.p (P_assign (v := .int .i64 _) rfl) rfl ?_
                refine AOL.nil ?_
                refine thenN ?_
                refine ⟨(q.1 + 1, q.2.1 ++ [cV ⟨2, 0, (Utf8.encode (97 + (c.1 + 128).tmod 3)).data.toList⟩], v70, c.2), ?_, ?_, GS.weaken ⟨rfl, rfl, rfl, rfl, rfl, rfl, rfl, rfl, rfl, rfl, trivial⟩ (.refl _)⟩
                · exact ⟨hltq, SU_next hS.2.1 hf (by rw [hk2]; exact good_str (enc_len h3)), by simp only; omega, by simp only; omega⟩
                · first | omega | (simp only; omega)
        · skip
          have hql : q.1 = s.fields.length := by simp at hc2; omega
          have hsu := hS.2.1
          rw [hql] at hsu
          obtain ⟨vs, hv1, hv2, hv3⟩ := hsu
          obtain ⟨qk, qe, qrv, qat⟩ := q
          simp only at hv1 hS
          subst hv1
          have hev : SuitEv s ⟨0, 0, a.type, p.1, vs⟩ := ⟨hv2, fun k f hf => hv3 k f (get_lt' hf) hf⟩
          have hsc := SE_sc hR.2.1
          have hln := SE_len hR.2.1
          refine AW.exit ?_
          refine thenE ?_
          refine thenE ?_
          refine blkHit ?_
          refine thenN ?_
          refine AW.region ?_
          refine AOL.ghost (GS.cell 1 4 rfl rfl rfl rfl unrow_cell) ?_
          refine AOL.p (P_fieldAddr_val tok rfl rfl rfl rfl rfl rfl) rfl ?_
          refine AOL.pk (P_load_box (k := 3) (c := .row _ _ _) tok rfl rfl rfl rfl) rfl rfl ?_
          refine AOL.pk (P_load_box_agg (k := 1) (l := [.int .i64 _, .int .i64 _, .int .i64 _, .int .i64 _, _]) tok rfl rfl rfl rfl rfl) rfl rfl ?_
          refine AOL.p (P_buildSlice (es := [[.int .i64 _, .int .i64 _, .int .i64 _, .int .i64 _, _]]) tok rfl rfl rfl rfl rfl rfl rfl rfl rfl) rfl ?_
          refine AOL.p (P_buildSlice (es := [[_]]) tok rfl rfl rfl rfl rfl rfl rfl rfl rfl) rfl ?_
          refine AOL.e (E_append (k := 2) tok rfl rfl rfl rfl rfl rfl rfl rfl (sc_one rfl) (hsc) (by simp; omega) (by simp; omega)) rfl ?_
          rintro _ _ ⟨v97, rfl, rfl⟩
          refine AOL.p (P_fieldAddr_val tok rfl rfl rfl rfl rfl rfl) rfl ?_
          refine AOL.e (E_store (k := 3) (v := .row _ _ _) (cs' := [_]) (H2 := _ :: _ :: _ :: _ :: _ :: _) tok rfl rfl rfl rfl rfl rfl rfl rfl rfl) rfl ?_
          rintro _ _ ⟨rfl, rfl⟩
          refine AOL.nil ?_
          refine blkN ?_
          refine thenN ?_
          refine AW.region ?_
          refine AOL.p (P_move (v := .int .i64 _) rfl) rfl ?_
          refine AOL.p (P_add rfl rfl rfl (by constructor <;> omega)) rfl ?_
          refine AOL.p (P_assign (v := .int .i64 _) rfl) rfl ?_
          refine AOL.nil ?_
          refine thenN ?_
          refine ⟨(p.1 + 1, p.2.1 ++ [cEvs [⟨0, 0, a.type, p.1, vs⟩]], v97, qat), ?_, ?_, GS.weaken ⟨rfl, rfl, rfl, rfl, rfl, rfl, rfl, trivial⟩ (.cons _ (.cons _ (.refl _)))⟩
          · exact ⟨hlt, SE_next hR.2.1 ha hs hev, by simp only; omega, by simp only; omega⟩
          · first | omega | (simp only; omega)
    · skip
      have hpv : p.1 = vars.length := by simp at hc1; omega
      have hse := hR.2.1
      rw [hpv] at hse
      obtain ⟨env, he1, he2, he3, he4⟩ := hse
      obtain ⟨pk, pe, prv, pat⟩ := p
      simp only at he1 hpv hR
      subst he1
      refine AW.exit ?_
      refine thenE ?_
      refine thenE ?_
      refine blkHit ?_
      refine thenN ?_
      refine AW.seq ?_
      refine AW.region ?_
      refine AOL.ghost (GS.cell 1 0 rfl rfl rfl rfl unrow_cell) ?_
      refine AOL.pk (P_load_box_agg (k := 1) (l := [_]) tok rfl rfl rfl rfl rfl) rfl rfl ?_
      refine AOL.e (E_store (k := 2) (v := .agg _) (cs' := [_]) (H2 := _ :: _ :: _ :: _) tok rfl rfl rfl rfl rfl rfl rfl rfl rfl) rfl ?_
      rintro _ _ ⟨rfl, rfl⟩
      refine AOL.nil ?_
      refine thenN ?_
      refine AW.ret ?_
      refine ⟨.inr rfl, [.agg [_]], .cons (.box _ _ _ 2 _ _ _ _ rfl rfl rfl rfl rfl rfl) <| .nil, _, .cons _ (.cons _ (.cons _ (.refl _))), ?_⟩
      exact ⟨env, rfl, ⟨he2, fun i v hv => he4 i v (get_lt' hv) hv⟩, he3, rfl⟩

end Go.Proofs.Ytkkacfnkjiijkaa
