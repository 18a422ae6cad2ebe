/-
  Walks of layer 3: event types. No condition.
-/
import Derived.Test.YtfpbgdjloccdbaaW2
import Derived.KernelRfl
namespace Go.Proofs.Ytfpbgdjloccdbaa
open Go Go.Aw
set_option linter.unusedVariables false
set_option linter.unusedSimpArgs false

theorem place_hit {ns : List (List UInt8)} {k : Nat} {n : List UInt8} (h : ns[k]? = some n) (hn : (ns.take k).contains n = false) : placeS ns n = (k : Int) := by
  have h1 := place_lt h
  rw [hn] at h1
  have hm : n ∈ ns := List.mem_of_getElem? h
  have hc : ns.contains n = true := by simpa using hm
  have h3 : ns.idxOf n ≤ k := by
    refine Nat.le_of_not_lt fun hlt => ?_
    have hk : k < ns.length := get_lt' h
    have h4 := List.not_of_lt_findIdx (p := fun x => x == n) (xs := ns) (i := k) hlt
    have h5 : ns[k] = n := by rw [List.getElem?_eq_getElem hk] at h; exact Option.some.inj h
    simp only [h5] at h4
    simp at h4
  unfold placeS at h1 ⊢
  rw [if_pos hc] at h1 ⊢
  simp at h1
  omega
theorem place_none {ns : List (List UInt8)} {n : List UInt8} (h : ns.contains n = false) : placeS ns n = -1 := by unfold placeS; rw [if_neg (by simp only [h]; decide)]
theorem contains_next {ns : List (List UInt8)} {k : Nat} {m n : List UInt8} (h : ns[k]? = some m) (hn : (ns.take k).contains n = false) (hne : (m == n) = false) : (ns.take (k + 1)).contains n = false := by
  rw [take_get h]
  have h1 : m ≠ n := by simpa using hne
  simp at hn ⊢
  exact ⟨hn, fun e => h1 e.symm⟩
def scOK (s : Sc) : Prop := s.name.length ≤ 1048576 ∧ s.fields.length ≤ 1048576 ∧ ∀ f ∈ s.fields, f.name.length ≤ 1048576
theorem fields_step {seen : List (List UInt8)} {a : Fi} {r : List Fi} (h : fieldE seen a = 0) : fieldsS seen (a :: r) = fieldsS (seen ++ [a.name]) r := by rw [fieldsS, if_neg (by rw [h]; decide)]
theorem fields_stop {seen : List (List UInt8)} {a : Fi} {r : List Fi} (h : fieldE seen a ≠ 0) : fieldsS seen (a :: r) = fieldE seen a := by rw [fieldsS, if_pos (by simpa using h)]
theorem types_step {seen : List (List UInt8)} {a : Sc} {r : List Sc} (h : typeE seen a = 0) : typesS seen (a :: r) = typesS (seen ++ [a.name]) r := by rw [typesS, if_neg (by rw [h]; decide)]
theorem types_stop {seen : List (List UInt8)} {a : Sc} {r : List Sc} (h : typeE seen a ≠ 0) : typesS seen (a :: r) = typeE seen a := by rw [typesS, if_pos (by simpa using h)]
theorem kind_out (k : Int) : (k != 0 && k != 1 && k != 2) = (decide (k < 0) || decide (3 ≤ k)) := by
  rw [Bool.eq_iff_iff]; simp; omega
theorem fname_no (s : List UInt8) : (!nameS s || s == timeB) = !fnameS s := by
  unfold fnameS; cases nameS s <;> cases (s == timeB) <;> rfl

set_option maxRecDepth 20000 in
set_option maxHeartbeats 400000 in
theorem c105 (s : Sc) (hl : s.fields.length ≤ 1048576) (n : List UInt8) : APure Try.prog 53 [.agg (cSc s), .str n] (.int .i64 (placeS (s.fields.map (·.name)) n)) := by
  refine APure.body (n := 22) tok Try.func53 rfl rfl rfl fun H => ?_
  refine AW.seq ?_
  refine AW.region ?_
  refine AOL.p (P_box (v := .agg _) (cs := [.str _, _]) rfl rfl rfl) rfl ?_
  refine AOL.p (P_assign (v := .int .i64 _) rfl) rfl ?_
  refine AOL.nil ?_
  refine thenN ?_
  refine AW.seq ?_
  refine AW.seq ?_
  refine AW.region ?_
  refine AOL.p (P_assign (v := .int .i64 _) rfl) rfl ?_
  refine AOL.nil ?_
  refine thenN ?_
  refine AW.block ?_
  refine AW.loopS (fun (p : Nat) => (⟨[(1, .str n), (2, .ptr (cSc s)), (5, .int .i64 (p : Int))], H, 22⟩ : St)) (fun (p : Nat) => p ≤ s.fields.length ∧ ((s.fields.map (·.name)).take p).contains n = false) (fun (p : Nat) => s.fields.length - p) (0) ?_ (GS.weaken ⟨rfl, rfl, rfl, trivial⟩ (.refl _)) ?_
  · exact ⟨Nat.zero_le _, by simp⟩
  · rintro p hR
    refine AW.seq ?_
    refine AW.seq ?_
    refine AW.region ?_
    refine AOL.p (P_move (v := .int .i64 _) rfl) rfl ?_
    refine AOL.p (P_fieldAddr_ptr (cs' := [_]) tok rfl rfl rfl rfl rfl rfl) rfl ?_
    refine AOL.p (P_load_ptr (c := .sl _ _) tok rfl rfl rfl) rfl ?_
    refine AOL.p (P_len_sl (n := s.fields.length) tok rfl rfl rfl (by simp)) rfl ?_
    refine AOL.p (P_lss rfl rfl) rfl ?_
    refine AOL.nil ?_
    refine thenN ?_
    refine AW.cond (b := _) rfl (fun hc1 => ?_) (fun hc1 => ?_)
    · skip
      obtain ⟨a, ha⟩ := get_lt hc1
      have hlt := get_lt' ha
      have hm := List.mem_of_getElem? ha
      have hna : (s.fields.map (·.name))[p]? = some a.name := by simp [ha]
      refine AW.skip ?_
      refine thenN ?_
      refine AW.seq ?_
      refine AW.block ?_
      refine AW.seq ?_
      refine AW.region ?_
      refine AOL.p (P_fieldAddr_ptr (cs' := [_]) tok rfl rfl rfl rfl rfl rfl) rfl ?_
      refine AOL.p (P_load_ptr (c := .sl _ _) tok rfl rfl rfl) rfl ?_
      refine AOL.p (P_move (v := .int .i64 _) rfl) rfl ?_
      refine AOL.p (P_indexAddr (c := [.str _, .int .i64 _]) tok rfl rfl rfl rfl rfl rfl (by omega) (map_at ha)) rfl ?_
      refine AOL.p (P_fieldAddr_ptr (cs' := [.str _, .int .i64 _]) tok rfl rfl rfl rfl rfl rfl) rfl ?_
      refine AOL.p (P_load_ptr (c := .str _) tok rfl rfl rfl) rfl ?_
      refine AOL.p (P_move (v := .str _) rfl) rfl ?_
      refine AOL.p (P_eql_str rfl rfl) rfl ?_
      refine AOL.nil ?_
      refine thenN ?_
      refine AW.cond (b := _) rfl (fun hc2 => ?_) (fun hc2 => ?_)
      · skip
        refine AW.seq ?_
        refine AW.region ?_
        refine AOL.p (P_move (v := .int .i64 _) rfl) rfl ?_
        refine AOL.p (P_assign (v := .int .i64 _) rfl) rfl ?_
        refine AOL.nil ?_
        refine thenN ?_
        refine AW.ret ?_
        refine blkR ?_
        refine thenR ?_
        refine thenR ?_
        refine blkR ?_
        refine thenR ?_
        refine ⟨.inr rfl, [.int .i64 _], .cons (.tmp _ _ rfl) <| .nil, .refl _, ?_⟩
        have e : a.name = n := by simpa using hc2
        rw [e] at hna
        rw [place_hit hna hR.2]; rfl
      · skip
        refine AW.skip ?_
        refine blkN ?_
        refine thenN ?_
        refine AW.region ?_
        refine AOL.p (P_move (v := .int .i64 _) rfl) rfl ?_
        refine AOL.p (P_add rfl rfl rfl (by constructor <;> omega)) rfl ?_
        refine AOL.p (P_assign (v := .int .i64 _) rfl) rfl ?_
        refine AOL.nil ?_
        refine thenN ?_
        refine ⟨p + 1, ?_, ?_, GS.weaken ⟨rfl, rfl, rfl, trivial⟩ (.refl _)⟩
        · exact ⟨hlt, contains_next hna hR.2 hc2⟩
        · omega
    · skip
      have hte := take_end hc1
      refine AW.exit ?_
      refine thenE ?_
      refine thenE ?_
      refine blkHit ?_
      refine thenN ?_
      refine AW.seq ?_
      refine AW.region ?_
      refine AOL.p (P_assign (v := .int .i64 _) rfl) rfl ?_
      refine AOL.nil ?_
      refine thenN ?_
      refine AW.ret ?_
      refine ⟨.inr rfl, [.int .i64 _], .cons (.tmp _ _ rfl) <| .nil, .refl _, ?_⟩
      have h2 := hR.2
      rw [← List.map_take, hte] at h2
      rw [place_none h2]; rfl
set_option maxRecDepth 20000 in
set_option maxHeartbeats 400000 in
theorem c88 (l : List Sc) (hl : l.length ≤ 1048576) (n : List UInt8) : APure Try.prog 33 [.sl 2 (l.map cSc), .str n] (.int .i64 (placeS (l.map (·.name)) n)) := by
  refine APure.body (n := 20) tok Try.func33 rfl rfl rfl fun H => ?_
  refine AW.seq ?_
  refine AW.region ?_
  refine AOL.p (P_assign (v := .int .i64 _) rfl) rfl ?_
  refine AOL.nil ?_
  refine thenN ?_
  refine AW.seq ?_
  refine AW.seq ?_
  refine AW.region ?_
  refine AOL.p (P_assign (v := .int .i64 _) rfl) rfl ?_
  refine AOL.nil ?_
  refine thenN ?_
  refine AW.block ?_
  refine AW.loopS (fun (p : Nat) => (⟨[(0, .sl 2 (l.map cSc)), (1, .str n), (5, .int .i64 (p : Int))], H, 20⟩ : St)) (fun (p : Nat) => p ≤ l.length ∧ ((l.map (·.name)).take p).contains n = false) (fun (p : Nat) => l.length - p) (0) ?_ (GS.weaken ⟨rfl, rfl, rfl, trivial⟩ (.refl _)) ?_
  · exact ⟨Nat.zero_le _, by simp⟩
  · rintro p hR
    refine AW.seq ?_
    refine AW.seq ?_
    refine AW.region ?_
    refine AOL.p (P_move (v := .int .i64 _) rfl) rfl ?_
    refine AOL.p (P_move (v := .sl _ _) rfl) rfl ?_
    refine AOL.p (P_len_sl (n := l.length) tok rfl rfl rfl (by simp)) rfl ?_
    refine AOL.p (P_lss rfl rfl) rfl ?_
    refine AOL.nil ?_
    refine thenN ?_
    refine AW.cond (b := _) rfl (fun hc1 => ?_) (fun hc1 => ?_)
    · skip
      obtain ⟨a, ha⟩ := get_lt hc1
      have hlt := get_lt' ha
      have hm := List.mem_of_getElem? ha
      have hna : (l.map (·.name))[p]? = some a.name := by simp [ha]
      refine AW.skip ?_
      refine thenN ?_
      refine AW.seq ?_
      refine AW.block ?_
      refine AW.seq ?_
      refine AW.region ?_
      refine AOL.p (P_move (v := .sl _ _) rfl) rfl ?_
      refine AOL.p (P_move (v := .int .i64 _) rfl) rfl ?_
      refine AOL.p (P_indexAddr (c := [.str _, _]) tok rfl rfl rfl rfl rfl rfl (by omega) (map_at ha)) rfl ?_
      refine AOL.p (P_fieldAddr_ptr (cs' := [.str _, _]) tok rfl rfl rfl rfl rfl rfl) rfl ?_
      refine AOL.p (P_load_ptr (c := .str _) tok rfl rfl rfl) rfl ?_
      refine AOL.p (P_move (v := .str _) rfl) rfl ?_
      refine AOL.p (P_eql_str rfl rfl) rfl ?_
      refine AOL.nil ?_
      refine thenN ?_
      refine AW.cond (b := _) rfl (fun hc2 => ?_) (fun hc2 => ?_)
      · skip
        refine AW.seq ?_
        refine AW.region ?_
        refine AOL.p (P_move (v := .int .i64 _) rfl) rfl ?_
        refine AOL.p (P_assign (v := .int .i64 _) rfl) rfl ?_
        refine AOL.nil ?_
        refine thenN ?_
        refine AW.ret ?_
        refine blkR ?_
        refine thenR ?_
        refine thenR ?_
        refine blkR ?_
        refine thenR ?_
        refine ⟨.inr rfl, [.int .i64 _], .cons (.tmp _ _ rfl) <| .nil, .refl _, ?_⟩
        have e : a.name = n := by simpa using hc2
        rw [e] at hna
        rw [place_hit hna hR.2]; rfl
      · skip
        refine AW.skip ?_
        refine blkN ?_
        refine thenN ?_
        refine AW.region ?_
        refine AOL.p (P_move (v := .int .i64 _) rfl) rfl ?_
        refine AOL.p (P_add rfl rfl rfl (by constructor <;> omega)) rfl ?_
        refine AOL.p (P_assign (v := .int .i64 _) rfl) rfl ?_
        refine AOL.nil ?_
        refine thenN ?_
        refine ⟨p + 1, ?_, ?_, GS.weaken ⟨rfl, rfl, rfl, trivial⟩ (.refl _)⟩
        · exact ⟨hlt, contains_next hna hR.2 hc2⟩
        · omega
    · skip
      have hte := take_end hc1
      refine AW.exit ?_
      refine thenE ?_
      refine thenE ?_
      refine blkHit ?_
      refine thenN ?_
      refine AW.seq ?_
      refine AW.region ?_
      refine AOL.p (P_assign (v := .int .i64 _) rfl) rfl ?_
      refine AOL.nil ?_
      refine thenN ?_
      refine AW.ret ?_
      refine ⟨.inr rfl, [.int .i64 _], .cons (.tmp _ _ rfl) <| .nil, .refl _, ?_⟩
      have h2 := hR.2
      rw [← List.map_take, hte] at h2
      rw [place_none h2]; rfl
set_option maxRecDepth 20000 in
set_option maxHeartbeats 800000 in
theorem c85 (s : Sc) (hs : scOK s) : APure Try.prog 85 [.agg (cSc s)] (.int .i64 (schS s)) := by
  refine APure.body (n := 45) tok Try.func85 rfl rfl rfl fun H => ?_
  refine AW.seq ?_
  refine AW.region ?_
  refine AOL.p (P_box (v := .agg _) (cs := [.str _, _]) rfl rfl rfl) rfl ?_
  refine AOL.p (P_assign (v := .int .i64 _) rfl) rfl ?_
  refine AOL.nil ?_
  refine thenN ?_
  refine AW.seq ?_
  refine AW.seq ?_
  refine AW.region ?_
  refine AOL.p (P_fieldAddr_ptr (cs' := [.str _, _]) tok rfl rfl rfl rfl rfl rfl) rfl ?_
  refine AOL.p (P_load_ptr (c := .str _) tok rfl rfl rfl) rfl ?_
  refine AOL.p (P_callf (by kernel_rfl) rfl rfl (c102 _ hs.1)) rfl ?_
  refine AOL.p (P_not rfl) rfl ?_
  refine AOL.nil ?_
  refine thenN ?_
  refine AW.cond (b := _) rfl (fun hc1 => ?_) (fun hc1 => ?_)
  · skip
    refine AW.seq ?_
    refine AW.region ?_
    refine AOL.p (P_assign (v := .int .i64 _) rfl) rfl ?_
    refine AOL.nil ?_
    refine thenN ?_
    refine AW.ret ?_
    refine thenR ?_
    refine ⟨.inr rfl, [.int .i64 _], .cons (.tmp _ _ rfl) <| .nil, .refl _, ?_⟩
    rw [show schS s = 8 by unfold schS; rw [if_pos (by simpa using hc1)]]; rfl
  · skip
    refine AW.skip ?_
    refine thenN ?_
    refine AW.seq ?_
    refine AW.seq ?_
    refine AW.region ?_
    refine AOL.p (P_fieldAddr_ptr (cs' := [_]) tok rfl rfl rfl rfl rfl rfl) rfl ?_
    refine AOL.p (P_load_ptr (c := .sl _ _) tok rfl rfl rfl) rfl ?_
    refine AOL.p (P_len_sl (n := s.fields.length) tok rfl rfl rfl (by simp)) rfl ?_
    refine AOL.p (P_gtr rfl rfl) rfl ?_
    refine AOL.nil ?_
    refine thenN ?_
    refine AW.cond (b := _) rfl (fun hc2 => ?_) (fun hc2 => ?_)
    · skip
      refine AW.seq ?_
      refine AW.region ?_
      refine AOL.p (P_assign (v := .int .i64 _) rfl) rfl ?_
      refine AOL.nil ?_
      refine thenN ?_
      refine AW.ret ?_
      refine thenR ?_
      refine ⟨.inr rfl, [.int .i64 _], .cons (.tmp _ _ rfl) <| .nil, .refl _, ?_⟩
      rw [show schS s = 5 by unfold schS; rw [if_neg (by simpa using hc1), if_pos (by simpa using hc2)]]; rfl
    · skip
      refine AW.skip ?_
      refine thenN ?_
      refine AW.seq ?_
      refine AW.region ?_
      refine AOL.e (E_makeSMap) rfl ?_
      rintro _ _ ⟨b14, rfl, rfl⟩
      refine AOL.p (P_assign (v := .val _) rfl) rfl ?_
      refine AOL.nil ?_
      refine thenN ?_
      refine AW.seq ?_
      refine AW.seq ?_
      refine AW.region ?_
      refine AOL.p (P_fieldAddr_ptr (cs' := [_]) tok rfl rfl rfl rfl rfl rfl) rfl ?_
      refine AOL.p (P_load_ptr (c := .sl _ _) tok rfl rfl rfl) rfl ?_
      refine AOL.p (P_len_sl (n := s.fields.length) tok rfl rfl rfl (by simp)) rfl ?_
      refine AOL.p (P_move (v := .int .i64 _) rfl) rfl ?_
      refine AOL.nil ?_
      refine thenN ?_
      refine AW.block ?_
      have hfl := hs.2.1
      refine AW.loopS (fun (p : Nat × List (List UInt8)) => (⟨[(3, .val (.map (some b14))), (16, .sl 2 (s.fields.map cFi)), (17, .int .i64 s.fields.length), (18, .int .i64 (p.1 : Int))], .smap b14 (setS p.2) :: H, 45⟩ : St)) (fun (p : Nat × List (List UInt8)) => p.1 ≤ s.fields.length ∧ fieldsS [] s.fields = fieldsS p.2 (s.fields.drop p.1)) (fun (p : Nat × List (List UInt8)) => s.fields.length - p.1) ((0, [])) ?_ (GS.weaken ⟨rfl, rfl, rfl, rfl, trivial⟩ (.refl _)) ?_
      · exact ⟨Nat.zero_le _, rfl⟩
      · rintro p hR
        refine AW.seq ?_
        refine AW.region ?_
        refine AOL.p (P_lss rfl rfl) rfl ?_
        refine AOL.nil ?_
        refine thenN ?_
        refine AW.seq ?_
        refine AW.cond (b := _) rfl (fun hc3 => ?_) (fun hc3 => ?_)
        · skip
          obtain ⟨a, ha⟩ := get_lt hc3
          have hlt := get_lt' ha
          have hm := List.mem_of_getElem? ha
          refine AW.skip ?_
          refine thenN ?_
          refine AW.seq ?_
          refine AW.block ?_
          refine AW.seq ?_
          refine AW.region ?_
          refine AOL.p (P_indexAddr (c := [.str _, .int .i64 _]) tok rfl rfl rfl rfl rfl rfl (by omega) (map_at ha)) rfl ?_
          refine AOL.p (P_load_ptr_agg (l := [.str _, .int .i64 _]) tok rfl rfl rfl rfl rfl) rfl ?_
          refine AOL.e (E_alloc (l := [.str [], .int .i64 0]) (by kernel_rfl)) rfl ?_
          rintro _ _ ⟨b5, rfl, rfl⟩
          refine AOL.e (E_store (k := 0) (v := .agg _) (cs' := [.str _, .int .i64 _]) (H2 := _ :: _ :: _) tok rfl rfl rfl rfl rfl rfl rfl rfl rfl) rfl ?_
          rintro _ _ ⟨rfl, rfl⟩
          refine AOL.ghost (GS.freeze (t := 5) 0 rfl rfl) ?_
          refine AOL.nil ?_
          refine thenN ?_
          refine AW.seq ?_
          refine AW.block ?_
          refine AW.seq ?_
          refine AW.region ?_
          refine AOL.p (P_fieldAddr_ptr (cs' := [.str _, .int .i64 _]) tok rfl rfl rfl rfl rfl rfl) rfl ?_
          refine AOL.p (P_load_ptr (c := .str _) tok rfl rfl rfl) rfl ?_
          refine AOL.p (P_callf (by kernel_rfl) rfl rfl (c103 _ (hs.2.2 a hm))) rfl ?_
          refine AOL.p (P_not rfl) rfl ?_
          refine AOL.p (P_assign (v := .bool _) rfl) rfl ?_
          refine AOL.nil ?_
          refine thenN ?_
          refine AW.cond (b := _) rfl (fun hc4 => ?_) (fun hc4 => ?_)
          · skip
            have hb4 : (!fnameS a.name) = true := hc4
            refine AW.seq ?_
            refine AW.region ?_
            refine AOL.p (P_assign (v := .int .i64 _) rfl) rfl ?_
            refine AOL.nil ?_
            refine thenN ?_
            refine AW.ret ?_
            refine blkR ?_
            refine thenR ?_
            refine blkR ?_
            refine thenR ?_
            refine thenR ?_
            refine blkR ?_
            refine thenR ?_
            refine ⟨.inr rfl, [.int .i64 _], .cons (.tmp _ _ rfl) <| .nil, .cons _ (.refl _), ?_⟩
            have he : fieldE p.2 a = 8 := by
              unfold fieldE; rw [if_pos hb4]
            rw [show schS s = fieldE p.2 a by unfold schS; rw [if_neg (by simpa using hc1), if_neg (by simpa using hc2), hR.2, drop_cons ha, fields_stop (by rw [he]; decide)], he]; rfl
          · skip
            have hb4 : ¬ (!fnameS a.name) = true := by simpa using hc4
            refine AW.seq ?_
            refine AW.region ?_
            refine AOL.p (P_move (v := .val _) rfl) rfl ?_
            refine AOL.p (P_fieldAddr_ptr (cs' := [.str _, .int .i64 _]) tok rfl rfl rfl rfl rfl rfl) rfl ?_
            refine AOL.p (P_load_ptr (c := .str _) tok rfl rfl rfl) rfl ?_
            refine AOL.pk (P_setLook (i := 0) (ks := p.2) tok rfl rfl rfl rfl rfl (by kernel_rfl) rfl rfl rfl) rfl rfl ?_
            refine AOL.p (P_assign (v := .bool _) rfl) rfl ?_
            refine AOL.nil ?_
            refine thenN ?_
            refine AW.cond (b := _) rfl (fun hc5 => ?_) (fun hc5 => ?_)
            · skip
              have hb5 : p.2.contains a.name = true := hc5
              refine AW.seq ?_
              refine AW.region ?_
              refine AOL.p (P_assign (v := .int .i64 _) rfl) rfl ?_
              refine AOL.nil ?_
              refine thenN ?_
              refine AW.ret ?_
              refine blkR ?_
              refine thenR ?_
              refine blkR ?_
              refine thenR ?_
              refine thenR ?_
              refine blkR ?_
              refine thenR ?_
              refine ⟨.inr rfl, [.int .i64 _], .cons (.tmp _ _ rfl) <| .nil, .cons _ (.refl _), ?_⟩
              have he : fieldE p.2 a = 7 := by
                unfold fieldE; rw [if_neg hb4, if_pos hb5]
              rw [show schS s = fieldE p.2 a by unfold schS; rw [if_neg (by simpa using hc1), if_neg (by simpa using hc2), hR.2, drop_cons ha, fields_stop (by rw [he]; decide)], he]; rfl
            · skip
              have hb5 : ¬ p.2.contains a.name = true := by simpa using hc5
              refine AW.seq ?_
              refine AW.region ?_
              refine AOL.p (P_fieldAddr_ptr (cs' := [.int .i64 _]) tok rfl rfl rfl rfl rfl rfl) rfl ?_
              refine AOL.p (P_load_ptr (c := .int .i64 _) tok rfl rfl rfl) rfl ?_
              refine AOL.p (P_lss rfl rfl) rfl ?_
              refine AOL.p (P_move (v := .bool _) rfl) rfl ?_
              refine AOL.g (y := .ptr _) _ [] rfl (EntL.all trivial) (fun hG => P_fieldAddr_ptr (cs' := [.int .i64 _]) tok rfl rfl rfl rfl rfl rfl) rfl ?_
              refine AOL.g (y := .int .i64 _) _ [(37, _)] rfl (EntL.all ⟨Ent.self _ _, trivial⟩) (fun hG => P_load_ptr (c := .int .i64 _) tok rfl rfl rfl) rfl ?_
              refine AOL.g (y := .bool _) _ [(38, _)] rfl (EntL.all ⟨Ent.self _ _, trivial⟩) (fun hG => P_geq rfl rfl) rfl ?_
              refine AOL.p (P_pick_or rfl rfl rfl) rfl ?_
              refine AOL.p (P_assign (v := .bool _) rfl) rfl ?_
              refine AOL.nil ?_
              refine thenN ?_
              refine AW.cond (b := _) rfl (fun hc6 => ?_) (fun hc6 => ?_)
              · skip
                have hb6 := hc6
                refine AW.seq ?_
                refine AW.region ?_
                refine AOL.p (P_assign (v := .int .i64 _) rfl) rfl ?_
                refine AOL.nil ?_
                refine thenN ?_
                refine AW.ret ?_
                refine blkR ?_
                refine thenR ?_
                refine blkR ?_
                refine thenR ?_
                refine thenR ?_
                refine blkR ?_
                refine thenR ?_
                refine ⟨.inr rfl, [.int .i64 _], .cons (.tmp _ _ rfl) <| .nil, .cons _ (.refl _), ?_⟩
                have he : fieldE p.2 a = 1 := by
                  unfold fieldE; rw [if_neg hb4, if_neg hb5, if_pos hb6]
                rw [show schS s = fieldE p.2 a by unfold schS; rw [if_neg (by simpa using hc1), if_neg (by simpa using hc2), hR.2, drop_cons ha, fields_stop (by rw [he]; decide)], he]; rfl
              · skip
                have hb6 := Bool.eq_false_iff.mp hc6
                have he0 : fieldE p.2 a = 0 := by unfold fieldE; rw [if_neg hb4, if_neg hb5, if_neg hb6]
                refine AW.skip ?_
                refine blkN ?_
                refine thenN ?_
                refine AW.region ?_
                refine AOL.p (P_move (v := .val _) rfl) rfl ?_
                refine AOL.p (P_fieldAddr_ptr (cs' := [.str _, .int .i64 _]) tok rfl rfl rfl rfl rfl rfl) rfl ?_
                refine AOL.p (P_load_ptr (c := .str _) tok rfl rfl rfl) rfl ?_
                refine AOL.e (E_setAdd (i := 0) (H2 := _ :: _) tok rfl rfl rfl rfl rfl rfl rfl rfl (by simpa using hb5) rfl) rfl ?_
                rintro _ _ ⟨rfl, rfl⟩
                refine AOL.nil ?_
                refine blkN ?_
                refine thenN ?_
                refine AW.region ?_
                refine AOL.p (P_add rfl rfl rfl (by constructor <;> omega)) rfl ?_
                refine AOL.p (P_move (v := .int .i64 _) rfl) rfl ?_
                refine AOL.nil ?_
                refine thenN ?_
                refine ⟨(p.1 + 1, p.2 ++ [a.name]), ?_, ?_, GS.weaken ⟨rfl, rfl, rfl, rfl, trivial⟩ (.refl _)⟩
                · exact ⟨hlt, by rw [hR.2, drop_cons ha, fields_step he0]⟩
                · first | omega | (simp only; omega)
        · skip
          have hd := get_end hc3
          refine AW.exit ?_
          refine thenE ?_
          refine thenE ?_
          refine blkHit ?_
          refine thenN ?_
          refine AW.seq ?_
          refine AW.region ?_
          refine AOL.p (P_assign (v := .int .i64 _) rfl) rfl ?_
          refine AOL.nil ?_
          refine thenN ?_
          refine AW.ret ?_
          refine ⟨.inr rfl, [.int .i64 _], .cons (.tmp _ _ rfl) <| .nil, .cons _ (.refl _), ?_⟩
          rw [show schS s = 0 by unfold schS; rw [if_neg (by simpa using hc1), if_neg (by simpa using hc2), hR.2, hd]; rfl]; rfl
set_option maxRecDepth 20000 in
set_option maxHeartbeats 800000 in
theorem c87 (s : Sc) (hs : scOK s) : APure Try.prog 32 [.agg (cSc s)] (.int .i64 (schS s)) := by
  refine APure.body (n := 53) tok Try.func32 rfl rfl rfl fun H => ?_
  refine AW.seq ?_
  refine AW.region ?_
  refine AOL.p (P_box (v := .agg _) (cs := [.str _, _]) rfl rfl rfl) rfl ?_
  refine AOL.p (P_assign (v := .int .i64 _) rfl) rfl ?_
  refine AOL.nil ?_
  refine thenN ?_
  refine AW.seq ?_
  refine AW.seq ?_
  refine AW.region ?_
  refine AOL.p (P_fieldAddr_ptr (cs' := [.str _, _]) tok rfl rfl rfl rfl rfl rfl) rfl ?_
  refine AOL.p (P_load_ptr (c := .str _) tok rfl rfl rfl) rfl ?_
  refine AOL.p (P_callf (by kernel_rfl) rfl rfl (c104 _ hs.1)) rfl ?_
  refine AOL.p (P_not rfl) rfl ?_
  refine AOL.nil ?_
  refine thenN ?_
  refine AW.cond (b := _) rfl (fun hc1 => ?_) (fun hc1 => ?_)
  · skip
    refine AW.seq ?_
    refine AW.region ?_
    refine AOL.p (P_assign (v := .int .i64 _) rfl) rfl ?_
    refine AOL.nil ?_
    refine thenN ?_
    refine AW.ret ?_
    refine thenR ?_
    refine ⟨.inr rfl, [.int .i64 _], .cons (.tmp _ _ rfl) <| .nil, .refl _, ?_⟩
    rw [show schS s = 8 by unfold schS; rw [if_pos (by simpa using hc1)]]; rfl
  · skip
    refine AW.skip ?_
    refine thenN ?_
    refine AW.seq ?_
    refine AW.seq ?_
    refine AW.region ?_
    refine AOL.p (P_fieldAddr_ptr (cs' := [_]) tok rfl rfl rfl rfl rfl rfl) rfl ?_
    refine AOL.p (P_load_ptr (c := .sl _ _) tok rfl rfl rfl) rfl ?_
    refine AOL.p (P_len_sl (n := s.fields.length) tok rfl rfl rfl (by simp)) rfl ?_
    refine AOL.p (P_gtr rfl rfl) rfl ?_
    refine AOL.nil ?_
    refine thenN ?_
    refine AW.cond (b := _) rfl (fun hc2 => ?_) (fun hc2 => ?_)
    · skip
      refine AW.seq ?_
      refine AW.region ?_
      refine AOL.p (P_assign (v := .int .i64 _) rfl) rfl ?_
      refine AOL.nil ?_
      refine thenN ?_
      refine AW.ret ?_
      refine thenR ?_
      refine ⟨.inr rfl, [.int .i64 _], .cons (.tmp _ _ rfl) <| .nil, .refl _, ?_⟩
      rw [show schS s = 5 by unfold schS; rw [if_neg (by simpa using hc1), if_pos (by simpa using hc2)]]; rfl
    · skip
      refine AW.skip ?_
      refine thenN ?_
      refine AW.seq ?_
      refine AW.seq ?_
      refine AW.region ?_
      refine AOL.p (P_assign (v := .int .i64 _) rfl) rfl ?_
      refine AOL.nil ?_
      refine thenN ?_
      refine AW.block ?_
      have hfl := hs.2.1
      refine AW.loopS (fun (p : Nat) => (⟨[(1, .ptr (cSc s)), (3, .int .i64 (p : Int))], H, 53⟩ : St)) (fun (p : Nat) => p ≤ s.fields.length ∧ fieldsS [] s.fields = fieldsS ((s.fields.take p).map (·.name)) (s.fields.drop p)) (fun (p : Nat) => s.fields.length - p) (0) ?_ (GS.weaken ⟨rfl, rfl, trivial⟩ (.refl _)) ?_
      · exact ⟨Nat.zero_le _, rfl⟩
      · rintro p hR
        refine AW.seq ?_
        refine AW.seq ?_
        refine AW.region ?_
        refine AOL.p (P_move (v := .int .i64 _) rfl) rfl ?_
        refine AOL.p (P_fieldAddr_ptr (cs' := [_]) tok rfl rfl rfl rfl rfl rfl) rfl ?_
        refine AOL.p (P_load_ptr (c := .sl _ _) tok rfl rfl rfl) rfl ?_
        refine AOL.p (P_len_sl (n := s.fields.length) tok rfl rfl rfl (by simp)) rfl ?_
        refine AOL.p (P_lss rfl rfl) rfl ?_
        refine AOL.nil ?_
        refine thenN ?_
        refine AW.cond (b := _) rfl (fun hc3 => ?_) (fun hc3 => ?_)
        · skip
          obtain ⟨a, ha⟩ := get_lt hc3
          have hlt := get_lt' ha
          have hm := List.mem_of_getElem? ha
          have hna : (s.fields.map (·.name))[p]? = some a.name := by simp [ha]
          refine AW.skip ?_
          refine thenN ?_
          refine AW.seq ?_
          refine AW.block ?_
          refine AW.seq ?_
          refine AW.region ?_
          refine AOL.p (P_fieldAddr_ptr (cs' := [_]) tok rfl rfl rfl rfl rfl rfl) rfl ?_
          refine AOL.p (P_load_ptr (c := .sl _ _) tok rfl rfl rfl) rfl ?_
          refine AOL.p (P_move (v := .int .i64 _) rfl) rfl ?_
          refine AOL.p (P_indexAddr (c := [.str _, .int .i64 _]) tok rfl rfl rfl rfl rfl rfl (by omega) (map_at ha)) rfl ?_
          refine AOL.p (P_load_ptr_agg (l := [.str _, .int .i64 _]) tok rfl rfl rfl rfl rfl) rfl ?_
          refine AOL.e (E_alloc (l := [.str [], .int .i64 0]) (by kernel_rfl)) rfl ?_
          rintro _ _ ⟨b4, rfl, rfl⟩
          refine AOL.e (E_store (k := 0) (v := .agg _) (cs' := [.str _, .int .i64 _]) (H2 := _ :: _) tok rfl rfl rfl rfl rfl rfl rfl rfl rfl) rfl ?_
          rintro _ _ ⟨rfl, rfl⟩
          refine AOL.ghost (GS.freeze (t := 4) 0 rfl rfl) ?_
          refine AOL.nil ?_
          refine thenN ?_
          refine AW.seq ?_
          refine AW.seq ?_
          refine AW.region ?_
          refine AOL.p (P_fieldAddr_ptr (cs' := [.str _, .int .i64 _]) tok rfl rfl rfl rfl rfl rfl) rfl ?_
          refine AOL.p (P_load_ptr (c := .str _) tok rfl rfl rfl) rfl ?_
          refine AOL.p (P_callf (by kernel_rfl) rfl rfl (c104 _ (hs.2.2 a hm))) rfl ?_
          refine AOL.p (P_not rfl) rfl ?_
          refine AOL.p (P_move (v := .bool _) rfl) rfl ?_
          refine AOL.g (y := .ptr _) _ [] rfl (EntL.all trivial) (fun hG => P_fieldAddr_ptr (cs' := [.str _, .int .i64 _]) tok rfl rfl rfl rfl rfl rfl) rfl ?_
          refine AOL.g (y := .str _) _ [(30, _)] rfl (EntL.all ⟨Ent.self _ _, trivial⟩) (fun hG => P_load_ptr (c := .str _) tok rfl rfl rfl) rfl ?_
          refine AOL.g (y := .bool _) _ [(31, _)] rfl (EntL.all ⟨Ent.self _ _, trivial⟩) (fun hG => P_eql_str rfl rfl) rfl ?_
          refine AOL.p (P_pick_or rfl rfl rfl) rfl ?_
          refine AOL.nil ?_
          refine thenN ?_
          refine AW.cond (b := _) rfl (fun hc4 => ?_) (fun hc4 => ?_)
          · skip
            have hb4 : (!fnameS a.name) = true := by rw [← fname_no]; exact hc4
            refine AW.seq ?_
            refine AW.region ?_
            refine AOL.p (P_assign (v := .int .i64 _) rfl) rfl ?_
            refine AOL.nil ?_
            refine thenN ?_
            refine AW.ret ?_
            refine thenR ?_
            refine blkR ?_
            refine thenR ?_
            refine thenR ?_
            refine blkR ?_
            refine thenR ?_
            refine ⟨.inr rfl, [.int .i64 _], .cons (.tmp _ _ rfl) <| .nil, .refl _, ?_⟩
            have he : fieldE ((s.fields.take p).map (·.name)) a = 8 := by
              unfold fieldE; rw [if_pos hb4]
            rw [show schS s = fieldE ((s.fields.take p).map (·.name)) a by unfold schS; rw [if_neg (by simpa using hc1), if_neg (by simpa using hc2), hR.2, drop_cons ha, fields_stop (by rw [he]; decide)], he]; rfl
          · skip
            have hb4 : ¬ (!fnameS a.name) = true := by rw [← fname_no]; exact Bool.eq_false_iff.mp hc4
            refine AW.skip ?_
            refine thenN ?_
            refine AW.seq ?_
            refine AW.seq ?_
            refine AW.region ?_
            refine AOL.p (P_load_ptr_agg (l := [.str _, _]) tok rfl rfl rfl rfl rfl) rfl ?_
            refine AOL.p (P_fieldAddr_ptr (cs' := [.str _, .int .i64 _]) tok rfl rfl rfl rfl rfl rfl) rfl ?_
            refine AOL.p (P_load_ptr (c := .str _) tok rfl rfl rfl) rfl ?_
            refine AOL.p (P_callf (by kernel_rfl) rfl rfl (c105 s hs.2.1 _)) rfl ?_
            refine AOL.p (P_move (v := .int .i64 _) rfl) rfl ?_
            refine AOL.p (P_lss rfl rfl) rfl ?_
            refine AOL.nil ?_
            refine thenN ?_
            refine AW.cond (b := _) rfl (fun hc5 => ?_) (fun hc5 => ?_)
            · skip
              rw [place_lt hna, ← List.map_take] at hc5
              have hb5 : ((s.fields.take p).map (·.name)).contains a.name = true := hc5
              refine AW.seq ?_
              refine AW.region ?_
              refine AOL.p (P_assign (v := .int .i64 _) rfl) rfl ?_
              refine AOL.nil ?_
              refine thenN ?_
              refine AW.ret ?_
              refine thenR ?_
              refine blkR ?_
              refine thenR ?_
              refine thenR ?_
              refine blkR ?_
              refine thenR ?_
              refine ⟨.inr rfl, [.int .i64 _], .cons (.tmp _ _ rfl) <| .nil, .refl _, ?_⟩
              have he : fieldE ((s.fields.take p).map (·.name)) a = 7 := by
                unfold fieldE; rw [if_neg hb4, if_pos hb5]
              rw [show schS s = fieldE ((s.fields.take p).map (·.name)) a by unfold schS; rw [if_neg (by simpa using hc1), if_neg (by simpa using hc2), hR.2, drop_cons ha, fields_stop (by rw [he]; decide)], he]; rfl
            · skip
              rw [place_lt hna, ← List.map_take] at hc5
              have hb5 : ¬ ((s.fields.take p).map (·.name)).contains a.name = true := Bool.eq_false_iff.mp hc5
              refine AW.skip ?_
              refine thenN ?_
              refine AW.seq ?_
              refine AW.region ?_
              refine AOL.p (P_fieldAddr_ptr (cs' := [.int .i64 _]) tok rfl rfl rfl rfl rfl rfl) rfl ?_
              refine AOL.p (P_load_ptr (c := .int .i64 _) tok rfl rfl rfl) rfl ?_
              refine AOL.p (P_neq rfl rfl) rfl ?_
              refine AOL.p (P_move (v := .bool _) rfl) rfl ?_
              refine AOL.g (y := .ptr _) _ [] rfl (EntL.all trivial) (fun hG => P_fieldAddr_ptr (cs' := [.int .i64 _]) tok rfl rfl rfl rfl rfl rfl) rfl ?_
              refine AOL.g (y := .int .i64 _) _ [(44, _)] rfl (EntL.all ⟨Ent.self _ _, trivial⟩) (fun hG => P_load_ptr (c := .int .i64 _) tok rfl rfl rfl) rfl ?_
              refine AOL.g (y := .bool _) _ [(45, _)] rfl (EntL.all ⟨Ent.self _ _, trivial⟩) (fun hG => P_neq rfl rfl) rfl ?_
              refine AOL.p (P_pick_and rfl rfl rfl) rfl ?_
              refine AOL.p (P_move (v := .bool _) rfl) rfl ?_
              refine AOL.g (y := .ptr _) _ [] rfl (EntL.all trivial) (fun hG => P_fieldAddr_ptr (cs' := [.int .i64 _]) tok rfl rfl rfl rfl rfl rfl) rfl ?_
              refine AOL.g (y := .int .i64 _) _ [(49, _)] rfl (EntL.all ⟨Ent.self _ _, trivial⟩) (fun hG => P_load_ptr (c := .int .i64 _) tok rfl rfl rfl) rfl ?_
              refine AOL.g (y := .bool _) _ [(50, _)] rfl (EntL.all ⟨Ent.self _ _, trivial⟩) (fun hG => P_neq rfl rfl) rfl ?_
              refine AOL.p (P_pick_and rfl rfl rfl) rfl ?_
              refine AOL.nil ?_
              refine thenN ?_
              refine AW.cond (b := _) rfl (fun hc6 => ?_) (fun hc6 => ?_)
              · skip
                have hb6 := (kind_out a.kind).symm.trans hc6
                refine AW.seq ?_
                refine AW.region ?_
                refine AOL.p (P_assign (v := .int .i64 _) rfl) rfl ?_
                refine AOL.nil ?_
                refine thenN ?_
                refine AW.ret ?_
                refine blkR ?_
                refine thenR ?_
                refine thenR ?_
                refine blkR ?_
                refine thenR ?_
                refine ⟨.inr rfl, [.int .i64 _], .cons (.tmp _ _ rfl) <| .nil, .refl _, ?_⟩
                have he : fieldE ((s.fields.take p).map (·.name)) a = 1 := by
                  unfold fieldE; rw [if_neg hb4, if_neg hb5, if_pos hb6]
                rw [show schS s = fieldE ((s.fields.take p).map (·.name)) a by unfold schS; rw [if_neg (by simpa using hc1), if_neg (by simpa using hc2), hR.2, drop_cons ha, fields_stop (by rw [he]; decide)], he]; rfl
              · skip
                have hb6 := Bool.eq_false_iff.mp ((kind_out a.kind).symm.trans hc6)
                have he0 : fieldE ((s.fields.take p).map (·.name)) a = 0 := by unfold fieldE; rw [if_neg hb4, if_neg hb5, if_neg hb6]
                refine AW.skip ?_
                refine blkN ?_
                refine thenN ?_
                refine AW.region ?_
                refine AOL.p (P_move (v := .int .i64 _) rfl) rfl ?_
                refine AOL.p (P_add rfl rfl rfl (by constructor <;> omega)) rfl ?_
                refine AOL.p (P_assign (v := .int .i64 _) rfl) rfl ?_
                refine AOL.nil ?_
                refine thenN ?_
                refine ⟨p + 1, ?_, ?_, GS.weaken ⟨rfl, rfl, trivial⟩ (.refl _)⟩
                · exact ⟨hlt, by rw [hR.2, drop_cons ha, fields_step he0, names_take ha]⟩
                · omega
        · skip
          have hd := get_end hc3
          refine AW.exit ?_
          refine thenE ?_
          refine thenE ?_
          refine blkHit ?_
          refine thenN ?_
          refine AW.seq ?_
          refine AW.region ?_
          refine AOL.p (P_assign (v := .int .i64 _) rfl) rfl ?_
          refine AOL.nil ?_
          refine thenN ?_
          refine AW.ret ?_
          refine ⟨.inr rfl, [.int .i64 _], .cons (.tmp _ _ rfl) <| .nil, .refl _, ?_⟩
          rw [show schS s = 0 by unfold schS; rw [if_neg (by simpa using hc1), if_neg (by simpa using hc2), hR.2, hd]; rfl]; rfl
set_option maxRecDepth 20000 in
set_option maxHeartbeats 800000 in
theorem c57 (l : List Sc) (hl : l.length ≤ 1048576) (hs : ∀ s ∈ l, scOK s) : APure Try.prog 67 [.sl 2 (l.map cSc)] (.int .i64 (allTS l)) := by
  refine APure.body (n := 30) tok Try.func67 rfl rfl rfl fun H => ?_
  refine AW.seq ?_
  refine AW.region ?_
  refine AOL.p (P_assign (v := .int .i64 _) rfl) rfl ?_
  refine AOL.nil ?_
  refine thenN ?_
  refine AW.seq ?_
  refine AW.seq ?_
  refine AW.region ?_
  refine AOL.p (P_move (v := .sl _ _) rfl) rfl ?_
  refine AOL.p (P_len_sl (n := l.length) tok rfl rfl rfl (by simp)) rfl ?_
  refine AOL.p (P_gtr rfl rfl) rfl ?_
  refine AOL.nil ?_
  refine thenN ?_
  refine AW.cond (b := _) rfl (fun hc1 => ?_) (fun hc1 => ?_)
  · skip
    refine AW.seq ?_
    refine AW.region ?_
    refine AOL.p (P_assign (v := .int .i64 _) rfl) rfl ?_
    refine AOL.nil ?_
    refine thenN ?_
    refine AW.ret ?_
    refine thenR ?_
    refine ⟨.inr rfl, [.int .i64 _], .cons (.tmp _ _ rfl) <| .nil, .refl _, ?_⟩
    rw [show allTS l = 5 by unfold allTS; rw [if_pos (by simpa using hc1)]]; rfl
  · skip
    refine AW.skip ?_
    refine thenN ?_
    refine AW.seq ?_
    refine AW.region ?_
    refine AOL.e (E_makeSMap) rfl ?_
    rintro _ _ ⟨b10, rfl, rfl⟩
    refine AOL.p (P_assign (v := .val _) rfl) rfl ?_
    refine AOL.nil ?_
    refine thenN ?_
    refine AW.seq ?_
    refine AW.seq ?_
    refine AW.region ?_
    refine AOL.p (P_move (v := .sl _ _) rfl) rfl ?_
    refine AOL.p (P_len_sl (n := l.length) tok rfl rfl rfl (by simp)) rfl ?_
    refine AOL.p (P_move (v := .int .i64 _) rfl) rfl ?_
    refine AOL.nil ?_
    refine thenN ?_
    refine AW.block ?_
    refine AW.loopS (fun (p : Nat × List (List UInt8)) => (⟨[(3, .val (.map (some b10))), (11, .sl 2 (l.map cSc)), (12, .int .i64 l.length), (13, .int .i64 (p.1 : Int))], .smap b10 (setS p.2) :: H, 30⟩ : St)) (fun (p : Nat × List (List UInt8)) => p.1 ≤ l.length ∧ typesS [] l = typesS p.2 (l.drop p.1)) (fun (p : Nat × List (List UInt8)) => l.length - p.1) ((0, [])) ?_ (GS.weaken ⟨rfl, rfl, rfl, rfl, trivial⟩ (.refl _)) ?_
    · exact ⟨Nat.zero_le _, rfl⟩
    · rintro p hR
      refine AW.seq ?_
      refine AW.region ?_
      refine AOL.p (P_lss rfl rfl) rfl ?_
      refine AOL.nil ?_
      refine thenN ?_
      refine AW.seq ?_
      refine AW.cond (b := _) rfl (fun hc2 => ?_) (fun hc2 => ?_)
      · skip
        obtain ⟨a, ha⟩ := get_lt hc2
        have hlt := get_lt' ha
        have hm := List.mem_of_getElem? ha
        refine AW.skip ?_
        refine thenN ?_
        refine AW.seq ?_
        refine AW.block ?_
        refine AW.seq ?_
        refine AW.region ?_
        refine AOL.p (P_indexAddr (c := [.str _, _]) tok rfl rfl rfl rfl rfl rfl (by omega) (map_at ha)) rfl ?_
        refine AOL.p (P_load_ptr_agg (l := [.str _, _]) tok rfl rfl rfl rfl rfl) rfl ?_
        refine AOL.e (E_alloc (l := [.str [], .sl 2 []]) (by kernel_rfl)) rfl ?_
        rintro _ _ ⟨b5, rfl, rfl⟩
        refine AOL.e (E_store (k := 0) (v := .agg _) (cs' := [.str _, _]) (H2 := _ :: _ :: _) tok rfl rfl rfl rfl rfl rfl rfl rfl rfl) rfl ?_
        rintro _ _ ⟨rfl, rfl⟩
        refine AOL.ghost (GS.freeze (t := 5) 0 rfl rfl) ?_
        refine AOL.nil ?_
        refine thenN ?_
        refine AW.seq ?_
        refine AW.seq ?_
        refine AW.region ?_
        refine AOL.p (P_load_ptr_agg (l := [.str _, _]) tok rfl rfl rfl rfl rfl) rfl ?_
        refine AOL.p (P_callf (by kernel_rfl) rfl rfl (c85 a (hs a hm))) rfl ?_
        refine AOL.p (P_assign (v := .int .i64 _) rfl) rfl ?_
        refine AOL.nil ?_
        refine thenN ?_
        refine AW.seq ?_
        refine AW.region ?_
        refine AOL.p (P_move (v := .int .i64 _) rfl) rfl ?_
        refine AOL.p (P_neq rfl rfl) rfl ?_
        refine AOL.nil ?_
        refine thenN ?_
        refine AW.cond (b := _) rfl (fun hc3 => ?_) (fun hc3 => ?_)
        · skip
          refine AW.seq ?_
          refine AW.region ?_
          refine AOL.p (P_move (v := .int .i64 _) rfl) rfl ?_
          refine AOL.p (P_assign (v := .int .i64 _) rfl) rfl ?_
          refine AOL.nil ?_
          refine thenN ?_
          refine AW.ret ?_
          refine thenR ?_
          refine blkR ?_
          refine thenR ?_
          refine thenR ?_
          refine blkR ?_
          refine thenR ?_
          refine ⟨.inr rfl, [.int .i64 _], .cons (.tmp _ _ rfl) <| .nil, .cons _ (.refl _), ?_⟩
          have he : typeE p.2 a = schS a := by unfold typeE; rw [if_pos hc3]
          rw [show allTS l = typeE p.2 a by unfold allTS; rw [if_neg (by simpa using hc1), hR.2, drop_cons ha, types_stop (by rw [he]; simpa using hc3)], he]; rfl
        · skip
          have hb3 := Bool.eq_false_iff.mp hc3
          refine AW.skip ?_
          refine thenN ?_
          refine AW.seq ?_
          refine AW.seq ?_
          refine AW.region ?_
          refine AOL.p (P_move (v := .val _) rfl) rfl ?_
          refine AOL.p (P_fieldAddr_ptr (cs' := [.str _, _]) tok rfl rfl rfl rfl rfl rfl) rfl ?_
          refine AOL.p (P_load_ptr (c := .str _) tok rfl rfl rfl) rfl ?_
          refine AOL.pk (P_setLook (i := 0) (ks := p.2) tok rfl rfl rfl rfl rfl (by kernel_rfl) rfl rfl rfl) rfl rfl ?_
          refine AOL.nil ?_
          refine thenN ?_
          refine AW.cond (b := _) rfl (fun hc4 => ?_) (fun hc4 => ?_)
          · skip
            have hb4 : p.2.contains a.name = true := hc4
            refine AW.seq ?_
            refine AW.region ?_
            refine AOL.p (P_assign (v := .int .i64 _) rfl) rfl ?_
            refine AOL.nil ?_
            refine thenN ?_
            refine AW.ret ?_
            refine thenR ?_
            refine blkR ?_
            refine thenR ?_
            refine thenR ?_
            refine blkR ?_
            refine thenR ?_
            refine ⟨.inr rfl, [.int .i64 _], .cons (.tmp _ _ rfl) <| .nil, .cons _ (.refl _), ?_⟩
            have he : typeE p.2 a = 7 := by unfold typeE; rw [if_neg hb3, if_pos hb4]
            rw [show allTS l = typeE p.2 a by unfold allTS; rw [if_neg (by simpa using hc1), hR.2, drop_cons ha, types_stop (by rw [he]; decide)], he]; rfl
          · skip
            have hb4 : ¬ p.2.contains a.name = true := by simpa using hc4
            have he0 : typeE p.2 a = 0 := by unfold typeE; rw [if_neg hb3, if_neg hb4]
            refine AW.skip ?_
            refine thenN ?_
            refine AW.region ?_
            refine AOL.p (P_move (v := .val _) rfl) rfl ?_
            refine AOL.p (P_fieldAddr_ptr (cs' := [.str _, _]) tok rfl rfl rfl rfl rfl rfl) rfl ?_
            refine AOL.p (P_load_ptr (c := .str _) tok rfl rfl rfl) rfl ?_
            refine AOL.e (E_setAdd (i := 0) (H2 := _ :: _) tok rfl rfl rfl rfl rfl rfl rfl rfl (by simpa using hb4) rfl) rfl ?_
            rintro _ _ ⟨rfl, rfl⟩
            refine AOL.nil ?_
            refine blkN ?_
            refine thenN ?_
            refine AW.region ?_
            refine AOL.p (P_add rfl rfl rfl (by constructor <;> omega)) rfl ?_
            refine AOL.p (P_move (v := .int .i64 _) rfl) rfl ?_
            refine AOL.nil ?_
            refine thenN ?_
            refine ⟨(p.1 + 1, p.2 ++ [a.name]), ?_, ?_, GS.weaken ⟨rfl, rfl, rfl, rfl, trivial⟩ (.refl _)⟩
            · exact ⟨hlt, by rw [hR.2, drop_cons ha, types_step he0]⟩
            · first | omega | (simp only; omega)
      · skip
        have hd := get_end hc2
        refine AW.exit ?_
        refine thenE ?_
        refine thenE ?_
        refine blkHit ?_
        refine thenN ?_
        refine AW.seq ?_
        refine AW.region ?_
        refine AOL.p (P_assign (v := .int .i64 _) rfl) rfl ?_
        refine AOL.nil ?_
        refine thenN ?_
        refine AW.ret ?_
        refine ⟨.inr rfl, [.int .i64 _], .cons (.tmp _ _ rfl) <| .nil, .cons _ (.refl _), ?_⟩
        rw [show allTS l = 0 by unfold allTS; rw [if_neg (by simpa using hc1), hR.2, hd]; rfl]; rfl
set_option maxRecDepth 20000 in
set_option maxHeartbeats 800000 in
theorem c59 (l : List Sc) (hl : l.length ≤ 1048576) (hs : ∀ s ∈ l, scOK s) : APure Try.prog 16 [.sl 2 (l.map cSc)] (.int .i64 (allTS l)) := by
  refine APure.body (n := 31) tok Try.func16 rfl rfl rfl fun H => ?_
  refine AW.seq ?_
  refine AW.region ?_
  refine AOL.p (P_assign (v := .int .i64 _) rfl) rfl ?_
  refine AOL.nil ?_
  refine thenN ?_
  refine AW.seq ?_
  refine AW.seq ?_
  refine AW.region ?_
  refine AOL.p (P_move (v := .sl _ _) rfl) rfl ?_
  refine AOL.p (P_len_sl (n := l.length) tok rfl rfl rfl (by simp)) rfl ?_
  refine AOL.p (P_gtr rfl rfl) rfl ?_
  refine AOL.nil ?_
  refine thenN ?_
  refine AW.cond (b := _) rfl (fun hc1 => ?_) (fun hc1 => ?_)
  · skip
    refine AW.seq ?_
    refine AW.region ?_
    refine AOL.p (P_assign (v := .int .i64 _) rfl) rfl ?_
    refine AOL.nil ?_
    refine thenN ?_
    refine AW.ret ?_
    refine thenR ?_
    refine ⟨.inr rfl, [.int .i64 _], .cons (.tmp _ _ rfl) <| .nil, .refl _, ?_⟩
    rw [show allTS l = 5 by unfold allTS; rw [if_pos (by simpa using hc1)]]; rfl
  · skip
    refine AW.skip ?_
    refine thenN ?_
    refine AW.seq ?_
    refine AW.seq ?_
    refine AW.region ?_
    refine AOL.p (P_assign (v := .int .i64 _) rfl) rfl ?_
    refine AOL.nil ?_
    refine thenN ?_
    refine AW.block ?_
    refine AW.loopS (fun (p : Nat) => (⟨[(0, .sl 2 (l.map cSc)), (3, .int .i64 (p : Int))], H, 31⟩ : St)) (fun (p : Nat) => p ≤ l.length ∧ typesS [] l = typesS ((l.take p).map (·.name)) (l.drop p)) (fun (p : Nat) => l.length - p) (0) ?_ (GS.weaken ⟨rfl, rfl, trivial⟩ (.refl _)) ?_
    · exact ⟨Nat.zero_le _, rfl⟩
    · rintro p hR
      refine AW.seq ?_
      refine AW.seq ?_
      refine AW.region ?_
      refine AOL.p (P_move (v := .int .i64 _) rfl) rfl ?_
      refine AOL.p (P_move (v := .sl _ _) rfl) rfl ?_
      refine AOL.p (P_len_sl (n := l.length) tok rfl rfl rfl (by simp)) rfl ?_
      refine AOL.p (P_lss rfl rfl) rfl ?_
      refine AOL.nil ?_
      refine thenN ?_
      refine AW.cond (b := _) rfl (fun hc2 => ?_) (fun hc2 => ?_)
      · skip
        obtain ⟨a, ha⟩ := get_lt hc2
        have hlt := get_lt' ha
        have hm := List.mem_of_getElem? ha
        have hna : (l.map (·.name))[p]? = some a.name := by simp [ha]
        refine AW.skip ?_
        refine thenN ?_
        refine AW.seq ?_
        refine AW.block ?_
        refine AW.seq ?_
        refine AW.seq ?_
        refine AW.region ?_
        refine AOL.p (P_move (v := .sl _ _) rfl) rfl ?_
        refine AOL.p (P_move (v := .int .i64 _) rfl) rfl ?_
        refine AOL.p (P_indexAddr (c := [.str _, _]) tok rfl rfl rfl rfl rfl rfl (by omega) (map_at ha)) rfl ?_
        refine AOL.p (P_load_ptr_agg (l := [.str _, _]) tok rfl rfl rfl rfl rfl) rfl ?_
        refine AOL.p (P_callf (by kernel_rfl) rfl rfl (c87 a (hs a hm))) rfl ?_
        refine AOL.p (P_assign (v := .int .i64 _) rfl) rfl ?_
        refine AOL.nil ?_
        refine thenN ?_
        refine AW.seq ?_
        refine AW.region ?_
        refine AOL.p (P_move (v := .int .i64 _) rfl) rfl ?_
        refine AOL.p (P_neq rfl rfl) rfl ?_
        refine AOL.nil ?_
        refine thenN ?_
        refine AW.cond (b := _) rfl (fun hc3 => ?_) (fun hc3 => ?_)
        · skip
          refine AW.seq ?_
          refine AW.region ?_
          refine AOL.p (P_move (v := .int .i64 _) rfl) rfl ?_
          refine AOL.p (P_assign (v := .int .i64 _) rfl) rfl ?_
          refine AOL.nil ?_
          refine thenN ?_
          refine AW.ret ?_
          refine thenR ?_
          refine blkR ?_
          refine thenR ?_
          refine thenR ?_
          refine blkR ?_
          refine thenR ?_
          refine ⟨.inr rfl, [.int .i64 _], .cons (.tmp _ _ rfl) <| .nil, .refl _, ?_⟩
          have he : typeE ((l.take p).map (·.name)) a = schS a := by unfold typeE; rw [if_pos hc3]
          rw [show allTS l = typeE ((l.take p).map (·.name)) a by unfold allTS; rw [if_neg (by simpa using hc1), hR.2, drop_cons ha, types_stop (by rw [he]; simpa using hc3)], he]; rfl
        · skip
          have hb3 := Bool.eq_false_iff.mp hc3
          refine AW.skip ?_
          refine thenN ?_
          refine AW.seq ?_
          refine AW.region ?_
          refine AOL.p (P_move (v := .sl _ _) rfl) rfl ?_
          refine AOL.p (P_move (v := .sl _ _) rfl) rfl ?_
          refine AOL.p (P_move (v := .int .i64 _) rfl) rfl ?_
          refine AOL.p (P_indexAddr (c := [.str _, _]) tok rfl rfl rfl rfl rfl rfl (by omega) (map_at ha)) rfl ?_
          refine AOL.p (P_fieldAddr_ptr (cs' := [.str _, _]) tok rfl rfl rfl rfl rfl rfl) rfl ?_
          refine AOL.p (P_load_ptr (c := .str _) tok rfl rfl rfl) rfl ?_
          refine AOL.p (P_callf (by kernel_rfl) rfl rfl (c88 l hl _)) rfl ?_
          refine AOL.p (P_move (v := .int .i64 _) rfl) rfl ?_
          refine AOL.p (P_lss rfl rfl) rfl ?_
          refine AOL.nil ?_
          refine thenN ?_
          refine AW.cond (b := _) rfl (fun hc4 => ?_) (fun hc4 => ?_)
          · skip
            rw [place_lt hna, ← List.map_take] at hc4
            have hb4 : ((l.take p).map (·.name)).contains a.name = true := hc4
            refine AW.seq ?_
            refine AW.region ?_
            refine AOL.p (P_assign (v := .int .i64 _) rfl) rfl ?_
            refine AOL.nil ?_
            refine thenN ?_
            refine AW.ret ?_
            refine blkR ?_
            refine thenR ?_
            refine thenR ?_
            refine blkR ?_
            refine thenR ?_
            refine ⟨.inr rfl, [.int .i64 _], .cons (.tmp _ _ rfl) <| .nil, .refl _, ?_⟩
            have he : typeE ((l.take p).map (·.name)) a = 7 := by unfold typeE; rw [if_neg hb3, if_pos hb4]
            rw [show allTS l = typeE ((l.take p).map (·.name)) a by unfold allTS; rw [if_neg (by simpa using hc1), hR.2, drop_cons ha, types_stop (by rw [he]; decide)], he]; rfl
          · skip
            rw [place_lt hna, ← List.map_take] at hc4
            have hb4 : ¬ ((l.take p).map (·.name)).contains a.name = true := Bool.eq_false_iff.mp hc4
            have he0 : typeE ((l.take p).map (·.name)) a = 0 := by unfold typeE; rw [if_neg hb3, if_neg hb4]
            refine AW.skip ?_
            refine blkN ?_
            refine thenN ?_
            refine AW.region ?_
            refine AOL.p (P_move (v := .int .i64 _) rfl) rfl ?_
            refine AOL.p (P_add rfl rfl rfl (by constructor <;> omega)) rfl ?_
            refine AOL.p (P_assign (v := .int .i64 _) rfl) rfl ?_
            refine AOL.nil ?_
            refine thenN ?_
            refine ⟨p + 1, ?_, ?_, GS.weaken ⟨rfl, rfl, trivial⟩ (.refl _)⟩
            · exact ⟨hlt, by rw [hR.2, drop_cons ha, types_step he0, tnames_take ha]⟩
            · omega
      · skip
        have hd := get_end hc2
        refine AW.exit ?_
        refine thenE ?_
        refine thenE ?_
        refine blkHit ?_
        refine thenN ?_
        refine AW.seq ?_
        refine AW.region ?_
        refine AOL.p (P_assign (v := .int .i64 _) rfl) rfl ?_
        refine AOL.nil ?_
        refine thenN ?_
        refine AW.ret ?_
        refine ⟨.inr rfl, [.int .i64 _], .cons (.tmp _ _ rfl) <| .nil, .refl _, ?_⟩
        rw [show allTS l = 0 by unfold allTS; rw [if_neg (by simpa using hc1), hR.2, hd]; rfl]; rfl

end Go.Proofs.Ytfpbgdjloccdbaa
