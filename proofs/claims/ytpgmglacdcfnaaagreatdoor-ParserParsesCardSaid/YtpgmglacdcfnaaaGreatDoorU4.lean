/-
  Walks of the reference: events, event types. No condition.
-/
import Derived.Test.YtpgmglacdcfnaaaGreatDoorU3
import Derived.KernelRfl
namespace Go.Proofs.YtpgmglacdcfnaaaGreatDoor
open Go Go.Aw
set_option linter.unusedVariables false
set_option linter.unusedSimpArgs false

theorem okR_zero {D : Int} (hD : 0 ≤ D) {st : PS} (h : okR D st) : okR 0 st := ⟨h.1, h.2.1, fun _ => h.2.1.1⟩
abbrev cRw' (z : Syn) (v : Value) (es : List (List AV)) : List AV := [.int .i64 z.kind, .str z.text, .str z.name, .int .i64 z.num, .row v 6 es, .int .i64 z.pos]
theorem listGoR_pos {F : PS → Syn × PS} {n : Nat} {st : PS} {out : List Syn} (h : 0 < n) : listGoR F n st out = if isR w_comma st then listGoR F (n - 1) (F (adv st)).2 (out ++ [(F (adv st)).1]) else (out, st) := by
  obtain ⟨m, rfl⟩ : ∃ m, n = m + 1 := ⟨n - 1, by omega⟩
  rfl
set_option maxRecDepth 20000 in
set_option maxHeartbeats 800000 in
theorem r_event (st : PS) (bp : Nat) (E : PS → Syn × PS) (hFE : FineR E) (hE : ∀ (st : PS) (bp : Nat), okR 0 st → PCallS Tryz.prog 31 bp 60 (cP st) (cP (E st).2) [.val (.pointer (some ⟨bp, 0, none⟩))] (.agg (cSyn (E st).1))) (hO : okR 0 st) : PCallS Tryz.prog 54 bp 60 (cP st) (cP ((eventR E st).2)) [.val (.pointer (some ⟨bp, 0, none⟩))] (.agg (cSyn (eventR E st).1)) := by
  intro H
  have hS := hO.1
  refine ACall.body (n := 23) tok Tryz.func54 rfl rfl rfl ?_
  refine AW.seq ?_
  refine AW.region ?_
  refine AOL.e (E_alloc (l := [.int .i64 0, .str [], .str [], .int .i64 0, .sl 6 [], .int .i64 0]) (by kernel_rfl)) rfl ?_
  rintro _ _ ⟨b2, rfl, rfl⟩
  refine AOL.nil ?_
  refine thenN ?_
  refine AW.seq ?_
  refine AW.region ?_
  refine AOL.p (P_move (v := .val _) rfl) rfl ?_
  refine AOL.pk (P_callf_k (k := 1) (by kernel_rfl) rfl rfl (r_offset _ _)) rfl rfl ?_
  refine AOL.p (P_buildZ (l0 := [.int .i64 0, .str [], .str [], .int .i64 0, .val (.slice none 0 0), .int .i64 0]) (l := [.int .i64 _, .str _, .str _, .int .i64 _, _, .int .i64 _]) tok rfl rfl (by kernel_rfl) rfl) rfl ?_
  refine AOL.e (E_alloc (l := [.int .i64 0, .str [], .str [], .int .i64 0, .sl 6 [], .int .i64 0]) (by kernel_rfl)) rfl ?_
  rintro _ _ ⟨b3, rfl, rfl⟩
  refine AOL.e (E_store (k := 0) (v := .agg _) (cs' := [.int .i64 _, .str _, .str _, .int .i64 _, _, .int .i64 _]) (H2 := _ :: _ :: _ :: _) tok rfl rfl rfl rfl rfl rfl rfl rfl rfl) rfl ?_
  rintro _ _ ⟨rfl, rfl⟩
  refine AOL.ghost (GS.cellRow 0 4 26 6 rfl rfl rfl rfl) ?_
  refine AOL.nil ?_
  refine thenN ?_
  refine AW.seq ?_
  refine AW.region ?_
  refine AOL.p (P_move (v := .val _) rfl) rfl ?_
  refine AOL.e (E_callf (by kernel_rfl) rfl rfl ((r_take _ _ _ (by simpa using hS)).at (k := 3) (H2 := _ :: _ :: _ :: _ :: _) rfl rfl)) rfl ?_
  rintro _ _ ⟨rfl, rfl⟩
  refine AOL.p (P_fieldAddr_val tok rfl rfl rfl rfl rfl rfl) rfl ?_
  refine AOL.e (E_store (k := 1) (v := .str _) (cs' := [.int .i64 _, .str _, .str _, .int .i64 _, _, .int .i64 _]) (H2 := _ :: _ :: _ :: _ :: _) tok rfl rfl rfl rfl rfl rfl rfl rfl rfl) rfl ?_
  rintro _ _ ⟨rfl, rfl⟩
  refine AOL.nil ?_
  refine thenN ?_
  refine AW.seq ?_
  refine AW.region ?_
  refine AOL.p (P_move (v := .val _) rfl) rfl ?_
  refine AOL.e (E_callf (by kernel_rfl) rfl rfl ((r_take _ _ _ (by simpa using hS)).at (k := 3) (H2 := _ :: _ :: _ :: _ :: _) rfl rfl)) rfl ?_
  rintro _ _ ⟨rfl, rfl⟩
  refine AOL.p (P_fieldAddr_val tok rfl rfl rfl rfl rfl rfl) rfl ?_
  refine AOL.e (E_store (k := 1) (v := .str _) (cs' := [.int .i64 _, .str _, .str _, .int .i64 _, _, .int .i64 _]) (H2 := _ :: _ :: _ :: _ :: _) tok rfl rfl rfl rfl rfl rfl rfl rfl rfl) rfl ?_
  rintro _ _ ⟨rfl, rfl⟩
  refine AOL.nil ?_
  refine thenN ?_
  refine AW.seq ?_
  refine AW.seq ?_
  refine AW.region ?_
  refine AOL.p (P_move (v := .val _) rfl) rfl ?_
  refine AOL.e (E_callf (by kernel_rfl) rfl rfl ((r_accept _ _ _ (by simpa using hS)).at (k := 3) (H2 := _ :: _ :: _ :: _ :: _) rfl rfl)) rfl ?_
  rintro _ _ ⟨rfl, rfl⟩
  refine AOL.nil ?_
  refine thenN ?_
  refine AW.cond (b := _) rfl (fun hc1 => ?_) (fun hc1 => ?_)
  · skip
    try simp only [Bool.not_eq_true', Bool.not_eq_false'] at hc1
    have hex : okR 0 (adv (tokR 0 (tokR 0 st))) := (((GoR.tok _ _).trans (.tok _ _)).trans (.adv _)).ok hO
    refine AW.ghost (GS.cellsTo (H2 := _ :: _ :: _ :: _ :: _) 3 rfl (congrArg cP (accR_yes hc1)) rfl) ?_
    refine AW.draw mixed (fun H' => _ ∈ H') (List.mem_of_getElem? (i := 1) rfl) (by kernel_rfl) ?_
    refine Canon.pure _ _ 0 _ _ rfl (by kernel_rfl) (by kernel_rfl) rfl (.run rfl (P_fieldAddr_val tok rfl rfl rfl rfl rfl rfl)) ?_
    refine Canon.pure _ _ 1 _ _ rfl (by kernel_rfl) (by kernel_rfl) rfl (.run rfl (OpP.mem (fun k => P_load_box (k := k) (c := .row _ _ _) tok rfl rfl rfl rfl) (fun _ h => h))) ?_
    refine Canon.pure _ _ 2 _ _ rfl (by kernel_rfl) (by kernel_rfl) rfl (.run rfl (P_move (v := .val _) rfl)) ?_
    refine Canon.eff _ _ 3 _ _ rfl (by kernel_rfl) rfl rfl (E_callf (by kernel_rfl) rfl rfl ((hE _ bp hex).at (k := 3) (H2 := _ :: _ :: _ :: _ :: _) rfl rfl)) (by rintro _ _ ⟨rfl, rfl⟩; simp) ?_
    rintro _ _ ⟨rfl, rfl⟩
    refine Canon.pure _ _ 4 _ _ rfl (by kernel_rfl) (by kernel_rfl) rfl (.run rfl (P_buildSlice (es := [[.int .i64 _, .str _, .str _, .int .i64 _, _, .int .i64 _]]) tok rfl rfl rfl rfl rfl rfl rfl rfl rfl)) ?_
    refine Canon.eff _ _ 5 _ _ rfl (by kernel_rfl) rfl rfl (E_append (k := 0) tok rfl rfl rfl rfl rfl rfl rfl rfl (sc_one rfl) (sc_nil) (by simp) (by simp [maxLen])) (by rintro _ _ ⟨v20, rfl, rfl⟩; simp) ?_
    rintro _ _ ⟨v20, rfl, rfl⟩
    refine Canon.pure _ _ 6 _ _ rfl (by kernel_rfl) (by kernel_rfl) rfl (.run rfl (P_fieldAddr_val tok rfl rfl rfl rfl rfl rfl)) ?_
    refine Canon.last _ _ 7 _ _ rfl (by kernel_rfl) rfl rfl (E_store (k := 1) (v := .row _ _ _) (cs' := [.int .i64 _, .str _, .str _, .int .i64 _, _, .int .i64 _]) (H2 := _ :: _ :: _ :: _ :: _) tok rfl rfl rfl rfl rfl rfl rfl rfl rfl) (by kernel_rfl) ?_
    rintro _ _ ⟨rfl, rfl⟩
    refine thenN ?_
    refine AW.seq ?_
    refine AW.region ?_
    refine AOL.ghost (GS.cell (H2 := _ :: _ :: _ :: _ :: _) 1 4 rfl rfl rfl rfl unrow_cell) ?_
    refine AOL.pk (P_load_box_agg (k := 1) (l := [.int .i64 _, .str _, .str _, .int .i64 _, _, .int .i64 _]) tok rfl rfl rfl rfl rfl) rfl rfl ?_
    refine AOL.e (E_store (k := 2) (v := .agg _) (cs' := [.int .i64 _, .str _, .str _, .int .i64 _, _, .int .i64 _]) (H2 := _ :: _ :: _ :: _ :: _) tok rfl rfl rfl rfl rfl rfl rfl rfl rfl) rfl ?_
    rintro _ _ ⟨rfl, rfl⟩
    refine AOL.nil ?_
    refine thenN ?_
    refine AW.ret ?_
    refine ⟨.inr rfl, [.agg [.int .i64 _, .str _, .str _, .int .i64 _, _, .int .i64 _]], .cons (.box _ _ _ 2 _ _ _ _ rfl rfl rfl rfl rfl rfl) <| .nil, _, .cons _ (.cons _ (.cons _ (.refl _))), ?_⟩
    refine ⟨?_, congrArg (fun c => HO.box bp 60 c :: H) ?_⟩
    · try simp only [resOf, eventR, cSyn, List.map_cons, List.map_nil, encS_eq, hc1, ↓reduceIte, Bool.false_eq_true, Bool.not_true, Bool.not_false]
      try rfl
    · try simp only [cP, eventR, hc1, ↓reduceIte, Bool.false_eq_true, Bool.not_true, Bool.not_false]
      try rfl
  · skip
    try simp only [Bool.not_eq_true', Bool.not_eq_false'] at hc1
    refine AW.ghost (GS.cellsTo (H2 := _ :: _ :: _ :: _ :: _) 3 rfl (congrArg cP (accR_no hc1)) rfl) ?_
    refine AW.skip ?_
    refine thenN ?_
    refine AW.seq ?_
    refine AW.region ?_
    refine AOL.ghost (GS.cell (H2 := _ :: _ :: _ :: _ :: _) 1 4 rfl rfl rfl rfl unrow_cell) ?_
    refine AOL.pk (P_load_box_agg (k := 1) (l := [.int .i64 _, .str _, .str _, .int .i64 _, _, .int .i64 _]) tok rfl rfl rfl rfl rfl) rfl rfl ?_
    refine AOL.e (E_store (k := 2) (v := .agg _) (cs' := [.int .i64 _, .str _, .str _, .int .i64 _, _, .int .i64 _]) (H2 := _ :: _ :: _ :: _ :: _) tok rfl rfl rfl rfl rfl rfl rfl rfl rfl) rfl ?_
    rintro _ _ ⟨rfl, rfl⟩
    refine AOL.nil ?_
    refine thenN ?_
    refine AW.ret ?_
    refine ⟨.inr rfl, [.agg [.int .i64 _, .str _, .str _, .int .i64 _, _, .int .i64 _]], .cons (.box _ _ _ 2 _ _ _ _ rfl rfl rfl rfl rfl rfl) <| .nil, _, .cons _ (.cons _ (.cons _ (.refl _))), ?_⟩
    refine ⟨?_, congrArg (fun c => HO.box bp 60 c :: H) ?_⟩
    · try simp only [resOf, eventR, cSyn, List.map_cons, List.map_nil, encS_eq, hc1, ↓reduceIte, Bool.false_eq_true, Bool.not_true, Bool.not_false]
      try rfl
    · try simp only [cP, eventR, hc1, ↓reduceIte, Bool.false_eq_true, Bool.not_true, Bool.not_false]
      try rfl
abbrev t2 (st : PS) : PS := expR w_lbrace (tokR 0 (expR w_ttype st))
abbrev t3 (st : PS) : Syn × PS := fieldR (t2 st)
set_option maxRecDepth 20000 in
set_option maxHeartbeats 1600000 in
theorem r_typed (st : PS) (bp : Nat)  (hO : okR 0 st) : PCallS Tryz.prog 63 bp 60 (cP st) (cP ((typedR st).2)) [.val (.pointer (some ⟨bp, 0, none⟩))] (.agg (cSyn (typedR st).1)) := by
  intro H
  have hS := hO.1
  have hO1 : okR 0 (t2 st) := (((GoR.exp _ _).trans (.tok _ _)).trans (.exp _ _)).ok hO
  have hO3 : okR 0 (t3 st).2 := (fineR_field _ hO1.2.1).ok hO1
  refine ACall.body (n := 36) tok Tryz.func63 rfl rfl rfl ?_
  refine AW.seq ?_
  refine AW.region ?_
  refine AOL.e (E_alloc (l := [.int .i64 0, .str [], .str [], .int .i64 0, .sl 6 [], .int .i64 0]) (by kernel_rfl)) rfl ?_
  rintro _ _ ⟨b2, rfl, rfl⟩
  refine AOL.nil ?_
  refine thenN ?_
  refine AW.seq ?_
  refine AW.region ?_
  refine AOL.p (P_move (v := .val _) rfl) rfl ?_
  refine AOL.pk (P_callf_k (k := 1) (by kernel_rfl) rfl rfl (r_offset _ _)) rfl rfl ?_
  refine AOL.p (P_buildZ (l0 := [.int .i64 0, .str [], .str [], .int .i64 0, .val (.slice none 0 0), .int .i64 0]) (l := [.int .i64 _, .str _, .str _, .int .i64 _, _, .int .i64 _]) tok rfl rfl (by kernel_rfl) rfl) rfl ?_
  refine AOL.e (E_alloc (l := [.int .i64 0, .str [], .str [], .int .i64 0, .sl 6 [], .int .i64 0]) (by kernel_rfl)) rfl ?_
  rintro _ _ ⟨b3, rfl, rfl⟩
  refine AOL.e (E_store (k := 0) (v := .agg _) (cs' := [.int .i64 _, .str _, .str _, .int .i64 _, _, .int .i64 _]) (H2 := _ :: _ :: _ :: _) tok rfl rfl rfl rfl rfl rfl rfl rfl rfl) rfl ?_
  rintro _ _ ⟨rfl, rfl⟩
  refine AOL.ghost (GS.cellRow 0 4 26 6 rfl rfl rfl rfl) ?_
  refine AOL.nil ?_
  refine thenN ?_
  refine AW.seq ?_
  refine AW.region ?_
  refine AOL.p (P_move (v := .val _) rfl) rfl ?_
  refine AOL.e (E_callf (by kernel_rfl) rfl rfl ((r_expect _ _ _ (by simpa using hS)).at (k := 3) (H2 := _ :: _ :: _ :: _ :: _) rfl rfl)) rfl ?_
  rintro _ _ ⟨rfl, rfl⟩
  refine AOL.nil ?_
  refine thenN ?_
  refine AW.seq ?_
  refine AW.region ?_
  refine AOL.p (P_move (v := .val _) rfl) rfl ?_
  refine AOL.e (E_callf (by kernel_rfl) rfl rfl ((r_take _ _ _ (by simpa using hS)).at (k := 3) (H2 := _ :: _ :: _ :: _ :: _) rfl rfl)) rfl ?_
  rintro _ _ ⟨rfl, rfl⟩
  refine AOL.p (P_fieldAddr_val tok rfl rfl rfl rfl rfl rfl) rfl ?_
  refine AOL.e (E_store (k := 1) (v := .str _) (cs' := [.int .i64 _, .str _, .str _, .int .i64 _, _, .int .i64 _]) (H2 := _ :: _ :: _ :: _ :: _) tok rfl rfl rfl rfl rfl rfl rfl rfl rfl) rfl ?_
  rintro _ _ ⟨rfl, rfl⟩
  refine AOL.nil ?_
  refine thenN ?_
  refine AW.seq ?_
  refine AW.region ?_
  refine AOL.p (P_move (v := .val _) rfl) rfl ?_
  refine AOL.e (E_callf (by kernel_rfl) rfl rfl ((r_expect _ _ _ (by simpa using hS)).at (k := 3) (H2 := _ :: _ :: _ :: _ :: _) rfl rfl)) rfl ?_
  rintro _ _ ⟨rfl, rfl⟩
  refine AOL.nil ?_
  refine thenN ?_
  refine AW.seq ?_
  refine AW.seq ?_
  refine AW.region ?_
  refine AOL.p (P_move (v := .val _) rfl) rfl ?_
  refine AOL.e (E_callf (by kernel_rfl) rfl rfl ((r_accept _ _ _ (by simpa using hS)).at (k := 3) (H2 := _ :: _ :: _ :: _ :: _) rfl rfl)) rfl ?_
  rintro _ _ ⟨rfl, rfl⟩
  refine AOL.nil ?_
  refine thenN ?_
  refine AW.cond (b := _) rfl (fun hc1 => ?_) (fun hc1 => ?_)
  · skip
    try simp only [Bool.not_eq_true', Bool.not_eq_false'] at hc1
    refine AW.ghost (GS.cellsTo (H2 := _ :: _ :: _ :: _ :: _) 3 rfl (congrArg cP (accR_yes hc1)) rfl) ?_
    refine AW.seq ?_
    refine AW.region ?_
    refine AOL.ghost (GS.cell (H2 := _ :: _ :: _ :: _ :: _) 1 4 rfl rfl rfl rfl unrow_cell) ?_
    refine AOL.pk (P_load_box_agg (k := 1) (l := [.int .i64 _, .str _, .str _, .int .i64 _, _, .int .i64 _]) tok rfl rfl rfl rfl rfl) rfl rfl ?_
    refine AOL.e (E_store (k := 2) (v := .agg _) (cs' := [.int .i64 _, .str _, .str _, .int .i64 _, _, .int .i64 _]) (H2 := _ :: _ :: _ :: _ :: _) tok rfl rfl rfl rfl rfl rfl rfl rfl rfl) rfl ?_
    rintro _ _ ⟨rfl, rfl⟩
    refine AOL.nil ?_
    refine thenN ?_
    refine AW.ret ?_
    refine thenR ?_
    refine ⟨.inr rfl, [.agg [.int .i64 _, .str _, .str _, .int .i64 _, _, .int .i64 _]], .cons (.box _ _ _ 2 _ _ _ _ rfl rfl rfl rfl rfl rfl) <| .nil, _, .cons _ (.cons _ (.cons _ (.refl _))), ?_⟩
    have h9 : typedR st = (⟨1, txtR 0 (expR w_ttype st), [], 0, [], offS st⟩, adv (t2 st)) := by unfold typedR; simp only; rw [if_pos hc1]
    exact ⟨by rw [h9]; rfl, congrArg (fun s => HO.box bp 60 (cP s) :: H) (by rw [h9])⟩
  · skip
    try simp only [Bool.not_eq_true', Bool.not_eq_false'] at hc1
    refine AW.ghost (GS.cellsTo (H2 := _ :: _ :: _ :: _ :: _) 3 rfl (congrArg cP (accR_no hc1)) rfl) ?_
    refine AW.skip ?_
    refine thenN ?_
    refine AW.seq ?_
    refine AW.draw mixed (fun H' => _ ∈ H') (List.mem_of_getElem? (i := 1) rfl) (by kernel_rfl) ?_
    refine Canon.pure _ _ 0 _ _ rfl (by kernel_rfl) (by kernel_rfl) rfl (.run rfl (P_fieldAddr_val tok rfl rfl rfl rfl rfl rfl)) ?_
    refine Canon.pure _ _ 1 _ _ rfl (by kernel_rfl) (by kernel_rfl) rfl (.run rfl (OpP.mem (fun k => P_load_box (k := k) (c := .row _ _ _) tok rfl rfl rfl rfl) (fun _ h => h))) ?_
    refine Canon.pure _ _ 2 _ _ rfl (by kernel_rfl) (by kernel_rfl) rfl (.run rfl (P_move (v := .val _) rfl)) ?_
    refine Canon.eff _ _ 3 _ _ rfl (by kernel_rfl) rfl rfl (E_callf (by kernel_rfl) rfl rfl ((r_field _ _ (by simpa using hS)).at (k := 3) (H2 := _ :: _ :: _ :: _ :: _) rfl rfl)) (by rintro _ _ ⟨rfl, rfl⟩; simp) ?_
    rintro _ _ ⟨rfl, rfl⟩
    refine Canon.pure _ _ 4 _ _ rfl (by kernel_rfl) (by kernel_rfl) rfl (.run rfl (P_buildSlice (es := [[.int .i64 _, .str _, .str _, .int .i64 _, _, .int .i64 _]]) tok rfl rfl rfl rfl rfl rfl rfl rfl rfl)) ?_
    refine Canon.eff _ _ 5 _ _ rfl (by kernel_rfl) rfl rfl (E_append (k := 0) tok rfl rfl rfl rfl rfl rfl rfl rfl (sc_one rfl) (sc_nil) (by simp) (by simp [maxLen])) (by rintro _ _ ⟨v22, rfl, rfl⟩; simp) ?_
    rintro _ _ ⟨v22, rfl, rfl⟩
    refine Canon.pure _ _ 6 _ _ rfl (by kernel_rfl) (by kernel_rfl) rfl (.run rfl (P_fieldAddr_val tok rfl rfl rfl rfl rfl rfl)) ?_
    refine Canon.last _ _ 7 _ _ rfl (by kernel_rfl) rfl rfl (E_store (k := 1) (v := .row _ _ _) (cs' := [.int .i64 _, .str _, .str _, .int .i64 _, _, .int .i64 _]) (H2 := _ :: _ :: _ :: _ :: _) tok rfl rfl rfl rfl rfl rfl rfl rfl rfl) (by kernel_rfl) ?_
    rintro _ _ ⟨rfl, rfl⟩
    refine thenN ?_
    refine AW.seq ?_
    refine AW.block ?_
    refine AW.loopS (fun (p : Nat × PS × List Syn × List (List AV) × Value) => (⟨[(0, .val (.pointer (some ⟨bp, 0, none⟩))), (2, .val (.pointer (some ⟨b2, 0, none⟩))), (3, .val (.pointer (some ⟨b3, 0, none⟩)))], .row p.2.2.2.2 p.2.2.2.1.length 26 6 :: .box b3 26 [.int .i64 1, .str (txtR 0 (expR w_ttype st)), .str [], .int .i64 0, .row p.2.2.2.2 6 p.2.2.2.1, .int .i64 (offS st)] :: .box b2 26 (cSyn synZ) :: .box bp 60 (cP p.2.1) :: H, 36⟩ : St)) (fun (p : Nat × PS × List Syn × List (List AV) × Value) => p.2.2.2.1 = p.2.2.1.map encS ∧ okR 0 p.2.1 ∧ fuel p.2.1 ≤ p.1 ∧ p.2.2.1.length ≤ p.2.1.pos + 1 ∧ listGoR fieldR (fuel (t3 st).2) (t3 st).2 [(t3 st).1] = listGoR fieldR p.1 p.2.1 p.2.2.1) (fun (p : Nat × PS × List Syn × List (List AV) × Value) => p.1) ((fuel (t3 st).2, (t3 st).2, [(t3 st).1], [cSyn (t3 st).1], v22)) ?_ (GS.weaken ⟨rfl, rfl, rfl, trivial⟩ (.refl _)) ?_
    · exact ⟨by rw [List.map_singleton, encS_eq], hO3, Nat.le_refl _, by simp, rfl⟩
    · rintro p hR
      have hes : p.2.2.2.1 = p.2.2.1.map encS := hR.1
      have hO2 : okR 0 p.2.1 := hR.2.1
      have hS := hO2.1
      have hfu : fuel p.2.1 ≤ p.1 := hR.2.2.1
      have hn : 0 < p.1 := by unfold fuel at hfu; omega
      have hol : p.2.2.1.length ≤ p.2.1.pos + 1 := hR.2.2.2.1
      have hsc : ∀ c ∈ p.2.2.2.1, scalars c = true := by rw [hes]; exact sc_syn _
      have hel : p.2.2.2.1.length = p.2.2.1.length := by rw [hes, List.length_map]
      refine AW.seq ?_
      refine AW.seq ?_
      refine AW.region ?_
      refine AOL.p (P_move (v := .val _) rfl) rfl ?_
      refine AOL.e (E_callf (by kernel_rfl) rfl rfl ((r_accept _ _ _ (by simpa using hS)).at (k := 3) (H2 := _ :: _ :: _ :: _ :: _) rfl rfl)) rfl ?_
      rintro _ _ ⟨rfl, rfl⟩
      refine AOL.nil ?_
      refine thenN ?_
      refine AW.cond (b := _) rfl (fun hc2 => ?_) (fun hc2 => ?_)
      · skip
        try simp only [Bool.not_eq_true', Bool.not_eq_false'] at hc2
        have hlt := isR_lt hc2
        have hml := hS.1
        have hex : okR 0 (adv p.2.1) := (GoR.adv _).ok hO2
        have hFa := fineR_field (adv p.2.1) hex.2.1
        have hps : p.2.1.pos + 1 ≤ (fieldR (adv p.2.1)).2.pos := hFa.1.2.1
        have hts : (fieldR (adv p.2.1)).2.toks = p.2.1.toks := hFa.1.1
        refine AW.ghost (GS.cellsTo (H2 := _ :: _ :: _ :: _ :: _) 3 rfl (congrArg cP (accR_yes hc2)) rfl) ?_
        refine AW.skip ?_
        refine thenN ?_
        refine AW.block ?_
        refine AW.draw mixed (fun H' => _ ∈ H') (List.mem_of_getElem? (i := 1) rfl) (by kernel_rfl) ?_
        refine Canon.pure _ _ 0 _ _ rfl (by kernel_rfl) (by kernel_rfl) rfl (.run rfl (P_fieldAddr_val tok rfl rfl rfl rfl rfl rfl)) ?_
        refine Canon.pure _ _ 1 _ _ rfl (by kernel_rfl) (by kernel_rfl) rfl (.run rfl (OpP.mem (fun k => P_load_box (k := k) (c := .row _ _ _) tok rfl rfl rfl rfl) (fun _ h => h))) ?_
        refine Canon.pure _ _ 2 _ _ rfl (by kernel_rfl) (by kernel_rfl) rfl (.run rfl (P_move (v := .val _) rfl)) ?_
        refine Canon.eff _ _ 3 _ _ rfl (by kernel_rfl) rfl rfl (E_callf (by kernel_rfl) rfl rfl ((r_field _ _ (by simpa using hS)).at (k := 3) (H2 := _ :: _ :: _ :: _ :: _) rfl rfl)) (by rintro _ _ ⟨rfl, rfl⟩; simp) ?_
        rintro _ _ ⟨rfl, rfl⟩
        refine Canon.pure _ _ 4 _ _ rfl (by kernel_rfl) (by kernel_rfl) rfl (.run rfl (P_buildSlice (es := [[.int .i64 _, .str _, .str _, .int .i64 _, _, .int .i64 _]]) tok rfl rfl rfl rfl rfl rfl rfl rfl rfl)) ?_
        refine Canon.eff _ _ 5 _ _ rfl (by kernel_rfl) rfl rfl (E_append (k := 0) tok rfl rfl rfl rfl rfl rfl rfl rfl (sc_one rfl) (hsc) (by simp; omega) (by simp [maxLen]; omega)) (by rintro _ _ ⟨v31, rfl, rfl⟩; simp) ?_
        rintro _ _ ⟨v31, rfl, rfl⟩
        refine Canon.pure _ _ 6 _ _ rfl (by kernel_rfl) (by kernel_rfl) rfl (.run rfl (P_fieldAddr_val tok rfl rfl rfl rfl rfl rfl)) ?_
        refine Canon.last _ _ 7 _ _ rfl (by kernel_rfl) rfl rfl (E_store (k := 1) (v := .row _ _ _) (cs' := [.int .i64 _, .str _, .str _, .int .i64 _, _, .int .i64 _]) (H2 := _ :: _ :: _ :: _ :: _) tok rfl rfl rfl rfl rfl rfl rfl rfl rfl) (by kernel_rfl) ?_
        rintro _ _ ⟨rfl, rfl⟩
        refine blkN ?_
        refine thenN ?_
        refine ⟨(p.1 - 1, (fieldR (adv p.2.1)).2, p.2.2.1 ++ [(fieldR (adv p.2.1)).1], p.2.2.2.1 ++ [cSyn (fieldR (adv p.2.1)).1], v31), ?_, ?_, GS.weaken ⟨rfl, rfl, rfl, trivial⟩ (.refl _)⟩
        · exact ⟨syn_next hes, hFa.ok hex, by unfold fuel at hfu ⊢; rw [hts]; simp only; omega, by simp only [List.length_append, List.length_singleton]; omega, hR.2.2.2.2.trans (by rw [listGoR_pos hn, if_pos hc2])⟩
        · simp only; omega
      · skip
        try simp only [Bool.not_eq_true', Bool.not_eq_false'] at hc2
        refine AW.ghost (GS.cellsTo (H2 := _ :: _ :: _ :: _ :: _) 3 rfl (congrArg cP (accR_no hc2)) rfl) ?_
        refine AW.exit ?_
        refine thenE ?_
        refine thenE ?_
        refine blkHit ?_
        refine thenN ?_
        refine AW.seq ?_
        refine AW.region ?_
        refine AOL.p (P_move (v := .val _) rfl) rfl ?_
        refine AOL.e (E_callf (by kernel_rfl) rfl rfl ((r_expect _ _ _ (by simpa using hS)).at (k := 3) (H2 := _ :: _ :: _ :: _ :: _) rfl rfl)) rfl ?_
        rintro _ _ ⟨rfl, rfl⟩
        refine AOL.nil ?_
        refine thenN ?_
        refine AW.seq ?_
        refine AW.region ?_
        refine AOL.ghost (GS.cell (H2 := _ :: _ :: _ :: _ :: _) 1 4 rfl rfl rfl rfl unrow_cell) ?_
        refine AOL.pk (P_load_box_agg (k := 1) (l := [.int .i64 _, .str _, .str _, .int .i64 _, _, .int .i64 _]) tok rfl rfl rfl rfl rfl) rfl rfl ?_
        refine AOL.e (E_store (k := 2) (v := .agg _) (cs' := [.int .i64 _, .str _, .str _, .int .i64 _, _, .int .i64 _]) (H2 := _ :: _ :: _ :: _ :: _) tok rfl rfl rfl rfl rfl rfl rfl rfl rfl) rfl ?_
        rintro _ _ ⟨rfl, rfl⟩
        refine AOL.nil ?_
        refine thenN ?_
        refine AW.ret ?_
        refine ⟨.inr rfl, [.agg [.int .i64 _, .str _, .str _, .int .i64 _, _, .int .i64 _]], .cons (.box _ _ _ 2 _ _ _ _ rfl rfl rfl rfl rfl rfl) <| .nil, _, .cons _ (.cons _ (.cons _ (.refl _))), ?_⟩
        have h8 : listGoR fieldR (fuel (t3 st).2) (t3 st).2 [(t3 st).1] = (p.2.2.1, p.2.1) := hR.2.2.2.2.trans (by rw [listGoR_pos hn, if_neg (Bool.eq_false_iff.mp hc2)])
        have h9 : typedR st = (⟨1, txtR 0 (expR w_ttype st), [], 0, p.2.2.1, offS st⟩, expR w_rbrace p.2.1) := by
          unfold typedR
          simp only
          rw [if_neg (Bool.eq_false_iff.mp hc1), h8]
        exact ⟨by rw [h9]; exact congrArg (fun l => AV.agg [.int .i64 1, .str (txtR 0 (expR w_ttype st)), .str [], .int .i64 0, .sl 6 l, .int .i64 (offS st)]) hes, congrArg (fun s => HO.box bp 60 (cP s) :: H) (by rw [h9])⟩

end Go.Proofs.YtpgmglacdcfnaaaGreatDoor
