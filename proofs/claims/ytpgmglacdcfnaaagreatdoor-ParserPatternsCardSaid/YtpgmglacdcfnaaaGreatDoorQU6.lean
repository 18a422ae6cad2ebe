/-
  Walks of the reference: queries. No condition.
-/
import Derived.Test.YtpgmglacdcfnaaaGreatDoorQU5
import Derived.KernelRfl
namespace Go.Proofs.YtpgmglacdcfnaaaGreatDoor
open Go Go.Aw
set_option linter.unusedVariables false
set_option linter.unusedSimpArgs false

theorem pat_allR (E : PS → Syn × PS) (hFE : FineR E) (hE : ∀ (st : PS) (bp : Nat), okR 0 st → PCallS Tryz.prog 31 bp 60 (cP st) (cP (E st).2) [.val (.pointer (some ⟨bp, 0, none⟩))] (.agg (cSyn (E st).1))) : ∀ (n : Nat), n ≤ 65 → ∀ (st : PS) (bp : Nat), okR (65 - (n : Int)) st → PCallS Tryz.prog 29 bp 60 (cP st) (cP (patNR E n st).2) [.val (.pointer (some ⟨bp, 0, none⟩))] (.agg (cSyn (patNR E n st).1))
  | 0, _ => fun st bp hO => r_pattern st bp E hFE hE 65 (by decide) dullP fineR_dull (fun h => absurd h (by decide)) hO
  | n + 1, hn => fun st bp hO => by
    have ih := pat_allR E hFE hE n (by omega)
    exact r_pattern st bp E hFE hE (65 - ((n + 1 : Nat) : Int)) (by omega) (patNR E n) (fineR_patN hFE n) (fun _ s b h => ih s b (okR_le h (by omega))) hO
theorem fine_TTR : FineR TTR := fineR_patN fine_EER 65
theorem r_TTR (st : PS) (bp : Nat) (h : okR 0 st) : PCallS Tryz.prog 29 bp 60 (cP st) (cP (TTR st).2) [.val (.pointer (some ⟨bp, 0, none⟩))] (.agg (cSyn (TTR st).1)) := pat_allR EER fine_EER r_EER 65 (Nat.le_refl _) st bp h
abbrev z1 (st : PS) : PS := expR w_tquery st
abbrev z2 (st : PS) : Syn × PS := keyRR (tokR 0 (z1 st)) (offS st)
abbrev z3 (T : PS → Syn × PS) (st : PS) : Syn × PS := T (expR w_tmatch (z2 st).2)
abbrev z4 (T : PS → Syn × PS) (st : PS) : PS := expR w_treturn (z3 T st).2
abbrev z5 (E T : PS → Syn × PS) (st : PS) : Syn × PS := E (z4 T st)

set_option maxRecDepth 20000 in
set_option maxHeartbeats 3200000 in
theorem r_query (st : PS) (bp : Nat) (E : PS → Syn × PS) (hFE : FineR E) (hE : ∀ (st : PS) (bp : Nat), okR 0 st → PCallS Tryz.prog 31 bp 60 (cP st) (cP (E st).2) [.val (.pointer (some ⟨bp, 0, none⟩))] (.agg (cSyn (E st).1))) (T : PS → Syn × PS) (hFT : FineR T) (hT : ∀ (st : PS) (bp : Nat), okR 0 st → PCallS Tryz.prog 29 bp 60 (cP st) (cP (T st).2) [.val (.pointer (some ⟨bp, 0, none⟩))] (.agg (cSyn (T st).1))) (hO : okR 0 st) : PCallS Tryz.prog 27 bp 60 (cP st) (cP ((queryR E T st).2)) [.val (.pointer (some ⟨bp, 0, none⟩))] (.agg (cSyn (queryR E T st).1)) := by
  intro H
  have hS := hO.1
  have hO2 : okR 0 (z2 st).2 := (((GoR.exp _ _).trans (.tok _ _)).trans (goR_key _ _)).ok hO
  have hex2 : okR 0 (expR w_tmatch (z2 st).2) := (GoR.exp _ _).ok hO2
  have hO3 : okR 0 (z3 T st).2 := (hFT _ hex2.2.1).ok hex2
  have hO4 : okR 0 (z4 T st) := (GoR.exp _ _).ok hO3
  have hO5 : okR 0 (z5 E T st).2 := (hFE _ hO4.2.1).ok hO4
  refine ACall.body (n := 55) tok Tryz.func27 rfl rfl rfl ?_
  refine AW.seq ?_
  refine AW.region ?_
  refine AOL.e (E_alloc (l := [.int .i64 0, .str [], .str [], .int .i64 0, .sl 6 [], .int .i64 0]) (by kernel_rfl)) rfl ?_
  rintro _ _ ⟨b2, rfl, rfl⟩
  refine AOL.nil ?_
  refine thenN ?_
  refine AW.seq ?_
  refine AW.region ?_
  refine AOL.p (P_move (v := .val _) rfl) rfl ?_
  refine AOL.pk (P_callf_k (k := 1) (by kernel_rfl) rfl rfl (r_offset _ _)) rfl rfl ?_
  refine AOL.p (P_buildZ (l0 := [.int .i64 0, .str [], .str [], .int .i64 0, .val (.slice none 0 0), .int .i64 0]) (l := [.int .i64 _, .str _, .str _, .int .i64 _, _, .int .i64 _]) tok rfl rfl (by kernel_rfl) rfl) rfl ?_
  refine AOL.e (E_alloc (l := [.int .i64 0, .str [], .str [], .int .i64 0, .sl 6 [], .int .i64 0]) (by kernel_rfl)) rfl ?_
  rintro _ _ ⟨b3, rfl, rfl⟩
  refine AOL.e (E_store (k := 0) (v := .agg _) (cs' := [.int .i64 _, .str _, .str _, .int .i64 _, _, .int .i64 _]) (H2 := _ :: _ :: _ :: _) tok rfl rfl rfl rfl rfl rfl rfl rfl rfl) rfl ?_
  rintro _ _ ⟨rfl, rfl⟩
  refine AOL.ghost (GS.cellRow 0 4 26 6 rfl rfl rfl rfl) ?_
  refine AOL.nil ?_
  refine thenN ?_
  refine AW.seq ?_
  refine AW.region ?_
  refine AOL.p (P_fieldAddr_val tok rfl rfl rfl rfl rfl rfl) rfl ?_
  refine AOL.pk (P_load_box (k := 1) (c := .int .i64 _) tok rfl rfl rfl rfl) rfl rfl ?_
  refine AOL.p (P_build (l := [.int .i64 _, .str _, .str _, .int .i64 _, _, .int .i64 _]) tok rfl rfl rfl) rfl ?_
  refine AOL.e (E_alloc (l := [.int .i64 0, .str [], .str [], .int .i64 0, .sl 6 [], .int .i64 0]) (by kernel_rfl)) rfl ?_
  rintro _ _ ⟨b4, rfl, rfl⟩
  refine AOL.e (E_store (k := 0) (v := .agg _) (cs' := [.int .i64 _, .str _, .str _, .int .i64 _, _, .int .i64 _]) (H2 := _ :: _ :: _ :: _ :: _ :: _) tok rfl rfl rfl rfl rfl rfl rfl rfl rfl) rfl ?_
  rintro _ _ ⟨rfl, rfl⟩
  refine AOL.nil ?_
  refine thenN ?_
  refine AW.seq ?_
  refine AW.region ?_
  refine AOL.p (P_move (v := .val _) rfl) rfl ?_
  refine AOL.e (E_callf (by kernel_rfl) rfl rfl ((r_expect _ _ _ (by simpa using hS)).at (k := 4) (H2 := _ :: _ :: _ :: _ :: _ :: _) rfl rfl)) rfl ?_
  rintro _ _ ⟨rfl, rfl⟩
  refine AOL.nil ?_
  refine thenN ?_
  refine AW.seq ?_
  refine AW.region ?_
  refine AOL.p (P_move (v := .val _) rfl) rfl ?_
  refine AOL.e (E_callf (by kernel_rfl) rfl rfl ((r_take _ _ _ (by simpa using hS)).at (k := 4) (H2 := _ :: _ :: _ :: _ :: _ :: _) rfl rfl)) rfl ?_
  rintro _ _ ⟨rfl, rfl⟩
  refine AOL.p (P_fieldAddr_val tok rfl rfl rfl rfl rfl rfl) rfl ?_
  refine AOL.e (E_store (k := 2) (v := .str _) (cs' := [.int .i64 _, .str _, .str _, .int .i64 _, _, .int .i64 _]) (H2 := _ :: _ :: _ :: _ :: _ :: _) tok rfl rfl rfl rfl rfl rfl rfl rfl rfl) rfl ?_
  rintro _ _ ⟨rfl, rfl⟩
  refine AOL.nil ?_
  refine thenN ?_
  refine AW.cut (fun (k : Syn × PS) => (⟨[(0, .val (.pointer (some ⟨bp, 0, none⟩))), (2, .val (.pointer (some ⟨b2, 0, none⟩))), (3, .val (.pointer (some ⟨b3, 0, none⟩))), (4, .val (.pointer (some ⟨b4, 0, none⟩)))], .box b4 26 (cSyn k.1) :: .row (.slice none 0 0) 0 26 6 :: .box b3 26 [.int .i64 3, .str (txtR 0 (z1 st)), .str [], .int .i64 0, .row (.slice none 0 0) 6 [], .int .i64 (offS st)] :: .box b2 26 (cSyn synZ) :: .box bp 60 (cP k.2) :: H, 55⟩ : St)) (fun (k : Syn × PS) => k = z2 st) ?_ ?_
  · skip
    refine AW.seq ?_
    refine AW.region ?_
    refine AOL.p (P_move (v := .val _) rfl) rfl ?_
    refine AOL.e (E_callf (by kernel_rfl) rfl rfl ((r_accept _ _ _ (by simpa using hS)).at (k := 4) (H2 := _ :: _ :: _ :: _ :: _ :: _) rfl rfl)) rfl ?_
    rintro _ _ ⟨rfl, rfl⟩
    refine AOL.nil ?_
    refine thenN ?_
    refine AW.cond (b := _) rfl (fun hc1 => ?_) (fun hc1 => ?_)
    · skip
      try simp only [Bool.not_eq_true', Bool.not_eq_false'] at hc1
      refine AW.ghost (GS.cellsTo (H2 := _ :: _ :: _ :: _ :: _ :: _) 4 rfl (congrArg cP (accR_yes hc1)) rfl) ?_
      refine AW.seq ?_
      refine AW.region ?_
      refine AOL.p (P_move (v := .val _) rfl) rfl ?_
      refine AOL.pk (P_callf_k (k := 4) (by kernel_rfl) rfl rfl (r_offset _ _)) rfl rfl ?_
      refine AOL.p (P_fieldAddr_val tok rfl rfl rfl rfl rfl rfl) rfl ?_
      refine AOL.e (E_store (k := 0) (v := .int .i64 _) (cs' := [.int .i64 _, .str _, .str _, .int .i64 _, _, .int .i64 _]) (H2 := _ :: _ :: _ :: _ :: _ :: _) tok rfl rfl rfl rfl rfl rfl rfl rfl rfl) rfl ?_
      rintro _ _ ⟨rfl, rfl⟩
      refine AOL.nil ?_
      refine thenN ?_
      refine AW.region ?_
      refine AOL.p (P_move (v := .val _) rfl) rfl ?_
      refine AOL.e (E_callf (by kernel_rfl) rfl rfl ((r_take _ _ _ (by simpa using hS)).at (k := 4) (H2 := _ :: _ :: _ :: _ :: _ :: _) rfl rfl)) rfl ?_
      rintro _ _ ⟨rfl, rfl⟩
      refine AOL.p (P_fieldAddr_val tok rfl rfl rfl rfl rfl rfl) rfl ?_
      refine AOL.e (E_store (k := 0) (v := .str _) (cs' := [.int .i64 _, .str _, .str _, .int .i64 _, _, .int .i64 _]) (H2 := _ :: _ :: _ :: _ :: _ :: _) tok rfl rfl rfl rfl rfl rfl rfl rfl rfl) rfl ?_
      rintro _ _ ⟨rfl, rfl⟩
      refine AOL.nil ?_
      refine thenN ?_
      refine ⟨(⟨4, txtR 0 (adv (tokR 0 (z1 st))), [], 0, [], offS (adv (tokR 0 (z1 st)))⟩, tokR 0 (adv (tokR 0 (z1 st)))), ?_, GS.weaken ⟨rfl, rfl, rfl, rfl, trivial⟩ (.refl _)⟩
      exact (by unfold z2 keyRR; rw [if_pos (show isR w_by (tokR 0 (z1 st)) = true from hc1)])
    · skip
      try simp only [Bool.not_eq_true', Bool.not_eq_false'] at hc1
      refine AW.ghost (GS.cellsTo (H2 := _ :: _ :: _ :: _ :: _ :: _) 4 rfl (congrArg cP (accR_no hc1)) rfl) ?_
      refine AW.skip ?_
      refine thenN ?_
      refine ⟨(⟨4, [], [], 0, [], offS st⟩, tokR 0 (z1 st)), ?_, GS.weaken ⟨rfl, rfl, rfl, rfl, trivial⟩ (.refl _)⟩
      exact (by unfold z2 keyRR; rw [if_neg (Bool.eq_false_iff.mp (show isR w_by (tokR 0 (z1 st)) = false from hc1))])
  · rintro k rfl
    have hS := hO2.1
    refine AW.seq ?_
    refine AW.region ?_
    refine AOL.p (P_move (v := .val _) rfl) rfl ?_
    refine AOL.e (E_callf (by kernel_rfl) rfl rfl ((r_expect _ _ _ (by simpa using hS)).at (k := 4) (H2 := _ :: _ :: _ :: _ :: _ :: _) rfl rfl)) rfl ?_
    rintro _ _ ⟨rfl, rfl⟩
    refine AOL.nil ?_
    refine thenN ?_
    refine AW.seq ?_
    refine AW.draw mixed (fun H' => _ ∈ H' ∧ _ ∈ H') ⟨(List.mem_of_getElem? (i := 2) rfl), (List.mem_of_getElem? (i := 0) rfl)⟩ (by kernel_rfl) ?_
    refine Canon.pure _ _ 0 _ _ rfl (by kernel_rfl) (by kernel_rfl) rfl (.run rfl (P_fieldAddr_val tok rfl rfl rfl rfl rfl rfl)) ?_
    refine Canon.pure _ _ 1 _ _ rfl (by kernel_rfl) (by kernel_rfl) rfl (.run rfl (OpP.mem (fun k => P_load_box (k := k) (c := .row _ _ _) tok rfl rfl rfl rfl) (fun _ h => h.1))) ?_
    refine Canon.pure _ _ 2 _ _ rfl (by kernel_rfl) (by kernel_rfl) rfl (.run rfl (OpP.mem (fun k => P_load_box_agg (k := k) (l := [.int .i64 _, .str _, .str _, .int .i64 _, _, .int .i64 _]) tok rfl rfl rfl rfl rfl) (fun _ h => h.2))) ?_
    refine Canon.pure _ _ 3 _ _ rfl (by kernel_rfl) (by kernel_rfl) rfl (.run rfl (P_move (v := .val _) rfl)) ?_
    refine Canon.eff _ _ 4 _ _ rfl (by kernel_rfl) rfl rfl (E_callf (by kernel_rfl) rfl rfl ((hT _ bp hex2).at (k := 4) (H2 := _ :: _ :: _ :: _ :: _ :: _) rfl rfl)) (by rintro _ _ ⟨rfl, rfl⟩; simp) ?_
    rintro _ _ ⟨rfl, rfl⟩
    have hS := hO3.1
    refine Canon.pure _ _ 5 _ _ rfl (by kernel_rfl) (by kernel_rfl) rfl (.run rfl (P_buildSlice (es := [[.int .i64 _, .str _, .str _, .int .i64 _, _, .int .i64 _], [.int .i64 _, .str _, .str _, .int .i64 _, _, .int .i64 _]]) tok rfl rfl rfl rfl rfl rfl rfl rfl rfl)) ?_
    refine Canon.eff _ _ 6 _ _ rfl (by kernel_rfl) rfl rfl (E_append (k := 1) tok rfl rfl rfl rfl rfl rfl rfl rfl (sc_pair _ _) (sc_nil) (by simp) (by simp [maxLen])) (by rintro _ _ ⟨v32, rfl, rfl⟩; simp) ?_
    rintro _ _ ⟨v32, rfl, rfl⟩
    refine Canon.pure _ _ 7 _ _ rfl (by kernel_rfl) (by kernel_rfl) rfl (.run rfl (P_fieldAddr_val tok rfl rfl rfl rfl rfl rfl)) ?_
    refine Canon.last _ _ 8 _ _ rfl (by kernel_rfl) rfl rfl (E_store (k := 2) (v := .row _ _ _) (cs' := [.int .i64 _, .str _, .str _, .int .i64 _, _, .int .i64 _]) (H2 := _ :: _ :: _ :: _ :: _ :: _) tok rfl rfl rfl rfl rfl rfl rfl rfl rfl) (by kernel_rfl) ?_
    rintro _ _ ⟨rfl, rfl⟩
    refine thenN ?_
    refine AW.seq ?_
    refine AW.region ?_
    refine AOL.p (P_move (v := .val _) rfl) rfl ?_
    refine AOL.e (E_callf (by kernel_rfl) rfl rfl ((r_expect _ _ _ (by simpa using hS)).at (k := 4) (H2 := _ :: _ :: _ :: _ :: _ :: _) rfl rfl)) rfl ?_
    rintro _ _ ⟨rfl, rfl⟩
    refine AOL.nil ?_
    refine thenN ?_
    refine AW.seq ?_
    refine AW.draw mixed (fun H' => _ ∈ H') (List.mem_of_getElem? (i := 2) rfl) (by kernel_rfl) ?_
    refine Canon.pure _ _ 0 _ _ rfl (by kernel_rfl) (by kernel_rfl) rfl (.run rfl (P_fieldAddr_val tok rfl rfl rfl rfl rfl rfl)) ?_
    refine Canon.pure _ _ 1 _ _ rfl (by kernel_rfl) (by kernel_rfl) rfl (.run rfl (OpP.mem (fun k => P_load_box (k := k) (c := .row _ _ _) tok rfl rfl rfl rfl) (fun _ h => h))) ?_
    refine Canon.pure _ _ 2 _ _ rfl (by kernel_rfl) (by kernel_rfl) rfl (.run rfl (P_move (v := .val _) rfl)) ?_
    refine Canon.eff _ _ 3 _ _ rfl (by kernel_rfl) rfl rfl (E_callf (by kernel_rfl) rfl rfl ((hE _ bp hO4).at (k := 4) (H2 := _ :: _ :: _ :: _ :: _ :: _) rfl rfl)) (by rintro _ _ ⟨rfl, rfl⟩; simp) ?_
    rintro _ _ ⟨rfl, rfl⟩
    refine Canon.pure _ _ 4 _ _ rfl (by kernel_rfl) (by kernel_rfl) rfl (.run rfl (P_buildSlice (es := [[.int .i64 _, .str _, .str _, .int .i64 _, _, .int .i64 _]]) tok rfl rfl rfl rfl rfl rfl rfl rfl rfl)) ?_
    refine Canon.eff _ _ 5 _ _ rfl (by kernel_rfl) rfl rfl (E_append (k := 1) tok rfl rfl rfl rfl rfl rfl rfl rfl (sc_one rfl) (sc_pair _ _) (by simp) (by simp [maxLen])) (by rintro _ _ ⟨v41, rfl, rfl⟩; simp) ?_
    rintro _ _ ⟨v41, rfl, rfl⟩
    refine Canon.pure _ _ 6 _ _ rfl (by kernel_rfl) (by kernel_rfl) rfl (.run rfl (P_fieldAddr_val tok rfl rfl rfl rfl rfl rfl)) ?_
    refine Canon.last _ _ 7 _ _ rfl (by kernel_rfl) rfl rfl (E_store (k := 2) (v := .row _ _ _) (cs' := [.int .i64 _, .str _, .str _, .int .i64 _, _, .int .i64 _]) (H2 := _ :: _ :: _ :: _ :: _ :: _) tok rfl rfl rfl rfl rfl rfl rfl rfl rfl) (by kernel_rfl) ?_
    rintro _ _ ⟨rfl, rfl⟩
    refine thenN ?_
    refine AW.seq ?_
    refine AW.block ?_
    refine AW.loopS (fun (p : Nat × PS × List Syn × List (List AV) × Value) => (⟨[(0, .val (.pointer (some ⟨bp, 0, none⟩))), (2, .val (.pointer (some ⟨b2, 0, none⟩))), (3, .val (.pointer (some ⟨b3, 0, none⟩)))], .row p.2.2.2.2 p.2.2.2.1.length 26 6 :: .box b3 26 [.int .i64 3, .str (txtR 0 (z1 st)), .str [], .int .i64 0, .row p.2.2.2.2 6 p.2.2.2.1, .int .i64 (offS st)] :: .box b2 26 (cSyn synZ) :: .box bp 60 (cP p.2.1) :: H, 55⟩ : St)) (fun (p : Nat × PS × List Syn × List (List AV) × Value) => p.2.2.2.1 = p.2.2.1.map encS ∧ okR 0 p.2.1 ∧ fuel p.2.1 ≤ p.1 ∧ p.2.2.1.length ≤ p.2.1.pos + 10 ∧ listGoR E (fuel (z5 E T st).2) (z5 E T st).2 [(z2 st).1, (z3 T st).1, (z5 E T st).1] = listGoR E p.1 p.2.1 p.2.2.1) (fun (p : Nat × PS × List Syn × List (List AV) × Value) => p.1) ((fuel (z5 E T st).2, (z5 E T st).2, [(z2 st).1, (z3 T st).1, (z5 E T st).1], [cSyn (z2 st).1, cSyn (z3 T st).1] ++ [cSyn (z5 E T st).1], v41)) ?_ (GS.weaken ⟨rfl, rfl, rfl, trivial⟩ (.cons _ (.refl _))) ?_
    · exact ⟨by simp [encS_eq], hO5, Nat.le_refl _, by simp, rfl⟩
    · rintro p hR
      have hes : p.2.2.2.1 = p.2.2.1.map encS := hR.1
      have hO6 : okR 0 p.2.1 := hR.2.1
      have hS := hO6.1
      have hfu : fuel p.2.1 ≤ p.1 := hR.2.2.1
      have hn : 0 < p.1 := by unfold fuel at hfu; omega
      have hol : p.2.2.1.length ≤ p.2.1.pos + 10 := hR.2.2.2.1
      have hsc : ∀ c ∈ p.2.2.2.1, scalars c = true := by rw [hes]; exact sc_syn _
      have hel : p.2.2.2.1.length = p.2.2.1.length := by rw [hes, List.length_map]
      refine AW.seq ?_
      refine AW.seq ?_
      refine AW.region ?_
      refine AOL.p (P_move (v := .val _) rfl) rfl ?_
      refine AOL.e (E_callf (by kernel_rfl) rfl rfl ((r_accept _ _ _ (by simpa using hS)).at (k := 3) (H2 := _ :: _ :: _ :: _ :: _) rfl rfl)) rfl ?_
      rintro _ _ ⟨rfl, rfl⟩
      refine AOL.nil ?_
      refine thenN ?_
      refine AW.cond (b := _) rfl (fun hc2 => ?_) (fun hc2 => ?_)
      · skip
        try simp only [Bool.not_eq_true', Bool.not_eq_false'] at hc2
        have hlt := isR_lt hc2
        have hml := hS.1
        have hex6 : okR 0 (adv p.2.1) := (GoR.adv _).ok hO6
        have hFa := hFE (adv p.2.1) hex6.2.1
        have hps : p.2.1.pos + 1 ≤ (E (adv p.2.1)).2.pos := hFa.1.2.1
        have hts : (E (adv p.2.1)).2.toks = p.2.1.toks := hFa.1.1
        refine AW.ghost (GS.cellsTo (H2 := _ :: _ :: _ :: _ :: _) 3 rfl (congrArg cP (accR_yes hc2)) rfl) ?_
        refine AW.skip ?_
        refine thenN ?_
        refine AW.block ?_
        refine AW.draw mixed (fun H' => _ ∈ H') (List.mem_of_getElem? (i := 1) rfl) (by kernel_rfl) ?_
        refine Canon.pure _ _ 0 _ _ rfl (by kernel_rfl) (by kernel_rfl) rfl (.run rfl (P_fieldAddr_val tok rfl rfl rfl rfl rfl rfl)) ?_
        refine Canon.pure _ _ 1 _ _ rfl (by kernel_rfl) (by kernel_rfl) rfl (.run rfl (OpP.mem (fun k => P_load_box (k := k) (c := .row _ _ _) tok rfl rfl rfl rfl) (fun _ h => h))) ?_
        refine Canon.pure _ _ 2 _ _ rfl (by kernel_rfl) (by kernel_rfl) rfl (.run rfl (P_move (v := .val _) rfl)) ?_
        refine Canon.eff _ _ 3 _ _ rfl (by kernel_rfl) rfl rfl (E_callf (by kernel_rfl) rfl rfl ((hE _ bp hex6).at (k := 3) (H2 := _ :: _ :: _ :: _ :: _) rfl rfl)) (by rintro _ _ ⟨rfl, rfl⟩; simp) ?_
        rintro _ _ ⟨rfl, rfl⟩
        refine Canon.pure _ _ 4 _ _ rfl (by kernel_rfl) (by kernel_rfl) rfl (.run rfl (P_buildSlice (es := [[.int .i64 _, .str _, .str _, .int .i64 _, _, .int .i64 _]]) tok rfl rfl rfl rfl rfl rfl rfl rfl rfl)) ?_
        refine Canon.eff _ _ 5 _ _ rfl (by kernel_rfl) rfl rfl (E_append (k := 0) tok rfl rfl rfl rfl rfl rfl rfl rfl (sc_one rfl) (hsc) (by simp; omega) (by simp [maxLen]; omega)) (by rintro _ _ ⟨v50, rfl, rfl⟩; simp) ?_
        rintro _ _ ⟨v50, rfl, rfl⟩
        refine Canon.pure _ _ 6 _ _ rfl (by kernel_rfl) (by kernel_rfl) rfl (.run rfl (P_fieldAddr_val tok rfl rfl rfl rfl rfl rfl)) ?_
        refine Canon.last _ _ 7 _ _ rfl (by kernel_rfl) rfl rfl (E_store (k := 1) (v := .row _ _ _) (cs' := [.int .i64 _, .str _, .str _, .int .i64 _, _, .int .i64 _]) (H2 := _ :: _ :: _ :: _ :: _) tok rfl rfl rfl rfl rfl rfl rfl rfl rfl) (by kernel_rfl) ?_
        rintro _ _ ⟨rfl, rfl⟩
        refine blkN ?_
        refine thenN ?_
        refine ⟨(p.1 - 1, (E (adv p.2.1)).2, p.2.2.1 ++ [(E (adv p.2.1)).1], p.2.2.2.1 ++ [cSyn (E (adv p.2.1)).1], v50), ?_, ?_, GS.weaken ⟨rfl, rfl, rfl, trivial⟩ (.refl _)⟩
        · exact ⟨syn_next hes, hFa.ok hex6, by unfold fuel at hfu ⊢; rw [hts]; simp only; omega, by simp only [List.length_append, List.length_singleton]; omega, hR.2.2.2.2.trans (by rw [listGoR_pos hn, if_pos hc2])⟩
        · simp only; omega
      · skip
        try simp only [Bool.not_eq_true', Bool.not_eq_false'] at hc2
        refine AW.ghost (GS.cellsTo (H2 := _ :: _ :: _ :: _ :: _) 3 rfl (congrArg cP (accR_no hc2)) rfl) ?_
        refine AW.exit ?_
        refine thenE ?_
        refine thenE ?_
        refine blkHit ?_
        refine thenN ?_
        refine AW.seq ?_
        refine AW.region ?_
        refine AOL.p (P_move (v := .val _) rfl) rfl ?_
        refine AOL.e (E_callf (by kernel_rfl) rfl rfl ((r_expect _ _ _ (by simpa using hS)).at (k := 3) (H2 := _ :: _ :: _ :: _ :: _) rfl rfl)) rfl ?_
        rintro _ _ ⟨rfl, rfl⟩
        refine AOL.nil ?_
        refine thenN ?_
        refine AW.seq ?_
        refine AW.region ?_
        refine AOL.ghost (GS.cell (H2 := _ :: _ :: _ :: _ :: _) 1 4 rfl rfl rfl rfl unrow_cell) ?_
        refine AOL.pk (P_load_box_agg (k := 1) (l := [.int .i64 _, .str _, .str _, .int .i64 _, _, .int .i64 _]) tok rfl rfl rfl rfl rfl) rfl rfl ?_
        refine AOL.e (E_store (k := 2) (v := .agg _) (cs' := [.int .i64 _, .str _, .str _, .int .i64 _, _, .int .i64 _]) (H2 := _ :: _ :: _ :: _ :: _) tok rfl rfl rfl rfl rfl rfl rfl rfl rfl) rfl ?_
        rintro _ _ ⟨rfl, rfl⟩
        refine AOL.nil ?_
        refine thenN ?_
        refine AW.ret ?_
        refine ⟨.inr rfl, [.agg [.int .i64 _, .str _, .str _, .int .i64 _, _, .int .i64 _]], .cons (.box _ _ _ 2 _ _ _ _ rfl rfl rfl rfl rfl rfl) <| .nil, _, .cons _ (.cons _ (.cons _ (.refl _))), ?_⟩
        have h8 : listGoR E (fuel (z5 E T st).2) (z5 E T st).2 [(z2 st).1, (z3 T st).1, (z5 E T st).1] = (p.2.2.1, p.2.1) := hR.2.2.2.2.trans (by rw [listGoR_pos hn, if_neg (Bool.eq_false_iff.mp hc2)])
        have h9 : queryR E T st = (⟨3, txtR 0 (z1 st), [], 0, p.2.2.1, offS st⟩, expR w_semi p.2.1) := by
          unfold queryR
          simp only
          rw [h8]
        exact ⟨by rw [h9]; exact congrArg (fun l => AV.agg [.int .i64 3, .str (txtR 0 (z1 st)), .str [], .int .i64 0, .sl 6 l, .int .i64 (offS st)]) hes, congrArg (fun s => HO.box bp 60 (cP s) :: H) (by rw [h9])⟩

end Go.Proofs.YtpgmglacdcfnaaaGreatDoor
