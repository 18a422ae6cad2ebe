/-
  Walks of the reference: patterns. No condition.
-/
import Derived.Test.YtpgmglacdcfnaaaGreatDoorQU4
import Derived.KernelRfl
namespace Go.Proofs.YtpgmglacdcfnaaaGreatDoor
open Go Go.Aw
set_option linter.unusedVariables false
set_option linter.unusedSimpArgs false

theorem oper_lt {st : PS} (h : (operR st == 5) = false) : st.pos < st.toks.length := by
  unfold operR at h
  repeat' split at h
  all_goals first | (rename_i hi; exact isR_lt hi) | exact absurd h (by decide)
abbrev y1 (st : PS) : PS := expR w_lpar (adv (openR st))
abbrev y2 (T : PS → Syn × PS) (st : PS) : Syn × PS := T (y1 st)
abbrev y3 (T : PS → Syn × PS) (st : PS) : Syn := ⟨operR st, [], [], 0, [(y2 T st).1], offS st⟩
abbrev y4 (T : PS → Syn × PS) (st : PS) : PS := expR w_comma (y2 T st).2
abbrev y5 (T : PS → Syn × PS) (st : PS) : Syn × PS := T (y4 T st)
theorem patR_eq {E T : PS → Syn × PS} {st : PS} (h : (operR st == 5) = false) : patR E T st = ((restR E T (operR st) (y3 T st) (y2 T st).2).1, shallow (expR w_rpar (restR E T (operR st) (y3 T st) (y2 T st).2).2)) := by unfold patR; rw [h]; rfl

set_option maxRecDepth 20000 in
set_option maxHeartbeats 6400000 in
theorem r_pattern (st : PS) (bp : Nat) (E : PS → Syn × PS) (hFE : FineR E) (hE : ∀ (st : PS) (bp : Nat), okR 0 st → PCallS Tryz.prog 31 bp 60 (cP st) (cP (E st).2) [.val (.pointer (some ⟨bp, 0, none⟩))] (.agg (cSyn (E st).1))) (D : Int) (hD : 0 ≤ D) (T : PS → Syn × PS) (hFT : FineR T) (hT : D ≤ 64 → ∀ (st : PS) (bp : Nat), okR (D + 1) st → PCallS Tryz.prog 29 bp 60 (cP st) (cP (T st).2) [.val (.pointer (some ⟨bp, 0, none⟩))] (.agg (cSyn (T st).1))) (hO : okR D st) : PCallS Tryz.prog 29 bp 60 (cP st) (cP ((patR E T st).2)) [.val (.pointer (some ⟨bp, 0, none⟩))] (.agg (cSyn (patR E T st).1)) := by
  intro H
  have hS := hO.1
  refine ACall.body (n := 95) tok Tryz.func29 rfl rfl rfl ?_
  refine AW.seq ?_
  refine AW.region ?_
  refine AOL.e (E_alloc (l := [.int .i64 0, .str [], .str [], .int .i64 0, .sl 6 [], .int .i64 0]) (by kernel_rfl)) rfl ?_
  rintro _ _ ⟨b2, rfl, rfl⟩
  refine AOL.nil ?_
  refine thenN ?_
  refine AW.seq ?_
  refine AW.region ?_
  refine AOL.p (P_move (v := .val _) rfl) rfl ?_
  refine AOL.pk (P_callf_k (k := 1) (by kernel_rfl) rfl rfl (r_operation _ _)) rfl rfl ?_
  refine AOL.p (P_move (v := .val _) rfl) rfl ?_
  refine AOL.pk (P_callf_k (k := 1) (by kernel_rfl) rfl rfl (r_offset _ _)) rfl rfl ?_
  refine AOL.p (P_buildZ (l0 := [.int .i64 0, .str [], .str [], .int .i64 0, .val (.slice none 0 0), .int .i64 0]) (l := [.int .i64 _, .str _, .str _, .int .i64 _, _, .int .i64 _]) tok rfl rfl (by kernel_rfl) rfl) rfl ?_
  refine AOL.e (E_alloc (l := [.int .i64 0, .str [], .str [], .int .i64 0, .sl 6 [], .int .i64 0]) (by kernel_rfl)) rfl ?_
  rintro _ _ ⟨b3, rfl, rfl⟩
  refine AOL.e (E_store (k := 0) (v := .agg _) (cs' := [.int .i64 _, .str _, .str _, .int .i64 _, _, .int .i64 _]) (H2 := _ :: _ :: _ :: _) tok rfl rfl rfl rfl rfl rfl rfl rfl rfl) rfl ?_
  rintro _ _ ⟨rfl, rfl⟩
  refine AOL.ghost (GS.cellRow 0 4 26 6 rfl rfl rfl rfl) ?_
  refine AOL.nil ?_
  refine thenN ?_
  refine AW.seq ?_
  refine AW.seq ?_
  refine AW.region ?_
  refine AOL.p (P_fieldAddr_val tok rfl rfl rfl rfl rfl rfl) rfl ?_
  refine AOL.pk (P_load_box (k := 1) (c := .int .i64 _) tok rfl rfl rfl rfl) rfl rfl ?_
  refine AOL.p (P_eql rfl rfl) rfl ?_
  refine AOL.nil ?_
  refine thenN ?_
  refine AW.cond (b := _) rfl (fun hc1 => ?_) (fun hc1 => ?_)
  · skip
    try simp only [Bool.not_eq_true', Bool.not_eq_false'] at hc1
    refine AW.seq ?_
    refine AW.region ?_
    refine AOL.p (P_move (v := .val _) rfl) rfl ?_
    refine AOL.e (E_callf (by kernel_rfl) rfl rfl ((r_event st bp E hFE hE (okR_zero hD hO)).at (k := 3) (H2 := _ :: _ :: _ :: _ :: _) rfl rfl)) rfl ?_
    rintro _ _ ⟨rfl, rfl⟩
    refine AOL.e (E_store (k := 2) (v := .agg _) (cs' := [.int .i64 _, .str _, .str _, .int .i64 _, _, .int .i64 _]) (H2 := _ :: _ :: _ :: _ :: _) tok rfl rfl rfl rfl rfl rfl rfl rfl rfl) rfl ?_
    rintro _ _ ⟨rfl, rfl⟩
    refine AOL.nil ?_
    refine thenN ?_
    refine AW.ret ?_
    refine thenR ?_
    refine ⟨.inr rfl, [.agg [.int .i64 _, .str _, .str _, .int .i64 _, _, .int .i64 _]], .cons (.box _ _ _ 2 _ _ _ _ rfl rfl rfl rfl rfl rfl) <| .nil, _, .cons _ (.cons _ (.cons _ (.refl _))), ?_⟩
    have h9 : patR E T st = eventR E st := by unfold patR; rw [if_pos hc1]
    exact ⟨by rw [h9]; rfl, congrArg (fun s => HO.box bp 60 (cP s) :: H) (by rw [h9])⟩
  · skip
    try simp only [Bool.not_eq_true', Bool.not_eq_false'] at hc1
    have hb := oper_good hc1
    have hlt := oper_lt hc1
    have hml := hS.1
    have hlo : (openR st).toks.length = st.toks.length := by rw [toks_openR]
    have hpo := pos_openR st
    have hd64 : D ≤ 64 := by have := hO.2.2 hb; have := hO.2.1.2.2 hb; omega
    have hex : okR (D + 1) (y1 st) := ((GoR.adv _).trans (.exp _ _)).ok (open_ok hD hO hb).1
    have hex2 : okR (D + 1) (y2 T st).2 := (hFT _ hex.2.1).ok hex
    have hS2 := hex2.1
    have hex4 : okR (D + 1) (y4 T st) := (GoR.exp _ _).ok hex2
    have hex5 : okR (D + 1) (y5 T st).2 := (hFT _ hex4.2.1).ok hex4
    have hsc1 : ∀ c ∈ [cSyn (y2 T st).1], scalars c = true := sc_one rfl
    refine AW.skip ?_
    refine thenN ?_
    refine AW.seq ?_
    refine AW.region ?_
    refine AOL.p (P_move (v := .val _) rfl) rfl ?_
    refine AOL.e (E_callf (by kernel_rfl) rfl rfl ((r_open _ _).at (k := 3) (H2 := _ :: _ :: _ :: _ :: _) rfl rfl)) rfl ?_
    rintro _ _ ⟨rfl, rfl⟩
    refine AOL.nil ?_
    refine thenN ?_
    refine AW.seq ?_
    refine AW.region ?_
    refine AOL.p (P_move (v := .val _) rfl) rfl ?_
    refine AOL.p (P_nilCheck rfl) rfl ?_
    refine AOL.p (P_fieldAddr_val tok rfl rfl rfl rfl rfl rfl) rfl ?_
    refine AOL.pk (P_load_box (k := 3) (c := .int .i64 _) tok rfl rfl rfl rfl) rfl rfl ?_
    refine AOL.p (P_add rfl rfl rfl (by constructor <;> omega)) rfl ?_
    refine AOL.p (P_nilCheck rfl) rfl ?_
    refine AOL.p (P_fieldAddr_val tok rfl rfl rfl rfl rfl rfl) rfl ?_
    refine AOL.e (E_store (k := 3) (v := .int .i64 _) (cs' := [_, .int .i64 _, .int .i64 _, .int .i64 _, .int .i64 _, .int .i64 _]) (H2 := _ :: _ :: _ :: _ :: _) tok rfl rfl rfl rfl rfl rfl rfl rfl rfl) rfl ?_
    rintro _ _ ⟨rfl, rfl⟩
    refine AOL.ghost (GS.cellsTo (H2 := _ :: _ :: _ :: _ :: _) 3 rfl ((rfl : _ = cP (adv (openR st)))) rfl) ?_
    refine AOL.nil ?_
    refine thenN ?_
    refine AW.seq ?_
    refine AW.region ?_
    refine AOL.p (P_move (v := .val _) rfl) rfl ?_
    refine AOL.e (E_callf (by kernel_rfl) rfl rfl ((r_expect _ _ _ (by simpa using hS)).at (k := 3) (H2 := _ :: _ :: _ :: _ :: _) rfl rfl)) rfl ?_
    rintro _ _ ⟨rfl, rfl⟩
    refine AOL.nil ?_
    refine thenN ?_
    refine AW.seq ?_
    refine AW.draw mixed (fun H' => _ ∈ H') (List.mem_of_getElem? (i := 1) rfl) (by kernel_rfl) ?_
    refine Canon.pure _ _ 0 _ _ rfl (by kernel_rfl) (by kernel_rfl) rfl (.run rfl (P_fieldAddr_val tok rfl rfl rfl rfl rfl rfl)) ?_
    refine Canon.pure _ _ 1 _ _ rfl (by kernel_rfl) (by kernel_rfl) rfl (.run rfl (OpP.mem (fun k => P_load_box (k := k) (c := .row _ _ _) tok rfl rfl rfl rfl) (fun _ h => h))) ?_
    refine Canon.pure _ _ 2 _ _ rfl (by kernel_rfl) (by kernel_rfl) rfl (.run rfl (P_move (v := .val _) rfl)) ?_
    refine Canon.eff _ _ 3 _ _ rfl (by kernel_rfl) rfl rfl (E_callf (by kernel_rfl) rfl rfl ((hT hd64 _ bp hex).at (k := 3) (H2 := _ :: _ :: _ :: _ :: _) rfl rfl)) (by rintro _ _ ⟨rfl, rfl⟩; simp) ?_
    rintro _ _ ⟨rfl, rfl⟩
    have hS := hS2
    refine Canon.pure _ _ 4 _ _ rfl (by kernel_rfl) (by kernel_rfl) rfl (.run rfl (P_buildSlice (es := [[.int .i64 _, .str _, .str _, .int .i64 _, _, .int .i64 _]]) tok rfl rfl rfl rfl rfl rfl rfl rfl rfl)) ?_
    refine Canon.eff _ _ 5 _ _ rfl (by kernel_rfl) rfl rfl (E_append (k := 0) tok rfl rfl rfl rfl rfl rfl rfl rfl (sc_one rfl) (sc_nil) (by simp) (by simp [maxLen])) (by rintro _ _ ⟨v30, rfl, rfl⟩; simp) ?_
    rintro _ _ ⟨v30, rfl, rfl⟩
    refine Canon.pure _ _ 6 _ _ rfl (by kernel_rfl) (by kernel_rfl) rfl (.run rfl (P_fieldAddr_val tok rfl rfl rfl rfl rfl rfl)) ?_
    refine Canon.last _ _ 7 _ _ rfl (by kernel_rfl) rfl rfl (E_store (k := 1) (v := .row _ _ _) (cs' := [.int .i64 _, .str _, .str _, .int .i64 _, _, .int .i64 _]) (H2 := _ :: _ :: _ :: _ :: _) tok rfl rfl rfl rfl rfl rfl rfl rfl rfl) (by kernel_rfl) ?_
    rintro _ _ ⟨rfl, rfl⟩
    refine thenN ?_
    refine AW.cut (fun (q : Syn × PS × List (List AV) × Value) => (⟨[(0, .val (.pointer (some ⟨bp, 0, none⟩))), (2, .val (.pointer (some ⟨b2, 0, none⟩))), (3, .val (.pointer (some ⟨b3, 0, none⟩)))], .row q.2.2.2 q.2.2.1.length 26 6 :: .box b3 26 (cRw' q.1 q.2.2.2 q.2.2.1) :: .box b2 26 (cSyn synZ) :: .box bp 60 (cP q.2.1) :: H, 95⟩ : St)) (fun (q : Syn × PS × List (List AV) × Value) => (q.1, q.2.1) = restR E T (operR st) (y3 T st) (y2 T st).2 ∧ q.2.2.1 = q.1.kids.map encS) ?_ ?_
    · skip
      refine AW.seq ?_
      refine AW.region ?_
      refine AOL.p (P_fieldAddr_val tok rfl rfl rfl rfl rfl rfl) rfl ?_
      refine AOL.pk (P_load_box (k := 1) (c := .int .i64 _) tok rfl rfl rfl rfl) rfl rfl ?_
      refine AOL.nil ?_
      refine thenN ?_
      refine AW.block ?_
      refine AW.cut (fun (x : Bool) => (⟨[(0, .val (.pointer (some ⟨bp, 0, none⟩))), (2, .val (.pointer (some ⟨b2, 0, none⟩))), (3, .val (.pointer (some ⟨b3, 0, none⟩))), (33, .int .i64 (operR st)), (34, .bool x)], .row v30 [cSyn (y2 T st).1].length 26 6 :: .box b3 26 [.int .i64 (operR st), .str [], .str [], .int .i64 0, .row v30 6 [cSyn (y2 T st).1], .int .i64 (offS st)] :: .box b2 26 (cSyn synZ) :: .box bp 60 (cP (y2 T st).2) :: H, 95⟩ : St)) (fun (x : Bool) => x = (((operR st == 6) || (operR st == 7)) || (operR st == 8))) ?_ ?_
      · skip
        refine AW.seq ?_
        refine AW.region ?_
        refine AOL.p (P_eql rfl rfl) rfl ?_
        refine AOL.p (P_assign (v := .bool _) rfl) rfl ?_
        refine AOL.nil ?_
        refine thenN ?_
        refine AW.cond (b := _) rfl (fun hc2 => ?_) (fun hc2 => ?_)
        · skip
          try simp only [Bool.not_eq_true', Bool.not_eq_false'] at hc2
          refine AW.skip ?_
          refine thenN ?_
          refine ⟨_, ?_, GS.weaken ⟨rfl, rfl, rfl, rfl, rfl, trivial⟩ (.refl _)⟩
          simp [*]
        · skip
          try simp only [Bool.not_eq_true', Bool.not_eq_false'] at hc2
          refine AW.seq ?_
          refine AW.region ?_
          refine AOL.p (P_eql rfl rfl) rfl ?_
          refine AOL.p (P_assign (v := .bool _) rfl) rfl ?_
          refine AOL.nil ?_
          refine thenN ?_
          refine AW.cond (b := _) rfl (fun hc3 => ?_) (fun hc3 => ?_)
          · skip
            try simp only [Bool.not_eq_true', Bool.not_eq_false'] at hc3
            refine AW.skip ?_
            refine thenN ?_
            refine ⟨_, ?_, GS.weaken ⟨rfl, rfl, rfl, rfl, rfl, trivial⟩ (.refl _)⟩
            simp [*]
          · skip
            try simp only [Bool.not_eq_true', Bool.not_eq_false'] at hc3
            refine AW.region ?_
            refine AOL.p (P_eql rfl rfl) rfl ?_
            refine AOL.p (P_assign (v := .bool _) rfl) rfl ?_
            refine AOL.nil ?_
            refine thenN ?_
            refine ⟨_, ?_, GS.weaken ⟨rfl, rfl, rfl, rfl, rfl, trivial⟩ (.refl _)⟩
            simp [*]
      · rintro x hx
        refine AW.cond (b := _) rfl (fun hc4 => ?_) (fun hc4 => ?_)
        · skip
          try simp only [Bool.not_eq_true', Bool.not_eq_false'] at hc4
          refine AW.seq ?_
          refine AW.region ?_
          refine AOL.p (P_move (v := .val _) rfl) rfl ?_
          refine AOL.e (E_callf (by kernel_rfl) rfl rfl ((r_expect _ _ _ (by simpa using hS)).at (k := 3) (H2 := _ :: _ :: _ :: _ :: _) rfl rfl)) rfl ?_
          rintro _ _ ⟨rfl, rfl⟩
          refine AOL.nil ?_
          refine thenN ?_
          refine AW.seq ?_
          refine AW.draw mixed (fun H' => _ ∈ H') (List.mem_of_getElem? (i := 1) rfl) (by kernel_rfl) ?_
          refine Canon.pure _ _ 0 _ _ rfl (by kernel_rfl) (by kernel_rfl) rfl (.run rfl (P_fieldAddr_val tok rfl rfl rfl rfl rfl rfl)) ?_
          refine Canon.pure _ _ 1 _ _ rfl (by kernel_rfl) (by kernel_rfl) rfl (.run rfl (OpP.mem (fun k => P_load_box (k := k) (c := .row _ _ _) tok rfl rfl rfl rfl) (fun _ h => h))) ?_
          refine Canon.pure _ _ 2 _ _ rfl (by kernel_rfl) (by kernel_rfl) rfl (.run rfl (P_move (v := .val _) rfl)) ?_
          refine Canon.eff _ _ 3 _ _ rfl (by kernel_rfl) rfl rfl (E_callf (by kernel_rfl) rfl rfl ((hT hd64 _ bp hex4).at (k := 3) (H2 := _ :: _ :: _ :: _ :: _) rfl rfl)) (by rintro _ _ ⟨rfl, rfl⟩; simp) ?_
          rintro _ _ ⟨rfl, rfl⟩
          refine Canon.pure _ _ 4 _ _ rfl (by kernel_rfl) (by kernel_rfl) rfl (.run rfl (P_buildSlice (es := [[.int .i64 _, .str _, .str _, .int .i64 _, _, .int .i64 _]]) tok rfl rfl rfl rfl rfl rfl rfl rfl rfl)) ?_
          refine Canon.eff _ _ 5 _ _ rfl (by kernel_rfl) rfl rfl (E_append (k := 0) tok rfl rfl rfl rfl rfl rfl rfl rfl (sc_one rfl) (hsc1) (by simp) (by simp [maxLen])) (by rintro _ _ ⟨v45, rfl, rfl⟩; simp) ?_
          rintro _ _ ⟨v45, rfl, rfl⟩
          refine Canon.pure _ _ 6 _ _ rfl (by kernel_rfl) (by kernel_rfl) rfl (.run rfl (P_fieldAddr_val tok rfl rfl rfl rfl rfl rfl)) ?_
          refine Canon.last _ _ 7 _ _ rfl (by kernel_rfl) rfl rfl (E_store (k := 1) (v := .row _ _ _) (cs' := [.int .i64 _, .str _, .str _, .int .i64 _, _, .int .i64 _]) (H2 := _ :: _ :: _ :: _ :: _) tok rfl rfl rfl rfl rfl rfl rfl rfl rfl) (by kernel_rfl) ?_
          rintro _ _ ⟨rfl, rfl⟩
          refine thenN ?_
          refine AW.block ?_
          refine AW.loopS (fun (p : Nat × PS × List Syn × List (List AV) × Value) => (⟨[(0, .val (.pointer (some ⟨bp, 0, none⟩))), (2, .val (.pointer (some ⟨b2, 0, none⟩))), (3, .val (.pointer (some ⟨b3, 0, none⟩))), (33, .int .i64 (operR st)), (34, .bool x)], .row p.2.2.2.2 p.2.2.2.1.length 26 6 :: .box b3 26 [.int .i64 (operR st), .str [], .str [], .int .i64 0, .row p.2.2.2.2 6 p.2.2.2.1, .int .i64 (offS st)] :: .box b2 26 (cSyn synZ) :: .box bp 60 (cP p.2.1) :: H, 95⟩ : St)) (fun (p : Nat × PS × List Syn × List (List AV) × Value) => p.2.2.2.1 = p.2.2.1.map encS ∧ okR (D + 1) p.2.1 ∧ fuel p.2.1 ≤ p.1 ∧ p.2.2.1.length ≤ p.2.1.pos + 10 ∧ listGoR T (fuel (y5 T st).2) (y5 T st).2 ((y3 T st).kids ++ [(y5 T st).1]) = listGoR T p.1 p.2.1 p.2.2.1) (fun (p : Nat × PS × List Syn × List (List AV) × Value) => p.1) ((fuel (y5 T st).2, (y5 T st).2, [(y2 T st).1] ++ [(y5 T st).1], [cSyn (y2 T st).1] ++ [cSyn (y5 T st).1], v45)) ?_ (GS.weaken ⟨rfl, rfl, rfl, rfl, rfl, trivial⟩ (.refl _)) ?_
          · exact ⟨syn_next (by rw [List.map_singleton, encS_eq]), hex5, Nat.le_refl _, by simp, rfl⟩
          · rintro p hR
            have hes : p.2.2.2.1 = p.2.2.1.map encS := hR.1
            have hO2 : okR (D + 1) p.2.1 := hR.2.1
            have hS := hO2.1
            have hfu : fuel p.2.1 ≤ p.1 := hR.2.2.1
            have hn : 0 < p.1 := by unfold fuel at hfu; omega
            have hol : p.2.2.1.length ≤ p.2.1.pos + 10 := hR.2.2.2.1
            have hsc : ∀ c ∈ p.2.2.2.1, scalars c = true := by rw [hes]; exact sc_syn _
            have hel : p.2.2.2.1.length = p.2.2.1.length := by rw [hes, List.length_map]
            refine AW.seq ?_
            refine AW.seq ?_
            refine AW.region ?_
            refine AOL.p (P_move (v := .val _) rfl) rfl ?_
            refine AOL.e (E_callf (by kernel_rfl) rfl rfl ((r_accept _ _ _ (by simpa using hS)).at (k := 3) (H2 := _ :: _ :: _ :: _ :: _) rfl rfl)) rfl ?_
            rintro _ _ ⟨rfl, rfl⟩
            refine AOL.nil ?_
            refine thenN ?_
            refine AW.cond (b := _) rfl (fun hc5 => ?_) (fun hc5 => ?_)
            · skip
              try simp only [Bool.not_eq_true', Bool.not_eq_false'] at hc5
              have hlt := isR_lt hc5
              have hml := hS.1
              have hex6 : okR (D + 1) (adv p.2.1) := (GoR.adv _).ok hO2
              have hFa := hFT (adv p.2.1) hex6.2.1
              have hps : p.2.1.pos + 1 ≤ (T (adv p.2.1)).2.pos := hFa.1.2.1
              have hts : (T (adv p.2.1)).2.toks = p.2.1.toks := hFa.1.1
              refine AW.ghost (GS.cellsTo (H2 := _ :: _ :: _ :: _ :: _) 3 rfl (congrArg cP (accR_yes hc5)) rfl) ?_
              refine AW.skip ?_
              refine thenN ?_
              refine AW.block ?_
              refine AW.draw mixed (fun H' => _ ∈ H') (List.mem_of_getElem? (i := 1) rfl) (by kernel_rfl) ?_
              refine Canon.pure _ _ 0 _ _ rfl (by kernel_rfl) (by kernel_rfl) rfl (.run rfl (P_fieldAddr_val tok rfl rfl rfl rfl rfl rfl)) ?_
              refine Canon.pure _ _ 1 _ _ rfl (by kernel_rfl) (by kernel_rfl) rfl (.run rfl (OpP.mem (fun k => P_load_box (k := k) (c := .row _ _ _) tok rfl rfl rfl rfl) (fun _ h => h))) ?_
              refine Canon.pure _ _ 2 _ _ rfl (by kernel_rfl) (by kernel_rfl) rfl (.run rfl (P_move (v := .val _) rfl)) ?_
              refine Canon.eff _ _ 3 _ _ rfl (by kernel_rfl) rfl rfl (E_callf (by kernel_rfl) rfl rfl ((hT hd64 _ bp hex6).at (k := 3) (H2 := _ :: _ :: _ :: _ :: _) rfl rfl)) (by rintro _ _ ⟨rfl, rfl⟩; simp) ?_
              rintro _ _ ⟨rfl, rfl⟩
              refine Canon.pure _ _ 4 _ _ rfl (by kernel_rfl) (by kernel_rfl) rfl (.run rfl (P_buildSlice (es := [[.int .i64 _, .str _, .str _, .int .i64 _, _, .int .i64 _]]) tok rfl rfl rfl rfl rfl rfl rfl rfl rfl)) ?_
              refine Canon.eff _ _ 5 _ _ rfl (by kernel_rfl) rfl rfl (E_append (k := 0) tok rfl rfl rfl rfl rfl rfl rfl rfl (sc_one rfl) (hsc) (by simp; omega) (by simp [maxLen]; omega)) (by rintro _ _ ⟨v54, rfl, rfl⟩; simp) ?_
              rintro _ _ ⟨v54, rfl, rfl⟩
              refine Canon.pure _ _ 6 _ _ rfl (by kernel_rfl) (by kernel_rfl) rfl (.run rfl (P_fieldAddr_val tok rfl rfl rfl rfl rfl rfl)) ?_
              refine Canon.last _ _ 7 _ _ rfl (by kernel_rfl) rfl rfl (E_store (k := 1) (v := .row _ _ _) (cs' := [.int .i64 _, .str _, .str _, .int .i64 _, _, .int .i64 _]) (H2 := _ :: _ :: _ :: _ :: _) tok rfl rfl rfl rfl rfl rfl rfl rfl rfl) (by kernel_rfl) ?_
              rintro _ _ ⟨rfl, rfl⟩
              refine blkN ?_
              refine thenN ?_
              refine ⟨(p.1 - 1, (T (adv p.2.1)).2, p.2.2.1 ++ [(T (adv p.2.1)).1], p.2.2.2.1 ++ [cSyn (T (adv p.2.1)).1], v54), ?_, ?_, GS.weaken ⟨rfl, rfl, rfl, rfl, rfl, trivial⟩ (.refl _)⟩
              · exact ⟨syn_next hes, hFa.ok hex6, by unfold fuel at hfu ⊢; rw [hts]; simp only; omega, by simp only [List.length_append, List.length_singleton]; omega, hR.2.2.2.2.trans (by rw [listGoR_pos hn, if_pos hc5])⟩
              · simp only; omega
            · skip
              try simp only [Bool.not_eq_true', Bool.not_eq_false'] at hc5
              have h25 : listGoR T (fuel (y5 T st).2) (y5 T st).2 ((y3 T st).kids ++ [(y5 T st).1]) = (p.2.2.1, p.2.1) := hR.2.2.2.2.trans (by rw [listGoR_pos hn, if_neg (Bool.eq_false_iff.mp hc5)])
              refine AW.ghost (GS.cellsTo (H2 := _ :: _ :: _ :: _ :: _) 3 rfl (congrArg cP (accR_no hc5)) rfl) ?_
              refine AW.exit ?_
              refine thenE ?_
              refine thenE ?_
              refine blkHit ?_
              refine blkN ?_
              refine thenN ?_
              refine ⟨(⟨operR st, [], [], 0, p.2.2.1, offS st⟩, p.2.1, p.2.2.2.1, p.2.2.2.2), ?_, GS.weaken ⟨rfl, rfl, rfl, trivial⟩ (.refl _)⟩
              exact ⟨by unfold restR; rw [← hx, if_pos hc4]; exact congrArg (fun l : List Syn × PS => ((⟨operR st, [], [], 0, l.1, offS st⟩ : Syn), l.2)) h25.symm, hes⟩
        · skip
          try simp only [Bool.not_eq_true', Bool.not_eq_false'] at hc4
          refine AW.seq ?_
          refine AW.region ?_
          refine AOL.p (P_eql rfl rfl) rfl ?_
          refine AOL.p (P_assign (v := .bool _) rfl) rfl ?_
          refine AOL.nil ?_
          refine thenN ?_
          refine AW.cond (b := _) rfl (fun hc6 => ?_) (fun hc6 => ?_)
          · skip
            try simp only [Bool.not_eq_true', Bool.not_eq_false'] at hc6
            refine AW.seq ?_
            refine AW.region ?_
            refine AOL.p (P_move (v := .val _) rfl) rfl ?_
            refine AOL.e (E_callf (by kernel_rfl) rfl rfl ((r_expect _ _ _ (by simpa using hS)).at (k := 3) (H2 := _ :: _ :: _ :: _ :: _) rfl rfl)) rfl ?_
            rintro _ _ ⟨rfl, rfl⟩
            refine AOL.nil ?_
            refine thenN ?_
            refine AW.draw mixed (fun H' => _ ∈ H') (List.mem_of_getElem? (i := 1) rfl) (by kernel_rfl) ?_
            refine Canon.pure _ _ 0 _ _ rfl (by kernel_rfl) (by kernel_rfl) rfl (.run rfl (P_fieldAddr_val tok rfl rfl rfl rfl rfl rfl)) ?_
            refine Canon.pure _ _ 1 _ _ rfl (by kernel_rfl) (by kernel_rfl) rfl (.run rfl (OpP.mem (fun k => P_load_box (k := k) (c := .row _ _ _) tok rfl rfl rfl rfl) (fun _ h => h))) ?_
            refine Canon.pure _ _ 2 _ _ rfl (by kernel_rfl) (by kernel_rfl) rfl (.run rfl (P_move (v := .val _) rfl)) ?_
            refine Canon.eff _ _ 3 _ _ rfl (by kernel_rfl) rfl rfl (E_callf (by kernel_rfl) rfl rfl ((r_event _ bp E hFE hE (okR_zero (by omega) hex4)).at (k := 3) (H2 := _ :: _ :: _ :: _ :: _) rfl rfl)) (by rintro _ _ ⟨rfl, rfl⟩; simp) ?_
            rintro _ _ ⟨rfl, rfl⟩
            refine Canon.pure _ _ 4 _ _ rfl (by kernel_rfl) (by kernel_rfl) rfl (.run rfl (P_buildSlice (es := [[.int .i64 _, .str _, .str _, .int .i64 _, _, .int .i64 _]]) tok rfl rfl rfl rfl rfl rfl rfl rfl rfl)) ?_
            refine Canon.eff _ _ 5 _ _ rfl (by kernel_rfl) rfl rfl (E_append (k := 0) tok rfl rfl rfl rfl rfl rfl rfl rfl (sc_one rfl) (hsc1) (by simp) (by simp [maxLen])) (by rintro _ _ ⟨v65, rfl, rfl⟩; simp) ?_
            rintro _ _ ⟨v65, rfl, rfl⟩
            refine Canon.pure _ _ 6 _ _ rfl (by kernel_rfl) (by kernel_rfl) rfl (.run rfl (P_fieldAddr_val tok rfl rfl rfl rfl rfl rfl)) ?_
            refine Canon.last _ _ 7 _ _ rfl (by kernel_rfl) rfl rfl (E_store (k := 1) (v := .row _ _ _) (cs' := [.int .i64 _, .str _, .str _, .int .i64 _, _, .int .i64 _]) (H2 := _ :: _ :: _ :: _ :: _) tok rfl rfl rfl rfl rfl rfl rfl rfl rfl) (by kernel_rfl) ?_
            rintro _ _ ⟨rfl, rfl⟩
            refine blkN ?_
            refine thenN ?_
            refine ⟨(⟨operR st, [], [], 0, [(y2 T st).1] ++ [(eventR E (y4 T st)).1], offS st⟩, (eventR E (y4 T st)).2, [cSyn (y2 T st).1] ++ [cSyn (eventR E (y4 T st)).1], v65), ?_, GS.weaken ⟨rfl, rfl, rfl, trivial⟩ (.refl _)⟩
            exact ⟨by unfold restR; rw [← hx, if_neg (Bool.eq_false_iff.mp hc4), if_pos hc6], syn_next (by rw [List.map_singleton, encS_eq])⟩
          · skip
            try simp only [Bool.not_eq_true', Bool.not_eq_false'] at hc6
            refine AW.seq ?_
            refine AW.region ?_
            refine AOL.p (P_eql rfl rfl) rfl ?_
            refine AOL.p (P_assign (v := .bool _) rfl) rfl ?_
            refine AOL.nil ?_
            refine thenN ?_
            refine AW.cond (b := _) rfl (fun hc7 => ?_) (fun hc7 => ?_)
            · skip
              try simp only [Bool.not_eq_true', Bool.not_eq_false'] at hc7
              refine AW.seq ?_
              refine AW.region ?_
              refine AOL.p (P_move (v := .val _) rfl) rfl ?_
              refine AOL.e (E_callf (by kernel_rfl) rfl rfl ((r_expect _ _ _ (by simpa using hS)).at (k := 3) (H2 := _ :: _ :: _ :: _ :: _) rfl rfl)) rfl ?_
              rintro _ _ ⟨rfl, rfl⟩
              refine AOL.nil ?_
              refine thenN ?_
              refine AW.region ?_
              refine AOL.p (P_move (v := .val _) rfl) rfl ?_
              refine AOL.e (E_callf (by kernel_rfl) rfl rfl ((r_number _ _ (by simpa using hS)).at (k := 3) (H2 := _ :: _ :: _ :: _ :: _) rfl rfl)) rfl ?_
              rintro _ _ ⟨rfl, rfl⟩
              refine AOL.p (P_fieldAddr_val tok rfl rfl rfl rfl rfl rfl) rfl ?_
              refine AOL.e (E_store (k := 1) (v := .int .i64 _) (cs' := [.int .i64 _, .str _, .str _, .int .i64 _, _, .int .i64 _]) (H2 := _ :: _ :: _ :: _ :: _) tok rfl rfl rfl rfl rfl rfl rfl rfl rfl) rfl ?_
              rintro _ _ ⟨rfl, rfl⟩
              refine AOL.nil ?_
              refine blkN ?_
              refine thenN ?_
              refine ⟨(⟨operR st, [], [], numRR (y4 T st), [(y2 T st).1], offS st⟩, tokR 1 (y4 T st), [cSyn (y2 T st).1], v30), ?_, GS.weaken ⟨rfl, rfl, rfl, trivial⟩ (.refl _)⟩
              exact ⟨by unfold restR; rw [← hx, if_neg (Bool.eq_false_iff.mp hc4), if_neg (Bool.eq_false_iff.mp hc6), if_pos hc7], by rw [List.map_singleton, encS_eq]⟩
            · skip
              try simp only [Bool.not_eq_true', Bool.not_eq_false'] at hc7
              refine AW.seq ?_
              refine AW.region ?_
              refine AOL.p (P_eql rfl rfl) rfl ?_
              refine AOL.p (P_assign (v := .bool _) rfl) rfl ?_
              refine AOL.nil ?_
              refine thenN ?_
              refine AW.cond (b := _) rfl (fun hc8 => ?_) (fun hc8 => ?_)
              · skip
                try simp only [Bool.not_eq_true', Bool.not_eq_false'] at hc8
                refine AW.seq ?_
                refine AW.region ?_
                refine AOL.p (P_move (v := .val _) rfl) rfl ?_
                refine AOL.e (E_callf (by kernel_rfl) rfl rfl ((r_expect _ _ _ (by simpa using hS)).at (k := 3) (H2 := _ :: _ :: _ :: _ :: _) rfl rfl)) rfl ?_
                rintro _ _ ⟨rfl, rfl⟩
                refine AOL.nil ?_
                refine thenN ?_
                refine AW.draw mixed (fun H' => _ ∈ H') (List.mem_of_getElem? (i := 1) rfl) (by kernel_rfl) ?_
                refine Canon.pure _ _ 0 _ _ rfl (by kernel_rfl) (by kernel_rfl) rfl (.run rfl (P_fieldAddr_val tok rfl rfl rfl rfl rfl rfl)) ?_
                refine Canon.pure _ _ 1 _ _ rfl (by kernel_rfl) (by kernel_rfl) rfl (.run rfl (OpP.mem (fun k => P_load_box (k := k) (c := .row _ _ _) tok rfl rfl rfl rfl) (fun _ h => h))) ?_
                refine Canon.pure _ _ 2 _ _ rfl (by kernel_rfl) (by kernel_rfl) rfl (.run rfl (P_move (v := .val _) rfl)) ?_
                refine Canon.eff _ _ 3 _ _ rfl (by kernel_rfl) rfl rfl (E_callf (by kernel_rfl) rfl rfl ((hE _ bp (okR_zero (by omega) hex4)).at (k := 3) (H2 := _ :: _ :: _ :: _ :: _) rfl rfl)) (by rintro _ _ ⟨rfl, rfl⟩; simp) ?_
                rintro _ _ ⟨rfl, rfl⟩
                refine Canon.pure _ _ 4 _ _ rfl (by kernel_rfl) (by kernel_rfl) rfl (.run rfl (P_buildSlice (es := [[.int .i64 _, .str _, .str _, .int .i64 _, _, .int .i64 _]]) tok rfl rfl rfl rfl rfl rfl rfl rfl rfl)) ?_
                refine Canon.eff _ _ 5 _ _ rfl (by kernel_rfl) rfl rfl (E_append (k := 0) tok rfl rfl rfl rfl rfl rfl rfl rfl (sc_one rfl) (hsc1) (by simp) (by simp [maxLen])) (by rintro _ _ ⟨v83, rfl, rfl⟩; simp) ?_
                rintro _ _ ⟨v83, rfl, rfl⟩
                refine Canon.pure _ _ 6 _ _ rfl (by kernel_rfl) (by kernel_rfl) rfl (.run rfl (P_fieldAddr_val tok rfl rfl rfl rfl rfl rfl)) ?_
                refine Canon.last _ _ 7 _ _ rfl (by kernel_rfl) rfl rfl (E_store (k := 1) (v := .row _ _ _) (cs' := [.int .i64 _, .str _, .str _, .int .i64 _, _, .int .i64 _]) (H2 := _ :: _ :: _ :: _ :: _) tok rfl rfl rfl rfl rfl rfl rfl rfl rfl) (by kernel_rfl) ?_
                rintro _ _ ⟨rfl, rfl⟩
                refine blkN ?_
                refine thenN ?_
                refine ⟨(⟨operR st, [], [], 0, [(y2 T st).1] ++ [(E (y4 T st)).1], offS st⟩, (E (y4 T st)).2, [cSyn (y2 T st).1] ++ [cSyn (E (y4 T st)).1], v83), ?_, GS.weaken ⟨rfl, rfl, rfl, trivial⟩ (.refl _)⟩
                exact ⟨by unfold restR; rw [← hx, if_neg (Bool.eq_false_iff.mp hc4), if_neg (Bool.eq_false_iff.mp hc6), if_neg (Bool.eq_false_iff.mp hc7), if_pos hc8], syn_next (by rw [List.map_singleton, encS_eq])⟩
              · skip
                try simp only [Bool.not_eq_true', Bool.not_eq_false'] at hc8
                refine AW.skip ?_
                refine blkN ?_
                refine thenN ?_
                refine ⟨(y3 T st, (y2 T st).2, [cSyn (y2 T st).1], v30), ?_, GS.weaken ⟨rfl, rfl, rfl, trivial⟩ (.refl _)⟩
                exact ⟨by unfold restR; rw [← hx, if_neg (Bool.eq_false_iff.mp hc4), if_neg (Bool.eq_false_iff.mp hc6), if_neg (Bool.eq_false_iff.mp hc7), if_neg (Bool.eq_false_iff.mp hc8)], by rw [List.map_singleton, encS_eq]⟩
    · rintro q hq
      have hS := ((goR_rest hFE hFT (operR st) (y3 T st) hex2.2.1).ok hex2).1
      rw [← hq.1] at hS
      simp only at hS
      refine AW.seq ?_
      refine AW.region ?_
      refine AOL.p (P_move (v := .val _) rfl) rfl ?_
      refine AOL.e (E_callf (by kernel_rfl) rfl rfl ((r_expect _ _ _ (by simpa using hS)).at (k := 3) (H2 := _ :: _ :: _ :: _ :: _) rfl rfl)) rfl ?_
      rintro _ _ ⟨rfl, rfl⟩
      refine AOL.nil ?_
      refine thenN ?_
      refine AW.seq ?_
      refine AW.region ?_
      refine AOL.p (P_move (v := .val _) rfl) rfl ?_
      refine AOL.p (P_nilCheck rfl) rfl ?_
      refine AOL.p (P_fieldAddr_val tok rfl rfl rfl rfl rfl rfl) rfl ?_
      refine AOL.pk (P_load_box (k := 3) (c := .int .i64 _) tok rfl rfl rfl rfl) rfl rfl ?_
      refine AOL.p (P_subw rfl rfl) rfl ?_
      refine AOL.p (P_nilCheck rfl) rfl ?_
      refine AOL.p (P_fieldAddr_val tok rfl rfl rfl rfl rfl rfl) rfl ?_
      refine AOL.e (E_store (k := 3) (v := .int .i64 _) (cs' := [_, .int .i64 _, .int .i64 _, .int .i64 _, .int .i64 _, .int .i64 _]) (H2 := _ :: _ :: _ :: _ :: _) tok rfl rfl rfl rfl rfl rfl rfl rfl rfl) rfl ?_
      rintro _ _ ⟨rfl, rfl⟩
      refine AOL.nil ?_
      refine thenN ?_
      refine AW.seq ?_
      refine AW.region ?_
      refine AOL.ghost (GS.cell (H2 := _ :: _ :: _ :: _ :: _) 1 4 rfl rfl rfl rfl unrow_cell) ?_
      refine AOL.pk (P_load_box_agg (k := 1) (l := [.int .i64 _, .str _, .str _, .int .i64 _, _, .int .i64 _]) tok rfl rfl rfl rfl rfl) rfl rfl ?_
      refine AOL.e (E_store (k := 2) (v := .agg _) (cs' := [.int .i64 _, .str _, .str _, .int .i64 _, _, .int .i64 _]) (H2 := _ :: _ :: _ :: _ :: _) tok rfl rfl rfl rfl rfl rfl rfl rfl rfl) rfl ?_
      rintro _ _ ⟨rfl, rfl⟩
      refine AOL.nil ?_
      refine thenN ?_
      refine AW.ret ?_
      refine ⟨.inr rfl, [.agg [.int .i64 _, .str _, .str _, .int .i64 _, _, .int .i64 _]], .cons (.box _ _ _ 2 _ _ _ _ rfl rfl rfl rfl rfl rfl) <| .nil, _, .cons _ (.cons _ (.cons _ (.refl _))), ?_⟩
      have h9 := patR_eq (E := E) (T := T) hc1
      rw [← hq.1] at h9
      exact ⟨by rw [h9]; exact congrArg (fun l => AV.agg [.int .i64 q.1.kind, .str q.1.text, .str q.1.name, .int .i64 q.1.num, .sl 6 l, .int .i64 q.1.pos]) hq.2, congrArg (fun s => HO.box bp 60 (cP s) :: H) (show shallow (expR w_rpar q.2.1) = (patR E T st).2 by rw [h9])⟩

end Go.Proofs.YtpgmglacdcfnaaaGreatDoor
