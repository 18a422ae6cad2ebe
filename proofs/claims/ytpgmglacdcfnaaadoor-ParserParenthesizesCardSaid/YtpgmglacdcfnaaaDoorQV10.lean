/-
  Walks of the parser: programs, whole texts. No condition.
-/
import Derived.Test.YtpgmglacdcfnaaaDoorQV9
import Derived.KernelRfl
namespace Go.Proofs.YtpgmglacdcfnaaaDoor
open Go Go.Aw
set_option linter.unusedVariables false
set_option linter.unusedSimpArgs false

theorem kind_adv {st : PS} (h : isP w_ttype st = true) (r : Rng st) : st.pos + 1 ≤ (kindP st).2.pos := by
  have hb : (st.bad == 0) = true := by
    unfold isP at h
    cases hq : (st.bad == 0) with
    | true => rfl
    | false =>
      have : endP st = true := by unfold endP; simp only [bne, hq]; rfl
      rw [this] at h; cases h
  have e : expP w_ttype st = adv st := by unfold expP; rw [h, hb]; exact acc_yes h
  have g0 : Goes (adv st) (expP w_lbrace (tokP 0 (adv st))) := (Goes.tok _ _).trans (.exp _ _)
  have r0 : Rng (adv st) := r
  have : Goes (adv st) (kindP st).2 := by
    unfold kindP
    simp only [e]
    split
    · exact (g0.trans (goes_list fine_field (g0.rng r0))).trans (.exp _ _)
    · exact g0.trans (.exp _ _)
  exact this.2.1
theorem query_adv {E T : PS → Syn × PS} (hE : Fine E) (hT : Fine T) {st : PS} (h : isP w_tquery st = true) (r : Rng st) : st.pos + 1 ≤ (queryP E T st).2.pos := by
  have hb : (st.bad == 0) = true := by
    unfold isP at h
    cases hq : (st.bad == 0) with
    | true => rfl
    | false =>
      have : endP st = true := by unfold endP; simp only [bne, hq]; rfl
      rw [this] at h; cases h
  have e : expP w_tquery st = adv st := by unfold expP; rw [h, hb]; exact acc_yes h
  have r0 : Rng (adv st) := r
  have h1 : Goes (adv st) (expP w_tmatch (keyP (tokP 0 (adv st)) (offS st)).2) := ((Goes.tok _ _).trans (goes_key _ _)).trans (.exp _ _)
  have h2 := (Goes.read hT r0 h1).trans (.exp w_treturn _)
  have : Goes (adv st) (queryP E T st).2 := by
    unfold queryP
    simp only [e]
    exact (h2.trans (goes_list hE (h2.rng r0))).trans (.exp _ _)
  exact this.2.1
theorem progGo_pos {w : Str} {F : PS → Syn × PS} {n : Nat} {st : PS} {out : List Syn} (h : 0 < n) : progGo w F n st out = if isP w st then progGo w F (n - 1) (F st).2 (out ++ [(F st).1]) else (out, st) := by
  obtain ⟨m, rfl⟩ : ∃ m, n = m + 1 := ⟨n - 1, by omega⟩
  rfl

abbrev pg1 (st : PS) : List Syn × PS := progGo w_ttype kindP (fuel st) st []
theorem fine_prog {E T : PS → Syn × PS} (hE : Fine E) (hT : Fine T) : Fine (progP E T) := .of fun st r => by
  have key : ∀ {F : PS → Syn × PS} (hF : Fine F) (w : Str) (n : Nat) (st : PS) (out : List Syn), Rng st → Goes st (progGo w F n st out).2 := by
    intro F hF w n
    induction n with
    | zero => intro st out r; exact .refl _
    | succ n ih =>
      intro st out r
      unfold progGo
      split
      · have h := hF.goes r
        exact h.trans (ih _ _ (h.rng r))
      · exact .refl _
  have h1 := key fine_kind w_ttype (fuel st) st [] r
  exact h1.trans (key (fine_query hE hT) w_tquery _ _ _ (h1.rng r))
abbrev pst (F : PS → Syn × PS) (s : Str) : PS := (F (beginS (scanS s).1 s.length)).2
set_option maxRecDepth 20000 in
set_option maxHeartbeats 1600000 in
theorem pp_parse (s : Str) (hl : s.length ≤ 100000) (f : Nat) (hf : fnB Tryd.prog f = true) (F : PS → Syn × PS) (hF : Fine F) (hc : ∀ (st : PS) (bp : Nat), okD 0 st → PCallS Tryd.prog f bp 59 (cP st) (cP (F st).2) [.val (.pointer (some ⟨bp, 0, none⟩))] (.agg (cSyn (F st).1))) : APure Tryd.prog 26 [.str s, .fn (.func f) [] []] (.tuple [.agg (cSyn (parseP F s).1), .int .i64 (parseP F s).2.1, .int .i64 (parseP F s).2.2]) := by
  have hb0 := begin_okD s hl
  refine APure.body (n := 58) tok Tryd.func26 rfl rfl rfl fun H => ?_
  refine AW.seq ?_
  refine AW.region ?_
  refine AOL.e (E_alloc (l := [.int .i64 0, .str [], .str [], .int .i64 0, .sl 6 [], .int .i64 0]) (by kernel_rfl)) rfl ?_
  rintro _ _ ⟨b4, rfl, rfl⟩
  refine AOL.p (P_assign (v := .int .i64 _) rfl) rfl ?_
  refine AOL.p (P_assign (v := .int .i64 _) rfl) rfl ?_
  refine AOL.nil ?_
  refine thenN ?_
  refine AW.seq ?_
  refine AW.region ?_
  refine AOL.p (P_move (v := .str _) rfl) rfl ?_
  refine AOL.p (P_callf (by kernel_rfl) rfl rfl (c13 s (by omega))) rfl ?_
  refine AOL.p (P_move (v := .tuple _) rfl) rfl ?_
  refine AOL.p (P_extract (v := .sl _ _) rfl rfl) rfl ?_
  refine AOL.p (P_extract (v := .int .i64 _) rfl rfl) rfl ?_
  refine AOL.p (P_extract (v := .int .i64 _) rfl rfl) rfl ?_
  refine AOL.p (P_assign (v := .sl _ _) rfl) rfl ?_
  refine AOL.p (P_assign (v := .int .i64 _) rfl) rfl ?_
  refine AOL.p (P_assign (v := .int .i64 _) rfl) rfl ?_
  refine AOL.nil ?_
  refine thenN ?_
  refine AW.seq ?_
  refine AW.seq ?_
  refine AW.region ?_
  refine AOL.p (P_move (v := .int .i64 _) rfl) rfl ?_
  refine AOL.p (P_neq rfl rfl) rfl ?_
  refine AOL.nil ?_
  refine thenN ?_
  refine AW.cond (b := _) rfl (fun hc1 => ?_) (fun hc1 => ?_)
  · skip
    try simp only [Bool.not_eq_true', Bool.not_eq_false'] at hc1
    refine AW.seq ?_
    refine AW.region ?_
    refine AOL.p (P_build (l := [.int .i64 _, .str _, .str _, .int .i64 _, _, .int .i64 _]) tok rfl rfl rfl) rfl ?_
    refine AOL.p (P_move (v := .int .i64 _) rfl) rfl ?_
    refine AOL.p (P_move (v := .int .i64 _) rfl) rfl ?_
    refine AOL.e (E_store (k := 0) (v := .agg _) (cs' := [.int .i64 _, .str _, .str _, .int .i64 _, _, .int .i64 _]) (H2 := _ :: _) tok rfl rfl rfl rfl rfl rfl rfl rfl rfl) rfl ?_
    rintro _ _ ⟨rfl, rfl⟩
    refine AOL.p (P_assign (v := .int .i64 _) rfl) rfl ?_
    refine AOL.p (P_assign (v := .int .i64 _) rfl) rfl ?_
    refine AOL.nil ?_
    refine thenN ?_
    refine AW.ret ?_
    refine thenR ?_
    refine ⟨.inr rfl, [.agg [.int .i64 _, .str _, .str _, .int .i64 _, _, .int .i64 _], .int .i64 _, .int .i64 _], .cons (.box _ _ _ 0 _ _ _ _ rfl rfl rfl rfl rfl rfl) <| .cons (.tmp _ _ rfl) <| .cons (.tmp _ _ rfl) <| .nil, .cons _ (.refl _), ?_⟩
    have h9 : parseP F s = (synZ, (scanS s).2.1, (scanS s).2.2) := by unfold parseP; rw [if_pos hc1]
    rw [h9]; rfl
  · skip
    try simp only [Bool.not_eq_true', Bool.not_eq_false'] at hc1
    refine AW.skip ?_
    refine thenN ?_
    refine AW.seq ?_
    refine AW.region ?_
    refine AOL.p (P_move (v := .sl _ _) rfl) rfl ?_
    refine AOL.p (P_move (v := .str _) rfl) rfl ?_
    refine AOL.p (P_len_str tok rfl rfl rfl rfl) rfl ?_
    refine AOL.p (P_build (l := [_, .int .i64 _, .int .i64 _, .int .i64 _, .int .i64 _, .int .i64 _]) tok rfl rfl rfl) rfl ?_
    refine AOL.e (E_box (v := .agg _) (cs := [_, .int .i64 _, .int .i64 _, .int .i64 _, .int .i64 _, .int .i64 _]) rfl rfl rfl) rfl ?_
    rintro _ _ ⟨b27, rfl, rfl⟩
    refine AOL.p (P_assign (v := .val _) rfl) rfl ?_
    refine AOL.nil ?_
    refine thenN ?_
    refine AW.seq ?_
    refine AW.region ?_
    refine AOL.p (P_move (v := .fn _ _ _) rfl) rfl ?_
    refine AOL.p (P_move (v := .val _) rfl) rfl ?_
    refine AOL.e (E_call (hf) rfl rfl rfl ((hc (beginS (scanS s).1 s.length) b27 hb0).at (k := 0) (H2 := _ :: _ :: _) rfl rfl)) rfl ?_
    rintro _ _ ⟨rfl, rfl⟩
    refine AOL.e (E_alloc (l := [.int .i64 0, .str [], .str [], .int .i64 0, .sl 6 [], .int .i64 0]) (by kernel_rfl)) rfl ?_
    rintro _ _ ⟨b11, rfl, rfl⟩
    refine AOL.e (E_store (k := 0) (v := .agg _) (cs' := [.int .i64 _, .str _, .str _, .int .i64 _, _, .int .i64 _]) (H2 := _ :: _ :: _ :: _) tok rfl rfl rfl rfl rfl rfl rfl rfl rfl) rfl ?_
    rintro _ _ ⟨rfl, rfl⟩
    refine AOL.ghost (GS.freeze (t := 11) 0 rfl rfl) ?_
    refine AOL.nil ?_
    refine thenN ?_
    refine AW.seq ?_
    refine AW.seq ?_
    refine AW.draw mixed (fun H' => _ ∈ H') (List.mem_of_getElem? (i := 0) rfl) (by kernel_rfl) ?_
    refine Canon.pure _ _ 0 _ _ rfl (by kernel_rfl) (by kernel_rfl) rfl (.run rfl (P_move (v := .val _) rfl)) ?_
    refine Canon.pure _ _ 1 _ _ rfl (by kernel_rfl) (by kernel_rfl) rfl (.run rfl (P_nilCheck rfl)) ?_
    refine Canon.pure _ _ 2 _ _ rfl (by kernel_rfl) (by kernel_rfl) rfl (.run rfl (P_fieldAddr_val tok rfl rfl rfl rfl rfl rfl)) ?_
    refine Canon.pure _ _ 3 _ _ rfl (by kernel_rfl) (by kernel_rfl) rfl (.run rfl (OpP.mem (fun k => P_load_box (k := k) (c := .int .i64 _) tok rfl rfl rfl rfl) (fun _ h => h))) ?_
    refine Canon.pure _ _ 4 _ _ rfl (by kernel_rfl) (by kernel_rfl) rfl (.run rfl (P_move (v := .val _) rfl)) ?_
    refine Canon.pure _ _ 5 _ _ rfl (by kernel_rfl) (by kernel_rfl) rfl (.run rfl (P_nilCheck rfl)) ?_
    refine Canon.pure _ _ 6 _ _ rfl (by kernel_rfl) (by kernel_rfl) rfl (.run rfl (P_fieldAddr_val tok rfl rfl rfl rfl rfl rfl)) ?_
    refine Canon.pure _ _ 7 _ _ rfl (by kernel_rfl) (by kernel_rfl) rfl (.run rfl (OpP.mem (fun k => P_load_box (k := k) (c := .sl _ _) tok rfl rfl rfl rfl) (fun _ h => h))) ?_
    refine Canon.pure _ _ 8 _ _ rfl (by kernel_rfl) (by kernel_rfl) rfl (.run rfl (P_len_sl (n := (pst F s).toks.length) tok rfl rfl rfl (by simp))) ?_
    refine Canon.pure _ _ 9 _ _ rfl (by kernel_rfl) (by kernel_rfl) rfl (.run rfl (P_lss rfl rfl)) ?_
    refine Canon.done _ _ (by kernel_rfl) ?_
    refine thenN ?_
    refine AW.cond (b := _) rfl (fun hc2 => ?_) (fun hc2 => ?_)
    · skip
      try simp only [Bool.not_eq_true', Bool.not_eq_false'] at hc2
      refine AW.region ?_
      refine AOL.p (P_move (v := .val _) rfl) rfl ?_
      refine AOL.e (E_callf (by kernel_rfl) rfl rfl ((p_fail _ _ _).at (k := 0) (H2 := _ :: _ :: _) rfl rfl)) rfl ?_
      rintro _ _ ⟨rfl, rfl⟩
      refine AOL.nil ?_
      refine thenN ?_
      refine AW.seq ?_
      refine AW.seq ?_
      refine AW.region ?_
      refine AOL.p (P_move (v := .val _) rfl) rfl ?_
      refine AOL.p (P_nilCheck rfl) rfl ?_
      refine AOL.p (P_fieldAddr_val tok rfl rfl rfl rfl rfl rfl) rfl ?_
      refine AOL.pk (P_load_box (k := 0) (c := .int .i64 _) tok rfl rfl rfl rfl) rfl rfl ?_
      refine AOL.p (P_neq rfl rfl) rfl ?_
      refine AOL.nil ?_
      refine thenN ?_
      refine AW.cond (b := _) rfl (fun hc3 => ?_) (fun hc3 => ?_)
      · skip
        try simp only [Bool.not_eq_true', Bool.not_eq_false'] at hc3
        refine AW.seq ?_
        refine AW.draw mixed (fun H' => _ ∈ H') (List.mem_of_getElem? (i := 0) rfl) (by kernel_rfl) ?_
        refine Canon.pure _ _ 0 _ _ rfl (by kernel_rfl) (by kernel_rfl) rfl (.run rfl (P_build (l := [.int .i64 _, .str _, .str _, .int .i64 _, _, .int .i64 _]) tok rfl rfl rfl)) ?_
        refine Canon.pure _ _ 1 _ _ rfl (by kernel_rfl) (by kernel_rfl) rfl (.run rfl (P_move (v := .val _) rfl)) ?_
        refine Canon.pure _ _ 2 _ _ rfl (by kernel_rfl) (by kernel_rfl) rfl (.run rfl (P_nilCheck rfl)) ?_
        refine Canon.pure _ _ 3 _ _ rfl (by kernel_rfl) (by kernel_rfl) rfl (.run rfl (P_fieldAddr_val tok rfl rfl rfl rfl rfl rfl)) ?_
        refine Canon.pure _ _ 4 _ _ rfl (by kernel_rfl) (by kernel_rfl) rfl (.run rfl (OpP.mem (fun k => P_load_box (k := k) (c := .int .i64 _) tok rfl rfl rfl rfl) (fun _ h => h))) ?_
        refine Canon.pure _ _ 5 _ _ rfl (by kernel_rfl) (by kernel_rfl) rfl (.run rfl (P_move (v := .val _) rfl)) ?_
        refine Canon.pure _ _ 6 _ _ rfl (by kernel_rfl) (by kernel_rfl) rfl (.run rfl (P_nilCheck rfl)) ?_
        refine Canon.pure _ _ 7 _ _ rfl (by kernel_rfl) (by kernel_rfl) rfl (.run rfl (P_fieldAddr_val tok rfl rfl rfl rfl rfl rfl)) ?_
        refine Canon.pure _ _ 8 _ _ rfl (by kernel_rfl) (by kernel_rfl) rfl (.run rfl (OpP.mem (fun k => P_load_box (k := k) (c := .int .i64 _) tok rfl rfl rfl rfl) (fun _ h => h))) ?_
        refine Canon.eff _ _ 9 _ _ rfl (by kernel_rfl) rfl rfl (E_store (k := 1) (v := .agg _) (cs' := [.int .i64 _, .str _, .str _, .int .i64 _, _, .int .i64 _]) (H2 := _ :: _ :: _) tok rfl rfl rfl rfl rfl rfl rfl rfl rfl) (by rintro _ _ ⟨rfl, rfl⟩; simp) ?_
        rintro _ _ ⟨rfl, rfl⟩
        refine Canon.pure _ _ 10 _ _ rfl (by kernel_rfl) (by kernel_rfl) rfl (.run rfl (P_assign (v := .int .i64 _) rfl)) ?_
        refine Canon.pure _ _ 11 _ _ rfl (by kernel_rfl) (by kernel_rfl) rfl (.run rfl (P_assign (v := .int .i64 _) rfl)) ?_
        refine Canon.done _ _ (by kernel_rfl) ?_
        refine thenN ?_
        refine AW.ret ?_
        refine thenR ?_
        refine ⟨.inr rfl, [.agg [.int .i64 _, .str _, .str _, .int .i64 _, _, .int .i64 _], .int .i64 _, .int .i64 _], .cons (.box _ _ _ 1 _ _ _ _ rfl rfl rfl rfl rfl rfl) <| .cons (.tmp _ _ rfl) <| .cons (.tmp _ _ rfl) <| .nil, .cons _ (.cons _ (.refl _)), ?_⟩
        have h9 : parseP F s = doneP (F (beginS (scanS s).1 s.length)) := by unfold parseP; rw [if_neg (by rw [hc1]; decide)]
        rw [h9]
        simp only [doneP, resOf, hc1, hc2, hc3, ↓reduceIte, Bool.false_eq_true]
        try rfl
      · skip
        try simp only [Bool.not_eq_true', Bool.not_eq_false'] at hc3
        refine AW.skip ?_
        refine thenN ?_
        refine AW.seq ?_
        refine AW.region ?_
        refine AOL.p (P_load_ptr_agg (l := [.int .i64 _, .str _, .str _, .int .i64 _, _, .int .i64 _]) tok rfl rfl rfl rfl rfl) rfl ?_
        refine AOL.e (E_store (k := 1) (v := .agg _) (cs' := [.int .i64 _, .str _, .str _, .int .i64 _, _, .int .i64 _]) (H2 := _ :: _ :: _) tok rfl rfl rfl rfl rfl rfl rfl rfl rfl) rfl ?_
        rintro _ _ ⟨rfl, rfl⟩
        refine AOL.p (P_assign (v := .int .i64 _) rfl) rfl ?_
        refine AOL.p (P_assign (v := .int .i64 _) rfl) rfl ?_
        refine AOL.nil ?_
        refine thenN ?_
        refine AW.ret ?_
        refine ⟨.inr rfl, [.agg [.int .i64 _, .str _, .str _, .int .i64 _, _, .int .i64 _], .int .i64 _, .int .i64 _], .cons (.box _ _ _ 1 _ _ _ _ rfl rfl rfl rfl rfl rfl) <| .cons (.tmp _ _ rfl) <| .cons (.tmp _ _ rfl) <| .nil, .cons _ (.cons _ (.refl _)), ?_⟩
        have h9 : parseP F s = doneP (F (beginS (scanS s).1 s.length)) := by unfold parseP; rw [if_neg (by rw [hc1]; decide)]
        rw [h9]
        simp only [doneP, resOf, hc1, hc2, hc3, ↓reduceIte, Bool.false_eq_true]
        try rfl
    · skip
      try simp only [Bool.not_eq_true', Bool.not_eq_false'] at hc2
      refine AW.skip ?_
      refine thenN ?_
      refine AW.seq ?_
      refine AW.seq ?_
      refine AW.region ?_
      refine AOL.p (P_move (v := .val _) rfl) rfl ?_
      refine AOL.p (P_nilCheck rfl) rfl ?_
      refine AOL.p (P_fieldAddr_val tok rfl rfl rfl rfl rfl rfl) rfl ?_
      refine AOL.pk (P_load_box (k := 0) (c := .int .i64 _) tok rfl rfl rfl rfl) rfl rfl ?_
      refine AOL.p (P_neq rfl rfl) rfl ?_
      refine AOL.nil ?_
      refine thenN ?_
      refine AW.cond (b := _) rfl (fun hc4 => ?_) (fun hc4 => ?_)
      · skip
        try simp only [Bool.not_eq_true', Bool.not_eq_false'] at hc4
        refine AW.seq ?_
        refine AW.draw mixed (fun H' => _ ∈ H') (List.mem_of_getElem? (i := 0) rfl) (by kernel_rfl) ?_
        refine Canon.pure _ _ 0 _ _ rfl (by kernel_rfl) (by kernel_rfl) rfl (.run rfl (P_build (l := [.int .i64 _, .str _, .str _, .int .i64 _, _, .int .i64 _]) tok rfl rfl rfl)) ?_
        refine Canon.pure _ _ 1 _ _ rfl (by kernel_rfl) (by kernel_rfl) rfl (.run rfl (P_move (v := .val _) rfl)) ?_
        refine Canon.pure _ _ 2 _ _ rfl (by kernel_rfl) (by kernel_rfl) rfl (.run rfl (P_nilCheck rfl)) ?_
        refine Canon.pure _ _ 3 _ _ rfl (by kernel_rfl) (by kernel_rfl) rfl (.run rfl (P_fieldAddr_val tok rfl rfl rfl rfl rfl rfl)) ?_
        refine Canon.pure _ _ 4 _ _ rfl (by kernel_rfl) (by kernel_rfl) rfl (.run rfl (OpP.mem (fun k => P_load_box (k := k) (c := .int .i64 _) tok rfl rfl rfl rfl) (fun _ h => h))) ?_
        refine Canon.pure _ _ 5 _ _ rfl (by kernel_rfl) (by kernel_rfl) rfl (.run rfl (P_move (v := .val _) rfl)) ?_
        refine Canon.pure _ _ 6 _ _ rfl (by kernel_rfl) (by kernel_rfl) rfl (.run rfl (P_nilCheck rfl)) ?_
        refine Canon.pure _ _ 7 _ _ rfl (by kernel_rfl) (by kernel_rfl) rfl (.run rfl (P_fieldAddr_val tok rfl rfl rfl rfl rfl rfl)) ?_
        refine Canon.pure _ _ 8 _ _ rfl (by kernel_rfl) (by kernel_rfl) rfl (.run rfl (OpP.mem (fun k => P_load_box (k := k) (c := .int .i64 _) tok rfl rfl rfl rfl) (fun _ h => h))) ?_
        refine Canon.eff _ _ 9 _ _ rfl (by kernel_rfl) rfl rfl (E_store (k := 1) (v := .agg _) (cs' := [.int .i64 _, .str _, .str _, .int .i64 _, _, .int .i64 _]) (H2 := _ :: _ :: _) tok rfl rfl rfl rfl rfl rfl rfl rfl rfl) (by rintro _ _ ⟨rfl, rfl⟩; simp) ?_
        rintro _ _ ⟨rfl, rfl⟩
        refine Canon.pure _ _ 10 _ _ rfl (by kernel_rfl) (by kernel_rfl) rfl (.run rfl (P_assign (v := .int .i64 _) rfl)) ?_
        refine Canon.pure _ _ 11 _ _ rfl (by kernel_rfl) (by kernel_rfl) rfl (.run rfl (P_assign (v := .int .i64 _) rfl)) ?_
        refine Canon.done _ _ (by kernel_rfl) ?_
        refine thenN ?_
        refine AW.ret ?_
        refine thenR ?_
        refine ⟨.inr rfl, [.agg [.int .i64 _, .str _, .str _, .int .i64 _, _, .int .i64 _], .int .i64 _, .int .i64 _], .cons (.box _ _ _ 1 _ _ _ _ rfl rfl rfl rfl rfl rfl) <| .cons (.tmp _ _ rfl) <| .cons (.tmp _ _ rfl) <| .nil, .cons _ (.cons _ (.refl _)), ?_⟩
        have h9 : parseP F s = doneP (F (beginS (scanS s).1 s.length)) := by unfold parseP; rw [if_neg (by rw [hc1]; decide)]
        rw [h9]
        simp only [doneP, resOf, hc1, hc2, hc4, ↓reduceIte, Bool.false_eq_true]
        try rfl
      · skip
        try simp only [Bool.not_eq_true', Bool.not_eq_false'] at hc4
        refine AW.skip ?_
        refine thenN ?_
        refine AW.seq ?_
        refine AW.region ?_
        refine AOL.p (P_load_ptr_agg (l := [.int .i64 _, .str _, .str _, .int .i64 _, _, .int .i64 _]) tok rfl rfl rfl rfl rfl) rfl ?_
        refine AOL.e (E_store (k := 1) (v := .agg _) (cs' := [.int .i64 _, .str _, .str _, .int .i64 _, _, .int .i64 _]) (H2 := _ :: _ :: _) tok rfl rfl rfl rfl rfl rfl rfl rfl rfl) rfl ?_
        rintro _ _ ⟨rfl, rfl⟩
        refine AOL.p (P_assign (v := .int .i64 _) rfl) rfl ?_
        refine AOL.p (P_assign (v := .int .i64 _) rfl) rfl ?_
        refine AOL.nil ?_
        refine thenN ?_
        refine AW.ret ?_
        refine ⟨.inr rfl, [.agg [.int .i64 _, .str _, .str _, .int .i64 _, _, .int .i64 _], .int .i64 _, .int .i64 _], .cons (.box _ _ _ 1 _ _ _ _ rfl rfl rfl rfl rfl rfl) <| .cons (.tmp _ _ rfl) <| .cons (.tmp _ _ rfl) <| .nil, .cons _ (.cons _ (.refl _)), ?_⟩
        have h9 : parseP F s = doneP (F (beginS (scanS s).1 s.length)) := by unfold parseP; rw [if_neg (by rw [hc1]; decide)]
        rw [h9]
        simp only [doneP, resOf, hc1, hc2, hc4, ↓reduceIte, Bool.false_eq_true]
        try rfl
set_option maxRecDepth 20000 in
set_option maxHeartbeats 400000 in
theorem pp_Query (s : Str) (hl : s.length ≤ 100000) : APure Tryd.prog 12 [.str s] (.tuple [.agg (cSyn (parseP (queryP EE TT) s).1), .int .i64 (parseP (queryP EE TT) s).2.1, .int .i64 (parseP (queryP EE TT) s).2.2]) := by
  refine APure.body (n := 10) tok Tryd.func12 rfl rfl rfl fun H => ?_
  refine AW.seq ?_
  refine AW.region ?_
  refine AOL.e (E_alloc (l := [.int .i64 0, .str [], .str [], .int .i64 0, .sl 6 [], .int .i64 0]) (by kernel_rfl)) rfl ?_
  rintro _ _ ⟨b2, rfl, rfl⟩
  refine AOL.p (P_assign (v := .int .i64 _) rfl) rfl ?_
  refine AOL.p (P_assign (v := .int .i64 _) rfl) rfl ?_
  refine AOL.nil ?_
  refine thenN ?_
  refine AW.seq ?_
  refine AW.region ?_
  refine AOL.p (P_move (v := .str _) rfl) rfl ?_
  refine AOL.p (P_callf (by kernel_rfl) rfl rfl (pp_parse s hl 29 (by kernel_rfl) (queryP EE TT) (fine_query fine_EE fine_TT) (fun st bp h => p_query st bp EE fine_EE p_EE TT fine_TT p_TT h))) rfl ?_
  refine AOL.p (P_extract (v := .agg [.int .i64 _, .str _, .str _, .int .i64 _, _, .int .i64 _]) rfl rfl) rfl ?_
  refine AOL.p (P_extract (v := .int .i64 _) rfl rfl) rfl ?_
  refine AOL.p (P_extract (v := .int .i64 _) rfl rfl) rfl ?_
  refine AOL.e (E_store (k := 0) (v := .agg _) (cs' := [.int .i64 _, .str _, .str _, .int .i64 _, _, .int .i64 _]) (H2 := _ :: _) tok rfl rfl rfl rfl rfl rfl rfl rfl rfl) rfl ?_
  rintro _ _ ⟨rfl, rfl⟩
  refine AOL.p (P_assign (v := .int .i64 _) rfl) rfl ?_
  refine AOL.p (P_assign (v := .int .i64 _) rfl) rfl ?_
  refine AOL.nil ?_
  refine thenN ?_
  refine AW.ret ?_
  refine ⟨.inr rfl, [.agg [.int .i64 _, .str _, .str _, .int .i64 _, _, .int .i64 _], .int .i64 _, .int .i64 _], .cons (.box _ _ _ 0 _ _ _ _ rfl rfl rfl rfl rfl rfl) <| .cons (.tmp _ _ rfl) <| .cons (.tmp _ _ rfl) <| .nil, .cons _ (.refl _), ?_⟩
  rfl
set_option maxRecDepth 20000 in
set_option maxHeartbeats 400000 in
theorem pp_Pattern (s : Str) (hl : s.length ≤ 100000) : APure Tryd.prog 10 [.str s] (.tuple [.agg (cSyn (parseP TT s).1), .int .i64 (parseP TT s).2.1, .int .i64 (parseP TT s).2.2]) := by
  refine APure.body (n := 10) tok Tryd.func10 rfl rfl rfl fun H => ?_
  refine AW.seq ?_
  refine AW.region ?_
  refine AOL.e (E_alloc (l := [.int .i64 0, .str [], .str [], .int .i64 0, .sl 6 [], .int .i64 0]) (by kernel_rfl)) rfl ?_
  rintro _ _ ⟨b2, rfl, rfl⟩
  refine AOL.p (P_assign (v := .int .i64 _) rfl) rfl ?_
  refine AOL.p (P_assign (v := .int .i64 _) rfl) rfl ?_
  refine AOL.nil ?_
  refine thenN ?_
  refine AW.seq ?_
  refine AW.region ?_
  refine AOL.p (P_move (v := .str _) rfl) rfl ?_
  refine AOL.p (P_callf (by kernel_rfl) rfl rfl (pp_parse s hl 27 (by kernel_rfl) TT fine_TT (fun st bp h => p_TT st bp h))) rfl ?_
  refine AOL.p (P_extract (v := .agg [.int .i64 _, .str _, .str _, .int .i64 _, _, .int .i64 _]) rfl rfl) rfl ?_
  refine AOL.p (P_extract (v := .int .i64 _) rfl rfl) rfl ?_
  refine AOL.p (P_extract (v := .int .i64 _) rfl rfl) rfl ?_
  refine AOL.e (E_store (k := 0) (v := .agg _) (cs' := [.int .i64 _, .str _, .str _, .int .i64 _, _, .int .i64 _]) (H2 := _ :: _) tok rfl rfl rfl rfl rfl rfl rfl rfl rfl) rfl ?_
  rintro _ _ ⟨rfl, rfl⟩
  refine AOL.p (P_assign (v := .int .i64 _) rfl) rfl ?_
  refine AOL.p (P_assign (v := .int .i64 _) rfl) rfl ?_
  refine AOL.nil ?_
  refine thenN ?_
  refine AW.ret ?_
  refine ⟨.inr rfl, [.agg [.int .i64 _, .str _, .str _, .int .i64 _, _, .int .i64 _], .int .i64 _, .int .i64 _], .cons (.box _ _ _ 0 _ _ _ _ rfl rfl rfl rfl rfl rfl) <| .cons (.tmp _ _ rfl) <| .cons (.tmp _ _ rfl) <| .nil, .cons _ (.refl _), ?_⟩
  rfl
set_option maxRecDepth 20000 in
set_option maxHeartbeats 400000 in
theorem pp_Expr (s : Str) (hl : s.length ≤ 100000) : APure Tryd.prog 11 [.str s] (.tuple [.agg (cSyn (parseP EE s).1), .int .i64 (parseP EE s).2.1, .int .i64 (parseP EE s).2.2]) := by
  refine APure.body (n := 10) tok Tryd.func11 rfl rfl rfl fun H => ?_
  refine AW.seq ?_
  refine AW.region ?_
  refine AOL.e (E_alloc (l := [.int .i64 0, .str [], .str [], .int .i64 0, .sl 6 [], .int .i64 0]) (by kernel_rfl)) rfl ?_
  rintro _ _ ⟨b2, rfl, rfl⟩
  refine AOL.p (P_assign (v := .int .i64 _) rfl) rfl ?_
  refine AOL.p (P_assign (v := .int .i64 _) rfl) rfl ?_
  refine AOL.nil ?_
  refine thenN ?_
  refine AW.seq ?_
  refine AW.region ?_
  refine AOL.p (P_move (v := .str _) rfl) rfl ?_
  refine AOL.p (P_callf (by kernel_rfl) rfl rfl (pp_parse s hl 28 (by kernel_rfl) EE fine_EE (fun st bp h => p_EE st bp h))) rfl ?_
  refine AOL.p (P_extract (v := .agg [.int .i64 _, .str _, .str _, .int .i64 _, _, .int .i64 _]) rfl rfl) rfl ?_
  refine AOL.p (P_extract (v := .int .i64 _) rfl rfl) rfl ?_
  refine AOL.p (P_extract (v := .int .i64 _) rfl rfl) rfl ?_
  refine AOL.e (E_store (k := 0) (v := .agg _) (cs' := [.int .i64 _, .str _, .str _, .int .i64 _, _, .int .i64 _]) (H2 := _ :: _) tok rfl rfl rfl rfl rfl rfl rfl rfl rfl) rfl ?_
  rintro _ _ ⟨rfl, rfl⟩
  refine AOL.p (P_assign (v := .int .i64 _) rfl) rfl ?_
  refine AOL.p (P_assign (v := .int .i64 _) rfl) rfl ?_
  refine AOL.nil ?_
  refine thenN ?_
  refine AW.ret ?_
  refine ⟨.inr rfl, [.agg [.int .i64 _, .str _, .str _, .int .i64 _, _, .int .i64 _], .int .i64 _, .int .i64 _], .cons (.box _ _ _ 0 _ _ _ _ rfl rfl rfl rfl rfl rfl) <| .cons (.tmp _ _ rfl) <| .cons (.tmp _ _ rfl) <| .nil, .cons _ (.refl _), ?_⟩
  rfl

end Go.Proofs.YtpgmglacdcfnaaaDoor
