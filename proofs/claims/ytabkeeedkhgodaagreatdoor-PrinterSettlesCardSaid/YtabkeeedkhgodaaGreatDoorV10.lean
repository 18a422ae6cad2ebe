/-
  Walks of the parser: programs, whole texts. No condition.
-/
import Derived.Test.YtabkeeedkhgodaaGreatDoorV9
import Derived.KernelRfl
namespace Go.Proofs.YtabkeeedkhgodaaGreatDoor
open Go Go.Aw
set_option linter.unusedVariables false
set_option linter.unusedSimpArgs false

theorem kind_adv {st : PS} (h : isP w_ttype st = true) (r : Rng st) : st.pos + 1 ≤ (kindP st).2.pos := by
  have hb : (st.bad == 0) = true := by
    unfold isP at h
    cases hq : (st.bad == 0) with
    | true => rfl
    | false =>
      have : endP st = true := by unfold endP; simp only [bne, hq]; rfl
      rw [this] at h; cases h
  have e : expP w_ttype st = adv st := by unfold expP; rw [h, hb]; exact acc_yes h
  have g0 : Goes (adv st) (expP w_lbrace (tokP 0 (adv st))) := (Goes.tok _ _).trans (.exp _ _)
  have r0 : Rng (adv st) := r
  have : Goes (adv st) (kindP st).2 := by
    unfold kindP
    simp only [e]
    split
    · exact (g0.trans (goes_list fine_field (g0.rng r0))).trans (.exp _ _)
    · exact g0.trans (.exp _ _)
  exact this.2.1
theorem query_adv {E T : PS → Syn × PS} (hE : Fine E) (hT : Fine T) {st : PS} (h : isP w_tquery st = true) (r : Rng st) : st.pos + 1 ≤ (queryP E T st).2.pos := by
  have hb : (st.bad == 0) = true := by
    unfold isP at h
    cases hq : (st.bad == 0) with
    | true => rfl
    | false =>
      have : endP st = true := by unfold endP; simp only [bne, hq]; rfl
      rw [this] at h; cases h
  have e : expP w_tquery st = adv st := by unfold expP; rw [h, hb]; exact acc_yes h
  have r0 : Rng (adv st) := r
  have h1 : Goes (adv st) (expP w_tmatch (keyP (tokP 0 (adv st)) (offS st)).2) := ((Goes.tok _ _).trans (goes_key _ _)).trans (.exp _ _)
  have h2 := (Goes.read hT r0 h1).trans (.exp w_treturn _)
  have : Goes (adv st) (queryP E T st).2 := by
    unfold queryP
    simp only [e]
    exact (h2.trans (goes_list hE (h2.rng r0))).trans (.exp _ _)
  exact this.2.1
theorem progGo_pos {w : Str} {F : PS → Syn × PS} {n : Nat} {st : PS} {out : List Syn} (h : 0 < n) : progGo w F n st out = if isP w st then progGo w F (n - 1) (F st).2 (out ++ [(F st).1]) else (out, st) := by
  obtain ⟨m, rfl⟩ : ∃ m, n = m + 1 := ⟨n - 1, by omega⟩
  rfl

abbrev pg1 (st : PS) : List Syn × PS := progGo w_ttype kindP (fuel st) st []
set_option maxRecDepth 20000 in
set_option maxHeartbeats 3200000 in
theorem p_program (st : PS) (bp : Nat) (E : PS → Syn × PS) (hFE : Fine E) (hE : ∀ (st : PS) (bp : Nat), okD 0 st → PCallS Tryz.prog 40 bp 70 (cP st) (cP (E st).2) [.val (.pointer (some ⟨bp, 0, none⟩))] (.agg (cSyn (E st).1))) (T : PS → Syn × PS) (hFT : Fine T) (hT : ∀ (st : PS) (bp : Nat), okD 0 st → PCallS Tryz.prog 108 bp 70 (cP st) (cP (T st).2) [.val (.pointer (some ⟨bp, 0, none⟩))] (.agg (cSyn (T st).1))) (hO : okD 0 st) : PCallS Tryz.prog 38 bp 70 (cP st) (cP ((progP E T st).2)) [.val (.pointer (some ⟨bp, 0, none⟩))] (.agg (cSyn (progP E T st).1)) := by
 intro H
 have hS := hO.1
 refine ACall.body (n := 24) tok Tryz.func38 rfl rfl rfl ?_
 refine AW.seq (AW.region ?_)
 refine AOL.e (E_alloc (l := [.int .i64 0, .str [], .str [], .int .i64 0, .sl 6 [], .int .i64 0]) (by kernel_rfl)) rfl ?_
 rintro _ _ ⟨b2, rfl, rfl⟩
 refine AOL.nil (thenN ?_)
 refine AW.seq (AW.region ?_)
 refine AOL.p (P_buildZ (l0 := [.int .i64 0, .str [], .str [], .int .i64 0, .val (.slice none 0 0), .int .i64 0]) (l := [.int .i64 _, .str _, .str _, .int .i64 _, _, .int .i64 _]) tok rfl rfl (by kernel_rfl) rfl) rfl ?_
 refine AOL.e (E_alloc (l := [.int .i64 0, .str [], .str [], .int .i64 0, .sl 6 [], .int .i64 0]) (by kernel_rfl)) rfl ?_
 rintro _ _ ⟨b3, rfl, rfl⟩
 refine AOL.e (E_store (k := 0) (v := .agg _) (cs' := [.int .i64 _, .str _, .str _, .int .i64 _, _, .int .i64 _]) (H2 := _ :: _ :: _ :: _) tok rfl rfl rfl rfl rfl rfl rfl rfl rfl) rfl ?_
 rintro _ _ ⟨rfl, rfl⟩
 refine AOL.ghost (GS.cellRow 0 4 24 6 rfl rfl rfl rfl) ?_
 refine AOL.nil (thenN ?_)
 refine AW.seq ?_
 refine AW.block ?_
 refine AW.loopS (fun (p : Nat × PS × List Syn × List (List AV) × Value) => (⟨[(0, .val (.pointer (some ⟨bp, 0, none⟩))), (2, .val (.pointer (some ⟨b2, 0, none⟩))), (3, .val (.pointer (some ⟨b3, 0, none⟩)))], .row p.2.2.2.2 p.2.2.2.1.length 24 6 :: .box b3 24 [.int .i64 0, .str [], .str [], .int .i64 0, .row p.2.2.2.2 6 p.2.2.2.1, .int .i64 0] :: .box b2 24 (cSyn synZ) :: .box bp 70 (cP p.2.1) :: H, 24⟩ : St)) (fun (p : Nat × PS × List Syn × List (List AV) × Value) => p.2.2.2.1 = p.2.2.1.map encS ∧ okD 0 p.2.1 ∧ fuel p.2.1 ≤ p.1 ∧ p.2.2.1.length ≤ p.2.1.pos ∧ pg1 st = progGo w_ttype kindP p.1 p.2.1 p.2.2.1) (fun (p : Nat × PS × List Syn × List (List AV) × Value) => p.1) ((fuel st, st, [], [], .slice none 0 0)) ?_ (GS.weaken ⟨rfl, rfl, rfl, trivial⟩ (.refl _)) ?_
 · exact ⟨rfl, hO, Nat.le_refl _, Nat.zero_le _, rfl⟩
 ·
  rintro p hR
  have hes : p.2.2.2.1 = p.2.2.1.map encS := hR.1
  have hO2 : okD 0 p.2.1 := hR.2.1
  have hS := hO2.1
  have hfu : fuel p.2.1 ≤ p.1 := hR.2.2.1
  have hn : 0 < p.1 := by unfold fuel at hfu; omega
  have hol : p.2.2.1.length ≤ p.2.1.pos := hR.2.2.2.1
  have hsc : ∀ c ∈ p.2.2.2.1, scalars c = true := by rw [hes]; exact sc_syn _
  have hel : p.2.2.2.1.length = p.2.2.1.length := by rw [hes, List.length_map]
  refine AW.seq ?_
  refine AW.seq (AW.region ?_)
  refine AOL.p (P_move (v := .val _) rfl) rfl ?_
  refine AOL.pk (P_callf_k (k := 3) (by kernel_rfl) rfl rfl (p_is _ _ _ (by simpa using hS) (by first | assumption | decide))) rfl rfl ?_
  refine AOL.nil (thenN ?_)
  refine AW.cond (b := _) rfl (fun hc1 => ?_) (fun hc1 => ?_)
  ·
   try simp only [Bool.not_eq_true', Bool.not_eq_false'] at hc1
   have hlt := is_lt hc1
   have hml := hS.1
   have hg := fine_kind.goes (a := p.2.1) (okD_rng (Int.le_refl _) hO2)
   have hpp := kind_adv hc1 (okD_rng (Int.le_refl _) hO2)
   refine AW.skip ?_
   refine thenN ?_
   refine AW.block ?_
   refine AW.draw mixed (fun H' => _ ∈ H') (List.mem_of_getElem? (i := 1) rfl) (by kernel_rfl) ?_
   refine Canon.pure _ _ 0 _ _ rfl (by kernel_rfl) (by kernel_rfl) rfl (.run rfl (P_fieldAddr_val tok rfl rfl rfl rfl rfl rfl)) ?_
   refine Canon.pure _ _ 1 _ _ rfl (by kernel_rfl) (by kernel_rfl) rfl (.run rfl (OpP.mem (fun k => P_load_box (k := k) (c := .row _ _ _) tok rfl rfl rfl rfl) (fun _ h => h))) ?_
   refine Canon.pure _ _ 2 _ _ rfl (by kernel_rfl) (by kernel_rfl) rfl (.run rfl (P_move (v := .val _) rfl)) ?_
   refine Canon.eff _ _ 3 _ _ rfl (by kernel_rfl) rfl rfl (E_callf (by kernel_rfl) rfl rfl ((p_kind _ bp hO2).at (k := 3) (H2 := _ :: _ :: _ :: _ :: _) rfl rfl)) (by rintro _ _ ⟨rfl, rfl⟩; simp) ?_
   rintro _ _ ⟨rfl, rfl⟩
   refine Canon.pure _ _ 4 _ _ rfl (by kernel_rfl) (by kernel_rfl) rfl (.run rfl (P_buildSlice (es := [[.int .i64 _, .str _, .str _, .int .i64 _, _, .int .i64 _]]) tok rfl rfl rfl rfl rfl rfl rfl rfl rfl)) ?_
   refine Canon.eff _ _ 5 _ _ rfl (by kernel_rfl) rfl rfl (E_append (k := 0) tok rfl rfl rfl rfl rfl rfl rfl rfl (sc_one rfl) (hsc) (by simp; omega) (by simp [maxLen]; omega)) (by rintro _ _ ⟨v12, rfl, rfl⟩; simp) ?_
   rintro _ _ ⟨v12, rfl, rfl⟩
   refine Canon.pure _ _ 6 _ _ rfl (by kernel_rfl) (by kernel_rfl) rfl (.run rfl (P_fieldAddr_val tok rfl rfl rfl rfl rfl rfl)) ?_
   refine Canon.last _ _ 7 _ _ rfl (by kernel_rfl) rfl rfl (E_store (k := 1) (v := .row _ _ _) (cs' := [.int .i64 _, .str _, .str _, .int .i64 _, _, .int .i64 _]) (H2 := _ :: _ :: _ :: _ :: _) tok rfl rfl rfl rfl rfl rfl rfl rfl rfl) (by kernel_rfl) ?_
   rintro _ _ ⟨rfl, rfl⟩
   refine blkN ?_
   refine thenN ?_
   refine ⟨(p.1 - 1, (kindP p.2.1).2, p.2.2.1 ++ [(kindP p.2.1).1], p.2.2.2.1 ++ [cSyn (kindP p.2.1).1], v12), ?_, ?_, GS.weaken ⟨rfl, rfl, rfl, trivial⟩ (.refl _)⟩
   · exact ⟨syn_next hes, okD_goes hO2 hg, by unfold fuel at hfu ⊢; rw [hg.1]; simp only; omega, by simp only [List.length_append, List.length_singleton]; omega, hR.2.2.2.2.trans (by rw [progGo_pos hn, if_pos hc1])⟩
   · simp only; omega
  ·
   try simp only [Bool.not_eq_true', Bool.not_eq_false'] at hc1
   have h1 : pg1 st = (p.2.2.1, p.2.1) := hR.2.2.2.2.trans (by rw [progGo_pos hn, if_neg (Bool.eq_false_iff.mp hc1)])
   refine AW.exit ?_
   refine thenE ?_
   refine thenE ?_
   refine blkHit ?_
   refine thenN ?_
   refine AW.seq ?_
   refine AW.block ?_
   refine AW.loopS (fun (q : Nat × PS × List Syn × List (List AV) × Value) => (⟨[(0, .val (.pointer (some ⟨bp, 0, none⟩))), (2, .val (.pointer (some ⟨b2, 0, none⟩))), (3, .val (.pointer (some ⟨b3, 0, none⟩)))], .row q.2.2.2.2 q.2.2.2.1.length 24 6 :: .box b3 24 [.int .i64 0, .str [], .str [], .int .i64 0, .row q.2.2.2.2 6 q.2.2.2.1, .int .i64 0] :: .box b2 24 (cSyn synZ) :: .box bp 70 (cP q.2.1) :: H, 24⟩ : St)) (fun (q : Nat × PS × List Syn × List (List AV) × Value) => q.2.2.2.1 = q.2.2.1.map encS ∧ okD 0 q.2.1 ∧ fuel q.2.1 ≤ q.1 ∧ q.2.2.1.length ≤ q.2.1.pos ∧ progGo w_tquery (queryP E T) (fuel p.2.1) p.2.1 p.2.2.1 = progGo w_tquery (queryP E T) q.1 q.2.1 q.2.2.1) (fun (q : Nat × PS × List Syn × List (List AV) × Value) => q.1) ((fuel p.2.1, p.2.1, p.2.2.1, p.2.2.2.1, p.2.2.2.2)) ?_ (GS.weaken ⟨rfl, rfl, rfl, trivial⟩ (.refl _)) ?_
   · exact ⟨hes, hO2, Nat.le_refl _, hol, rfl⟩
   ·
    rintro q hQ
    have hes : q.2.2.2.1 = q.2.2.1.map encS := hQ.1
    have hO2 : okD 0 q.2.1 := hQ.2.1
    have hS := hO2.1
    have hfu : fuel q.2.1 ≤ q.1 := hQ.2.2.1
    have hn : 0 < q.1 := by unfold fuel at hfu; omega
    have hol : q.2.2.1.length ≤ q.2.1.pos := hQ.2.2.2.1
    have hsc : ∀ c ∈ q.2.2.2.1, scalars c = true := by rw [hes]; exact sc_syn _
    have hel : q.2.2.2.1.length = q.2.2.1.length := by rw [hes, List.length_map]
    refine AW.seq ?_
    refine AW.seq (AW.region ?_)
    refine AOL.p (P_move (v := .val _) rfl) rfl ?_
    refine AOL.pk (P_callf_k (k := 3) (by kernel_rfl) rfl rfl (p_is _ _ _ (by simpa using hS) (by first | assumption | decide))) rfl rfl ?_
    refine AOL.nil (thenN ?_)
    refine AW.cond (b := _) rfl (fun hc2 => ?_) (fun hc2 => ?_)
    ·
     try simp only [Bool.not_eq_true', Bool.not_eq_false'] at hc2
     have hlt := is_lt hc2
     have hml := hS.1
     have hg := (fine_query hFE hFT).goes (a := q.2.1) (okD_rng (Int.le_refl _) hO2)
     have hpp := query_adv hFE hFT hc2 (okD_rng (Int.le_refl _) hO2)
     refine AW.skip ?_
     refine thenN ?_
     refine AW.block ?_
     refine AW.draw mixed (fun H' => _ ∈ H') (List.mem_of_getElem? (i := 1) rfl) (by kernel_rfl) ?_
     refine Canon.pure _ _ 0 _ _ rfl (by kernel_rfl) (by kernel_rfl) rfl (.run rfl (P_fieldAddr_val tok rfl rfl rfl rfl rfl rfl)) ?_
     refine Canon.pure _ _ 1 _ _ rfl (by kernel_rfl) (by kernel_rfl) rfl (.run rfl (OpP.mem (fun k => P_load_box (k := k) (c := .row _ _ _) tok rfl rfl rfl rfl) (fun _ h => h))) ?_
     refine Canon.pure _ _ 2 _ _ rfl (by kernel_rfl) (by kernel_rfl) rfl (.run rfl (P_move (v := .val _) rfl)) ?_
     refine Canon.eff _ _ 3 _ _ rfl (by kernel_rfl) rfl rfl (E_callf (by kernel_rfl) rfl rfl ((p_query _ bp E hFE hE T hFT hT hO2).at (k := 3) (H2 := _ :: _ :: _ :: _ :: _) rfl rfl)) (by rintro _ _ ⟨rfl, rfl⟩; simp) ?_
     rintro _ _ ⟨rfl, rfl⟩
     refine Canon.pure _ _ 4 _ _ rfl (by kernel_rfl) (by kernel_rfl) rfl (.run rfl (P_buildSlice (es := [[.int .i64 _, .str _, .str _, .int .i64 _, _, .int .i64 _]]) tok rfl rfl rfl rfl rfl rfl rfl rfl rfl)) ?_
     refine Canon.eff _ _ 5 _ _ rfl (by kernel_rfl) rfl rfl (E_append (k := 0) tok rfl rfl rfl rfl rfl rfl rfl rfl (sc_one rfl) (hsc) (by simp; omega) (by simp [maxLen]; omega)) (by rintro _ _ ⟨v21, rfl, rfl⟩; simp) ?_
     rintro _ _ ⟨v21, rfl, rfl⟩
     refine Canon.pure _ _ 6 _ _ rfl (by kernel_rfl) (by kernel_rfl) rfl (.run rfl (P_fieldAddr_val tok rfl rfl rfl rfl rfl rfl)) ?_
     refine Canon.last _ _ 7 _ _ rfl (by kernel_rfl) rfl rfl (E_store (k := 1) (v := .row _ _ _) (cs' := [.int .i64 _, .str _, .str _, .int .i64 _, _, .int .i64 _]) (H2 := _ :: _ :: _ :: _ :: _) tok rfl rfl rfl rfl rfl rfl rfl rfl rfl) (by kernel_rfl) ?_
     rintro _ _ ⟨rfl, rfl⟩
     refine blkN ?_
     refine thenN ?_
     refine ⟨(q.1 - 1, (queryP E T q.2.1).2, q.2.2.1 ++ [(queryP E T q.2.1).1], q.2.2.2.1 ++ [cSyn (queryP E T q.2.1).1], v21), ?_, ?_, GS.weaken ⟨rfl, rfl, rfl, trivial⟩ (.refl _)⟩
     · exact ⟨syn_next hes, okD_goes hO2 hg, by unfold fuel at hfu ⊢; rw [hg.1]; simp only; omega, by simp only [List.length_append, List.length_singleton]; omega, hQ.2.2.2.2.trans (by rw [progGo_pos hn, if_pos hc2])⟩
     · simp only; omega
    ·
     try simp only [Bool.not_eq_true', Bool.not_eq_false'] at hc2
     refine AW.exit ?_
     refine thenE ?_
     refine thenE ?_
     refine blkHit ?_
     refine thenN ?_
     refine AW.seq (AW.region ?_)
     refine AOL.ghost (GS.cell (H2 := _ :: _ :: _ :: _ :: _) 1 4 rfl rfl rfl rfl unrow_cell) ?_
     refine AOL.pk (P_load_box_agg (k := 1) (l := [.int .i64 _, .str _, .str _, .int .i64 _, _, .int .i64 _]) tok rfl rfl rfl rfl rfl) rfl rfl ?_
     refine AOL.e (E_store (k := 2) (v := .agg _) (cs' := [.int .i64 _, .str _, .str _, .int .i64 _, _, .int .i64 _]) (H2 := _ :: _ :: _ :: _ :: _) tok rfl rfl rfl rfl rfl rfl rfl rfl rfl) rfl ?_
     rintro _ _ ⟨rfl, rfl⟩
     refine AOL.nil (thenN ?_)
     refine AW.ret ?_
     refine ⟨.inr rfl, [.agg [.int .i64 _, .str _, .str _, .int .i64 _, _, .int .i64 _]], .cons (.box _ _ _ 2 _ _ _ _ rfl rfl rfl rfl rfl rfl) <| .nil, _, .cons _ (.cons _ (.cons _ (.refl _))), ?_⟩
     have h9 : progP E T st = (⟨0, [], [], 0, q.2.2.1, 0⟩, q.2.1) := by
      have h8 : progGo w_tquery (queryP E T) (fuel (pg1 st).2) (pg1 st).2 (pg1 st).1 = (q.2.2.1, q.2.1) := by
       rw [h1]
       exact hQ.2.2.2.2.trans (by rw [progGo_pos hn, if_neg (Bool.eq_false_iff.mp hc2)])
      unfold progP
      simp only
      rw [h8]
     exact ⟨by rw [h9]; exact congrArg (fun l => AV.agg [.int .i64 0, .str [], .str [], .int .i64 0, .sl 6 l, .int .i64 0]) hes, congrArg (fun s => HO.box bp 70 (cP s) :: H) (by rw [h9])⟩
theorem fine_prog {E T : PS → Syn × PS} (hE : Fine E) (hT : Fine T) : Fine (progP E T) := .of fun st r => by
  have key : ∀ {F : PS → Syn × PS} (hF : Fine F) (w : Str) (n : Nat) (st : PS) (out : List Syn), Rng st → Goes st (progGo w F n st out).2 := by
    intro F hF w n
    induction n with
    | zero => intro st out r; exact .refl _
    | succ n ih =>
      intro st out r
      unfold progGo
      split
      · have h := hF.goes r
        exact h.trans (ih _ _ (h.rng r))
      · exact .refl _
  have h1 := key fine_kind w_ttype (fuel st) st [] r
  exact h1.trans (key (fine_query hE hT) w_tquery _ _ _ (h1.rng r))
abbrev pst (F : PS → Syn × PS) (s : Str) : PS := (F (beginS (scanS s).1 s.length)).2
set_option maxRecDepth 20000 in
set_option maxHeartbeats 1600000 in
theorem pp_parse (s : Str) (hl : s.length ≤ 100000) (f : Nat) (hf : fnB Tryz.prog f = true) (F : PS → Syn × PS) (hF : Fine F) (hc : ∀ (st : PS) (bp : Nat), okD 0 st → PCallS Tryz.prog f bp 70 (cP st) (cP (F st).2) [.val (.pointer (some ⟨bp, 0, none⟩))] (.agg (cSyn (F st).1))) : APure Tryz.prog 37 [.str s, .fn (.func f) [] []] (.tuple [.agg (cSyn (parseP F s).1), .int .i64 (parseP F s).2.1, .int .i64 (parseP F s).2.2]) := by
 have hb0 := begin_okD s hl
 refine APure.body (n := 58) tok Tryz.func37 rfl rfl rfl fun H => ?_
 refine AW.seq (AW.region ?_)
 refine AOL.e (E_alloc (l := [.int .i64 0, .str [], .str [], .int .i64 0, .sl 6 [], .int .i64 0]) (by kernel_rfl)) rfl ?_
 rintro _ _ ⟨b4, rfl, rfl⟩
 refine AOL.p (P_assign (v := .int .i64 _) rfl) rfl ?_
 refine AOL.p (P_assign (v := .int .i64 _) rfl) rfl ?_
 refine AOL.nil (thenN ?_)
 refine AW.seq (AW.region ?_)
 refine AOL.p (P_move (v := .str _) rfl) rfl ?_
 refine AOL.p (P_callf (by kernel_rfl) rfl rfl (c13 s (by omega))) rfl ?_
 refine AOL.p (P_move (v := .tuple _) rfl) rfl ?_
 refine AOL.p (P_extract (v := .sl _ _) rfl rfl) rfl ?_
 refine AOL.p (P_extract (v := .int .i64 _) rfl rfl) rfl ?_
 refine AOL.p (P_extract (v := .int .i64 _) rfl rfl) rfl ?_
 refine AOL.p (P_assign (v := .sl _ _) rfl) rfl ?_
 refine AOL.p (P_assign (v := .int .i64 _) rfl) rfl ?_
 refine AOL.p (P_assign (v := .int .i64 _) rfl) rfl ?_
 refine AOL.nil (thenN ?_)
 refine AW.seq ?_
 refine AW.seq (AW.region ?_)
 refine AOL.p (P_move (v := .int .i64 _) rfl) rfl ?_
 refine AOL.p (P_neq rfl rfl) rfl ?_
 refine AOL.nil (thenN ?_)
 refine AW.cond (b := _) rfl (fun hc1 => ?_) (fun hc1 => ?_)
 ·
  try simp only [Bool.not_eq_true', Bool.not_eq_false'] at hc1
  refine AW.seq (AW.region ?_)
  refine AOL.p (P_build (l := [.int .i64 _, .str _, .str _, .int .i64 _, _, .int .i64 _]) tok rfl rfl rfl) rfl ?_
  refine AOL.p (P_move (v := .int .i64 _) rfl) rfl ?_
  refine AOL.p (P_move (v := .int .i64 _) rfl) rfl ?_
  refine AOL.e (E_store (k := 0) (v := .agg _) (cs' := [.int .i64 _, .str _, .str _, .int .i64 _, _, .int .i64 _]) (H2 := _ :: _) tok rfl rfl rfl rfl rfl rfl rfl rfl rfl) rfl ?_
  rintro _ _ ⟨rfl, rfl⟩
  refine AOL.p (P_assign (v := .int .i64 _) rfl) rfl ?_
  refine AOL.p (P_assign (v := .int .i64 _) rfl) rfl ?_
  refine AOL.nil (thenN ?_)
  refine AW.ret ?_
  refine thenR ?_
  refine ⟨.inr rfl, [.agg [.int .i64 _, .str _, .str _, .int .i64 _, _, .int .i64 _], .int .i64 _, .int .i64 _], .cons (.box _ _ _ 0 _ _ _ _ rfl rfl rfl rfl rfl rfl) <| .cons (.tmp _ _ rfl) <| .cons (.tmp _ _ rfl) <| .nil, .cons _ (.refl _), ?_⟩
  have h9 : parseP F s = (synZ, (scanS s).2.1, (scanS s).2.2) := by unfold parseP; rw [if_pos hc1]
  rw [h9]; rfl
 ·
  try simp only [Bool.not_eq_true', Bool.not_eq_false'] at hc1
  refine AW.skip ?_
  refine thenN ?_
  refine AW.seq (AW.region ?_)
  refine AOL.p (P_move (v := .sl _ _) rfl) rfl ?_
  refine AOL.p (P_move (v := .str _) rfl) rfl ?_
  refine AOL.p (P_len_str tok rfl rfl rfl rfl) rfl ?_
  refine AOL.p (P_build (l := [_, .int .i64 _, .int .i64 _, .int .i64 _, .int .i64 _, .int .i64 _]) tok rfl rfl rfl) rfl ?_
  refine AOL.e (E_box (v := .agg _) (cs := [_, .int .i64 _, .int .i64 _, .int .i64 _, .int .i64 _, .int .i64 _]) rfl rfl rfl) rfl ?_
  rintro _ _ ⟨b27, rfl, rfl⟩
  refine AOL.p (P_assign (v := .val _) rfl) rfl ?_
  refine AOL.nil (thenN ?_)
  refine AW.seq (AW.region ?_)
  refine AOL.p (P_move (v := .fn _ _ _) rfl) rfl ?_
  refine AOL.p (P_move (v := .val _) rfl) rfl ?_
  refine AOL.e (E_call (hf) rfl rfl rfl ((hc (beginS (scanS s).1 s.length) b27 hb0).at (k := 0) (H2 := _ :: _ :: _) rfl rfl)) rfl ?_
  rintro _ _ ⟨rfl, rfl⟩
  refine AOL.e (E_alloc (l := [.int .i64 0, .str [], .str [], .int .i64 0, .sl 6 [], .int .i64 0]) (by kernel_rfl)) rfl ?_
  rintro _ _ ⟨b11, rfl, rfl⟩
  refine AOL.e (E_store (k := 0) (v := .agg _) (cs' := [.int .i64 _, .str _, .str _, .int .i64 _, _, .int .i64 _]) (H2 := _ :: _ :: _ :: _) tok rfl rfl rfl rfl rfl rfl rfl rfl rfl) rfl ?_
  rintro _ _ ⟨rfl, rfl⟩
  refine AOL.ghost (GS.freeze (t := 11) 0 rfl rfl) ?_
  refine AOL.nil (thenN ?_)
  refine AW.seq ?_
  refine AW.seq ?_
  refine AW.draw mixed (fun H' => _ ∈ H') (List.mem_of_getElem? (i := 0) rfl) (by kernel_rfl) ?_
  refine Canon.pure _ _ 0 _ _ rfl (by kernel_rfl) (by kernel_rfl) rfl (.run rfl (P_move (v := .val _) rfl)) ?_
  refine Canon.pure _ _ 1 _ _ rfl (by kernel_rfl) (by kernel_rfl) rfl (.run rfl (P_nilCheck rfl)) ?_
  refine Canon.pure _ _ 2 _ _ rfl (by kernel_rfl) (by kernel_rfl) rfl (.run rfl (P_fieldAddr_val tok rfl rfl rfl rfl rfl rfl)) ?_
  refine Canon.pure _ _ 3 _ _ rfl (by kernel_rfl) (by kernel_rfl) rfl (.run rfl (OpP.mem (fun k => P_load_box (k := k) (c := .int .i64 _) tok rfl rfl rfl rfl) (fun _ h => h))) ?_
  refine Canon.pure _ _ 4 _ _ rfl (by kernel_rfl) (by kernel_rfl) rfl (.run rfl (P_move (v := .val _) rfl)) ?_
  refine Canon.pure _ _ 5 _ _ rfl (by kernel_rfl) (by kernel_rfl) rfl (.run rfl (P_nilCheck rfl)) ?_
  refine Canon.pure _ _ 6 _ _ rfl (by kernel_rfl) (by kernel_rfl) rfl (.run rfl (P_fieldAddr_val tok rfl rfl rfl rfl rfl rfl)) ?_
  refine Canon.pure _ _ 7 _ _ rfl (by kernel_rfl) (by kernel_rfl) rfl (.run rfl (OpP.mem (fun k => P_load_box (k := k) (c := .sl _ _) tok rfl rfl rfl rfl) (fun _ h => h))) ?_
  refine Canon.pure _ _ 8 _ _ rfl (by kernel_rfl) (by kernel_rfl) rfl (.run rfl (P_len_sl (n := (pst F s).toks.length) tok rfl rfl rfl (by simp))) ?_
  refine Canon.pure _ _ 9 _ _ rfl (by kernel_rfl) (by kernel_rfl) rfl (.run rfl (P_lss rfl rfl)) ?_
  refine Canon.done _ _ (by kernel_rfl) ?_
  refine thenN ?_
  refine AW.cond (b := _) rfl (fun hc2 => ?_) (fun hc2 => ?_)
  ·
   try simp only [Bool.not_eq_true', Bool.not_eq_false'] at hc2
   refine AW.region ?_
   refine AOL.p (P_move (v := .val _) rfl) rfl ?_
   refine AOL.e (E_callf (by kernel_rfl) rfl rfl ((p_fail _ _ _).at (k := 0) (H2 := _ :: _ :: _) rfl rfl)) rfl ?_
   rintro _ _ ⟨rfl, rfl⟩
   refine AOL.nil (thenN ?_)
   refine AW.seq ?_
   refine AW.seq (AW.region ?_)
   refine AOL.p (P_move (v := .val _) rfl) rfl ?_
   refine AOL.p (P_nilCheck rfl) rfl ?_
   refine AOL.p (P_fieldAddr_val tok rfl rfl rfl rfl rfl rfl) rfl ?_
   refine AOL.pk (P_load_box (k := 0) (c := .int .i64 _) tok rfl rfl rfl rfl) rfl rfl ?_
   refine AOL.p (P_neq rfl rfl) rfl ?_
   refine AOL.nil (thenN ?_)
   refine AW.cond (b := _) rfl (fun hc3 => ?_) (fun hc3 => ?_)
   ·
    try simp only [Bool.not_eq_true', Bool.not_eq_false'] at hc3
    refine AW.seq ?_
    refine AW.draw mixed (fun H' => _ ∈ H') (List.mem_of_getElem? (i := 0) rfl) (by kernel_rfl) ?_
    refine Canon.pure _ _ 0 _ _ rfl (by kernel_rfl) (by kernel_rfl) rfl (.run rfl (P_build (l := [.int .i64 _, .str _, .str _, .int .i64 _, _, .int .i64 _]) tok rfl rfl rfl)) ?_
    refine Canon.pure _ _ 1 _ _ rfl (by kernel_rfl) (by kernel_rfl) rfl (.run rfl (P_move (v := .val _) rfl)) ?_
    refine Canon.pure _ _ 2 _ _ rfl (by kernel_rfl) (by kernel_rfl) rfl (.run rfl (P_nilCheck rfl)) ?_
    refine Canon.pure _ _ 3 _ _ rfl (by kernel_rfl) (by kernel_rfl) rfl (.run rfl (P_fieldAddr_val tok rfl rfl rfl rfl rfl rfl)) ?_
    refine Canon.pure _ _ 4 _ _ rfl (by kernel_rfl) (by kernel_rfl) rfl (.run rfl (OpP.mem (fun k => P_load_box (k := k) (c := .int .i64 _) tok rfl rfl rfl rfl) (fun _ h => h))) ?_
    refine Canon.pure _ _ 5 _ _ rfl (by kernel_rfl) (by kernel_rfl) rfl (.run rfl (P_move (v := .val _) rfl)) ?_
    refine Canon.pure _ _ 6 _ _ rfl (by kernel_rfl) (by kernel_rfl) rfl (.run rfl (P_nilCheck rfl)) ?_
    refine Canon.pure _ _ 7 _ _ rfl (by kernel_rfl) (by kernel_rfl) rfl (.run rfl (P_fieldAddr_val tok rfl rfl rfl rfl rfl rfl)) ?_
    refine Canon.pure _ _ 8 _ _ rfl (by kernel_rfl) (by kernel_rfl) rfl (.run rfl (OpP.mem (fun k => P_load_box (k := k) (c := .int .i64 _) tok rfl rfl rfl rfl) (fun _ h => h))) ?_
    refine Canon.eff _ _ 9 _ _ rfl (by kernel_rfl) rfl rfl (E_store (k := 1) (v := .agg _) (cs' := [.int .i64 _, .str _, .str _, .int .i64 _, _, .int .i64 _]) (H2 := _ :: _ :: _) tok rfl rfl rfl rfl rfl rfl rfl rfl rfl) (by rintro _ _ ⟨rfl, rfl⟩; simp) ?_
    rintro _ _ ⟨rfl, rfl⟩
    refine Canon.pure _ _ 10 _ _ rfl (by kernel_rfl) (by kernel_rfl) rfl (.run rfl (P_assign (v := .int .i64 _) rfl)) ?_
    refine Canon.pure _ _ 11 _ _ rfl (by kernel_rfl) (by kernel_rfl) rfl (.run rfl (P_assign (v := .int .i64 _) rfl)) ?_
    refine Canon.done _ _ (by kernel_rfl) ?_
    refine thenN ?_
    refine AW.ret ?_
    refine thenR ?_
    refine ⟨.inr rfl, [.agg [.int .i64 _, .str _, .str _, .int .i64 _, _, .int .i64 _], .int .i64 _, .int .i64 _], .cons (.box _ _ _ 1 _ _ _ _ rfl rfl rfl rfl rfl rfl) <| .cons (.tmp _ _ rfl) <| .cons (.tmp _ _ rfl) <| .nil, .cons _ (.cons _ (.refl _)), ?_⟩
    have h9 : parseP F s = doneP (F (beginS (scanS s).1 s.length)) := by unfold parseP; rw [if_neg (by rw [hc1]; decide)]
    rw [h9]
    simp only [doneP, resOf, hc1, hc2, hc3, ↓reduceIte, Bool.false_eq_true]
    try rfl
   ·
    try simp only [Bool.not_eq_true', Bool.not_eq_false'] at hc3
    refine AW.skip ?_
    refine thenN ?_
    refine AW.seq (AW.region ?_)
    refine AOL.p (P_load_ptr_agg (l := [.int .i64 _, .str _, .str _, .int .i64 _, _, .int .i64 _]) tok rfl rfl rfl rfl rfl) rfl ?_
    refine AOL.e (E_store (k := 1) (v := .agg _) (cs' := [.int .i64 _, .str _, .str _, .int .i64 _, _, .int .i64 _]) (H2 := _ :: _ :: _) tok rfl rfl rfl rfl rfl rfl rfl rfl rfl) rfl ?_
    rintro _ _ ⟨rfl, rfl⟩
    refine AOL.p (P_assign (v := .int .i64 _) rfl) rfl ?_
    refine AOL.p (P_assign (v := .int .i64 _) rfl) rfl ?_
    refine AOL.nil (thenN ?_)
    refine AW.ret ?_
    refine ⟨.inr rfl, [.agg [.int .i64 _, .str _, .str _, .int .i64 _, _, .int .i64 _], .int .i64 _, .int .i64 _], .cons (.box _ _ _ 1 _ _ _ _ rfl rfl rfl rfl rfl rfl) <| .cons (.tmp _ _ rfl) <| .cons (.tmp _ _ rfl) <| .nil, .cons _ (.cons _ (.refl _)), ?_⟩
    have h9 : parseP F s = doneP (F (beginS (scanS s).1 s.length)) := by unfold parseP; rw [if_neg (by rw [hc1]; decide)]
    rw [h9]
    simp only [doneP, resOf, hc1, hc2, hc3, ↓reduceIte, Bool.false_eq_true]
    try rfl
  ·
   try simp only [Bool.not_eq_true', Bool.not_eq_false'] at hc2
   refine AW.skip ?_
   refine thenN ?_
   refine AW.seq ?_
   refine AW.seq (AW.region ?_)
   refine AOL.p (P_move (v := .val _) rfl) rfl ?_
   refine AOL.p (P_nilCheck rfl) rfl ?_
   refine AOL.p (P_fieldAddr_val tok rfl rfl rfl rfl rfl rfl) rfl ?_
   refine AOL.pk (P_load_box (k := 0) (c := .int .i64 _) tok rfl rfl rfl rfl) rfl rfl ?_
   refine AOL.p (P_neq rfl rfl) rfl ?_
   refine AOL.nil (thenN ?_)
   refine AW.cond (b := _) rfl (fun hc4 => ?_) (fun hc4 => ?_)
   ·
    try simp only [Bool.not_eq_true', Bool.not_eq_false'] at hc4
    refine AW.seq ?_
    refine AW.draw mixed (fun H' => _ ∈ H') (List.mem_of_getElem? (i := 0) rfl) (by kernel_rfl) ?_
    refine Canon.pure _ _ 0 _ _ rfl (by kernel_rfl) (by kernel_rfl) rfl (.run rfl (P_build (l := [.int .i64 _, .str _, .str _, .int .i64 _, _, .int .i64 _]) tok rfl rfl rfl)) ?_
    refine Canon.pure _ _ 1 _ _ rfl (by kernel_rfl) (by kernel_rfl) rfl (.run rfl (P_move (v := .val _) rfl)) ?_
    refine Canon.pure _ _ 2 _ _ rfl (by kernel_rfl) (by kernel_rfl) rfl (.run rfl (P_nilCheck rfl)) ?_
    refine Canon.pure _ _ 3 _ _ rfl (by kernel_rfl) (by kernel_rfl) rfl (.run rfl (P_fieldAddr_val tok rfl rfl rfl rfl rfl rfl)) ?_
    refine Canon.pure _ _ 4 _ _ rfl (by kernel_rfl) (by kernel_rfl) rfl (.run rfl (OpP.mem (fun k => P_load_box (k := k) (c := .int .i64 _) tok rfl rfl rfl rfl) (fun _ h => h))) ?_
    refine Canon.pure _ _ 5 _ _ rfl (by kernel_rfl) (by kernel_rfl) rfl (.run rfl (P_move (v := .val _) rfl)) ?_
    refine Canon.pure _ _ 6 _ _ rfl (by kernel_rfl) (by kernel_rfl) rfl (.run rfl (P_nilCheck rfl)) ?_
    refine Canon.pure _ _ 7 _ _ rfl (by kernel_rfl) (by kernel_rfl) rfl (.run rfl (P_fieldAddr_val tok rfl rfl rfl rfl rfl rfl)) ?_
    refine Canon.pure _ _ 8 _ _ rfl (by kernel_rfl) (by kernel_rfl) rfl (.run rfl (OpP.mem (fun k => P_load_box (k := k) (c := .int .i64 _) tok rfl rfl rfl rfl) (fun _ h => h))) ?_
    refine Canon.eff _ _ 9 _ _ rfl (by kernel_rfl) rfl rfl (E_store (k := 1) (v := .agg _) (cs' := [.int .i64 _, .str _, .str _, .int .i64 _, _, .int .i64 _]) (H2 := _ :: _ :: _) tok rfl rfl rfl rfl rfl rfl rfl rfl rfl) (by rintro _ _ ⟨rfl, rfl⟩; simp) ?_
    rintro _ _ ⟨rfl, rfl⟩
    refine Canon.pure _ _ 10 _ _ rfl (by kernel_rfl) (by kernel_rfl) rfl (.run rfl (P_assign (v := .int .i64 _) rfl)) ?_
    refine Canon.pure _ _ 11 _ _ rfl (by kernel_rfl) (by kernel_rfl) rfl (.run rfl (P_assign (v := .int .i64 _) rfl)) ?_
    refine Canon.done _ _ (by kernel_rfl) ?_
    refine thenN ?_
    refine AW.ret ?_
    refine thenR ?_
    refine ⟨.inr rfl, [.agg [.int .i64 _, .str _, .str _, .int .i64 _, _, .int .i64 _], .int .i64 _, .int .i64 _], .cons (.box _ _ _ 1 _ _ _ _ rfl rfl rfl rfl rfl rfl) <| .cons (.tmp _ _ rfl) <| .cons (.tmp _ _ rfl) <| .nil, .cons _ (.cons _ (.refl _)), ?_⟩
    have h9 : parseP F s = doneP (F (beginS (scanS s).1 s.length)) := by unfold parseP; rw [if_neg (by rw [hc1]; decide)]
    rw [h9]
    simp only [doneP, resOf, hc1, hc2, hc4, ↓reduceIte, Bool.false_eq_true]
    try rfl
   ·
    try simp only [Bool.not_eq_true', Bool.not_eq_false'] at hc4
    refine AW.skip ?_
    refine thenN ?_
    refine AW.seq (AW.region ?_)
    refine AOL.p (P_load_ptr_agg (l := [.int .i64 _, .str _, .str _, .int .i64 _, _, .int .i64 _]) tok rfl rfl rfl rfl rfl) rfl ?_
    refine AOL.e (E_store (k := 1) (v := .agg _) (cs' := [.int .i64 _, .str _, .str _, .int .i64 _, _, .int .i64 _]) (H2 := _ :: _ :: _) tok rfl rfl rfl rfl rfl rfl rfl rfl rfl) rfl ?_
    rintro _ _ ⟨rfl, rfl⟩
    refine AOL.p (P_assign (v := .int .i64 _) rfl) rfl ?_
    refine AOL.p (P_assign (v := .int .i64 _) rfl) rfl ?_
    refine AOL.nil (thenN ?_)
    refine AW.ret ?_
    refine ⟨.inr rfl, [.agg [.int .i64 _, .str _, .str _, .int .i64 _, _, .int .i64 _], .int .i64 _, .int .i64 _], .cons (.box _ _ _ 1 _ _ _ _ rfl rfl rfl rfl rfl rfl) <| .cons (.tmp _ _ rfl) <| .cons (.tmp _ _ rfl) <| .nil, .cons _ (.cons _ (.refl _)), ?_⟩
    have h9 : parseP F s = doneP (F (beginS (scanS s).1 s.length)) := by unfold parseP; rw [if_neg (by rw [hc1]; decide)]
    rw [h9]
    simp only [doneP, resOf, hc1, hc2, hc4, ↓reduceIte, Bool.false_eq_true]
    try rfl
set_option maxRecDepth 20000 in
set_option maxHeartbeats 400000 in
theorem pp_Parse (s : Str) (hl : s.length ≤ 100000) : APure Tryz.prog 17 [.str s] (.tuple [.agg (cSyn (parseP (progP EE TT) s).1), .int .i64 (parseP (progP EE TT) s).2.1, .int .i64 (parseP (progP EE TT) s).2.2]) := by
 refine APure.body (n := 10) tok Tryz.func17 rfl rfl rfl fun H => ?_
 refine AW.seq (AW.region ?_)
 refine AOL.e (E_alloc (l := [.int .i64 0, .str [], .str [], .int .i64 0, .sl 6 [], .int .i64 0]) (by kernel_rfl)) rfl ?_
 rintro _ _ ⟨b2, rfl, rfl⟩
 refine AOL.p (P_assign (v := .int .i64 _) rfl) rfl ?_
 refine AOL.p (P_assign (v := .int .i64 _) rfl) rfl ?_
 refine AOL.nil (thenN ?_)
 refine AW.seq (AW.region ?_)
 refine AOL.p (P_move (v := .str _) rfl) rfl ?_
 refine AOL.p (P_callf (by kernel_rfl) rfl rfl (pp_parse s hl 38 (by kernel_rfl) (progP EE TT) (fine_prog fine_EE fine_TT) (fun st bp h => p_program st bp EE fine_EE p_EE TT fine_TT p_TT h))) rfl ?_
 refine AOL.p (P_extract (v := .agg [.int .i64 _, .str _, .str _, .int .i64 _, _, .int .i64 _]) rfl rfl) rfl ?_
 refine AOL.p (P_extract (v := .int .i64 _) rfl rfl) rfl ?_
 refine AOL.p (P_extract (v := .int .i64 _) rfl rfl) rfl ?_
 refine AOL.e (E_store (k := 0) (v := .agg _) (cs' := [.int .i64 _, .str _, .str _, .int .i64 _, _, .int .i64 _]) (H2 := _ :: _) tok rfl rfl rfl rfl rfl rfl rfl rfl rfl) rfl ?_
 rintro _ _ ⟨rfl, rfl⟩
 refine AOL.p (P_assign (v := .int .i64 _) rfl) rfl ?_
 refine AOL.p (P_assign (v := .int .i64 _) rfl) rfl ?_
 refine AOL.nil (thenN ?_)
 refine AW.ret ?_
 refine ⟨.inr rfl, [.agg [.int .i64 _, .str _, .str _, .int .i64 _, _, .int .i64 _], .int .i64 _, .int .i64 _], .cons (.box _ _ _ 0 _ _ _ _ rfl rfl rfl rfl rfl rfl) <| .cons (.tmp _ _ rfl) <| .cons (.tmp _ _ rfl) <| .nil, .cons _ (.refl _), ?_⟩
 rfl
set_option maxRecDepth 20000 in
set_option maxHeartbeats 400000 in
theorem pp_Expr (s : Str) (hl : s.length ≤ 100000) : APure Tryz.prog 20 [.str s] (.tuple [.agg (cSyn (parseP EE s).1), .int .i64 (parseP EE s).2.1, .int .i64 (parseP EE s).2.2]) := by
 refine APure.body (n := 10) tok Tryz.func20 rfl rfl rfl fun H => ?_
 refine AW.seq (AW.region ?_)
 refine AOL.e (E_alloc (l := [.int .i64 0, .str [], .str [], .int .i64 0, .sl 6 [], .int .i64 0]) (by kernel_rfl)) rfl ?_
 rintro _ _ ⟨b2, rfl, rfl⟩
 refine AOL.p (P_assign (v := .int .i64 _) rfl) rfl ?_
 refine AOL.p (P_assign (v := .int .i64 _) rfl) rfl ?_
 refine AOL.nil (thenN ?_)
 refine AW.seq (AW.region ?_)
 refine AOL.p (P_move (v := .str _) rfl) rfl ?_
 refine AOL.p (P_callf (by kernel_rfl) rfl rfl (pp_parse s hl 40 (by kernel_rfl) EE fine_EE (fun st bp h => p_EE st bp h))) rfl ?_
 refine AOL.p (P_extract (v := .agg [.int .i64 _, .str _, .str _, .int .i64 _, _, .int .i64 _]) rfl rfl) rfl ?_
 refine AOL.p (P_extract (v := .int .i64 _) rfl rfl) rfl ?_
 refine AOL.p (P_extract (v := .int .i64 _) rfl rfl) rfl ?_
 refine AOL.e (E_store (k := 0) (v := .agg _) (cs' := [.int .i64 _, .str _, .str _, .int .i64 _, _, .int .i64 _]) (H2 := _ :: _) tok rfl rfl rfl rfl rfl rfl rfl rfl rfl) rfl ?_
 rintro _ _ ⟨rfl, rfl⟩
 refine AOL.p (P_assign (v := .int .i64 _) rfl) rfl ?_
 refine AOL.p (P_assign (v := .int .i64 _) rfl) rfl ?_
 refine AOL.nil (thenN ?_)
 refine AW.ret ?_
 refine ⟨.inr rfl, [.agg [.int .i64 _, .str _, .str _, .int .i64 _, _, .int .i64 _], .int .i64 _, .int .i64 _], .cons (.box _ _ _ 0 _ _ _ _ rfl rfl rfl rfl rfl rfl) <| .cons (.tmp _ _ rfl) <| .cons (.tmp _ _ rfl) <| .nil, .cons _ (.refl _), ?_⟩
 rfl

end Go.Proofs.YtabkeeedkhgodaaGreatDoor
