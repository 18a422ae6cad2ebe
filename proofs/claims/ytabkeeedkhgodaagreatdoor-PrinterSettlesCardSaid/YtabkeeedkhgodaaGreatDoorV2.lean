/-
  Walks of the parser: one level deeper, lists. No condition.
-/
import Derived.Test.YtabkeeedkhgodaaGreatDoorV1
import Derived.KernelRfl
namespace Go.Proofs.YtabkeeedkhgodaaGreatDoor
open Go Go.Aw
set_option linter.unusedVariables false
set_option linter.unusedSimpArgs false

theorem acc_yes {w : Str} {st : PS} (h : isP w st = true) : accP w st = adv st := by unfold accP; rw [h]; rfl
/-- A state on which a reader may be called. -/
def okD (D : Int) (st : PS) : Prop := okS st ∧ D ≤ st.depth ∧ st.depth ≤ 64
/-- What a reader leaves. -/
def Fine (F : PS → Syn × PS) : Prop := ∀ st, 0 ≤ st.depth → st.depth ≤ 64 → (F st).2.toks = st.toks ∧ st.pos ≤ (F st).2.pos ∧ (F st).2.depth = st.depth
theorem dep_failP (e : Int) (st : PS) : (failP e st).depth = st.depth := by unfold failP; split <;> rfl
theorem dep_accP (w : Str) (st : PS) : (accP w st).depth = st.depth := by unfold accP; split <;> rfl
theorem dep_expP (w : Str) (st : PS) : (expP w st).depth = st.depth := by unfold expP; split; exact dep_failP _ _; exact dep_accP _ _
theorem dep_tokP (k : Int) (st : PS) : (tokP k st).depth = st.depth := by unfold tokP; split; rfl; exact dep_failP _ _
theorem okD_of {D : Int} {a b : PS} (h : a.toks = b.toks) (h2 : a.depth = b.depth) : okD D a ↔ okD D b := by unfold okD okS; rw [h, h2]
@[simp] theorem okD_adv (D : Int) (st : PS) : okD D (adv st) ↔ okD D st := okD_of rfl rfl
@[simp] theorem okD_failP (D : Int) (e : Int) (st : PS) : okD D (failP e st) ↔ okD D st := okD_of (toks_failP _ _) (dep_failP _ _)
@[simp] theorem okD_accP (D : Int) (w : Str) (st : PS) : okD D (accP w st) ↔ okD D st := okD_of (toks_accP _ _) (dep_accP _ _)
@[simp] theorem okD_expP (D : Int) (w : Str) (st : PS) : okD D (expP w st) ↔ okD D st := okD_of (toks_expP _ _) (dep_expP _ _)
@[simp] theorem okD_tokP (D : Int) (k : Int) (st : PS) : okD D (tokP k st) ↔ okD D st := okD_of (toks_tokP _ _) (dep_tokP _ _)
theorem Fine.okD {F : PS → Syn × PS} (h : Fine F) {D : Int} (hD : 0 ≤ D) {st : PS} (ho : okD D st) : okD D (F st).2 := by
  obtain ⟨h1, h2, h3⟩ := ho
  obtain ⟨k1, k2, k3⟩ := h st (by omega) h3
  exact ⟨(okS_of k1).2 h1, by omega, by omega⟩
theorem pos_failP (e : Int) (st : PS) : (failP e st).pos = st.pos := by unfold failP; split <;> rfl
theorem pos_accP (w : Str) (st : PS) : st.pos ≤ (accP w st).pos := by
  unfold accP
  split
  · exact Nat.le_succ _
  · exact Nat.le_refl _
theorem pos_expP (w : Str) (st : PS) : st.pos ≤ (expP w st).pos := by unfold expP; split; exact Nat.le_of_eq (pos_failP _ _).symm; exact pos_accP _ _
theorem pos_tokP (k : Int) (st : PS) : st.pos ≤ (tokP k st).pos := by unfold tokP; split; exact Nat.le_succ _; exact Nat.le_of_eq (pos_failP _ _).symm
theorem fail_bad {e : Int} (he : e ≠ 0) (st : PS) : ((failP e st).bad != 0) = true := by
  unfold failP
  split
  · simpa using he
  · rename_i h; simpa using h

/-- One level deeper: what is there before the reading. -/
def nestF (st : PS) : PS := if decide (64 ≤ st.depth) then failP 12 st else st
theorem listGo_pos {F : PS → Syn × PS} {n : Nat} {st : PS} {out : List Syn} (h : 0 < n) : listGo F n st out = if isP w_comma st then listGo F (n - 1) (F (adv st)).2 (out ++ [(F (adv st)).1]) else (out, st) := by
  obtain ⟨m, rfl⟩ : ∃ m, n = m + 1 := ⟨n - 1, by omega⟩
  rfl
theorem sc_syn (l : List Syn) : ∀ x ∈ l.map encS, scalars x = true := sc_map fun a => by rw [encS_eq]; rfl
theorem syn_next {es : List (List AV)} {out : List Syn} {t : Syn} (h : es = out.map encS) : es ++ [cSyn t] = (out ++ [t]).map encS := by rw [h, List.map_append, List.map_singleton, encS_eq]

set_option maxRecDepth 20000 in
set_option maxHeartbeats 400000 in
theorem p_nested (st st2 st3 : PS) (bp : Nat) (R R3 : List HO) (f : Nat) (hf : fnB Tryz.prog f = true) (first cap : List AV) (hlt : st.pos < st.toks.length) (hS : okS st) (hcl : (nestF st).bad = 0 → ACall Tryz.prog f (.box bp 70 (cP (adv (deep st))) :: R) (first ++ [] ++ cap) (fun _ H' => H' = .box bp 70 (cP st2) :: R3 ∧ st3 = shallow st2)) (hno : (nestF st).bad ≠ 0 → st3 = nestF st ∧ R3 = R) : ACall Tryz.prog 139 (.box bp 70 (cP st) :: R) [.val (.pointer (some ⟨bp, 0, none⟩)), .fn (.func f) first cap] (fun r H' => r = .tuple [] ∧ H' = .box bp 70 (cP st3) :: R3) := by
 refine ACall.body (n := 39) tok Tryz.func139 rfl rfl rfl ?_
 refine AW.seq ?_
 refine AW.seq (AW.region ?_)
 refine AOL.p (P_move (v := .val _) rfl) rfl ?_
 refine AOL.p (P_nilCheck rfl) rfl ?_
 refine AOL.p (P_fieldAddr_val tok rfl rfl rfl rfl rfl rfl) rfl ?_
 refine AOL.pk (P_load_box (k := 0) (c := .int .i64 _) tok rfl rfl rfl rfl) rfl rfl ?_
 refine AOL.p (P_geq rfl rfl) rfl ?_
 refine AOL.nil (thenN ?_)
 refine AW.cond (b := _) rfl (fun hc1 => ?_) (fun hc1 => ?_)
 ·
  try simp only [Bool.not_eq_true', Bool.not_eq_false'] at hc1
  refine AW.region ?_
  refine AOL.p (P_move (v := .val _) rfl) rfl ?_
  refine AOL.e (E_callf (by kernel_rfl) rfl rfl ((p_fail _ _ _).at (k := 0) (H2 := _ :: _) rfl rfl)) rfl ?_
  rintro _ _ ⟨rfl, rfl⟩
  refine AOL.nil (thenN ?_)
  refine AW.seq ?_
  refine AW.seq (AW.region ?_)
  refine AOL.p (P_move (v := .val _) rfl) rfl ?_
  refine AOL.p (P_nilCheck rfl) rfl ?_
  refine AOL.p (P_fieldAddr_val tok rfl rfl rfl rfl rfl rfl) rfl ?_
  refine AOL.pk (P_load_box (k := 0) (c := .int .i64 _) tok rfl rfl rfl rfl) rfl rfl ?_
  refine AOL.p (P_neq rfl rfl) rfl ?_
  refine AOL.nil (thenN ?_)
  refine AW.cond (b := _) rfl (fun hc2 => ?_) (fun hc2 => ?_)
  ·
   try simp only [Bool.not_eq_true', Bool.not_eq_false'] at hc2
   have hml := hS.1
   refine AW.ret ?_
   refine thenR ?_
   refine ⟨.inr rfl, [], .nil, _, .refl _, ?_⟩
   obtain ⟨e1, e2⟩ := hno (by unfold nestF; rw [hc1]; simpa using hc2)
   subst e1; subst e2
   exact ⟨rfl, congrArg (fun s => HO.box bp 70 (cP s) :: R3) (by unfold nestF; rw [hc1]; rfl)⟩
  ·
   try simp only [Bool.not_eq_true', Bool.not_eq_false'] at hc2
   exact absurd ((fail_bad (e := 12) (by decide) st).symm.trans hc2) (by decide)
 ·
  try simp only [Bool.not_eq_true', Bool.not_eq_false'] at hc1
  refine AW.skip ?_
  refine thenN ?_
  refine AW.seq ?_
  refine AW.seq (AW.region ?_)
  refine AOL.p (P_move (v := .val _) rfl) rfl ?_
  refine AOL.p (P_nilCheck rfl) rfl ?_
  refine AOL.p (P_fieldAddr_val tok rfl rfl rfl rfl rfl rfl) rfl ?_
  refine AOL.pk (P_load_box (k := 0) (c := .int .i64 _) tok rfl rfl rfl rfl) rfl rfl ?_
  refine AOL.p (P_neq rfl rfl) rfl ?_
  refine AOL.nil (thenN ?_)
  refine AW.cond (b := _) rfl (fun hc3 => ?_) (fun hc3 => ?_)
  ·
   try simp only [Bool.not_eq_true', Bool.not_eq_false'] at hc3
   refine AW.ret ?_
   refine thenR ?_
   refine ⟨.inr rfl, [], .nil, _, .refl _, ?_⟩
   obtain ⟨e1, e2⟩ := hno (by unfold nestF; rw [hc1]; simpa using hc3)
   subst e1; subst e2
   exact ⟨rfl, congrArg (fun s => HO.box bp 70 (cP s) :: R3) (by unfold nestF; rw [hc1]; rfl)⟩
  ·
   try simp only [Bool.not_eq_true', Bool.not_eq_false'] at hc3
   have hml := hS.1
   have h9 : (nestF st).bad = 0 := by unfold nestF; rw [hc1]; simpa using hc3
   refine AW.skip ?_
   refine thenN ?_
   refine AW.seq (AW.region ?_)
   refine AOL.p (P_move (v := .val _) rfl) rfl ?_
   refine AOL.p (P_nilCheck rfl) rfl ?_
   refine AOL.p (P_fieldAddr_val tok rfl rfl rfl rfl rfl rfl) rfl ?_
   refine AOL.pk (P_load_box (k := 0) (c := .int .i64 _) tok rfl rfl rfl rfl) rfl rfl ?_
   refine AOL.p (P_addw rfl rfl) rfl ?_
   refine AOL.p (P_nilCheck rfl) rfl ?_
   refine AOL.p (P_fieldAddr_val tok rfl rfl rfl rfl rfl rfl) rfl ?_
   refine AOL.e (E_store (k := 0) (v := .int .i64 _) (cs' := [_, .int .i64 _, .int .i64 _, .int .i64 _, .int .i64 _, .int .i64 _]) (H2 := _ :: _) tok rfl rfl rfl rfl rfl rfl rfl rfl rfl) rfl ?_
   rintro _ _ ⟨rfl, rfl⟩
   refine AOL.nil (thenN ?_)
   refine AW.seq (AW.region ?_)
   refine AOL.p (P_move (v := .val _) rfl) rfl ?_
   refine AOL.p (P_nilCheck rfl) rfl ?_
   refine AOL.p (P_fieldAddr_val tok rfl rfl rfl rfl rfl rfl) rfl ?_
   refine AOL.pk (P_load_box (k := 0) (c := .int .i64 _) tok rfl rfl rfl rfl) rfl rfl ?_
   refine AOL.p (P_add rfl rfl rfl (by constructor <;> omega)) rfl ?_
   refine AOL.p (P_nilCheck rfl) rfl ?_
   refine AOL.p (P_fieldAddr_val tok rfl rfl rfl rfl rfl rfl) rfl ?_
   refine AOL.e (E_store (k := 0) (v := .int .i64 _) (cs' := [_, .int .i64 _, .int .i64 _, .int .i64 _, .int .i64 _, .int .i64 _]) (H2 := _ :: _) tok rfl rfl rfl rfl rfl rfl rfl rfl rfl) rfl ?_
   rintro _ _ ⟨rfl, rfl⟩
   refine AOL.nil (thenN ?_)
   refine AW.seq (AW.region ?_)
   refine AOL.p (P_move (v := .fn _ _ _) rfl) rfl ?_
   refine AOL.e (E_call hf rfl rfl rfl (hcl h9)) rfl ?_
   rintro _ _ ⟨rfl, h3⟩
   refine AOL.nil (thenN ?_)
   refine AW.region ?_
   refine AOL.p (P_move (v := .val _) rfl) rfl ?_
   refine AOL.p (P_nilCheck rfl) rfl ?_
   refine AOL.p (P_fieldAddr_val tok rfl rfl rfl rfl rfl rfl) rfl ?_
   refine AOL.pk (P_load_box (k := 0) (c := .int .i64 _) tok rfl rfl rfl rfl) rfl rfl ?_
   refine AOL.p (P_subw rfl rfl) rfl ?_
   refine AOL.p (P_nilCheck rfl) rfl ?_
   refine AOL.p (P_fieldAddr_val tok rfl rfl rfl rfl rfl rfl) rfl ?_
   refine AOL.e (E_store (k := 0) (v := .int .i64 _) (cs' := [_, .int .i64 _, .int .i64 _, .int .i64 _, .int .i64 _, .int .i64 _]) (H2 := _ :: _) tok rfl rfl rfl rfl rfl rfl rfl rfl rfl) rfl ?_
   rintro _ _ ⟨rfl, rfl⟩
   refine AOL.nil ?_
   refine ⟨.inl rfl, [], .nil, _, .refl _, ?_⟩
   subst h3
   exact ⟨rfl, rfl⟩
set_option maxRecDepth 20000 in
set_option maxHeartbeats 400000 in
theorem p_list (st : PS) (bp : Nat) (D : Int) (hD : 0 ≤ D) (f : Nat) (hf : fnB Tryz.prog f = true) (first cap : List AV) (F : PS → Syn × PS) (hF : Fine F) (hc : ∀ st, okD D st → PCallS Tryz.prog f bp 70 (cP st) (cP (F st).2) (first ++ [] ++ cap) (.agg (cSyn (F st).1))) (hO : okD D st) : PCallS Tryz.prog 105 bp 70 (cP st) (cP ((listP F st).2)) [.val (.pointer (some ⟨bp, 0, none⟩)), .fn (.func f) first cap] (.sl 6 ((listP F st).1.map encS)) := by
 intro H
 refine ACall.body (n := 17) tok Tryz.func105 rfl rfl rfl ?_
 refine AW.seq (AW.region ?_)
 refine AOL.p (P_assign_nil (z := 6) rfl) rfl ?_
 refine AOL.nil (thenN ?_)
 refine AW.seq (AW.region ?_)
 refine AOL.p (P_move (v := .fn _ _ _) rfl) rfl ?_
 refine AOL.e (E_call (hf) rfl rfl rfl ((hc st hO).at (k := 0) (H2 := _ :: _) rfl rfl)) rfl ?_
 rintro _ _ ⟨rfl, rfl⟩
 refine AOL.e (E_buildSlice (es := [[.int .i64 _, .str _, .str _, .int .i64 _, _, .int .i64 _]]) tok rfl rfl rfl rfl rfl rfl rfl rfl rfl) rfl ?_
 rintro _ _ ⟨v8, rfl, rfl⟩
 refine AOL.p (P_assign (v := .row _ _ _) rfl) rfl ?_
 refine AOL.nil (thenN ?_)
 refine AW.seq ?_
 refine AW.block ?_
 refine AW.loopS (fun (p : Nat × PS × List Syn × List (List AV) × Value) => (⟨[(0, .val (.pointer (some ⟨bp, 0, none⟩))), (1, .fn (.func f) first cap), (5, .row p.2.2.2.2 6 p.2.2.2.1)], .row p.2.2.2.2 p.2.2.2.1.length 24 6 :: .box bp 70 (cP p.2.1) :: H, 17⟩ : St)) (fun (p : Nat × PS × List Syn × List (List AV) × Value) => p.2.2.2.1 = p.2.2.1.map encS ∧ okD D p.2.1 ∧ fuel p.2.1 ≤ p.1 ∧ p.2.2.1.length ≤ p.2.1.pos + 1 ∧ listP F st = listGo F p.1 p.2.1 p.2.2.1) (fun (p : Nat × PS × List Syn × List (List AV) × Value) => p.1) ((fuel (F st).2, (F st).2, [(F st).1], [cSyn (F st).1], v8)) ?_ (GS.weaken ⟨rfl, rfl, rfl, trivial⟩ (.refl _)) ?_
 · exact ⟨by rw [List.map_singleton, encS_eq], hF.okD hD hO, Nat.le_refl _, by simp, rfl⟩
 ·
  rintro p hR
  have hes : p.2.2.2.1 = p.2.2.1.map encS := hR.1
  have hO2 : okD D p.2.1 := hR.2.1
  have hS := hO2.1
  have hfu : fuel p.2.1 ≤ p.1 := hR.2.2.1
  have hn : 0 < p.1 := by unfold fuel at hfu; omega
  have hol : p.2.2.1.length ≤ p.2.1.pos + 1 := hR.2.2.2.1
  have hsc : ∀ c ∈ p.2.2.2.1, scalars c = true := by rw [hes]; exact sc_syn _
  have hel : p.2.2.2.1.length = p.2.2.1.length := by rw [hes, List.length_map]
  refine AW.seq ?_
  refine AW.seq (AW.region ?_)
  refine AOL.p (P_move (v := .val _) rfl) rfl ?_
  refine AOL.e (E_callf (by kernel_rfl) rfl rfl ((p_accept _ _ _ (by simpa using hS) (by first | assumption | decide)).at (k := 1) (H2 := _ :: _ :: _) rfl rfl)) rfl ?_
  rintro _ _ ⟨rfl, rfl⟩
  refine AOL.nil (thenN ?_)
  refine AW.cond (b := _) rfl (fun hc1 => ?_) (fun hc1 => ?_)
  ·
   try simp only [Bool.not_eq_true', Bool.not_eq_false'] at hc1
   have hlt := is_lt hc1
   have hml := hS.1
   have hFa := hF (adv p.2.1) (by have := hO2.2.1; show (0 : Int) ≤ p.2.1.depth; omega) hO2.2.2
   have hps : p.2.1.pos + 1 ≤ (F (adv p.2.1)).2.pos := hFa.2.1
   have hts : (F (adv p.2.1)).2.toks = p.2.1.toks := hFa.1
   refine AW.ghost (GS.cellsTo (H2 := _ :: _ :: _) 1 rfl (congrArg cP (acc_yes hc1)) rfl) ?_
   refine AW.skip ?_
   refine thenN ?_
   refine AW.block ?_
   refine AW.region ?_
   refine AOL.p (P_move (v := .row _ _ _) rfl) rfl ?_
   refine AOL.p (P_move (v := .fn _ _ _) rfl) rfl ?_
   refine AOL.e (E_call (hf) rfl rfl rfl ((hc _ (by simpa using hO2)).at (k := 1) (H2 := _ :: _ :: _) rfl rfl)) rfl ?_
   rintro _ _ ⟨rfl, rfl⟩
   refine AOL.p (P_buildSlice (es := [[.int .i64 _, .str _, .str _, .int .i64 _, _, .int .i64 _]]) tok rfl rfl rfl rfl rfl rfl rfl rfl rfl) rfl ?_
   refine AOL.e (E_append (k := 0) tok rfl rfl rfl rfl rfl rfl rfl rfl (sc_one rfl) (hsc) (by simp; omega) (by simp [maxLen]; omega)) rfl ?_
   rintro _ _ ⟨v15, rfl, rfl⟩
   refine AOL.p (P_assign (v := .row _ _ _) rfl) rfl ?_
   refine AOL.nil ?_
   refine blkN ?_
   refine thenN ?_
   refine ⟨(p.1 - 1, (F (adv p.2.1)).2, p.2.2.1 ++ [(F (adv p.2.1)).1], p.2.2.2.1 ++ [cSyn (F (adv p.2.1)).1], v15), ?_, ?_, GS.weaken ⟨rfl, rfl, rfl, trivial⟩ (.refl _)⟩
   · exact ⟨syn_next hes, hF.okD hD (by simpa using hO2), by unfold fuel at hfu ⊢; rw [hts]; simp only; omega, by simp only [List.length_append, List.length_singleton]; omega, hR.2.2.2.2.trans (by rw [listGo_pos hn, if_pos hc1])⟩
   · simp only; omega
  ·
   try simp only [Bool.not_eq_true', Bool.not_eq_false'] at hc1
   refine AW.ghost (GS.cellsTo (H2 := _ :: _ :: _) 1 rfl (congrArg cP (acc_no hc1)) rfl) ?_
   refine AW.exit ?_
   refine thenE ?_
   refine thenE ?_
   refine blkHit ?_
   refine thenN ?_
   refine AW.seq (AW.region ?_)
   refine AOL.ghost (GS.unrow 5 rfl) ?_
   refine AOL.p (P_move (v := .sl _ _) rfl) rfl ?_
   refine AOL.p (P_assign (v := .sl _ _) rfl) rfl ?_
   refine AOL.nil (thenN ?_)
   refine AW.ret ?_
   refine ⟨.inr rfl, [.sl _ _], .cons (.tmp _ _ rfl) <| .nil, _, .cons _ (.refl _), ?_⟩
   have h9 : listP F st = (p.2.2.1, p.2.1) := hR.2.2.2.2.trans (by rw [listGo_pos hn, if_neg (Bool.eq_false_iff.mp hc1)])
   exact ⟨by rw [h9, ← hes]; rfl, congrArg (fun s => HO.box bp 70 (cP s) :: H) (by rw [h9])⟩

end Go.Proofs.YtabkeeedkhgodaaGreatDoor
