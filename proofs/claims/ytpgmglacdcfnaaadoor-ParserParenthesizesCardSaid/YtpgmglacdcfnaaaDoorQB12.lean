/-
  What the readers keep whatever the depth is: an error's number, the tokens, the text's length, the range of offsets. No program in sight. No condition. (Printed by mkb.py out of F12.lean.)
-/
import Derived.Test.YtpgmglacdcfnaaaDoorQS12
namespace Go.Proofs.YtpgmglacdcfnaaaDoor
open Go Go.Aw
set_option linter.unusedVariables false
set_option linter.unusedSimpArgs false

/-- Offsets lie in the text. -/
def Wn (a : PS) : Prop := (∀ t ∈ a.toks, 0 ≤ t.pos ∧ t.pos ≤ a.fin) ∧ 0 ≤ a.fin ∧ 0 ≤ a.whr ∧ a.whr ≤ a.fin
theorem Wn.off {a : PS} (h : Wn a) : 0 ≤ offS a ∧ offS a ≤ a.fin := by
  unfold offS
  split
  · rename_i h1
    have h1 := of_decide_eq_true h1
    have h2 : a.pos < a.toks.length := by omega
    have e : tkS a = a.toks[a.pos] := by unfold tkS; simp [List.getD_eq_getElem?_getD, List.getElem?_eq_getElem h2]
    rw [e]
    exact h.1 _ (List.getElem_mem h2)
  · exact ⟨h.2.1, Int.le_refl _⟩
structure Bo (a b : PS) : Prop where
  bad : a.bad ≠ 0 → b.bad = a.bad
  fin : b.fin = a.fin
  toks : b.toks = a.toks
  pos : a.pos ≤ b.pos
  wn : Wn a → Wn b
  dep : Rng a → b.depth = a.depth
def Bof (F : PS → Syn × PS) : Prop := ∀ st, Bo st (F st).2
theorem Bo.refl (a : PS) : Bo a a := ⟨fun _ => rfl, rfl, rfl, Nat.le_refl _, id, fun _ => rfl⟩
theorem Bo.trans {a b c : PS} (h : Bo a b) (k : Bo b c) : Bo a c := ⟨fun e => by
  have h1 := h.bad e
  rw [k.bad (by rw [h1]; exact e), h1], k.fin.trans h.fin, k.toks.trans h.toks, Nat.le_trans h.pos k.pos, fun w => k.wn (h.wn w), fun r => by
  have e := h.dep r
  exact (k.dep (by unfold Rng; rw [e]; exact r)).trans e⟩
theorem Bo.adv (a : PS) : Bo a (adv a) := ⟨fun _ => rfl, rfl, rfl, Nat.le_succ _, id, fun _ => rfl⟩
theorem Bo.fail (e : Int) (a : PS) : Bo a (failP e a) := by
  refine ⟨fun h => by rw [fail_stay h], ?_, toks_failP _ _, Nat.le_of_eq (pos_failP _ _).symm, fun w => ?_, fun _ => dep_failP _ _⟩
  · unfold failP; split <;> rfl
  · unfold failP
    split
    · exact ⟨w.1, w.2.1, w.off.1, w.off.2⟩
    · exact w
theorem Bo.acc (w : Str) (a : PS) : Bo a (accP w a) := by unfold accP; split; exact .adv _; exact .refl _
theorem Bo.exp (w : Str) (a : PS) : Bo a (expP w a) := by unfold expP; split; exact .fail _ _; exact .acc _ _
theorem Bo.tok (k : Int) (a : PS) : Bo a (tokP k a) := by unfold tokP; split; exact .adv _; exact .fail _ _
def RnB (_ : PS) : Prop := True
theorem Bo.rng {a b : PS} (h : Bo a b) (r : RnB a) : RnB b := trivial
theorem Bof.goes {F : PS → Syn × PS} (h : Bof F) {a : PS} (r : RnB a) : Bo a (F a).2 := h a
/-- A reader behind a step. -/
theorem Bo.read {F : PS → Syn × PS} (h : Bof F) {a b : PS} (r : RnB a) (k : Bo a b) : Bo a (F b).2 := k.trans (h b)
theorem Bof.of {F : PS → Syn × PS} (h : ∀ st, RnB st → Bo st (F st).2) : Bof F := fun st => h st trivial
theorem deep_dep {a : PS} (r : Rng a) (h : ¬ 64 ≤ a.depth) : (deep a).depth = a.depth + 1 := wrap_id (by have := r.1; omega) (by omega)
theorem Bo.shallow {a b : PS} (hd : ¬ 64 ≤ a.depth) (h : Bo (deep a) b) : Bo a (shallow b) := ⟨h.bad, h.fin, h.toks, h.pos, h.wn, fun r => by
  have e := deep_dep r hd
  have := r.1
  have e2 := h.dep (by unfold Rng; rw [e]; omega)
  show IntKind.i64.wrap (b.depth - 1) = a.depth
  rw [e2, e, show a.depth + 1 - 1 = a.depth by omega]; exact wrap_id (by omega) (by omega)⟩
theorem bof_field : Bof fieldP := .of fun st r => by
  have h : Bo st (expP w_colon (tokP 0 st)) := (Bo.tok _ _).trans (.exp _ _)
  unfold fieldP
  split
  · exact h.trans (.adv _)
  · split
    · exact h.trans (.adv _)
    · split
      · exact h.trans (.adv _)
      · exact h.trans (.fail _ _)
theorem bo_listGo {F : PS → Syn × PS} (hF : Bof F) : ∀ (n : Nat) (st : PS) (out : List Syn), RnB st → Bo st (listGo F n st out).2
  | 0, st, out, r => .refl _
  | n + 1, st, out, r => by
    unfold listGo
    split
    · have h := Bo.read hF r (.adv st)
      exact h.trans (bo_listGo hF n _ _ (h.rng r))
    · exact .refl _
theorem bo_list {F : PS → Syn × PS} (hF : Bof F) {st : PS} (r : RnB st) : Bo st (listP F st).2 := by
  have h := hF.goes r
  exact h.trans (bo_listGo hF _ _ _ (h.rng r))
theorem bof_kind : Bof kindP := .of fun st r => by
  have h : Bo st (expP w_lbrace (tokP 0 (expP w_ttype st))) := ((Bo.exp _ _).trans (.tok _ _)).trans (.exp _ _)
  unfold kindP
  simp only
  split
  · exact (h.trans (bo_list bof_field (h.rng r))).trans (.exp _ _)
  · exact h.trans (.exp _ _)
theorem bo_const (st : PS) : Bo st (constP st).2 := by
  unfold constP
  split
  · exact (Bo.adv _).trans (.tok _ _)
  · split
    · exact .tok _ _
    · split
      · exact .adv _
      · split
        · exact .adv _
        · exact .tok _ _
theorem bof_const : Bof constP := .of fun st _ => bo_const st
theorem bo_ins (st : PS) : Bo st (insP st).2 := ((((Bo.exp _ _).trans (.tok _ _)).trans (.exp _ _)).trans (.tok _ _))
theorem bo_nest {read : Syn → PS → Syn × PS} {z : Syn} {st : PS} (r : RnB st) (h : ∀ s : PS, RnB s → Bo s (read z s).2) : Bo st (nestP read z st).2 := by
  rw [nestP_eq']
  split
  · unfold nestF; split
    · exact .fail _ _
    · exact .refl _
  · rename_i hb
    have k := h (adv (deep st)) trivial
    refine Bo.shallow (fun hd => hb ?_) (Bo.trans (Bo.adv (deep st)) k)
    unfold nestF
    rw [if_pos (decide_eq_true hd)]
    exact fail_bad (by decide) _
theorem bof_unit {E : PS → Syn × PS} (hE : Bof E) : Bof (unitP E) := .of fun st r => by
  unfold unitP
  split
  · exact bo_nest r fun s r => (hE.goes r).trans (.exp _ _)
  · split
    · simp only
      have h := ((Bo.adv st).trans (bo_ins _)).trans (.exp w_comma _)
      exact (h.trans (bof_const.goes (h.rng r))).trans (.exp _ _)
    · split
      · exact ((Bo.adv st).trans (bo_ins _)).trans (.exp _ _)
      · split
        · exact (((Bo.adv st).trans (.exp _ _)).trans (.tok _ _)).trans (.exp _ _)
        · split
          · simp only
            split
            · exact ((Bo.tok _ _).trans (.exp _ _)).trans (.adv _)
            · exact ((Bo.tok _ _).trans (.exp _ _)).trans (.tok _ _)
          · exact bof_const.goes r
theorem bo_chainGo {F : PS → Syn × PS} (hF : Bof F) {sg : List (Str × Int)} : ∀ (n : Nat) (st : PS) (out : Syn), RnB st → Bo st (chainGo F sg n st out).2
  | 0, st, out, r => .refl _
  | n + 1, st, out, r => by
    unfold chainGo
    split
    · have h := Bo.read hF r (.adv st)
      exact h.trans (bo_chainGo hF n _ _ (h.rng r))
    · exact .refl _
theorem bof_chain {F : PS → Syn × PS} (hF : Bof F) (sg : List (Str × Int)) : Bof (chainP F sg) := .of fun st r => by
  have h := hF.goes r
  exact h.trans (bo_chainGo hF _ _ _ (h.rng r))
theorem bof_sum {E : PS → Syn × PS} (hE : Bof E) : Bof (sumP E) := bof_chain (bof_unit hE) sumL
theorem bof_cmp {E : PS → Syn × PS} (hE : Bof E) : Bof (cmpP E) := .of fun st r => by
  have h := (bof_sum hE).goes r
  have h2 := (h.trans (.adv _)).trans ((bof_sum hE).goes ((h.trans (.adv _)).rng r))
  unfold cmpP
  simp only
  repeat' split
  all_goals first | exact h2 | exact h
theorem bof_not {E N : PS → Syn × PS} (hE : Bof E) (hN : Bof N) : Bof (notP E N) := .of fun st r => by
  unfold notP
  split
  · exact (bof_cmp hE).goes r
  · exact bo_nest r fun s r => hN.goes r
theorem bof_or {E N : PS → Syn × PS} (hE : Bof E) (hN : Bof N) : Bof (orP E N) := bof_chain (bof_chain (bof_not hE hN) andL) orL
theorem bof_dull : Bof dullP := .of fun st _ => .refl _
theorem bof_neg : ∀ n, Bof (negN n).1 ∧ Bof (negN n).2
  | 0 => ⟨bof_not bof_dull bof_dull, bof_or bof_dull bof_dull⟩
  | n + 1 => ⟨bof_not (bof_neg n).2 (bof_neg n).1, bof_or (bof_neg n).2 (bof_neg n).1⟩
theorem bof_event {E : PS → Syn × PS} (hE : Bof E) : Bof (eventP E) := .of fun st r => by
  have h : Bo st (tokP 0 (tokP 0 st)) := (Bo.tok _ _).trans (.tok _ _)
  unfold eventP
  simp only
  split
  · exact Bo.read hE r (h.trans (.adv _))
  · exact h
theorem bo_sev {T : PS → Syn × PS} (hT : Bof T) (z : Syn) {st : PS} (r : RnB st) : Bo st (sevP T z st).2 := by
  have h := Bo.read hT r (.exp w_comma st)
  exact h.trans (bo_listGo hT _ _ _ (h.rng r))
theorem bo_rest {E T : PS → Syn × PS} (hE : Bof E) (hT : Bof T) (k : Int) (z : Syn) {st : PS} (r : RnB st) : Bo st (restP E T k z st).2 := by
  unfold restP
  split
  · exact bo_sev hT z r
  · split
    · exact .refl _
    · split
      · exact Bo.read (bof_event hE) r (.exp _ _)
      · split
        · exact (Bo.exp _ _).trans (.tok _ _)
        · exact Bo.read hE r (.exp _ _)
theorem bof_pat {E T : PS → Syn × PS} (hE : Bof E) (hT : Bof T) : Bof (patP E T) := .of fun st r => by
  unfold patP
  split
  · refine bo_nest r fun s r => ?_
    have h := Bo.read hT r (.exp w_lpar s)
    exact (h.trans (bo_rest hE hT _ _ (h.rng r))).trans (.exp _ _)
  · exact (bof_event hE).goes r
theorem bof_patN {E : PS → Syn × PS} (hE : Bof E) : ∀ n, Bof (patN E n)
  | 0 => bof_pat hE bof_dull
  | n + 1 => bof_pat hE (bof_patN hE n)
theorem bo_key (st : PS) (k : Int) : Bo st (keyP st k).2 := by
  unfold keyP
  split
  · exact (Bo.adv _).trans (.tok _ _)
  · exact .refl _
theorem bof_query {E T : PS → Syn × PS} (hE : Bof E) (hT : Bof T) : Bof (queryP E T) := .of fun st r => by
  have h1 : Bo st (expP w_tmatch (keyP (tokP 0 (expP w_tquery st)) (offS st)).2) := (((Bo.exp _ _).trans (.tok _ _)).trans (bo_key _ _)).trans (.exp _ _)
  have h2 := (Bo.read hT r h1).trans (.exp w_treturn _)
  exact (h2.trans (bo_list hE (h2.rng r))).trans (.exp _ _)
theorem bo_progGo {w : Str} {F : PS → Syn × PS} (hF : Bof F) : ∀ (n : Nat) (st : PS) (out : List Syn), Bo st (progGo w F n st out).2
  | 0, st, out => .refl _
  | n + 1, st, out => by
    unfold progGo
    split
    · exact (hF st).trans (bo_progGo hF n _ _)
    · exact .refl _
theorem bof_prog {E T : PS → Syn × PS} (hE : Bof E) (hT : Bof T) : Bof (progP E T) := fun st =>
  (bo_progGo bof_kind _ _ _).trans (bo_progGo (bof_query hE hT) _ _ _)
theorem bof_EE : Bof EE := (bof_neg 64).2
theorem bof_TT : Bof TT := bof_patN bof_EE 64
end Go.Proofs.YtpgmglacdcfnaaaDoor
