/-
  Several texts in one: S12, B12, P15. No condition.
-/
import Derived.Test.YtabkeeedkhgodaaGreatDoorF12
namespace Go.Proofs.YtabkeeedkhgodaaGreatDoor
open Go Go.Aw
set_option linter.unusedVariables false
set_option linter.unusedSimpArgs false

def Stk (a b : PS) : Prop := Goes a b ∧ (a.bad ≠ 0 → b.bad = a.bad ∧ b.whr = a.whr)
def Stuck (F : PS → Syn × PS) : Prop := ∀ st, 0 ≤ st.depth → st.depth ≤ 64 → Stk st (F st).2
theorem fail_stay {e : Int} {a : PS} (h : a.bad ≠ 0) : failP e a = a := by
  unfold failP
  have : (a.bad == 0) = false := by simpa using h
  rw [this]; rfl
theorem nestP_eq' (read : Syn → PS → Syn × PS) (z : Syn) (st : PS) : nestP read z st = if ((nestF st).bad != 0) then (z, nestF st) else ((read z (adv (deep st))).1, shallow (read z (adv (deep st))).2) := rfl
end Go.Proofs.YtabkeeedkhgodaaGreatDoor

namespace Go.Proofs.YtabkeeedkhgodaaGreatDoor
open Go Go.Aw
set_option linter.unusedVariables false
set_option linter.unusedSimpArgs false

/-- Offsets lie in the text. -/
def Wn (a : PS) : Prop := (∀ t ∈ a.toks, 0 ≤ t.pos ∧ t.pos ≤ a.fin) ∧ 0 ≤ a.fin ∧ 0 ≤ a.whr ∧ a.whr ≤ a.fin
theorem Wn.off {a : PS} (h : Wn a) : 0 ≤ offS a ∧ offS a ≤ a.fin := by
  unfold offS
  split
  · rename_i h1
    have h1 := of_decide_eq_true h1
    have h2 : a.pos < a.toks.length := by omega
    have e : tkS a = a.toks[a.pos] := by unfold tkS; simp [List.getD_eq_getElem?_getD, List.getElem?_eq_getElem h2]
    rw [e]
    exact h.1 _ (List.getElem_mem h2)
  · exact ⟨h.2.1, Int.le_refl _⟩
structure Bo (a b : PS) : Prop where
  bad : a.bad ≠ 0 → b.bad = a.bad
  fin : b.fin = a.fin
  toks : b.toks = a.toks
  pos : a.pos ≤ b.pos
  wn : Wn a → Wn b
  dep : Rng a → b.depth = a.depth
def Bof (F : PS → Syn × PS) : Prop := ∀ st, Bo st (F st).2
theorem Bo.refl (a : PS) : Bo a a := ⟨fun _ => rfl, rfl, rfl, Nat.le_refl _, id, fun _ => rfl⟩
theorem Bo.trans {a b c : PS} (h : Bo a b) (k : Bo b c) : Bo a c := ⟨fun e => by
  have h1 := h.bad e
  rw [k.bad (by rw [h1]; exact e), h1], k.fin.trans h.fin, k.toks.trans h.toks, Nat.le_trans h.pos k.pos, fun w => k.wn (h.wn w), fun r => by
  have e := h.dep r
  exact (k.dep (by unfold Rng; rw [e]; exact r)).trans e⟩
theorem Bo.adv (a : PS) : Bo a (adv a) := ⟨fun _ => rfl, rfl, rfl, Nat.le_succ _, id, fun _ => rfl⟩
theorem Bo.fail (e : Int) (a : PS) : Bo a (failP e a) := by
  refine ⟨fun h => by rw [fail_stay h], ?_, toks_failP _ _, Nat.le_of_eq (pos_failP _ _).symm, fun w => ?_, fun _ => dep_failP _ _⟩
  · unfold failP; split <;> rfl
  · unfold failP
    split
    · exact ⟨w.1, w.2.1, w.off.1, w.off.2⟩
    · exact w
theorem Bo.acc (w : Str) (a : PS) : Bo a (accP w a) := by unfold accP; split; exact .adv _; exact .refl _
theorem Bo.exp (w : Str) (a : PS) : Bo a (expP w a) := by unfold expP; split; exact .fail _ _; exact .acc _ _
theorem Bo.tok (k : Int) (a : PS) : Bo a (tokP k a) := by unfold tokP; split; exact .adv _; exact .fail _ _
def RnB (_ : PS) : Prop := True
theorem Bo.rng {a b : PS} (h : Bo a b) (r : RnB a) : RnB b := trivial
theorem Bof.goes {F : PS → Syn × PS} (h : Bof F) {a : PS} (r : RnB a) : Bo a (F a).2 := h a
/-- A reader behind a step. -/
theorem Bo.read {F : PS → Syn × PS} (h : Bof F) {a b : PS} (r : RnB a) (k : Bo a b) : Bo a (F b).2 := k.trans (h b)
theorem Bof.of {F : PS → Syn × PS} (h : ∀ st, RnB st → Bo st (F st).2) : Bof F := fun st => h st trivial
theorem deep_dep {a : PS} (r : Rng a) (h : ¬ 64 ≤ a.depth) : (deep a).depth = a.depth + 1 := wrap_id (by have := r.1; omega) (by omega)
theorem Bo.shallow {a b : PS} (hd : ¬ 64 ≤ a.depth) (h : Bo (deep a) b) : Bo a (shallow b) := ⟨h.bad, h.fin, h.toks, h.pos, h.wn, fun r => by
  have e := deep_dep r hd
  have := r.1
  have e2 := h.dep (by unfold Rng; rw [e]; omega)
  show IntKind.i64.wrap (b.depth - 1) = a.depth
  rw [e2, e, show a.depth + 1 - 1 = a.depth by omega]; exact wrap_id (by omega) (by omega)⟩
theorem bof_field : Bof fieldP := .of fun st r => by
  have h : Bo st (expP w_colon (tokP 0 st)) := (Bo.tok _ _).trans (.exp _ _)
  unfold fieldP
  split
  · exact h.trans (.adv _)
  · split
    · exact h.trans (.adv _)
    · split
      · exact h.trans (.adv _)
      · exact h.trans (.fail _ _)
theorem bo_listGo {F : PS → Syn × PS} (hF : Bof F) : ∀ (n : Nat) (st : PS) (out : List Syn), RnB st → Bo st (listGo F n st out).2
  | 0, st, out, r => .refl _
  | n + 1, st, out, r => by
    unfold listGo
    split
    · have h := Bo.read hF r (.adv st)
      exact h.trans (bo_listGo hF n _ _ (h.rng r))
    · exact .refl _
theorem bo_list {F : PS → Syn × PS} (hF : Bof F) {st : PS} (r : RnB st) : Bo st (listP F st).2 := by
  have h := hF.goes r
  exact h.trans (bo_listGo hF _ _ _ (h.rng r))
theorem bof_kind : Bof kindP := .of fun st r => by
  have h : Bo st (expP w_lbrace (tokP 0 (expP w_ttype st))) := ((Bo.exp _ _).trans (.tok _ _)).trans (.exp _ _)
  unfold kindP
  simp only
  split
  · exact (h.trans (bo_list bof_field (h.rng r))).trans (.exp _ _)
  · exact h.trans (.exp _ _)
theorem bo_const (st : PS) : Bo st (constP st).2 := by
  unfold constP
  split
  · exact (Bo.adv _).trans (.tok _ _)
  · split
    · exact .tok _ _
    · split
      · exact .adv _
      · split
        · exact .adv _
        · exact .tok _ _
theorem bof_const : Bof constP := .of fun st _ => bo_const st
theorem bo_ins (st : PS) : Bo st (insP st).2 := ((((Bo.exp _ _).trans (.tok _ _)).trans (.exp _ _)).trans (.tok _ _))
theorem bo_nest {read : Syn → PS → Syn × PS} {z : Syn} {st : PS} (r : RnB st) (h : ∀ s : PS, RnB s → Bo s (read z s).2) : Bo st (nestP read z st).2 := by
  rw [nestP_eq']
  split
  · unfold nestF; split
    · exact .fail _ _
    · exact .refl _
  · rename_i hb
    have k := h (adv (deep st)) trivial
    refine Bo.shallow (fun hd => hb ?_) (Bo.trans (Bo.adv (deep st)) k)
    unfold nestF
    rw [if_pos (decide_eq_true hd)]
    exact fail_bad (by decide) _
theorem bof_unit {E : PS → Syn × PS} (hE : Bof E) : Bof (unitP E) := .of fun st r => by
  unfold unitP
  split
  · exact bo_nest r fun s r => (hE.goes r).trans (.exp _ _)
  · split
    · simp only
      have h := ((Bo.adv st).trans (bo_ins _)).trans (.exp w_comma _)
      exact (h.trans (bof_const.goes (h.rng r))).trans (.exp _ _)
    · split
      · exact ((Bo.adv st).trans (bo_ins _)).trans (.exp _ _)
      · split
        · exact (((Bo.adv st).trans (.exp _ _)).trans (.tok _ _)).trans (.exp _ _)
        · split
          · simp only
            split
            · exact ((Bo.tok _ _).trans (.exp _ _)).trans (.adv _)
            · exact ((Bo.tok _ _).trans (.exp _ _)).trans (.tok _ _)
          · exact bof_const.goes r
theorem bo_chainGo {F : PS → Syn × PS} (hF : Bof F) {sg : List (Str × Int)} : ∀ (n : Nat) (st : PS) (out : Syn), RnB st → Bo st (chainGo F sg n st out).2
  | 0, st, out, r => .refl _
  | n + 1, st, out, r => by
    unfold chainGo
    split
    · have h := Bo.read hF r (.adv st)
      exact h.trans (bo_chainGo hF n _ _ (h.rng r))
    · exact .refl _
theorem bof_chain {F : PS → Syn × PS} (hF : Bof F) (sg : List (Str × Int)) : Bof (chainP F sg) := .of fun st r => by
  have h := hF.goes r
  exact h.trans (bo_chainGo hF _ _ _ (h.rng r))
theorem bof_sum {E : PS → Syn × PS} (hE : Bof E) : Bof (sumP E) := bof_chain (bof_unit hE) sumL
theorem bof_cmp {E : PS → Syn × PS} (hE : Bof E) : Bof (cmpP E) := .of fun st r => by
  have h := (bof_sum hE).goes r
  have h2 := (h.trans (.adv _)).trans ((bof_sum hE).goes ((h.trans (.adv _)).rng r))
  unfold cmpP
  simp only
  repeat' split
  all_goals first | exact h2 | exact h
theorem bof_not {E N : PS → Syn × PS} (hE : Bof E) (hN : Bof N) : Bof (notP E N) := .of fun st r => by
  unfold notP
  split
  · exact (bof_cmp hE).goes r
  · exact bo_nest r fun s r => hN.goes r
theorem bof_or {E N : PS → Syn × PS} (hE : Bof E) (hN : Bof N) : Bof (orP E N) := bof_chain (bof_chain (bof_not hE hN) andL) orL
theorem bof_dull : Bof dullP := .of fun st _ => .refl _
theorem bof_neg : ∀ n, Bof (negN n).1 ∧ Bof (negN n).2
  | 0 => ⟨bof_not bof_dull bof_dull, bof_or bof_dull bof_dull⟩
  | n + 1 => ⟨bof_not (bof_neg n).2 (bof_neg n).1, bof_or (bof_neg n).2 (bof_neg n).1⟩
theorem bof_event {E : PS → Syn × PS} (hE : Bof E) : Bof (eventP E) := .of fun st r => by
  have h : Bo st (tokP 0 (tokP 0 st)) := (Bo.tok _ _).trans (.tok _ _)
  unfold eventP
  simp only
  split
  · exact Bo.read hE r (h.trans (.adv _))
  · exact h
theorem bo_sev {T : PS → Syn × PS} (hT : Bof T) (z : Syn) {st : PS} (r : RnB st) : Bo st (sevP T z st).2 := by
  have h := Bo.read hT r (.exp w_comma st)
  exact h.trans (bo_listGo hT _ _ _ (h.rng r))
theorem bo_rest {E T : PS → Syn × PS} (hE : Bof E) (hT : Bof T) (k : Int) (z : Syn) {st : PS} (r : RnB st) : Bo st (restP E T k z st).2 := by
  unfold restP
  split
  · exact bo_sev hT z r
  · split
    · exact .refl _
    · split
      · exact Bo.read (bof_event hE) r (.exp _ _)
      · split
        · exact (Bo.exp _ _).trans (.tok _ _)
        · exact Bo.read hE r (.exp _ _)
theorem bof_pat {E T : PS → Syn × PS} (hE : Bof E) (hT : Bof T) : Bof (patP E T) := .of fun st r => by
  unfold patP
  split
  · refine bo_nest r fun s r => ?_
    have h := Bo.read hT r (.exp w_lpar s)
    exact (h.trans (bo_rest hE hT _ _ (h.rng r))).trans (.exp _ _)
  · exact (bof_event hE).goes r
theorem bof_patN {E : PS → Syn × PS} (hE : Bof E) : ∀ n, Bof (patN E n)
  | 0 => bof_pat hE bof_dull
  | n + 1 => bof_pat hE (bof_patN hE n)
theorem bo_key (st : PS) (k : Int) : Bo st (keyP st k).2 := by
  unfold keyP
  split
  · exact (Bo.adv _).trans (.tok _ _)
  · exact .refl _
theorem bof_query {E T : PS → Syn × PS} (hE : Bof E) (hT : Bof T) : Bof (queryP E T) := .of fun st r => by
  have h1 : Bo st (expP w_tmatch (keyP (tokP 0 (expP w_tquery st)) (offS st)).2) := (((Bo.exp _ _).trans (.tok _ _)).trans (bo_key _ _)).trans (.exp _ _)
  have h2 := (Bo.read hT r h1).trans (.exp w_treturn _)
  exact (h2.trans (bo_list hE (h2.rng r))).trans (.exp _ _)
theorem bo_progGo {w : Str} {F : PS → Syn × PS} (hF : Bof F) : ∀ (n : Nat) (st : PS) (out : List Syn), Bo st (progGo w F n st out).2
  | 0, st, out => .refl _
  | n + 1, st, out => by
    unfold progGo
    split
    · exact (hF st).trans (bo_progGo hF n _ _)
    · exact .refl _
theorem bof_EE : Bof EE := (bof_neg 64).2
theorem bof_TT : Bof TT := bof_patN bof_EE 64
end Go.Proofs.YtabkeeedkhgodaaGreatDoor

namespace Go.Proofs.YtabkeeedkhgodaaGreatDoor
open Go Go.Aw
set_option linter.unusedVariables false
set_option linter.unusedSimpArgs false

def erT (t : Tok) : Tok := ⟨t.kind, t.text, 0⟩
def er (st : PS) : PS := { st with toks := st.toks.map erT, fin := 0, whr := 0 }
mutual
def erS : Syn → Syn
  | ⟨kind, text, name, num, kids, pos⟩ => ⟨kind, text, name, num, erSs kids, 0⟩
def erSs : List Syn → List Syn
  | [] => []
  | e :: r => erS e :: erSs r
end
theorem erSs_map : ∀ l : List Syn, erSs l = l.map erS
  | [] => by simp [erSs]
  | e :: r => by simp [erSs, erSs_map r]
theorem erS_mk (k : Int) (t n : Str) (m : Int) (l : List Syn) (p : Int) : erS ⟨k, t, n, m, l, p⟩ = ⟨k, t, n, m, l.map erS, 0⟩ := by rw [erS, erSs_map]
theorem erS_eq (e : Syn) : erS e = ⟨e.kind, e.text, e.name, e.num, e.kids.map erS, 0⟩ := by cases e; exact erS_mk ..
theorem erS_pos (e : Syn) : (erS e).pos = 0 := by rw [erS_eq]
theorem erS_kids (e : Syn) : (erS e).kids = e.kids.map erS := by rw [erS_eq]
theorem erS_z : erS synZ = synZ := by rw [erS_eq]; rfl
theorem erS_with (z : Syn) (l : List Syn) : erS { z with kids := l } = { erS z with kids := l.map erS } := by rw [erS_eq, erS_eq]
theorem erS_num (z : Syn) (n : Int) : erS { z with num := n } = { erS z with num := n } := by rw [erS_eq, erS_eq]
theorem tkS_er (st : PS) : tkS (er st) = erT (tkS st) := by
  unfold tkS er
  simp only [List.getD_eq_getElem?_getD, List.getElem?_map]
  cases st.toks[st.pos]? <;> rfl
theorem offS_er (st : PS) : offS (er st) = 0 := by
  unfold offS
  rw [tkS_er]
  split <;> rfl
theorem bad_er (st : PS) : (er st).bad = st.bad := rfl
theorem depth_er (st : PS) : (er st).depth = st.depth := rfl
theorem pos_er (st : PS) : (er st).pos = st.pos := rfl
theorem len_er (st : PS) : (er st).toks.length = st.toks.length := by simp [er]
theorem endP_er (st : PS) : endP (er st) = endP st := by unfold endP; rw [bad_er, pos_er, len_er]
theorem isP_er (w : Str) (st : PS) : isP w (er st) = isP w st := by unfold isP; rw [endP_er, tkS_er]; rfl
theorem nxtP_er (k : Int) (st : PS) : nxtP k (er st) = nxtP k st := by unfold nxtP; rw [endP_er, tkS_er]; rfl
theorem txtP_er (k : Int) (st : PS) : txtP k (er st) = txtP k st := by unfold txtP; rw [nxtP_er, tkS_er]; rfl
theorem numP_er (st : PS) : numP (er st) = numP st := by unfold numP; rw [nxtP_er, tkS_er]; rfl
theorem failP_er (e : Int) (st : PS) : failP e (er st) = er (failP e st) := by
  unfold failP
  rw [bad_er, offS_er]
  split <;> rfl
theorem adv_er (st : PS) : adv (er st) = er (adv st) := rfl
theorem deep_er (st : PS) : deep (er st) = er (deep st) := rfl
theorem shallow_er (st : PS) : shallow (er st) = er (shallow st) := rfl
theorem fuel_er (st : PS) : fuel (er st) = fuel st := by unfold fuel; rw [len_er]; rfl
theorem accP_er (w : Str) (st : PS) : accP w (er st) = er (accP w st) := by unfold accP; rw [isP_er, adv_er]; split <;> rfl
theorem expP_er (w : Str) (st : PS) : expP w (er st) = er (expP w st) := by unfold expP; rw [isP_er, bad_er, failP_er, accP_er]; split <;> rfl
theorem tokP_er (k : Int) (st : PS) : tokP k (er st) = er (tokP k st) := by unfold tokP; rw [nxtP_er, adv_er, failP_er]; split <;> rfl
theorem nestF_er (st : PS) : nestF (er st) = er (nestF st) := by unfold nestF; rw [depth_er, failP_er]; split <;> rfl

abbrev er2 (p : Syn × PS) : Syn × PS := (erS p.1, er p.2)
def Er (F : PS → Syn × PS) : Prop := ∀ st, F (er st) = er2 (F st)
theorem er_nest {read : Syn → PS → Syn × PS} (h : ∀ z s, read (erS z) (er s) = er2 (read z s)) (z : Syn) (st : PS) : nestP read (erS z) (er st) = er2 (nestP read z st) := by
  rw [nestP_eq', nestP_eq', nestF_er, bad_er]
  split
  · rfl
  · rw [deep_er, adv_er, h]; rfl
theorem er_field : Er fieldP := fun st => by
  unfold fieldP
  simp only [tokP_er, expP_er, isP_er, txtP_er, offS_er, adv_er, failP_er]
  repeat' split
  all_goals simp only [er2, erS_mk, List.map_nil]
theorem er_listGo {F : PS → Syn × PS} (h : Er F) : ∀ (n : Nat) (st : PS) (out : List Syn), listGo F n (er st) (out.map erS) = ((listGo F n st out).1.map erS, er (listGo F n st out).2)
  | 0, st, out => rfl
  | n + 1, st, out => by
    unfold listGo
    rw [isP_er, adv_er, h]
    split
    · have := er_listGo h n (F (adv st)).2 (out ++ [(F (adv st)).1])
      rw [List.map_append, List.map_cons, List.map_nil] at this
      exact this
    · rfl
theorem er_list {F : PS → Syn × PS} (h : Er F) (st : PS) : listP F (er st) = ((listP F st).1.map erS, er (listP F st).2) := by
  unfold listP
  rw [h]
  show listGo F (fuel (er (F st).2)) (er (F st).2) [erS (F st).1] = _
  rw [fuel_er]
  exact er_listGo h _ _ [_]
theorem er_kind : Er kindP := fun st => by
  unfold kindP
  simp only [tokP_er, expP_er, isP_er, txtP_er, offS_er, er_list er_field, bad_er]
  split
  all_goals simp only [er2, erS_mk, List.map_nil]
theorem er_const : Er constP := fun st => by
  unfold constP
  simp only [tokP_er, isP_er, txtP_er, offS_er, nxtP_er, adv_er, numP_er]
  repeat' split
  all_goals simp only [er2, erS_mk, List.map_nil]
theorem er_ins (st : PS) : insP (er st) = ((insP st).1, er (insP st).2) := by
  unfold insP
  simp only [tokP_er, expP_er, txtP_er]
theorem er_unit {E : PS → Syn × PS} (hE : Er E) : Er (unitP E) := fun st => by
  unfold unitP
  simp only [isP_er, nxtP_er, txtP_er, offS_er, adv_er, tokP_er, expP_er, er_ins]
  split
  · have := er_nest (read := fun _ s => ((E s).1, expP w_rpar (E s).2)) (fun z s => by simp only [hE s, expP_er]) synZ st
    rw [erS_z] at this
    exact this
  · split
    · simp only [er_const _, expP_er, er2, erS_mk, List.map_cons, List.map_nil]
    · repeat' split
      all_goals first | exact er_const st | simp only [er2, erS_mk, List.map_nil]
theorem er_bin (op : Int) (a b : Syn) (p : Int) : erS (binS op a b p) = binS op (erS a) (erS b) 0 := by unfold binS; rw [erS_mk]; rfl
theorem er_chainGo {F : PS → Syn × PS} (h : Er F) (sg : List (Str × Int)) : ∀ (n : Nat) (st : PS) (out : Syn), chainGo F sg n (er st) (erS out) = er2 (chainGo F sg n st out)
  | 0, st, out => rfl
  | n + 1, st, out => by
    unfold chainGo
    simp only [isP_er, adv_er]
    split
    · rename_i s hs
      have := er_chainGo h sg n (F (adv st)).2 (binS s.2 out (F (adv st)).1 out.pos)
      rw [h, erS_pos, er2, ← er_bin _ _ _ out.pos]
      exact this
    · rfl
theorem er_chain {F : PS → Syn × PS} (h : Er F) (sg : List (Str × Int)) : Er (chainP F sg) := fun st => by
  unfold chainP
  rw [h]
  show chainGo F sg (fuel (er (F st).2)) (er (F st).2) (erS (F st).1) = _
  rw [fuel_er]
  exact er_chainGo h sg _ _ _
theorem er_sum {E : PS → Syn × PS} (hE : Er E) : Er (sumP E) := er_chain (er_unit hE) sumL
theorem er_cmp {E : PS → Syn × PS} (hE : Er E) : Er (cmpP E) := fun st => by
  unfold cmpP
  simp only [er_sum hE _, isP_er, adv_er, erS_pos]
  repeat' split
  all_goals simp only [er2, er_bin, erS_mk, List.map_cons, List.map_nil]
theorem er_not {E N : PS → Syn × PS} (hE : Er E) (hN : Er N) : Er (notP E N) := fun st => by
  unfold notP
  rw [isP_er, offS_er]
  split
  · exact er_cmp hE st
  · have := er_nest (read := fun z s => ({ z with kids := [(N s).1] }, (N s).2)) (fun z s => by simp only [hN s, er2, erS_with, List.map_cons, List.map_nil]) ⟨18, [], [], 0, [], offS st⟩ st
    rw [erS_mk] at this
    exact this
theorem er_or {E N : PS → Syn × PS} (hE : Er E) (hN : Er N) : Er (orP E N) := er_chain (er_chain (er_not hE hN) andL) orL
theorem er_dull : Er dullP := fun st => by unfold dullP; rw [er2, erS_z]
theorem er_neg : ∀ n, Er (negN n).1 ∧ Er (negN n).2
  | 0 => ⟨er_not er_dull er_dull, er_or er_dull er_dull⟩
  | n + 1 => ⟨er_not (er_neg n).2 (er_neg n).1, er_or (er_neg n).2 (er_neg n).1⟩
theorem er_event {E : PS → Syn × PS} (hE : Er E) : Er (eventP E) := fun st => by
  unfold eventP
  simp only [tokP_er, isP_er, txtP_er, offS_er, adv_er, hE _]
  split
  all_goals simp only [er2, erS_mk, List.map_cons, List.map_nil]
theorem er_sev {T : PS → Syn × PS} (hT : Er T) (z : Syn) (st : PS) : sevP T (erS z) (er st) = er2 (sevP T z st) := by
  unfold sevP
  simp only [expP_er, hT _, fuel_er, erS_kids]
  have := er_listGo hT (fuel (T (expP w_comma st)).2) (T (expP w_comma st)).2 (z.kids ++ [(T (expP w_comma st)).1])
  rw [List.map_append, List.map_cons, List.map_nil] at this
  rw [this, er2, erS_with]
theorem er_rest {E T : PS → Syn × PS} (hE : Er E) (hT : Er T) (k : Int) (z : Syn) (st : PS) : restP E T k (erS z) (er st) = er2 (restP E T k z st) := by
  unfold restP
  simp only [expP_er, tokP_er, numP_er, er_event hE _, hE _, erS_kids, er_sev hT]
  repeat' split
  all_goals first | rfl | simp only [er2, erS_with, erS_num, erS_kids, List.map_append, List.map_cons, List.map_nil]
theorem er_pat {E T : PS → Syn × PS} (hE : Er E) (hT : Er T) : Er (patP E T) := fun st => by
  unfold patP
  simp only [isP_er, offS_er]
  split
  · rename_i f hf
    have := er_nest (read := fun z s => ((restP E T f.2 { z with kids := [(T (expP w_lpar s)).1] } (T (expP w_lpar s)).2).1, expP w_rpar (restP E T f.2 { z with kids := [(T (expP w_lpar s)).1] } (T (expP w_lpar s)).2).2)) (fun z s => by
      have e := er_rest hE hT f.2 { z with kids := [(T (expP w_lpar s)).1] } (T (expP w_lpar s)).2
      rw [erS_with, List.map_cons, List.map_nil] at e
      simp only [expP_er, hT _, e]) ⟨f.2, [], [], 0, [], offS st⟩ st
    rw [erS_mk] at this
    exact this
  · exact er_event hE st
theorem er_patN {E : PS → Syn × PS} (hE : Er E) : ∀ n, Er (patN E n)
  | 0 => er_pat hE er_dull
  | n + 1 => er_pat hE (er_patN hE n)
theorem er_key (st : PS) (k : Int) : keyP (er st) 0 = er2 (keyP st k) := by
  unfold keyP
  simp only [isP_er, adv_er, tokP_er, txtP_er, offS_er]
  split
  all_goals simp only [er2, erS_mk, List.map_nil]
theorem er_query {E T : PS → Syn × PS} (hE : Er E) (hT : Er T) : Er (queryP E T) := fun st => by
  unfold queryP
  simp only [expP_er, tokP_er, offS_er, txtP_er, er_key _ (offS st), hT _, er_list hE]
  simp only [er2, erS_mk, List.map_append, List.map_cons, List.map_nil]
theorem er_progGo {F : PS → Syn × PS} (h : Er F) (w : Str) : ∀ (n : Nat) (st : PS) (out : List Syn), progGo w F n (er st) (out.map erS) = ((progGo w F n st out).1.map erS, er (progGo w F n st out).2)
  | 0, st, out => rfl
  | n + 1, st, out => by
    unfold progGo
    rw [isP_er, h]
    split
    · have := er_progGo h w n (F st).2 (out ++ [(F st).1])
      rw [List.map_append, List.map_cons, List.map_nil] at this
      exact this
    · rfl
theorem er_prog {E T : PS → Syn × PS} (hE : Er E) (hT : Er T) : Er (progP E T) := fun st => by
  unfold progP
  have h1 := er_progGo er_kind w_ttype (fuel st) st []
  have h2 := er_progGo (er_query hE hT) w_tquery (fuel (progGo w_ttype kindP (fuel st) st []).2) (progGo w_ttype kindP (fuel st) st []).2 (progGo w_ttype kindP (fuel st) st []).1
  rw [List.map_nil] at h1
  simp only [fuel_er, h1, h2, er2, erS_mk]
theorem er_EE : Er EE := (er_neg 64).2
theorem er_TT : Er TT := er_patN er_EE 64
/-- What is read, without offsets. -/
def done2 (r : Syn × PS) : Syn × Int := (erS (doneP r).1, (doneP r).2.2)
end Go.Proofs.YtabkeeedkhgodaaGreatDoor
