/-
  Several texts in one: S12, B12, P15. No condition.
-/
import Derived.Test.YtabkeeedkhgodaaGreatDoorF12
namespace Go.Proofs.YtabkeeedkhgodaaGreatDoor
open Go Go.Aw
set_option linter.unusedVariables false
set_option linter.unusedSimpArgs false

def Stk (a b : PS) : Prop := Goes a b ∧ (a.bad ≠ 0 → b.bad = a.bad ∧ b.whr = a.whr)
def Stuck (F : PS → Syn × PS) : Prop := ∀ st, 0 ≤ st.depth → st.depth ≤ 64 → Stk st (F st).2
theorem fail_stay {e : Int} {a : PS} (h : a.bad ≠ 0) : failP e a = a := by
  unfold failP
  have : (a.bad == 0) = false := by simpa using h
  rw [this]; rfl
theorem nestP_eq' (read : Syn → PS → Syn × PS) (z : Syn) (st : PS) : nestP read z st = if ((nestF st).bad != 0) then (z, nestF st) else ((read z (adv (deep st))).1, shallow (read z (adv (deep st))).2) := rfl
end Go.Proofs.YtabkeeedkhgodaaGreatDoor

namespace Go.Proofs.YtabkeeedkhgodaaGreatDoor
open Go Go.Aw
set_option linter.unusedVariables false
set_option linter.unusedSimpArgs false

/-- Offsets lie in the text. -/
def Wn (a : PS) : Prop := (∀ t ∈ a.toks, 0 ≤ t.pos ∧ t.pos ≤ a.fin) ∧ 0 ≤ a.fin ∧ 0 ≤ a.whr ∧ a.whr ≤ a.fin
structure Bo (a b : PS) : Prop where
  bad : a.bad ≠ 0 → b.bad = a.bad
  fin : b.fin = a.fin
  toks : b.toks = a.toks
  pos : a.pos ≤ b.pos
  wn : Wn a → Wn b
  dep : Rng a → b.depth = a.depth
def Bof (F : PS → Syn × PS) : Prop := ∀ st, Bo st (F st).2
def RnB (_ : PS) : Prop := True
end Go.Proofs.YtabkeeedkhgodaaGreatDoor

namespace Go.Proofs.YtabkeeedkhgodaaGreatDoor
open Go Go.Aw
set_option linter.unusedVariables false
set_option linter.unusedSimpArgs false

def erT (t : Tok) : Tok := ⟨t.kind, t.text, 0⟩
def er (st : PS) : PS := { st with toks := st.toks.map erT, fin := 0, whr := 0 }
mutual
def erS : Syn → Syn
  | ⟨kind, text, name, num, kids, pos⟩ => ⟨kind, text, name, num, erSs kids, 0⟩
def erSs : List Syn → List Syn
  | [] => []
  | e :: r => erS e :: erSs r
end
theorem erSs_map : ∀ l : List Syn, erSs l = l.map erS
  | [] => by simp [erSs]
  | e :: r => by simp [erSs, erSs_map r]
theorem erS_mk (k : Int) (t n : Str) (m : Int) (l : List Syn) (p : Int) : erS ⟨k, t, n, m, l, p⟩ = ⟨k, t, n, m, l.map erS, 0⟩ := by rw [erS, erSs_map]
theorem erS_eq (e : Syn) : erS e = ⟨e.kind, e.text, e.name, e.num, e.kids.map erS, 0⟩ := by cases e; exact erS_mk ..
theorem erS_pos (e : Syn) : (erS e).pos = 0 := by rw [erS_eq]
theorem erS_z : erS synZ = synZ := by rw [erS_eq]; rfl
theorem erS_with (z : Syn) (l : List Syn) : erS { z with kids := l } = { erS z with kids := l.map erS } := by rw [erS_eq, erS_eq]
theorem tkS_er (st : PS) : tkS (er st) = erT (tkS st) := by
  unfold tkS er
  simp only [List.getD_eq_getElem?_getD, List.getElem?_map]
  cases st.toks[st.pos]? <;> rfl
theorem offS_er (st : PS) : offS (er st) = 0 := by
  unfold offS
  rw [tkS_er]
  split <;> rfl
theorem bad_er (st : PS) : (er st).bad = st.bad := rfl
theorem depth_er (st : PS) : (er st).depth = st.depth := rfl
theorem pos_er (st : PS) : (er st).pos = st.pos := rfl
theorem len_er (st : PS) : (er st).toks.length = st.toks.length := by simp [er]
theorem endP_er (st : PS) : endP (er st) = endP st := by unfold endP; rw [bad_er, pos_er, len_er]
theorem isP_er (w : Str) (st : PS) : isP w (er st) = isP w st := by unfold isP; rw [endP_er, tkS_er]; rfl
theorem nxtP_er (k : Int) (st : PS) : nxtP k (er st) = nxtP k st := by unfold nxtP; rw [endP_er, tkS_er]; rfl
theorem txtP_er (k : Int) (st : PS) : txtP k (er st) = txtP k st := by unfold txtP; rw [nxtP_er, tkS_er]; rfl
theorem numP_er (st : PS) : numP (er st) = numP st := by unfold numP; rw [nxtP_er, tkS_er]; rfl
theorem failP_er (e : Int) (st : PS) : failP e (er st) = er (failP e st) := by
  unfold failP
  rw [bad_er, offS_er]
  split <;> rfl
theorem adv_er (st : PS) : adv (er st) = er (adv st) := rfl
theorem deep_er (st : PS) : deep (er st) = er (deep st) := rfl
theorem shallow_er (st : PS) : shallow (er st) = er (shallow st) := rfl
theorem fuel_er (st : PS) : fuel (er st) = fuel st := by unfold fuel; rw [len_er]; rfl
theorem accP_er (w : Str) (st : PS) : accP w (er st) = er (accP w st) := by unfold accP; rw [isP_er, adv_er]; split <;> rfl
theorem expP_er (w : Str) (st : PS) : expP w (er st) = er (expP w st) := by unfold expP; rw [isP_er, bad_er, failP_er, accP_er]; split <;> rfl
theorem tokP_er (k : Int) (st : PS) : tokP k (er st) = er (tokP k st) := by unfold tokP; rw [nxtP_er, adv_er, failP_er]; split <;> rfl
theorem nestF_er (st : PS) : nestF (er st) = er (nestF st) := by unfold nestF; rw [depth_er, failP_er]; split <;> rfl

abbrev er2 (p : Syn × PS) : Syn × PS := (erS p.1, er p.2)
def Er (F : PS → Syn × PS) : Prop := ∀ st, F (er st) = er2 (F st)
theorem er_nest {read : Syn → PS → Syn × PS} (h : ∀ z s, read (erS z) (er s) = er2 (read z s)) (z : Syn) (st : PS) : nestP read (erS z) (er st) = er2 (nestP read z st) := by
  rw [nestP_eq', nestP_eq', nestF_er, bad_er]
  split
  · rfl
  · rw [deep_er, adv_er, h]; rfl
theorem er_const : Er constP := fun st => by
  unfold constP
  simp only [tokP_er, isP_er, txtP_er, offS_er, nxtP_er, adv_er, numP_er]
  repeat' split
  all_goals simp only [er2, erS_mk, List.map_nil]
theorem er_ins (st : PS) : insP (er st) = ((insP st).1, er (insP st).2) := by
  unfold insP
  simp only [tokP_er, expP_er, txtP_er]
theorem er_unit {E : PS → Syn × PS} (hE : Er E) : Er (unitP E) := fun st => by
  unfold unitP
  simp only [isP_er, nxtP_er, txtP_er, offS_er, adv_er, tokP_er, expP_er, er_ins]
  split
  · have := er_nest (read := fun _ s => ((E s).1, expP w_rpar (E s).2)) (fun z s => by simp only [hE s, expP_er]) synZ st
    rw [erS_z] at this
    exact this
  · split
    · simp only [er_const _, expP_er, er2, erS_mk, List.map_cons, List.map_nil]
    · repeat' split
      all_goals first | exact er_const st | simp only [er2, erS_mk, List.map_nil]
theorem er_bin (op : Int) (a b : Syn) (p : Int) : erS (binS op a b p) = binS op (erS a) (erS b) 0 := by unfold binS; rw [erS_mk]; rfl
theorem er_chainGo {F : PS → Syn × PS} (h : Er F) (sg : List (Str × Int)) : ∀ (n : Nat) (st : PS) (out : Syn), chainGo F sg n (er st) (erS out) = er2 (chainGo F sg n st out)
  | 0, st, out => rfl
  | n + 1, st, out => by
    unfold chainGo
    simp only [isP_er, adv_er]
    split
    · rename_i s hs
      have := er_chainGo h sg n (F (adv st)).2 (binS s.2 out (F (adv st)).1 out.pos)
      rw [h, erS_pos, er2, ← er_bin _ _ _ out.pos]
      exact this
    · rfl
theorem er_chain {F : PS → Syn × PS} (h : Er F) (sg : List (Str × Int)) : Er (chainP F sg) := fun st => by
  unfold chainP
  rw [h]
  show chainGo F sg (fuel (er (F st).2)) (er (F st).2) (erS (F st).1) = _
  rw [fuel_er]
  exact er_chainGo h sg _ _ _
theorem er_sum {E : PS → Syn × PS} (hE : Er E) : Er (sumP E) := er_chain (er_unit hE) sumL
theorem er_cmp {E : PS → Syn × PS} (hE : Er E) : Er (cmpP E) := fun st => by
  unfold cmpP
  simp only [er_sum hE _, isP_er, adv_er, erS_pos]
  repeat' split
  all_goals simp only [er2, er_bin, erS_mk, List.map_cons, List.map_nil]
theorem er_not {E N : PS → Syn × PS} (hE : Er E) (hN : Er N) : Er (notP E N) := fun st => by
  unfold notP
  rw [isP_er, offS_er]
  split
  · exact er_cmp hE st
  · have := er_nest (read := fun z s => ({ z with kids := [(N s).1] }, (N s).2)) (fun z s => by simp only [hN s, er2, erS_with, List.map_cons, List.map_nil]) ⟨18, [], [], 0, [], offS st⟩ st
    rw [erS_mk] at this
    exact this
theorem er_or {E N : PS → Syn × PS} (hE : Er E) (hN : Er N) : Er (orP E N) := er_chain (er_chain (er_not hE hN) andL) orL
theorem er_dull : Er dullP := fun st => by unfold dullP; rw [er2, erS_z]
theorem er_neg : ∀ n, Er (negN n).1 ∧ Er (negN n).2
  | 0 => ⟨er_not er_dull er_dull, er_or er_dull er_dull⟩
  | n + 1 => ⟨er_not (er_neg n).2 (er_neg n).1, er_or (er_neg n).2 (er_neg n).1⟩
theorem er_EE : Er EE := (er_neg 64).2
/-- What is read, without offsets. -/
def done2 (r : Syn × PS) : Syn × Int := (erS (doneP r).1, (doneP r).2.2)
end Go.Proofs.YtabkeeedkhgodaaGreatDoor
