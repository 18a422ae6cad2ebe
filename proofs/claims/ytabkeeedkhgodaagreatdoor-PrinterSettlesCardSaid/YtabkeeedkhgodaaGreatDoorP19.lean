/-
  Several texts in one: P16, P17, P18, P19. No condition.
-/
import Derived.Test.YtabkeeedkhgodaaGreatDoorP15
import Derived.Test.YtabkeeedkhgodaaGreatDoorP8
import Derived.Test.YtabkeeedkhgodaaGreatDoorL1
namespace Go.Proofs.YtabkeeedkhgodaaGreatDoor
open Go Go.Aw
set_option linter.unusedVariables false
set_option linter.unusedSimpArgs false

/-- Where a text lies: tokens ahead, tokens behind, how much deeper. -/
structure Cx where
  pre : List Tok
  post : List Tok
  k : Int
  hk : 0 ≤ k
  hc : ∀ c r, post = c :: r → c.kind = 3
  hpre : pre.map erT = pre
  hpost : post.map erT = post
def emb (x : Cx) (st : PS) : PS := ⟨x.pre ++ (st.toks ++ x.post), x.pre.length + st.pos, st.fin, st.depth + x.k, st.bad, st.whr⟩
/-- No token w stands right behind. -/
def Cx.no (x : Cx) (w : Str) : Prop := ∀ c r, x.post = c :: r → (c.text == w) = false
structure Ok (d : Int) (st : PS) : Prop where
  era : er st = st
  dep : st.depth = d
  inn : st.pos ≤ st.toks.length
  good : st.bad = 0
structure EmR {α : Type} (x : Cx) (d : Int) (p q : α × PS) : Prop where
  good : p.2.bad = 0 → (q.2.bad = 12 ∧ 0 < x.k) ∨ (Ok d p.2 ∧ q = (p.1, emb x p.2))
  deep : p.2.bad = 12 → q.2.bad = 12
def EmF (x : Cx) (d : Int) (F G : PS → Syn × PS) : Prop := ∀ st, Ok d st → EmR x d (F st) (G (emb x st))
variable {x : Cx} {d : Int} {st : PS}
theorem Ok.off (h : Ok d st) : offS st = 0 := by rw [← h.era]; exact offS_er st
theorem nxt_end {k : Int} (hi : nxtP k st = true) : endP st = false := by
  unfold nxtP at hi
  cases e : endP st with
  | true => rw [e] at hi; exact absurd hi (by simp)
  | false => rfl
theorem is_end {w : Str} (hi : isP w st = true) : endP st = false := by
  unfold isP at hi
  cases e : endP st with
  | true => rw [e] at hi; exact absurd hi (by simp)
  | false => rfl
theorem emb_adv : adv (emb x st) = emb x (adv st) := rfl
theorem exp_yes (h : st.bad = 0) {w : Str} (hi : isP w st = true) : expP w st = adv st := by
  unfold expP
  rw [h, hi, acc_yes hi]; rfl
theorem exp_no (h : st.bad = 0) {w : Str} (hi : isP w st = false) : (expP w st).bad = 4 := by
  unfold expP
  rw [h, hi]
  unfold failP
  rw [h]; rfl
theorem tok_no (h : st.bad = 0) {k : Int} (hi : nxtP k st = false) : (tokP k st).bad = 4 := by
  unfold tokP
  rw [hi]
  unfold failP
  rw [h]; rfl
/-! Expressions. -/
/-- What may stand behind an expression. -/
def Cx.Ex (x : Cx) : Prop := ∀ c r, x.post = c :: r → c.text = w_rpar ∨ c.text = w_comma
/-- What may stand behind a pattern. -/
def Cx.Pa (x : Cx) : Prop := ∀ c r, x.post = c :: r → c.text = w_rpar
theorem find_is {l : List (Str × Int)} {s : Str × Int} (h : l.find? (fun s => isP s.1 st) = some s) : isP s.1 st = true := by
  have := List.find?_some h
  exact this
section
variable {E E' N N' : PS → Syn × PS}
/-- What follows the first operand of a comparison. -/
def cmpK (E : PS → Syn × PS) (a : Syn) (s : PS) : Syn × PS :=
  if isP w_lt s then (binS 7 a (sumP E (adv s)).1 a.pos, (sumP E (adv s)).2)
  else if isP w_le s then (binS 8 a (sumP E (adv s)).1 a.pos, (sumP E (adv s)).2)
  else if isP w_gt s then (binS 7 (sumP E (adv s)).1 a a.pos, (sumP E (adv s)).2)
  else if isP w_ge s then (binS 8 (sumP E (adv s)).1 a a.pos, (sumP E (adv s)).2)
  else if isP w_eqq s then (binS 9 a (sumP E (adv s)).1 a.pos, (sumP E (adv s)).2)
  else if isP w_neq s then (⟨18, [], [], 0, [binS 9 a (sumP E (adv s)).1 a.pos], a.pos⟩, (sumP E (adv s)).2)
  else (a, s)
theorem cmpP_K (E : PS → Syn × PS) (st : PS) : cmpP E st = cmpK E (sumP E st).1 (sumP E st).2 := rfl
end
/-! Patterns. -/
section
variable {E E' T T' : PS → Syn × PS}
/-- What a pattern in parentheses reads. -/
def patK (E T : PS → Syn × PS) (k : Int) (z : Syn) (s : PS) : Syn × PS :=
  ((restP E T k { z with kids := [(T (expP w_lpar s)).1] } (T (expP w_lpar s)).2).1, expP w_rpar (restP E T k { z with kids := [(T (expP w_lpar s)).1] } (T (expP w_lpar s)).2).2)
end
end Go.Proofs.YtabkeeedkhgodaaGreatDoor

namespace Go.Proofs.YtabkeeedkhgodaaGreatDoor
open Go Go.Aw
set_option linter.unusedVariables false
set_option linter.unusedSimpArgs false

mutual
def ordS : Syn → Int → Int → Bool
  | ⟨k, t, n, m, ks, p⟩, f, e => if decide (p < f) || decide (e < p) then false else ordSs ks p e
def ordSs : List Syn → Int → Int → Bool
  | [], _, _ => true
  | a :: r, p, e => if !(ordS a p e) then false else ordSs r p e
end
def OrdT (f e : Int) (t : Syn) : Prop := ordS t f e = true
/-! Offsets of states. -/
def offAt (l : List Tok) (e : Int) (n : Nat) : Int := if decide ((n : Int) < (l.length : Int)) then (l.getD n tokZ).pos else e
/-- The offsets of a list of tokens ascend, up to the text's length. -/
def Srt (l : List Tok) (e : Int) : Prop := ∀ n m, n ≤ m → offAt l e n ≤ offAt l e m ∧ offAt l e m ≤ e
def At (l : List Tok) (e d : Int) (st : PS) : Prop := st.toks = l ∧ st.fin = e ∧ st.depth = d ∧ 0 ≤ d ∧ d ≤ 64
variable {l : List Tok} {e d : Int} {a b st : PS}
theorem At.next (h : At l e d a) (k : Bo a b) : At l e d b := ⟨k.toks.trans h.1, k.fin.trans h.2.1, (k.dep (by unfold Rng; rw [h.2.2.1]; exact h.2.2.2)).trans h.2.2.1, h.2.2.2⟩
/-- What is read has ordered offsets. -/
def Gdo (l : List Tok) (e : Int) (st : PS) (r : Syn × PS) : Prop := r.2.bad = 0 → OrdT (offS st) e r.1 ∧ r.1.pos ≤ offS r.2
def OrdF (l : List Tok) (e d : Int) (F : PS → Syn × PS) : Prop := ∀ st, At l e d st → Gdo l e st (F st)
theorem Bo.good (h : Bo a b) (hb : b.bad = 0) : a.bad = 0 := Classical.byContradiction fun e => e ((h.bad e).symm.trans hb)
theorem one_mem {α : Type} {P : α → Prop} {y : α} (h : P y) : ∀ x ∈ [y], P x := fun x hx => by
  rw [List.mem_singleton] at hx; rw [hx]; exact h
theorem app_mem {α : Type} {P : α → Prop} {l m : List α} (h : ∀ x ∈ l, P x) (k : ∀ x ∈ m, P x) : ∀ x ∈ l ++ m, P x := fun x hx => (List.mem_append.1 hx).elim (h x) (k x)

theorem nest_bad (st : PS) : ((nestF st).bad != 0) = true ∨ nestF st = st ∧ st.bad = 0 := by
  cases h : ((nestF st).bad != 0) with
  | true => exact .inl rfl
  | false =>
    refine .inr ?_
    have h0 : (nestF st).bad = 0 := by simpa using h
    unfold nestF at h0 ⊢
    split
    · rename_i hd
      rw [if_pos hd] at h0
      exact absurd (fail_bad (e := 12) (by decide) st) (by rw [h0]; decide)
    · rename_i hd
      rw [if_neg hd] at h0
      exact ⟨rfl, h0⟩
theorem At.deep (h : At l e d st) (hd : d < 64) : At l e (d + 1) (deep st) := ⟨h.1, h.2.1, by
  show IntKind.i64.wrap (st.depth + 1) = d + 1
  have := h.2.2.2
  rw [h.2.2.1]; exact wrap_id (by omega) (by omega), by have := h.2.2.2; omega, by omega⟩
/-! Whole texts. -/
/-- What a text that is read gives. -/
theorem parse_good {F : PS → Syn × PS} {s : Str} (h : (parseP F s).2.2 = 0) : (scanS s).2.2 = 0 ∧ (F (beginS (scanS s).1 s.length)).2.bad = 0 ∧ (F (beginS (scanS s).1 s.length)).2.toks.length ≤ (F (beginS (scanS s).1 s.length)).2.pos ∧ parseP F s = ((F (beginS (scanS s).1 s.length)).1, 0, 0) := by
  unfold parseP at h ⊢
  by_cases h1 : ((scanS s).2.2 != 0) = true
  · rw [if_pos h1] at h
    exact absurd h (by simpa using h1)
  · rw [if_neg h1] at h ⊢
    refine ⟨by simpa using h1, ?_⟩
    generalize F (beginS (scanS s).1 s.length) = r at h ⊢
    unfold doneP at h ⊢
    simp only at h ⊢
    by_cases h2 : decide ((r.2.pos : Int) < (r.2.toks.length : Int)) = true
    · rw [if_pos h2, fail_bad (by decide), if_pos rfl] at h
      exact absurd h (by have := fail_bad (e := 4) (by decide) r.2; simpa using this)
    · rw [if_neg h2] at h ⊢
      by_cases h3 : (r.2.bad != 0) = true
      · rw [if_pos h3] at h
        exact absurd h (by simpa using h3)
      · rw [if_neg h3]
        refine ⟨by simpa using h3, ?_, rfl⟩
        simp only [decide_eq_true_eq] at h2
        omega
end Go.Proofs.YtabkeeedkhgodaaGreatDoor

namespace Go.Proofs.YtabkeeedkhgodaaGreatDoor
open Go Go.Aw
set_option linter.unusedVariables false
set_option linter.unusedSimpArgs false
set_option maxRecDepth 100000

theorem sameNs_er : ∀ l m : List Syn, (∀ a ∈ l, ∀ b, erS a = erS b → sameN a b = true) → l.map erS = m.map erS → sameNs l m = true
  | [], _, _, _ => by rw [sameNs]
  | a :: r, [], _, h => by cases h
  | a :: r, b :: s, ih, h => by
    rw [List.map_cons, List.map_cons, List.cons.injEq] at h
    rw [sameNs, ih a (List.mem_cons_self ..) b h.1, sameNs_er r s (fun x hx => ih x (List.mem_cons_of_mem _ hx)) h.2]; rfl
theorem sameN_er (a : Syn) : ∀ b, erS a = erS b → sameN a b = true := by
  refine Syn.ind (P := fun a => ∀ b, erS a = erS b → sameN a b = true) (fun a ih b h => ?_) a
  rw [erS_eq, erS_eq b, Syn.mk.injEq] at h
  obtain ⟨h1, h2, h3, h4, h5, _⟩ := h
  have hl : a.kids.length = b.kids.length := by have := congrArg List.length h5; simpa using this
  rw [sameN_eq, if_neg (by rw [h1, h2, h3, h4, hl]; simp)]
  exact sameNs_er _ _ ih h5

/-! Texts put together: pieces of a text, with their tokens. -/
def Pe (u : Str) (L : List Tok) (rest : Str) : Prop := ∃ l, Sc (u ++ rest) 0 l u.length ∧ l.map erT = L
theorem Pe.app {u v rest : Str} {L M : List Tok} (h : Pe u L (v ++ rest)) (k : Pe v M rest) : Pe (u ++ v) (L ++ M) rest := by
  obtain ⟨l, h1, h2⟩ := h
  obtain ⟨m, k1, k2⟩ := k
  refine ⟨l ++ m.map (shT u.length), ?_, ?_⟩
  · rw [List.append_assoc, List.length_append]
    exact h1.trans (by simpa using k1.shift u)
  · rw [List.map_append, List.map_map, h2]
    have : erT ∘ shT u.length = erT := by funext t; rfl
    rw [this, k2]
theorem Pe.text {u rest : Str} (h : (scanS u).2.2 = 0) (hn : 35 ∉ u) (hw : Sepd rest) : Pe u ((scanS u).1.map erT) rest := ⟨_, (scan_sc h).2.left hw hn, rfl⟩
theorem Pe.space (rest : Str) : Pe [32] [] rest := ⟨[], space_sc (c := 32) (r := rest) rfl (by decide) (.nil _), rfl⟩
theorem Pe.nil (rest : Str) : Pe [] [] rest := ⟨[], .nil _, rfl⟩
abbrev tlp : Tok := ⟨3, w_lpar, 0⟩
abbrev trp : Tok := ⟨3, w_rpar, 0⟩
abbrev tcm : Tok := ⟨3, w_comma, 0⟩
theorem lp_next (r : Str) : nextF (40 :: r) = foT 3 [40] 1 := by
  have h0 : 0 < (40 :: r : Str).length := by simp
  rw [next_sign (u := 40 :: r) (by rfl) (by rfl) (by rfl) h0, signF_cons]
  cases Lib.hasPrefix r [61] <;> rfl
theorem Pe.lpar (rest : Str) : Pe [40] [tlp] rest := by
  have h := Sc.tok (s := [40] ++ rest) (i := 0) (l := []) (j := 1) (by simp) rfl (by show (nextF (40 :: rest)).err = 0; rw [lp_next]; rfl) (by show Sc _ (0 + (nextF (40 :: rest)).bytes.toNat) [] 1; rw [lp_next]; exact .nil _)
  have e : nextF (([40] ++ rest : Str).drop 0) = foT 3 [40] 1 := lp_next rest
  rw [e] at h
  exact ⟨_, h, rfl⟩
theorem Pe.scan {u : Str} {L : List Tok} (h : Pe u L []) (hl : u.length ≤ 65536) : (scanS u).2.2 = 0 ∧ (scanS u).1.map erT = L := by
  obtain ⟨l, h1, h2⟩ := h
  rw [List.append_nil] at h1
  rw [sc_scan hl h1]
  exact ⟨rfl, h2⟩

/-! A state at a place between tokens. -/
def Cur (pre post : List Tok) (d : Int) : PS := ⟨pre ++ post, pre.length, 0, d, 0, 0⟩
variable {pre post : List Tok} {d : Int} {t : Tok}
theorem cur_tk : tkS (Cur pre (t :: post) d) = t := by
  unfold tkS Cur
  simp only [List.getD_eq_getElem?_getD]
  rw [List.getElem?_append_right (Nat.le_refl _), Nat.sub_self]; rfl
theorem cur_end : endP (Cur pre (t :: post) d) = false := by
  unfold endP Cur
  simp only [List.length_append, List.length_cons, Bool.or_eq_false_iff, decide_eq_false_iff_not]
  exact ⟨rfl, by omega⟩
theorem cur_nil : endP (Cur pre [] d) = true := by
  unfold endP Cur
  simp only [List.append_nil, Bool.or_eq_true, decide_eq_true_eq]
  exact .inr (Int.le_refl _)
theorem is_cur {w : Str} : isP w (Cur pre (t :: post) d) = ((t.text == w) && ((t.kind == 3) || ((t.kind == 0) && keyS w))) := by
  unfold isP; rw [cur_end, cur_tk]; rfl
theorem is_nil {w : Str} : isP w (Cur pre [] d) = false := by unfold isP; rw [cur_nil]; rfl
theorem nxt_cur {k : Int} : nxtP k (Cur pre (t :: post) d) = ((t.kind == k) && ((k != 0) || !(keyS t.text))) := by
  unfold nxtP; rw [cur_end, cur_tk]; rfl
theorem adv_cur : adv (Cur pre (t :: post) d) = Cur (pre ++ [t]) post d := by
  unfold adv Cur
  simp only [PS.mk.injEq, and_true]
  exact ⟨by simp, by simp⟩
theorem exp_cur {w : Str} (h : ((t.text == w) && ((t.kind == 3) || ((t.kind == 0) && keyS w))) = true) : expP w (Cur pre (t :: post) d) = Cur (pre ++ [t]) post d := by
  rw [exp_yes rfl (by rw [is_cur]; exact h), adv_cur]
theorem tok_cur {k : Int} (h : ((t.kind == k) && ((k != 0) || !(keyS t.text))) = true) : tokP k (Cur pre (t :: post) d) = Cur (pre ++ [t]) post d ∧ txtP k (Cur pre (t :: post) d) = t.text := by
  unfold tokP txtP
  rw [nxt_cur, h, adv_cur, cur_tk]
  exact ⟨rfl, rfl⟩
theorem deep_cur (h0 : 0 ≤ d) (h1 : d < 64) : deep (Cur pre post d) = Cur pre post (d + 1) := by
  unfold deep Cur
  simp only [PS.mk.injEq, true_and, and_true]
  exact wrap_id (by omega) (by omega)
theorem shallow_cur (h0 : 0 ≤ d) (h1 : d < 64) : shallow (Cur pre post (d + 1)) = Cur pre post d := by
  unfold shallow Cur
  simp only [PS.mk.injEq, true_and, and_true]
  rw [show d + 1 - 1 = d by omega]; exact wrap_id (by omega) (by omega)
def Era (l : List Tok) : Prop := l.map erT = l
theorem Era.app {l m : List Tok} (h : Era l) (k : Era m) : Era (l ++ m) := by unfold Era at *; rw [List.map_append, h, k]
theorem cur_ok (h : Era pre) (k : Era post) : Ok d (Cur pre post d) := ⟨by
  unfold er Cur
  simp only [List.map_append, PS.mk.injEq, and_true]
  rw [h, k], rfl, by unfold Cur; simp, rfl⟩
theorem cur_off (h : Era pre) (k : Era post) : offS (Cur pre post d) = 0 := (cur_ok h k).off

/-! What is read of a text alone, and within another one. -/
def Rdr (F : PS → Syn × PS) : Prop := Er F ∧ Bof F ∧ ∀ x : Cx, x.Pa → EmF x 0 F F
abbrev tks (s : Str) : List Tok := (scanS s).1.map erT
theorem begin_er (s : Str) (n : Int) : er (beginS (scanS s).1 n) = Cur [] (tks s) 0 := rfl
/-- What stands behind an expression, behind a pattern. -/
def Bex (post : List Tok) : Prop := ∀ c r, post = c :: r → c.kind = 3 ∧ (c.text = w_rpar ∨ c.text = w_comma)
def Bpa (post : List Tok) : Prop := ∀ c r, post = c :: r → c.kind = 3 ∧ c.text = w_rpar
/-! Expressions that are one operand. -/
theorem chain_none {F : PS → Syn × PS} {sg : List (Str × Int)} {s : PS} (h : sg.find? (fun x => isP x.1 (F s).2) = none) : chainP F sg s = F s := by
  unfold chainP fuel chainGo
  rw [h]
/-- No operation stands here. -/
def NoOp (s : PS) : Prop := (isP w_tor s = false ∧ isP w_tand s = false ∧ isP w_add s = false ∧ isP w_sub s = false) ∧ isP w_lt s = false ∧ isP w_le s = false ∧ isP w_gt s = false ∧ isP w_ge s = false ∧ isP w_eqq s = false ∧ isP w_neq s = false
section
variable {E N : PS → Syn × PS} {s : PS}
/-- An operand in parentheses. -/
theorem unit_paren (h0 : 0 ≤ d) (h1 : d < 64) {inner : List Tok} : unitP E (Cur pre (tlp :: inner) d) = ((E (Cur (pre ++ [tlp]) inner (d + 1))).1, shallow (expP w_rpar (E (Cur (pre ++ [tlp]) inner (d + 1))).2)) := by
  have e1 : isP w_lpar (Cur pre (tlp :: inner) d) = true := by rw [is_cur]; rfl
  have e2 : nestF (Cur pre (tlp :: inner) d) = Cur pre (tlp :: inner) d := by
    unfold nestF
    rw [if_neg (by simp only [decide_eq_true_eq]; exact (by omega : ¬ 64 ≤ d))]
  unfold unitP
  rw [if_pos e1, nestP_eq', e2, if_neg (show ¬ ((Cur pre (tlp :: inner) d).bad != 0) = true from (by decide : ¬ ((0 : Int) != 0) = true)), deep_cur h0 h1, adv_cur]
theorem unit_paren_good (h0 : 0 ≤ d) (h1 : d < 64) {inner pre' : List Tok} {a : Syn} (h : E (Cur (pre ++ [tlp]) inner (d + 1)) = (a, Cur pre' (trp :: post) (d + 1))) : unitP E (Cur pre (tlp :: inner) d) = (a, Cur (pre' ++ [trp]) post d) := by
  rw [unit_paren h0 h1, h]
  show (a, shallow (expP w_rpar (Cur pre' (trp :: post) (d + 1)))) = _
  rw [exp_cur (by decide), shallow_cur h0 h1]
end
/-- A number as an operand. -/
abbrev tnum (c : UInt8) : Tok := ⟨1, [c], 0⟩
abbrev snum (n : Int) : Syn := ⟨13, [], w_tint, n, [], 0⟩
/-! The results of whole texts. -/
theorem whole {F : PS → Syn × PS} (hF : Er F) {s : Str} {L : List Tok} (h : (scanS s).2.2 = 0 ∧ (scanS s).1.map erT = L) :
    (∀ t M, F (Cur [] L 0) = (t, Cur M [] 0) → (parseP F s).2.2 = 0 ∧ erS (parseP F s).1 = t) ∧ ((F (Cur [] L 0)).2.bad = 12 → (parseP F s).2.2 = 12) := by
  have e := hF (beginS (scanS s).1 s.length)
  rw [begin_er, show tks s = L from h.2] at e
  have ep : parseP F s = doneP (F (beginS (scanS s).1 s.length)) := by unfold parseP; rw [h.1]; rfl
  rw [ep]
  generalize F (beginS (scanS s).1 s.length) = r at e
  refine ⟨fun t M ht => ?_, fun h12 => ?_⟩
  · rw [ht] at e
    have e1 : t = erS r.1 := congrArg Prod.fst e
    have e2 : Cur M [] 0 = er r.2 := congrArg Prod.snd e
    have hb : r.2.bad = 0 := (congrArg PS.bad e2).symm
    have hp : r.2.pos = M.length := (congrArg PS.pos e2).symm
    have hl : r.2.toks.length = M.length := by
      have := congrArg (fun s : PS => s.toks.length) e2
      simp only [len_er, Cur, List.append_nil] at this
      exact this.symm
    unfold doneP
    simp only
    rw [show (if decide ((r.2.pos : Int) < (r.2.toks.length : Int)) then failP 4 r.2 else r.2) = r.2 from if_neg (by rw [hp, hl]; simp), if_neg (by rw [hb]; decide)]
    exact ⟨rfl, e1.symm⟩
  · have hb : r.2.bad = 12 := by rw [e] at h12; exact h12
    have hne : r.2.bad ≠ 0 := by rw [hb]; decide
    unfold doneP
    simp only
    rw [show (if decide ((r.2.pos : Int) < (r.2.toks.length : Int)) then failP 4 r.2 else r.2) = r.2 by split; exact fail_stay hne; rfl, if_pos (by rw [hb]; decide)]
    exact hb
end Go.Proofs.YtabkeeedkhgodaaGreatDoor

namespace Go.Proofs.YtabkeeedkhgodaaGreatDoor
open Go Go.Aw
set_option linter.unusedVariables false
set_option linter.unusedSimpArgs false
set_option maxRecDepth 100000

theorem sep_of {c : UInt8} {r : Str} (h : wordS c = false) (h2 : c ≠ 61) : Sepd (c :: r) := Sepd.cons h h2
/-! Parentheses. -/
def par2 (x : Str) : Str := ([40, 32, 40] ++ x) ++ [41, 41]
def par1 (x : Str) : Str := ([49, 32, 60, 32, 48, 32, 43, 32, 40] ++ x) ++ [41]
abbrev tlt : Tok := ⟨3, w_lt, 0⟩
abbrev tpl : Tok := ⟨3, w_add, 0⟩
/-! Texts within a query. -/
def emT (p x : Str) : Str := (((([113, 117, 101, 114, 121, 32, 113, 32, 98, 121, 32, 107, 32, 109, 97, 116, 99, 104, 32, 119, 104, 101, 114, 101, 40, 112, 108, 117, 115, 40] ++ p) ++ [41, 44, 32]) ++ x) ++ [41, 32, 114, 101, 116, 117, 114, 110, 32]) ++ x ++ [44, 32, 49, 59]
abbrev tw (w : Str) : Tok := ⟨0, w, 0⟩
abbrev tsm : Tok := ⟨3, w_semi, 0⟩
/-- The tokens ahead of the pattern. -/
abbrev emA : List Tok := [tw w_tquery, tw [113], tw w_by, tw [107], tw w_tmatch, tw w_twhere, tlp, tw w_plus, tlp]
section
variable {E T : PS → Syn × PS} {pre post post' : List Tok} {d : Int} {t : Tok}
theorem nest_cur {read : Syn → PS → Syn × PS} {z : Syn} (h0 : 0 ≤ d) (h1 : d < 64) : nestP read z (Cur pre (t :: post) d) = ((read z (Cur (pre ++ [t]) post (d + 1))).1, shallow (read z (Cur (pre ++ [t]) post (d + 1))).2) := by
  have e2 : nestF (Cur pre (t :: post) d) = Cur pre (t :: post) d := by
    unfold nestF
    rw [if_neg (by simp only [decide_eq_true_eq]; exact (by omega : ¬ 64 ≤ d))]
  rw [nestP_eq', e2, if_neg (show ¬ ((Cur pre (t :: post) d).bad != 0) = true from (by decide : ¬ ((0 : Int) != 0) = true)), deep_cur h0 h1, adv_cur]
theorem pat_form {f : Str × Int} (h0 : 0 ≤ d) (h1 : d < 64) (he : Era pre) (hq : Era (t :: post)) (hf : formL.find? (fun f => isP f.1 (Cur pre (t :: post) d)) = some f) :
    patP E T (Cur pre (t :: post) d) = ((patK E T f.2 ⟨f.2, [], [], 0, [], 0⟩ (Cur (pre ++ [t]) post (d + 1))).1, shallow (patK E T f.2 ⟨f.2, [], [], 0, [], 0⟩ (Cur (pre ++ [t]) post (d + 1))).2) := by
  unfold patP
  rw [hf]
  simp only
  rw [cur_off he hq]
  exact nest_cur (read := patK E T f.2) h0 h1
theorem patK_plus {z a : Syn} {M : List Tok} (h : T (Cur (pre ++ [tlp]) post d) = (a, Cur M (trp :: post') d)) : patK E T 9 z (Cur pre (tlp :: post) d) = ({ z with kids := [a] }, Cur (M ++ [trp]) post' d) := by
  unfold patK
  rw [exp_cur (by decide), h]
  show (({ z with kids := [a] } : Syn), expP w_rpar (Cur M (trp :: post') d)) = _
  rw [exp_cur (by decide)]
theorem patK_where {z a : Syn} {M inner : List Tok} (h : T (Cur (pre ++ [tlp]) post d) = (a, Cur M (tcm :: inner) d)) :
    patK E T 12 z (Cur pre (tlp :: post) d) = ({ z with kids := [a] ++ [(E (Cur (M ++ [tcm]) inner d)).1] }, expP w_rpar (E (Cur (M ++ [tcm]) inner d)).2) := by
  unfold patK
  rw [exp_cur (by decide), h]
  show (({ z with kids := [a] ++ [(E (expP w_comma (Cur M (tcm :: inner) d))).1] } : Syn), expP w_rpar (E (expP w_comma (Cur M (tcm :: inner) d))).2) = _
  rw [exp_cur (by decide)]
end
/-- The tree of the query. -/
def emS (P X : Syn) : Syn := ⟨3, [113], [], 0, [⟨4, [107], [], 0, [], 0⟩, ⟨12, [], [], 0, [⟨9, [], [], 0, [P], 0⟩, X], 0⟩, X, snum 1], 0⟩
/-! Other separators. -/
abbrev bs1 : Str := [32]
abbrev bs2 : Str := [10]
abbrev bs3 : Str := [32, 35, 32, 40, 10]
def Btw (b : Str) : Prop := b = bs1 ∨ b = bs2 ∨ b = bs3
/-- The texts of tokens with separators. -/
def spO (b : Str) : List Tok → Str
  | [] => []
  | t :: r => (writtenS t ++ b) ++ spO b r
/-! A query as a program. -/
theorem progGo_no {w : Str} {F : PS → Syn × PS} {n : Nat} {st : PS} {out : List Syn} (h : isP w st = false) : progGo w F n st out = (out, st) := by
  cases n with
  | zero => rfl
  | succ n => unfold progGo; rw [h]; rfl
theorem query_kind (E T : PS → Syn × PS) (st : PS) : (queryP E T st).1.kind = 3 := rfl
end Go.Proofs.YtabkeeedkhgodaaGreatDoor
