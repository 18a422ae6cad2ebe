/-
  A text within another one: what is read of it there is what is read of it alone, unless the nesting is too deep. No program in sight. No condition.
-/
import Derived.Test.YtpgmglacdcfnaaaDoorB12
import Derived.Test.YtpgmglacdcfnaaaDoorP15
namespace Go.Proofs.YtpgmglacdcfnaaaDoor
open Go Go.Aw
set_option linter.unusedVariables false
set_option linter.unusedSimpArgs false

/-- Where a text lies: tokens ahead, tokens behind, how much deeper. -/
structure Cx where
  pre : List Tok
  post : List Tok
  k : Int
  hk : 0 ≤ k
  hc : ∀ c r, post = c :: r → c.kind = 3
  hpre : pre.map erT = pre
  hpost : post.map erT = post
def emb (x : Cx) (st : PS) : PS := ⟨x.pre ++ (st.toks ++ x.post), x.pre.length + st.pos, st.fin, st.depth + x.k, st.bad, st.whr⟩
/-- No token w stands right behind. -/
def Cx.no (x : Cx) (w : Str) : Prop := ∀ c r, x.post = c :: r → (c.text == w) = false
structure Ok (d : Int) (st : PS) : Prop where
  era : er st = st
  dep : st.depth = d
  inn : st.pos ≤ st.toks.length
  good : st.bad = 0
structure EmR {α : Type} (x : Cx) (d : Int) (p q : α × PS) : Prop where
  good : p.2.bad = 0 → (q.2.bad = 12 ∧ 0 < x.k) ∨ (Ok d p.2 ∧ q = (p.1, emb x p.2))
  deep : p.2.bad = 12 → q.2.bad = 12
def EmF (x : Cx) (d : Int) (F G : PS → Syn × PS) : Prop := ∀ st, Ok d st → EmR x d (F st) (G (emb x st))
variable {x : Cx} {d : Int} {st : PS}
theorem EmR.same {α : Type} {p q : α × PS} (h : Ok d p.2) (e : q = (p.1, emb x p.2)) : EmR x d p q := ⟨fun _ => .inr ⟨h, e⟩, fun hb => absurd (h.good.symm.trans hb) (by decide)⟩
theorem EmR.bind {α β : Type} {p q : α × PS} {K L : α → PS → β × PS} (h : EmR x d p q) (sK : ∀ a s, Bo s (K a s).2) (sL : ∀ a s, Bo s (L a s).2) (hk : Ok d p.2 → EmR x d (K p.1 p.2) (L p.1 (emb x p.2))) : EmR x d (K p.1 p.2) (L q.1 q.2) := by
  have q12 : q.2.bad = 12 → (L q.1 q.2).2.bad = 12 := fun h12 => ((sL q.1 q.2).bad (by rw [h12]; decide)).trans h12
  refine ⟨fun hb => ?_, fun hb => ?_⟩
  · have hp : p.2.bad = 0 := Classical.byContradiction fun e => e (((sK p.1 p.2).bad e).symm.trans hb)
    rcases h.good hp with ⟨h12, hx⟩ | ⟨ok, e⟩
    · exact .inl ⟨q12 h12, hx⟩
    · rw [e]; exact (hk ok).good hb
  · by_cases hp : p.2.bad = 0
    · rcases h.good hp with ⟨h12, hx⟩ | ⟨ok, e⟩
      · exact q12 h12
      · rw [e]; exact (hk ok).deep hb
    · exact q12 (h.deep (((sK p.1 p.2).bad hp).symm.trans hb))
theorem Ok.off (h : Ok d st) : offS st = 0 := by rw [← h.era]; exact offS_er st
theorem Ok.embera (h : Ok d st) : er (emb x st) = emb x st := by
  have e1 : st.toks.map erT = st.toks := congrArg PS.toks h.era
  have e2 : (0 : Int) = st.fin := congrArg PS.fin h.era
  have e3 : (0 : Int) = st.whr := congrArg PS.whr h.era
  unfold er emb
  simp only [List.map_append, x.hpre, x.hpost, e1, PS.mk.injEq, true_and, and_true]
  exact ⟨e2, e3⟩
theorem Ok.offe (h : Ok d st) : offS (emb x st) = 0 := by rw [← h.embera (x := x)]; exact offS_er _
theorem emb_tk (h : st.pos < st.toks.length) : tkS (emb x st) = tkS st := by
  unfold tkS emb
  simp only [List.getD_eq_getElem?_getD]
  rw [List.getElem?_append_right (Nat.le_add_right ..), Nat.add_sub_cancel_left, List.getElem?_append_left h]
theorem emb_tkc {c : Tok} {r : List Tok} (hp : x.post = c :: r) (h : st.pos = st.toks.length) : tkS (emb x st) = c := by
  unfold tkS emb
  simp only [List.getD_eq_getElem?_getD]
  rw [List.getElem?_append_right (Nat.le_add_right ..), Nat.add_sub_cancel_left, List.getElem?_append_right (by omega), h, Nat.sub_self, hp]; rfl
theorem Ok.ende (h : Ok d st) (hl : st.pos < st.toks.length) : endP (emb x st) = false := by
  unfold endP emb
  rw [Bool.or_eq_false_iff, h.good, decide_eq_false_iff_not]
  simp only [List.length_append]
  exact ⟨rfl, by omega⟩
theorem Ok.endn (h : Ok d st) (hp : x.post = []) (hl : st.pos = st.toks.length) : endP (emb x st) = true := by
  unfold endP emb
  rw [Bool.or_eq_true, decide_eq_true_eq]
  simp only [List.length_append, hp, List.length_nil]
  exact .inr (by omega)
theorem Ok.endc (h : Ok d st) {c : Tok} {r : List Tok} (hp : x.post = c :: r) (hl : st.pos = st.toks.length) : endP (emb x st) = false := by
  unfold endP emb
  rw [Bool.or_eq_false_iff, h.good, decide_eq_false_iff_not]
  simp only [List.length_append, hp, List.length_cons]
  exact ⟨rfl, by omega⟩
theorem Ok.endo (h : Ok d st) : endP st = decide (st.pos = st.toks.length) := by
  have := h.inn
  unfold endP
  rw [h.good]
  show (false || decide ((st.toks.length : Int) ≤ (st.pos : Int))) = _
  rw [Bool.false_or]
  exact decide_eq_decide.2 ⟨fun _ => by omega, fun _ => by omega⟩
theorem isP_emb (h : Ok d st) {w : Str} (hw : x.no w) : isP w (emb x st) = isP w st := by
  have hi := h.inn
  unfold isP
  rw [h.endo]
  by_cases e : st.pos = st.toks.length
  · rw [decide_eq_true e]
    cases hp : x.post with
    | nil => rw [h.endn hp e]; rfl
    | cons c r => rw [h.endc hp e, emb_tkc hp e, hw c r hp]; rfl
  · rw [decide_eq_false e, h.ende (by omega), emb_tk (by omega)]
theorem isP_yes (h : Ok d st) {w : Str} (hi : isP w st = true) : isP w (emb x st) = true ∧ endP st = false := by
  unfold isP at hi ⊢
  cases e : endP st with
  | true => rw [e] at hi; exact absurd hi (by simp)
  | false => rw [e] at hi; rw [h.ende (not_end e), emb_tk (not_end e)]; exact ⟨hi, rfl⟩
theorem nxtP_emb (h : Ok d st) {k : Int} (hk : k ≠ 3) : nxtP k (emb x st) = nxtP k st := by
  have hi := h.inn
  unfold nxtP
  rw [h.endo]
  by_cases e : st.pos = st.toks.length
  · rw [decide_eq_true e]
    cases hp : x.post with
    | nil => rw [h.endn hp e]; rfl
    | cons c r =>
      have : ((3 : Int) == k) = false := by rw [beq_eq_false_iff_ne]; exact fun e => hk e.symm
      rw [h.endc hp e, emb_tkc hp e, x.hc c r hp, this]; rfl
  · rw [decide_eq_false e, h.ende (by omega), emb_tk (by omega)]
theorem nxt_end {k : Int} (hi : nxtP k st = true) : endP st = false := by
  unfold nxtP at hi
  cases e : endP st with
  | true => rw [e] at hi; exact absurd hi (by simp)
  | false => rfl
theorem is_end {w : Str} (hi : isP w st = true) : endP st = false := by
  unfold isP at hi
  cases e : endP st with
  | true => rw [e] at hi; exact absurd hi (by simp)
  | false => rfl
theorem txtP_emb (h : Ok d st) {k : Int} (hk : k ≠ 3) : txtP k (emb x st) = txtP k st := by
  unfold txtP
  rw [nxtP_emb h hk]
  split
  · rename_i hi; rw [emb_tk (not_end (nxt_end hi))]
  · rfl
theorem numP_emb (h : Ok d st) : numP (emb x st) = numP st := by
  unfold numP
  rw [nxtP_emb h (by decide)]
  split
  · rename_i hi; rw [emb_tk (not_end (nxt_end hi))]
  · rfl
theorem emb_adv : adv (emb x st) = emb x (adv st) := rfl
theorem Ok.adv (h : Ok d st) (he : endP st = false) : Ok d (adv st) := ⟨congrArg Go.Proofs.YtpgmglacdcfnaaaDoor.adv h.era, h.dep, not_end he, h.good⟩
theorem exp_yes (h : st.bad = 0) {w : Str} (hi : isP w st = true) : expP w st = adv st := by
  unfold expP
  rw [h, hi, acc_yes hi]; rfl
theorem exp_no (h : st.bad = 0) {w : Str} (hi : isP w st = false) : (expP w st).bad = 4 := by
  unfold expP
  rw [h, hi]
  unfold failP
  rw [h]; rfl
theorem tok_no (h : st.bad = 0) {k : Int} (hi : nxtP k st = false) : (tokP k st).bad = 4 := by
  unfold tokP
  rw [hi]
  unfold failP
  rw [h]; rfl
theorem EmR.four {α : Type} {p q : α × PS} (h : p.2.bad = 4) : EmR x d p q := ⟨fun e => absurd (h.symm.trans e) (by decide), fun e => absurd (h.symm.trans e) (by decide)⟩
theorem exp_em {α : Type} (a : α) (w : Str) (h : Ok d st) : EmR x d (a, expP w st) (a, expP w (emb x st)) := by
  cases hi : isP w st with
  | false => exact .four (exp_no h.good hi)
  | true =>
    have := isP_yes (x := x) h hi
    rw [exp_yes h.good hi, exp_yes (show (emb x st).bad = 0 from h.good) this.1]
    exact .same (h.adv this.2) rfl
theorem tok_em (k : Int) (hk : k ≠ 3) (h : Ok d st) : EmR x d (txtP k st, tokP k st) (txtP k (emb x st), tokP k (emb x st)) := by
  cases hi : nxtP k st with
  | false => exact .four (tok_no h.good hi)
  | true =>
    have e1 : tokP k st = adv st := by unfold tokP; rw [hi]; rfl
    have e2 : tokP k (emb x st) = adv (emb x st) := by unfold tokP; rw [nxtP_emb h hk, hi]; rfl
    rw [txtP_emb h hk, e1, e2]
    exact .same (h.adv (nxt_end hi)) rfl
theorem num_em (h : Ok d st) : EmR x d (numP st, tokP 1 st) (numP (emb x st), tokP 1 (emb x st)) := by
  cases hi : nxtP 1 st with
  | false => exact .four (tok_no h.good hi)
  | true =>
    have e1 : tokP 1 st = adv st := by unfold tokP; rw [hi]; rfl
    have e2 : tokP 1 (emb x st) = adv (emb x st) := by unfold tokP; rw [nxtP_emb h (by decide), hi]; rfl
    rw [numP_emb h, e1, e2]
    exact .same (h.adv (nxt_end hi)) rfl
theorem nest_em {read read' : Syn → PS → Syn × PS} {z : Syn} (h : Ok d st) (h0 : 0 ≤ d) (he : endP st = false) (hr : d + x.k < 64 → ∀ s, Ok (d + 1) s → EmR x (d + 1) (read z s) (read' z (emb x s))) : EmR x d (nestP read z st) (nestP read' z (emb x st)) := by
  have hkx := x.hk
  have hg : (st.bad != 0) = false := by rw [h.good]; rfl
  rw [nestP_eq', nestP_eq']
  by_cases h1 : 64 ≤ d + x.k
  · have e : nestF (emb x st) = { emb x st with bad := 12, whr := offS (emb x st) } := by
      unfold nestF
      rw [if_pos (decide_eq_true (show 64 ≤ (emb x st).depth by show 64 ≤ st.depth + x.k; rw [h.dep]; exact h1))]
      unfold failP
      rw [if_pos (show ((emb x st).bad == 0) = true by show (st.bad == 0) = true; rw [h.good]; rfl)]
    rw [e]
    by_cases h2 : 64 ≤ d
    · have e : nestF st = { st with bad := 12, whr := offS st } := by
        unfold nestF
        rw [if_pos (decide_eq_true (show 64 ≤ st.depth by rw [h.dep]; exact h2))]
        unfold failP
        rw [if_pos (show (st.bad == 0) = true by rw [h.good]; rfl)]
      rw [e]
      exact ⟨fun hb => absurd hb (by show ¬ (12 : Int) = 0; decide), fun _ => rfl⟩
    · exact ⟨fun _ => .inl ⟨rfl, by omega⟩, fun _ => rfl⟩
  · have e1 : nestF st = st := by unfold nestF; rw [if_neg (by rw [h.dep]; simp only [decide_eq_true_eq]; omega)]
    have e2 : nestF (emb x st) = emb x st := by unfold nestF; rw [if_neg (by show ¬ decide (64 ≤ st.depth + x.k) = true; rw [h.dep]; simp only [decide_eq_true_eq]; omega)]
    rw [e1, hg, e2, show ((emb x st).bad != 0) = false from hg]
    simp only [Bool.false_eq_true, ↓reduceIte]
    have w1 : IntKind.i64.wrap (st.depth + 1) = d + 1 := by rw [h.dep]; exact wrap_id (by omega) (by omega)
    have w2 : IntKind.i64.wrap (st.depth + x.k + 1) = d + 1 + x.k := by rw [h.dep, show d + x.k + 1 = d + 1 + x.k by omega]; exact wrap_id (by omega) (by omega)
    have ee : adv (deep (emb x st)) = emb x (adv (deep st)) := by
      unfold Go.Proofs.YtpgmglacdcfnaaaDoor.deep emb adv
      simp only [PS.mk.injEq, true_and, and_true]
      exact ⟨Nat.add_assoc .., w2.trans (by rw [w1])⟩
    have ok : Ok (d + 1) (adv (Go.Proofs.YtpgmglacdcfnaaaDoor.deep st)) := ⟨congrArg (fun s => adv (Go.Proofs.YtpgmglacdcfnaaaDoor.deep s)) h.era, w1, not_end he, h.good⟩
    rw [ee]
    have hrr := hr (by omega) _ ok
    refine ⟨fun hb => ?_, fun hb => hrr.deep hb⟩
    rcases hrr.good hb with h12 | ⟨o, e⟩
    · exact .inl h12
    · refine .inr ⟨⟨congrArg shallow o.era, ?_, o.inn, o.good⟩, ?_⟩
      · show IntKind.i64.wrap ((read z (adv (Go.Proofs.YtpgmglacdcfnaaaDoor.deep st))).2.depth - 1) = d
        rw [o.dep, show d + 1 - 1 = d by omega]; exact wrap_id (by omega) (by omega)
      · rw [e]
        simp only [Prod.mk.injEq, true_and]
        unfold shallow emb
        simp only [PS.mk.injEq, true_and, and_true]
        rw [o.dep, show d + 1 + x.k - 1 = d + x.k by omega, show d + 1 - 1 = d by omega, wrap_id (by omega) (by omega), wrap_id (by omega) (by omega)]

/-! Expressions. -/
/-- What may stand behind an expression. -/
def Cx.Ex (x : Cx) : Prop := ∀ c r, x.post = c :: r → c.text = w_rpar ∨ c.text = w_comma
/-- What may stand behind a pattern. -/
def Cx.Pa (x : Cx) : Prop := ∀ c r, x.post = c :: r → c.text = w_rpar
theorem Cx.Pa.ex (h : x.Pa) : x.Ex := fun c r e => .inl (h c r e)
theorem Cx.Pa.ne {w : Str} (h : x.Pa) (h1 : (w_rpar == w) = false) : x.no w := fun c r e => by rw [h c r e]; exact h1
theorem Cx.Ex.ne {w : Str} (h : x.Ex) (h1 : (w_rpar == w) = false) (h2 : (w_comma == w) = false) : x.no w := fun c r e => by
  rcases h c r e with h | h
  · rw [h]; exact h1
  · rw [h]; exact h2
theorem const_em (hx : x.Ex) (h : Ok d st) : EmR x d (constP st) (constP (emb x st)) := by
  unfold constP
  simp only [h.off, h.offe]
  rw [isP_emb h (hx.ne (by decide) (by decide)), isP_emb h (hx.ne (by decide) (by decide)), isP_emb h (hx.ne (by decide) (by decide)), nxtP_emb h (by decide)]
  cases h1 : isP w_sub st with
  | true =>
    simp only [↓reduceIte]
    exact (num_em (x := x) (h.adv (is_end h1))).bind (K := fun a s => ((⟨13, [], w_tint, 0 - a, [], 0⟩ : Syn), s)) (L := fun a s => ((⟨13, [], w_tint, 0 - a, [], 0⟩ : Syn), s)) (fun _ s => .refl s) (fun _ s => .refl s) (fun o => .same o rfl)
  | false =>
    simp only [Bool.false_eq_true, ↓reduceIte]
    cases h2 : nxtP 1 st with
    | true =>
      simp only [↓reduceIte]
      exact (num_em (x := x) h).bind (K := fun a s => ((⟨13, [], w_tint, a, [], 0⟩ : Syn), s)) (L := fun a s => ((⟨13, [], w_tint, a, [], 0⟩ : Syn), s)) (fun _ s => .refl s) (fun _ s => .refl s) (fun o => .same o rfl)
    | false =>
      simp only [Bool.false_eq_true, ↓reduceIte]
      cases h3 : isP w_ttrue st with
      | true => exact .same (h.adv (is_end h3)) rfl
      | false =>
        simp only [Bool.false_eq_true, ↓reduceIte]
        cases h4 : isP w_tfalse st with
        | true => exact .same (h.adv (is_end h4)) rfl
        | false =>
          simp only [Bool.false_eq_true, ↓reduceIte]
          exact (tok_em (x := x) 2 (by decide) h).bind (K := fun a s => ((⟨13, a, w_tstring, 0, [], 0⟩ : Syn), s)) (L := fun a s => ((⟨13, a, w_tstring, 0, [], 0⟩ : Syn), s)) (fun _ s => .refl s) (fun _ s => .refl s) (fun o => .same o rfl)
theorem ins_em (h : Ok d st) : EmR x d (insP st) (insP (emb x st)) := by
  have k1 : ∀ (a : Str) (s : PS), Ok d s → EmR x d ((a, txtP 0 s), tokP 0 s) ((a, txtP 0 (emb x s)), tokP 0 (emb x s)) := fun a s o =>
    (tok_em (x := x) 0 (by decide) o).bind (K := fun b s => ((a, b), s)) (L := fun b s => ((a, b), s)) (fun _ s => .refl s) (fun _ s => .refl s) (fun o => .same o rfl)
  have k2 : ∀ (a : Str) (s : PS), Ok d s → EmR x d ((a, txtP 0 (expP w_dot s)), tokP 0 (expP w_dot s)) ((a, txtP 0 (expP w_dot (emb x s))), tokP 0 (expP w_dot (emb x s))) := fun a s o =>
    (exp_em (x := x) a w_dot o).bind (K := fun a s => ((a, txtP 0 s), tokP 0 s)) (L := fun a s => ((a, txtP 0 s), tokP 0 s)) (fun _ s => .tok _ _) (fun _ s => .tok _ _) (fun o => k1 a _ o)
  have k3 : ∀ (s : PS), Ok d s → EmR x d ((txtP 0 s, txtP 0 (expP w_dot (tokP 0 s))), tokP 0 (expP w_dot (tokP 0 s))) ((txtP 0 (emb x s), txtP 0 (expP w_dot (tokP 0 (emb x s)))), tokP 0 (expP w_dot (tokP 0 (emb x s)))) := fun s o =>
    (tok_em (x := x) 0 (by decide) o).bind (K := fun a s => ((a, txtP 0 (expP w_dot s)), tokP 0 (expP w_dot s))) (L := fun a s => ((a, txtP 0 (expP w_dot s)), tokP 0 (expP w_dot s))) (fun _ s => (Bo.exp _ _).trans (.tok _ _)) (fun _ s => (Bo.exp _ _).trans (.tok _ _)) (fun o => k2 _ _ o)
  exact (exp_em (x := x) () w_lpar h).bind (K := fun _ s => ((txtP 0 s, txtP 0 (expP w_dot (tokP 0 s))), tokP 0 (expP w_dot (tokP 0 s)))) (L := fun _ s => ((txtP 0 s, txtP 0 (expP w_dot (tokP 0 s))), tokP 0 (expP w_dot (tokP 0 s)))) (fun _ s => ((Bo.tok _ _).trans (.exp _ _)).trans (.tok _ _)) (fun _ s => ((Bo.tok _ _).trans (.exp _ _)).trans (.tok _ _)) (fun o => k3 _ o)
theorem find_emb (hx : x.Ex) (h : Ok d st) : ∀ l : List (Str × Int), (l.all fun s => !(w_rpar == s.1) && !(w_comma == s.1)) = true → l.find? (fun s => isP s.1 (emb x st)) = l.find? (fun s => isP s.1 st)
  | [], _ => rfl
  | a :: r, hl => by
    rw [List.all_cons, Bool.and_eq_true, Bool.and_eq_true, Bool.not_eq_true', Bool.not_eq_true'] at hl
    rw [List.find?_cons, List.find?_cons, isP_emb h (hx.ne hl.1.1 hl.1.2), find_emb hx h r hl.2]
theorem find_is {l : List (Str × Int)} {s : Str × Int} (h : l.find? (fun s => isP s.1 st) = some s) : isP s.1 st = true := by
  have := List.find?_some h
  exact this
theorem unit_em (hx : x.Ex) (h0 : 0 ≤ d) {E E' : PS → Syn × PS} (sE : Bof E) (sE' : Bof E') (hE : d + x.k < 64 → EmF x (d + 1) E E') : EmF x d (unitP E) (unitP E') := fun st h => by
  unfold unitP
  simp only [h.off, h.offe]
  rw [isP_emb h (hx.ne (by decide) (by decide)) (w := w_tsum), isP_emb h (hx.ne (by decide) (by decide)) (w := w_tcount), isP_emb h (hx.ne (by decide) (by decide)) (w := w_lpar), nxtP_emb h (by decide), find_emb hx h totL (by decide)]
  cases h1 : isP w_lpar st with
  | true =>
    simp only [↓reduceIte]
    exact nest_em h h0 (is_end h1) fun hk s o => (hE hk s o).bind (K := fun a s => (a, expP w_rpar s)) (L := fun a s => (a, expP w_rpar s)) (fun _ s => .exp _ _) (fun _ s => .exp _ _) (fun o => exp_em _ _ o)
  | false =>
    simp only [Bool.false_eq_true, ↓reduceIte]
    cases h2 : totL.find? (fun s => isP s.1 st) with
    | some s =>
      have h3 := h.adv (is_end (find_is h2))
      rw [emb_adv]
      have k1 : ∀ (i : Str × Str) (a : Syn) (t : PS), Ok d t → EmR x d ((⟨16, i.1, i.2, s.2, [a], 0⟩ : Syn), expP w_rpar t) (⟨16, i.1, i.2, s.2, [a], 0⟩, expP w_rpar (emb x t)) := fun i a t o => exp_em _ _ o
      have k2 : ∀ (i : Str × Str) (t : PS), Ok d t → EmR x d ((⟨16, i.1, i.2, s.2, [(constP t).1], 0⟩ : Syn), expP w_rpar (constP t).2) (⟨16, i.1, i.2, s.2, [(constP (emb x t)).1], 0⟩, expP w_rpar (constP (emb x t)).2) := fun i t o =>
        (const_em hx o).bind (K := fun a t => ((⟨16, i.1, i.2, s.2, [a], 0⟩ : Syn), expP w_rpar t)) (L := fun a t => ((⟨16, i.1, i.2, s.2, [a], 0⟩ : Syn), expP w_rpar t)) (fun _ _ => .exp _ _) (fun _ _ => .exp _ _) (fun o => k1 i _ _ o)
      have k3 : ∀ (i : Str × Str) (t : PS), Ok d t → EmR x d ((⟨16, i.1, i.2, s.2, [(constP (expP w_comma t)).1], 0⟩ : Syn), expP w_rpar (constP (expP w_comma t)).2) (⟨16, i.1, i.2, s.2, [(constP (expP w_comma (emb x t))).1], 0⟩, expP w_rpar (constP (expP w_comma (emb x t))).2) := fun i t o =>
        (exp_em (x := x) () w_comma o).bind (K := fun _ t => ((⟨16, i.1, i.2, s.2, [(constP t).1], 0⟩ : Syn), expP w_rpar (constP t).2)) (L := fun _ t => ((⟨16, i.1, i.2, s.2, [(constP t).1], 0⟩ : Syn), expP w_rpar (constP t).2)) (fun _ t => (bo_const t).trans (.exp _ _)) (fun _ t => (bo_const t).trans (.exp _ _)) (fun o => k2 i _ o)
      exact (ins_em (x := x) h3).bind (K := fun i t => ((⟨16, i.1, i.2, s.2, [(constP (expP w_comma t)).1], 0⟩ : Syn), expP w_rpar (constP (expP w_comma t)).2)) (L := fun i t => ((⟨16, i.1, i.2, s.2, [(constP (expP w_comma t)).1], 0⟩ : Syn), expP w_rpar (constP (expP w_comma t)).2)) (fun _ t => ((Bo.exp _ _).trans (bo_const _)).trans (.exp _ _)) (fun _ t => ((Bo.exp _ _).trans (bo_const _)).trans (.exp _ _)) (fun o => k3 _ _ o)
    | none =>
      simp only
      cases h3 : isP w_tsum st with
      | true =>
        simp only [↓reduceIte]
        exact (ins_em (x := x) (h.adv (is_end h3))).bind (K := fun i t => ((⟨16, i.1, i.2, 1, [], 0⟩ : Syn), expP w_rpar t)) (L := fun i t => ((⟨16, i.1, i.2, 1, [], 0⟩ : Syn), expP w_rpar t)) (fun _ t => .exp _ _) (fun _ t => .exp _ _) (fun o => exp_em _ _ o)
      | false =>
        simp only [Bool.false_eq_true, ↓reduceIte]
        cases h4 : isP w_tcount st with
        | true =>
          simp only [↓reduceIte]
          have k1 : ∀ t, Ok d t → EmR x d ((⟨15, txtP 0 t, [], 0, [], 0⟩ : Syn), expP w_rpar (tokP 0 t)) (⟨15, txtP 0 (emb x t), [], 0, [], 0⟩, expP w_rpar (tokP 0 (emb x t))) := fun t o =>
            (tok_em (x := x) 0 (by decide) o).bind (K := fun a t => ((⟨15, a, [], 0, [], 0⟩ : Syn), expP w_rpar t)) (L := fun a t => ((⟨15, a, [], 0, [], 0⟩ : Syn), expP w_rpar t)) (fun _ _ => .exp _ _) (fun _ _ => .exp _ _) (fun o => exp_em _ _ o)
          exact (exp_em (x := x) () w_lpar (h.adv (is_end h4))).bind (K := fun _ t => ((⟨15, txtP 0 t, [], 0, [], 0⟩ : Syn), expP w_rpar (tokP 0 t))) (L := fun _ t => ((⟨15, txtP 0 t, [], 0, [], 0⟩ : Syn), expP w_rpar (tokP 0 t))) (fun _ _ => (Bo.tok _ _).trans (.exp _ _)) (fun _ _ => (Bo.tok _ _).trans (.exp _ _)) (fun o => k1 _ o)
        | false =>
          simp only [Bool.false_eq_true, ↓reduceIte]
          cases h5 : nxtP 0 st with
          | false =>
            simp only [Bool.false_eq_true, ↓reduceIte]
            exact const_em hx h
          | true =>
            simp only [↓reduceIte]
            have k0 : ∀ (a : Str) (t : PS), Bo t (if isP w_ttime t then ((⟨14, a, w_ttime, 0, [], 0⟩ : Syn), adv t) else (⟨14, a, txtP 0 t, 0, [], 0⟩, tokP 0 t)).2 := fun a t => by
              split
              · exact .adv _
              · exact .tok _ _
            have k1 : ∀ (a : Str) (t : PS), Ok d t → EmR x d (if isP w_ttime t then ((⟨14, a, w_ttime, 0, [], 0⟩ : Syn), adv t) else (⟨14, a, txtP 0 t, 0, [], 0⟩, tokP 0 t)) (if isP w_ttime (emb x t) then ((⟨14, a, w_ttime, 0, [], 0⟩ : Syn), adv (emb x t)) else (⟨14, a, txtP 0 (emb x t), 0, [], 0⟩, tokP 0 (emb x t))) := fun a t o => by
              rw [isP_emb o (hx.ne (by decide) (by decide))]
              cases h6 : isP w_ttime t with
              | true => exact .same (o.adv (is_end h6)) rfl
              | false =>
                exact (tok_em (x := x) 0 (by decide) o).bind (K := fun b t => ((⟨14, a, b, 0, [], 0⟩ : Syn), t)) (L := fun b t => ((⟨14, a, b, 0, [], 0⟩ : Syn), t)) (fun _ s => .refl s) (fun _ s => .refl s) (fun o => .same o rfl)
            have k2 : ∀ (a : Str) (t : PS), Ok d t → EmR x d (if isP w_ttime (expP w_dot t) then ((⟨14, a, w_ttime, 0, [], 0⟩ : Syn), adv (expP w_dot t)) else (⟨14, a, txtP 0 (expP w_dot t), 0, [], 0⟩, tokP 0 (expP w_dot t))) (if isP w_ttime (expP w_dot (emb x t)) then ((⟨14, a, w_ttime, 0, [], 0⟩ : Syn), adv (expP w_dot (emb x t))) else (⟨14, a, txtP 0 (expP w_dot (emb x t)), 0, [], 0⟩, tokP 0 (expP w_dot (emb x t)))) := fun a t o =>
              (exp_em (x := x) () w_dot o).bind (K := fun _ t => if isP w_ttime t then ((⟨14, a, w_ttime, 0, [], 0⟩ : Syn), adv t) else (⟨14, a, txtP 0 t, 0, [], 0⟩, tokP 0 t)) (L := fun _ t => if isP w_ttime t then ((⟨14, a, w_ttime, 0, [], 0⟩ : Syn), adv t) else (⟨14, a, txtP 0 t, 0, [], 0⟩, tokP 0 t)) (fun _ t => k0 a t) (fun _ t => k0 a t) (fun o => k1 a _ o)
            exact (tok_em (x := x) 0 (by decide) h).bind (K := fun a t => if isP w_ttime (expP w_dot t) then ((⟨14, a, w_ttime, 0, [], 0⟩ : Syn), adv (expP w_dot t)) else (⟨14, a, txtP 0 (expP w_dot t), 0, [], 0⟩, tokP 0 (expP w_dot t))) (L := fun a t => if isP w_ttime (expP w_dot t) then ((⟨14, a, w_ttime, 0, [], 0⟩ : Syn), adv (expP w_dot t)) else (⟨14, a, txtP 0 (expP w_dot t), 0, [], 0⟩, tokP 0 (expP w_dot t))) (fun a t => (Bo.exp _ _).trans (k0 a _)) (fun a t => (Bo.exp _ _).trans (k0 a _)) (fun o => k2 _ _ o)
theorem bo_isadv {F : PS → Syn × PS} (hF : Bof F) (s : PS) : Bo s (F (adv s)).2 := (Bo.adv _).trans (hF _)
theorem chainGo_em (hx : x.Ex) {F G : PS → Syn × PS} (sF : Bof F) (sG : Bof G) (hF : EmF x d F G) {sg : List (Str × Int)} (hs : (sg.all fun s => !(w_rpar == s.1) && !(w_comma == s.1)) = true) : ∀ (n m : Nat) (st : PS) (out : Syn), Ok d st → st.toks.length - st.pos < n → st.toks.length - st.pos < m → EmR x d (chainGo F sg n st out) (chainGo G sg m (emb x st) out)
  | 0, _, st, out, _, h1, _ => absurd h1 (Nat.not_lt_zero _)
  | _ + 1, 0, st, out, _, _, h2 => absurd h2 (Nat.not_lt_zero _)
  | n + 1, m + 1, st, out, h, h1, h2 => by
    unfold chainGo
    rw [find_emb hx h sg hs]
    cases hf : sg.find? (fun s => isP s.1 st) with
    | none => exact .same h rfl
    | some s =>
      simp only
      have hend := is_end (find_is hf)
      have hlt := not_end hend
      have hb := bo_isadv sF st
      refine (hF _ (h.adv hend)).bind (K := fun a t => chainGo F sg n t (binS s.2 out a out.pos)) (L := fun a t => chainGo G sg m t (binS s.2 out a out.pos)) (fun a t => bo_chainGo sF n t _ trivial) (fun a t => bo_chainGo sG m t _ trivial) (fun o => ?_)
      have hp : st.pos + 1 ≤ (F (adv st)).2.pos := (sF (adv st)).pos
      have ht : (F (adv st)).2.toks = st.toks := hb.toks
      exact chainGo_em hx sF sG hF hs n m _ _ o (by rw [ht]; omega) (by rw [ht]; omega)
theorem fuel_emb (h : Ok d st) : st.toks.length - st.pos < fuel (emb x st) := by
  unfold fuel emb
  simp only [List.length_append]
  omega
theorem chain_em (hx : x.Ex) {F G : PS → Syn × PS} (sF : Bof F) (sG : Bof G) (hF : EmF x d F G) {sg : List (Str × Int)} (hs : (sg.all fun s => !(w_rpar == s.1) && !(w_comma == s.1)) = true) : EmF x d (chainP F sg) (chainP G sg) := fun st h => by
  unfold chainP
  exact (hF st h).bind (K := fun a t => chainGo F sg (fuel t) t a) (L := fun a t => chainGo G sg (fuel t) t a) (fun a t => bo_chainGo sF _ t _ trivial) (fun a t => bo_chainGo sG _ t _ trivial) (fun o => chainGo_em hx sF sG hF hs _ _ _ _ o (Nat.lt_succ_self _) (fuel_emb o))
section
variable {E E' N N' : PS → Syn × PS}
theorem sum_em (hx : x.Ex) (h0 : 0 ≤ d) (sE : Bof E) (sE' : Bof E') (hE : d + x.k < 64 → EmF x (d + 1) E E') : EmF x d (sumP E) (sumP E') := chain_em hx (bof_unit sE) (bof_unit sE') (unit_em hx h0 sE sE' hE) (by decide)
/-- What follows the first operand of a comparison. -/
def cmpK (E : PS → Syn × PS) (a : Syn) (s : PS) : Syn × PS :=
  if isP w_lt s then (binS 7 a (sumP E (adv s)).1 a.pos, (sumP E (adv s)).2)
  else if isP w_le s then (binS 8 a (sumP E (adv s)).1 a.pos, (sumP E (adv s)).2)
  else if isP w_gt s then (binS 7 (sumP E (adv s)).1 a a.pos, (sumP E (adv s)).2)
  else if isP w_ge s then (binS 8 (sumP E (adv s)).1 a a.pos, (sumP E (adv s)).2)
  else if isP w_eqq s then (binS 9 a (sumP E (adv s)).1 a.pos, (sumP E (adv s)).2)
  else if isP w_neq s then (⟨18, [], [], 0, [binS 9 a (sumP E (adv s)).1 a.pos], a.pos⟩, (sumP E (adv s)).2)
  else (a, s)
theorem cmpP_K (E : PS → Syn × PS) (st : PS) : cmpP E st = cmpK E (sumP E st).1 (sumP E st).2 := rfl
theorem bo_cmpK (sE : Bof E) (a : Syn) (s : PS) : Bo s (cmpK E a s).2 := by
  unfold cmpK
  have := bo_isadv (bof_sum sE) s
  repeat' split
  all_goals first | exact this | exact .refl _
theorem cmpK_em (hx : x.Ex) (h0 : 0 ≤ d) (sE : Bof E) (sE' : Bof E') (hE : d + x.k < 64 → EmF x (d + 1) E E') (a : Syn) {s : PS} (h : Ok d s) : EmR x d (cmpK E a s) (cmpK E' a (emb x s)) := by
  have hS := sum_em hx h0 sE sE' hE
  have key : ∀ (K : Syn → Syn) {w : Str}, isP w s = true → EmR x d (K (sumP E (adv s)).1, (sumP E (adv s)).2) (K (sumP E' (adv (emb x s))).1, (sumP E' (adv (emb x s))).2) := fun K w hw =>
    (hS _ (h.adv (is_end hw))).bind (K := fun b t => (K b, t)) (L := fun b t => (K b, t)) (fun _ s => .refl s) (fun _ s => .refl s) (fun o => .same o rfl)
  unfold cmpK
  rw [isP_emb h (hx.ne (by decide) (by decide)) (w := w_lt), isP_emb h (hx.ne (by decide) (by decide)) (w := w_le), isP_emb h (hx.ne (by decide) (by decide)) (w := w_gt), isP_emb h (hx.ne (by decide) (by decide)) (w := w_ge), isP_emb h (hx.ne (by decide) (by decide)) (w := w_eqq), isP_emb h (hx.ne (by decide) (by decide)) (w := w_neq)]
  split
  · rename_i hw; exact key (fun b => binS 7 a b a.pos) hw
  · split
    · rename_i hw; exact key (fun b => binS 8 a b a.pos) hw
    · split
      · rename_i hw; exact key (fun b => binS 7 b a a.pos) hw
      · split
        · rename_i hw; exact key (fun b => binS 8 b a a.pos) hw
        · split
          · rename_i hw; exact key (fun b => binS 9 a b a.pos) hw
          · split
            · rename_i hw; exact key (fun b => ⟨18, [], [], 0, [binS 9 a b a.pos], a.pos⟩) hw
            · exact .same h rfl
theorem cmp_em (hx : x.Ex) (h0 : 0 ≤ d) (sE : Bof E) (sE' : Bof E') (hE : d + x.k < 64 → EmF x (d + 1) E E') : EmF x d (cmpP E) (cmpP E') := fun st h => by
  rw [cmpP_K, cmpP_K]
  exact (sum_em hx h0 sE sE' hE st h).bind (K := cmpK E) (L := cmpK E') (bo_cmpK sE) (bo_cmpK sE') (fun o => cmpK_em hx h0 sE sE' hE _ o)
theorem not_em (hx : x.Ex) (h0 : 0 ≤ d) (sE : Bof E) (sE' : Bof E') (sN : Bof N) (sN' : Bof N') (hE : d + x.k < 64 → EmF x (d + 1) E E') (hN : d + x.k < 64 → EmF x (d + 1) N N') : EmF x d (notP E N) (notP E' N') := fun st h => by
  unfold notP
  rw [isP_emb h (hx.ne (by decide) (by decide)), h.off, h.offe]
  cases h1 : isP w_tnot st with
  | false => exact cmp_em hx h0 sE sE' hE st h
  | true =>
    simp only [Bool.not_true, Bool.false_eq_true, ↓reduceIte]
    exact nest_em h h0 (is_end h1) fun hk s o => (hN hk s o).bind (K := fun a s => ((⟨18, [], [], 0, [a], 0⟩ : Syn), s)) (L := fun a s => ((⟨18, [], [], 0, [a], 0⟩ : Syn), s)) (fun _ s => .refl s) (fun _ s => .refl s) (fun o => .same o rfl)
theorem or_em (hx : x.Ex) (h0 : 0 ≤ d) (sE : Bof E) (sE' : Bof E') (sN : Bof N) (sN' : Bof N') (hE : d + x.k < 64 → EmF x (d + 1) E E') (hN : d + x.k < 64 → EmF x (d + 1) N N') : EmF x d (orP E N) (orP E' N') :=
  chain_em hx (bof_chain (bof_not sE sN) andL) (bof_chain (bof_not sE' sN') andL) (chain_em hx (bof_not sE sN) (bof_not sE' sN') (not_em hx h0 sE sE' sN sN' hE hN) (by decide)) (by decide)
end
theorem neg_em (hx : x.Ex) : ∀ (n m : Nat) (d : Int), 0 ≤ d → 64 ≤ (n : Int) + d → 64 ≤ (m : Int) + d + x.k → EmF x d (negN n).1 (negN m).1 ∧ EmF x d (negN n).2 (negN m).2
  | 0, 0, d, h0, h1, h2 => ⟨not_em hx h0 bof_dull bof_dull bof_dull bof_dull (fun h => by have := x.hk; omega) (fun h => by have := x.hk; omega), or_em hx h0 bof_dull bof_dull bof_dull bof_dull (fun h => by have := x.hk; omega) (fun h => by have := x.hk; omega)⟩
  | 0, m + 1, d, h0, h1, h2 => ⟨not_em hx h0 bof_dull (bof_neg m).2 bof_dull (bof_neg m).1 (fun h => by have := x.hk; omega) (fun h => by have := x.hk; omega), or_em hx h0 bof_dull (bof_neg m).2 bof_dull (bof_neg m).1 (fun h => by have := x.hk; omega) (fun h => by have := x.hk; omega)⟩
  | n + 1, 0, d, h0, h1, h2 => ⟨not_em hx h0 (bof_neg n).2 bof_dull (bof_neg n).1 bof_dull (fun h => by omega) (fun h => by omega), or_em hx h0 (bof_neg n).2 bof_dull (bof_neg n).1 bof_dull (fun h => by omega) (fun h => by omega)⟩
  | n + 1, m + 1, d, h0, h1, h2 => by
    obtain ⟨i1, i2⟩ := neg_em hx n m (d + 1) (by omega) (by omega) (by omega)
    exact ⟨not_em hx h0 (bof_neg n).2 (bof_neg m).2 (bof_neg n).1 (bof_neg m).1 (fun _ => i2) (fun _ => i1), or_em hx h0 (bof_neg n).2 (bof_neg m).2 (bof_neg n).1 (bof_neg m).1 (fun _ => i2) (fun _ => i1)⟩
theorem expr_em (hx : x.Ex) {n m : Nat} {d : Int} (h0 : 0 ≤ d) (h1 : 64 ≤ (n : Int) + d) (h2 : 64 ≤ (m : Int) + d + x.k) : EmF x d (exprN n) (exprN m) := (neg_em hx n m d h0 h1 h2).2

/-! Patterns. -/
section
variable {E E' T T' : PS → Syn × PS}
theorem event_em (hx : x.Ex) (sE : Bof E) (sE' : Bof E') (hE : EmF x d E E') : EmF x d (eventP E) (eventP E') := fun st h => by
  unfold eventP
  simp only [h.off, h.offe]
  have b0 : ∀ {E : PS → Syn × PS} (sE : Bof E) (a b : Str) (t : PS), Bo t (if isP w_tif t then ((⟨5, a, b, 0, [(E (adv t)).1], 0⟩ : Syn), (E (adv t)).2) else (⟨5, a, b, 0, [], 0⟩, t)).2 := fun sE a b t => by
    split
    · exact bo_isadv sE t
    · exact .refl _
  have k1 : ∀ (a b : Str) (t : PS), Ok d t → EmR x d (if isP w_tif t then ((⟨5, a, b, 0, [(E (adv t)).1], 0⟩ : Syn), (E (adv t)).2) else (⟨5, a, b, 0, [], 0⟩, t)) (if isP w_tif (emb x t) then ((⟨5, a, b, 0, [(E' (adv (emb x t))).1], 0⟩ : Syn), (E' (adv (emb x t))).2) else (⟨5, a, b, 0, [], 0⟩, emb x t)) := fun a b t o => by
    rw [isP_emb o (hx.ne (by decide) (by decide))]
    cases h6 : isP w_tif t with
    | false => exact .same o rfl
    | true => exact (hE _ (o.adv (is_end h6))).bind (K := fun e t => ((⟨5, a, b, 0, [e], 0⟩ : Syn), t)) (L := fun e t => ((⟨5, a, b, 0, [e], 0⟩ : Syn), t)) (fun _ s => .refl s) (fun _ s => .refl s) (fun o => .same o rfl)
  have k2 : ∀ (a : Str) (t : PS), Ok d t → EmR x d (if isP w_tif (tokP 0 t) then ((⟨5, a, txtP 0 t, 0, [(E (adv (tokP 0 t))).1], 0⟩ : Syn), (E (adv (tokP 0 t))).2) else (⟨5, a, txtP 0 t, 0, [], 0⟩, tokP 0 t)) (if isP w_tif (tokP 0 (emb x t)) then ((⟨5, a, txtP 0 (emb x t), 0, [(E' (adv (tokP 0 (emb x t)))).1], 0⟩ : Syn), (E' (adv (tokP 0 (emb x t)))).2) else (⟨5, a, txtP 0 (emb x t), 0, [], 0⟩, tokP 0 (emb x t))) := fun a t o =>
    (tok_em (x := x) 0 (by decide) o).bind (K := fun b t => if isP w_tif t then ((⟨5, a, b, 0, [(E (adv t)).1], 0⟩ : Syn), (E (adv t)).2) else (⟨5, a, b, 0, [], 0⟩, t)) (L := fun b t => if isP w_tif t then ((⟨5, a, b, 0, [(E' (adv t)).1], 0⟩ : Syn), (E' (adv t)).2) else (⟨5, a, b, 0, [], 0⟩, t)) (b0 sE a) (b0 sE' a) (fun o => k1 a _ _ o)
  exact (tok_em (x := x) 0 (by decide) h).bind (K := fun a t => if isP w_tif (tokP 0 t) then ((⟨5, a, txtP 0 t, 0, [(E (adv (tokP 0 t))).1], 0⟩ : Syn), (E (adv (tokP 0 t))).2) else (⟨5, a, txtP 0 t, 0, [], 0⟩, tokP 0 t)) (L := fun a t => if isP w_tif (tokP 0 t) then ((⟨5, a, txtP 0 t, 0, [(E' (adv (tokP 0 t))).1], 0⟩ : Syn), (E' (adv (tokP 0 t))).2) else (⟨5, a, txtP 0 t, 0, [], 0⟩, tokP 0 t)) (fun a t => (Bo.tok _ _).trans (b0 sE a _ _)) (fun a t => (Bo.tok _ _).trans (b0 sE' a _ _)) (fun o => k2 _ _ o)
theorem listGo_em (hx : x.Pa) {F G : PS → Syn × PS} (sF : Bof F) (sG : Bof G) (hF : EmF x d F G) : ∀ (n m : Nat) (st : PS) (out : List Syn), Ok d st → st.toks.length - st.pos < n → st.toks.length - st.pos < m → EmR x d (listGo F n st out) (listGo G m (emb x st) out)
  | 0, _, st, out, _, h1, _ => absurd h1 (Nat.not_lt_zero _)
  | _ + 1, 0, st, out, _, _, h2 => absurd h2 (Nat.not_lt_zero _)
  | n + 1, m + 1, st, out, h, h1, h2 => by
    unfold listGo
    rw [isP_emb h (hx.ne (by decide))]
    cases hf : isP w_comma st with
    | false => exact .same h rfl
    | true =>
      simp only [↓reduceIte]
      have hend := is_end hf
      have hlt := not_end hend
      have hb := bo_isadv sF st
      refine (hF _ (h.adv hend)).bind (K := fun a t => listGo F n t (out ++ [a])) (L := fun a t => listGo G m t (out ++ [a])) (fun a t => bo_listGo sF n t _ trivial) (fun a t => bo_listGo sG m t _ trivial) (fun o => ?_)
      have hp : st.pos + 1 ≤ (F (adv st)).2.pos := (sF (adv st)).pos
      have ht : (F (adv st)).2.toks = st.toks := hb.toks
      exact listGo_em hx sF sG hF n m _ _ o (by rw [ht]; omega) (by rw [ht]; omega)
theorem sev_em (hx : x.Pa) (sT : Bof T) (sT' : Bof T') (hT : EmF x d T T') (z : Syn) (h : Ok d st) : EmR x d (sevP T z st) (sevP T' z (emb x st)) := by
  have bo : ∀ {T : PS → Syn × PS} (sT : Bof T) (a : Syn) (t : PS), Bo t (({ z with kids := (listGo T (fuel t) t (z.kids ++ [a])).1 } : Syn), (listGo T (fuel t) t (z.kids ++ [a])).2).2 := fun sT a t => bo_listGo sT _ _ _ trivial
  have k1 : ∀ (a : Syn) (t : PS), Ok d t → EmR x d (({ z with kids := (listGo T (fuel t) t (z.kids ++ [a])).1 } : Syn), (listGo T (fuel t) t (z.kids ++ [a])).2) (({ z with kids := (listGo T' (fuel (emb x t)) (emb x t) (z.kids ++ [a])).1 } : Syn), (listGo T' (fuel (emb x t)) (emb x t) (z.kids ++ [a])).2) := fun a t o =>
    (listGo_em hx sT sT' hT _ _ _ _ o (Nat.lt_succ_self _) (fuel_emb o)).bind (K := fun l t => ({ z with kids := l }, t)) (L := fun l t => ({ z with kids := l }, t)) (fun _ s => .refl s) (fun _ s => .refl s) (fun o => .same o rfl)
  have k2 : ∀ t, Ok d t → EmR x d (({ z with kids := (listGo T (fuel (T t).2) (T t).2 (z.kids ++ [(T t).1])).1 } : Syn), (listGo T (fuel (T t).2) (T t).2 (z.kids ++ [(T t).1])).2) (({ z with kids := (listGo T' (fuel (T' (emb x t)).2) (T' (emb x t)).2 (z.kids ++ [(T' (emb x t)).1])).1 } : Syn), (listGo T' (fuel (T' (emb x t)).2) (T' (emb x t)).2 (z.kids ++ [(T' (emb x t)).1])).2) := fun t o =>
    (hT t o).bind (K := fun a t => (({ z with kids := (listGo T (fuel t) t (z.kids ++ [a])).1 } : Syn), (listGo T (fuel t) t (z.kids ++ [a])).2)) (L := fun a t => (({ z with kids := (listGo T' (fuel t) t (z.kids ++ [a])).1 } : Syn), (listGo T' (fuel t) t (z.kids ++ [a])).2)) (bo sT) (bo sT') (fun o => k1 _ _ o)
  unfold sevP
  exact (exp_em (x := x) () w_comma h).bind (K := fun _ t => (({ z with kids := (listGo T (fuel (T t).2) (T t).2 (z.kids ++ [(T t).1])).1 } : Syn), (listGo T (fuel (T t).2) (T t).2 (z.kids ++ [(T t).1])).2)) (L := fun _ t => (({ z with kids := (listGo T' (fuel (T' t).2) (T' t).2 (z.kids ++ [(T' t).1])).1 } : Syn), (listGo T' (fuel (T' t).2) (T' t).2 (z.kids ++ [(T' t).1])).2)) (fun _ t => (sT t).trans (bo sT _ _)) (fun _ t => (sT' t).trans (bo sT' _ _)) (fun o => k2 _ o)
theorem rest_em (hx : x.Pa) (sE : Bof E) (sE' : Bof E') (hE : EmF x d E E') (sT : Bof T) (sT' : Bof T') (hT : EmF x d T T') (k : Int) (z : Syn) (h : Ok d st) : EmR x d (restP E T k z st) (restP E' T' k z (emb x st)) := by
  unfold restP
  split
  · exact sev_em hx sT sT' hT z h
  · split
    · exact .same h rfl
    · split
      · exact (exp_em (x := x) () w_comma h).bind (K := fun _ t => (({ z with kids := z.kids ++ [(eventP E t).1] } : Syn), (eventP E t).2)) (L := fun _ t => (({ z with kids := z.kids ++ [(eventP E' t).1] } : Syn), (eventP E' t).2)) (fun _ t => bof_event sE t) (fun _ t => bof_event sE' t) fun o =>
          (event_em hx.ex sE sE' hE _ o).bind (K := fun a t => (({ z with kids := z.kids ++ [a] } : Syn), t)) (L := fun a t => (({ z with kids := z.kids ++ [a] } : Syn), t)) (fun _ s => .refl s) (fun _ s => .refl s) (fun o => .same o rfl)
      · split
        · exact (exp_em (x := x) () w_comma h).bind (K := fun _ t => (({ z with num := numP t } : Syn), tokP 1 t)) (L := fun _ t => (({ z with num := numP t } : Syn), tokP 1 t)) (fun _ t => .tok _ _) (fun _ t => .tok _ _) fun o =>
            (num_em (x := x) o).bind (K := fun a t => (({ z with num := a } : Syn), t)) (L := fun a t => (({ z with num := a } : Syn), t)) (fun _ s => .refl s) (fun _ s => .refl s) (fun o => .same o rfl)
        · exact (exp_em (x := x) () w_comma h).bind (K := fun _ t => (({ z with kids := z.kids ++ [(E t).1] } : Syn), (E t).2)) (L := fun _ t => (({ z with kids := z.kids ++ [(E' t).1] } : Syn), (E' t).2)) (fun _ t => sE t) (fun _ t => sE' t) fun o =>
            (hE _ o).bind (K := fun a t => (({ z with kids := z.kids ++ [a] } : Syn), t)) (L := fun a t => (({ z with kids := z.kids ++ [a] } : Syn), t)) (fun _ s => .refl s) (fun _ s => .refl s) (fun o => .same o rfl)
/-- What a pattern in parentheses reads. -/
def patK (E T : PS → Syn × PS) (k : Int) (z : Syn) (s : PS) : Syn × PS :=
  ((restP E T k { z with kids := [(T (expP w_lpar s)).1] } (T (expP w_lpar s)).2).1, expP w_rpar (restP E T k { z with kids := [(T (expP w_lpar s)).1] } (T (expP w_lpar s)).2).2)
theorem patK_em (hx : x.Pa) (sE : Bof E) (sE' : Bof E') (hE : EmF x d E E') (sT : Bof T) (sT' : Bof T') (hT : EmF x d T T') (k : Int) (z : Syn) (h : Ok d st) : EmR x d (patK E T k z st) (patK E' T' k z (emb x st)) := by
  have b1 : ∀ {E T : PS → Syn × PS} (sE : Bof E) (sT : Bof T) (a : Syn) (t : PS), Bo t ((restP E T k { z with kids := [a] } t).1, expP w_rpar (restP E T k { z with kids := [a] } t).2).2 := fun sE sT a t => (bo_rest sE sT _ _ trivial).trans (.exp _ _)
  have k1 : ∀ (a : Syn) (t : PS), Ok d t → EmR x d ((restP E T k { z with kids := [a] } t).1, expP w_rpar (restP E T k { z with kids := [a] } t).2) ((restP E' T' k { z with kids := [a] } (emb x t)).1, expP w_rpar (restP E' T' k { z with kids := [a] } (emb x t)).2) := fun a t o =>
    (rest_em hx sE sE' hE sT sT' hT k _ o).bind (K := fun q t => (q, expP w_rpar t)) (L := fun q t => (q, expP w_rpar t)) (fun _ _ => .exp _ _) (fun _ _ => .exp _ _) (fun o => exp_em _ _ o)
  have k2 : ∀ t, Ok d t → EmR x d ((restP E T k { z with kids := [(T t).1] } (T t).2).1, expP w_rpar (restP E T k { z with kids := [(T t).1] } (T t).2).2) ((restP E' T' k { z with kids := [(T' (emb x t)).1] } (T' (emb x t)).2).1, expP w_rpar (restP E' T' k { z with kids := [(T' (emb x t)).1] } (T' (emb x t)).2).2) := fun t o =>
    (hT t o).bind (K := fun a t => ((restP E T k { z with kids := [a] } t).1, expP w_rpar (restP E T k { z with kids := [a] } t).2)) (L := fun a t => ((restP E' T' k { z with kids := [a] } t).1, expP w_rpar (restP E' T' k { z with kids := [a] } t).2)) (b1 sE sT) (b1 sE' sT') (fun o => k1 _ _ o)
  exact (exp_em (x := x) () w_lpar h).bind (K := fun _ t => ((restP E T k { z with kids := [(T t).1] } (T t).2).1, expP w_rpar (restP E T k { z with kids := [(T t).1] } (T t).2).2)) (L := fun _ t => ((restP E' T' k { z with kids := [(T' t).1] } (T' t).2).1, expP w_rpar (restP E' T' k { z with kids := [(T' t).1] } (T' t).2).2)) (fun _ t => (sT t).trans (b1 sE sT _ _)) (fun _ t => (sT' t).trans (b1 sE' sT' _ _)) (fun o => k2 _ o)
theorem pat_em (hx : x.Pa) (h0 : 0 ≤ d) (sE : Bof E) (sE' : Bof E') (hE : ∀ d, 0 ≤ d → EmF x d E E') (sT : Bof T) (sT' : Bof T') (hT : d + x.k < 64 → EmF x (d + 1) T T') : EmF x d (patP E T) (patP E' T') := fun st h => by
  unfold patP
  rw [find_emb hx.ex h formL (by decide)]
  cases hf : formL.find? (fun s => isP s.1 st) with
  | none => exact event_em hx.ex sE sE' (hE d h0) st h
  | some f =>
    simp only [h.off, h.offe]
    exact nest_em (read := patK E T f.2) (read' := patK E' T' f.2) h h0 (is_end (find_is hf)) fun hk s o => patK_em hx sE sE' (hE _ (by omega)) sT sT' (hT hk) f.2 _ o
theorem patN_em (hx : x.Pa) (sE : Bof E) (sE' : Bof E') (hE : ∀ d, 0 ≤ d → EmF x d E E') : ∀ (n m : Nat) (d : Int), 0 ≤ d → 64 ≤ (n : Int) + d → 64 ≤ (m : Int) + d + x.k → EmF x d (patN E n) (patN E' m)
  | 0, 0, d, h0, h1, h2 => pat_em hx h0 sE sE' hE bof_dull bof_dull (fun h => by have := x.hk; omega)
  | 0, m + 1, d, h0, h1, h2 => pat_em hx h0 sE sE' hE bof_dull (bof_patN sE' m) (fun h => by have := x.hk; omega)
  | n + 1, 0, d, h0, h1, h2 => pat_em hx h0 sE sE' hE (bof_patN sE n) bof_dull (fun h => by omega)
  | n + 1, m + 1, d, h0, h1, h2 => pat_em hx h0 sE sE' hE (bof_patN sE n) (bof_patN sE' m) (fun _ => patN_em hx sE sE' hE n m (d + 1) (by omega) (by omega) (by omega))
end
end Go.Proofs.YtpgmglacdcfnaaaDoor
