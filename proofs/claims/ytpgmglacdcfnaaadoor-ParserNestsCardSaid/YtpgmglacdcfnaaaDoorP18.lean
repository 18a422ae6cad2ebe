/-
  The plain laws of texts put together, of other separators, and of a query as a program. No program in sight. No condition.
-/
import Derived.Test.YtpgmglacdcfnaaaDoorP16
import Derived.Test.YtpgmglacdcfnaaaDoorP17
import Derived.Test.YtpgmglacdcfnaaaDoorP8
import Derived.Test.YtpgmglacdcfnaaaDoorL1
namespace Go.Proofs.YtpgmglacdcfnaaaDoor
open Go Go.Aw
set_option linter.unusedVariables false
set_option linter.unusedSimpArgs false
set_option maxRecDepth 100000

theorem sameNs_er : ∀ l m : List Syn, (∀ a ∈ l, ∀ b, erS a = erS b → sameN a b = true) → l.map erS = m.map erS → sameNs l m = true
  | [], _, _, _ => by rw [sameNs]
  | a :: r, [], _, h => by cases h
  | a :: r, b :: s, ih, h => by
    rw [List.map_cons, List.map_cons, List.cons.injEq] at h
    rw [sameNs, ih a (List.mem_cons_self ..) b h.1, sameNs_er r s (fun x hx => ih x (List.mem_cons_of_mem _ hx)) h.2]; rfl
theorem sameN_er (a : Syn) : ∀ b, erS a = erS b → sameN a b = true := by
  refine Syn.ind (P := fun a => ∀ b, erS a = erS b → sameN a b = true) (fun a ih b h => ?_) a
  rw [erS_eq, erS_eq b, Syn.mk.injEq] at h
  obtain ⟨h1, h2, h3, h4, h5, _⟩ := h
  have hl : a.kids.length = b.kids.length := by have := congrArg List.length h5; simpa using this
  rw [sameN_eq, if_neg (by rw [h1, h2, h3, h4, hl]; simp)]
  exact sameNs_er _ _ ih h5

/-! Texts put together: pieces of a text, with their tokens. -/
def Pe (u : Str) (L : List Tok) (rest : Str) : Prop := ∃ l, Sc (u ++ rest) 0 l u.length ∧ l.map erT = L
theorem Pe.app {u v rest : Str} {L M : List Tok} (h : Pe u L (v ++ rest)) (k : Pe v M rest) : Pe (u ++ v) (L ++ M) rest := by
  obtain ⟨l, h1, h2⟩ := h
  obtain ⟨m, k1, k2⟩ := k
  refine ⟨l ++ m.map (shT u.length), ?_, ?_⟩
  · rw [List.append_assoc, List.length_append]
    exact h1.trans (by simpa using k1.shift u)
  · rw [List.map_append, List.map_map, h2]
    have : erT ∘ shT u.length = erT := by funext t; rfl
    rw [this, k2]
theorem Pe.text {u rest : Str} (h : (scanS u).2.2 = 0) (hn : 35 ∉ u) (hw : Sepd rest) : Pe u ((scanS u).1.map erT) rest := ⟨_, (scan_sc h).2.left hw hn, rfl⟩
theorem Pe.space (rest : Str) : Pe [32] [] rest := ⟨[], space_sc (c := 32) (r := rest) rfl (by decide) (.nil _), rfl⟩
theorem Pe.nil (rest : Str) : Pe [] [] rest := ⟨[], .nil _, rfl⟩
abbrev tlp : Tok := ⟨3, w_lpar, 0⟩
abbrev trp : Tok := ⟨3, w_rpar, 0⟩
abbrev tcm : Tok := ⟨3, w_comma, 0⟩
theorem lp_next (r : Str) : nextF (40 :: r) = foT 3 [40] 1 := by
  have h0 : 0 < (40 :: r : Str).length := by simp
  rw [next_sign (u := 40 :: r) (by rfl) (by rfl) (by rfl) h0, signF_cons]
  cases Lib.hasPrefix r [61] <;> rfl
theorem Pe.lpar (rest : Str) : Pe [40] [tlp] rest := by
  have h := Sc.tok (s := [40] ++ rest) (i := 0) (l := []) (j := 1) (by simp) rfl (by show (nextF (40 :: rest)).err = 0; rw [lp_next]; rfl) (by show Sc _ (0 + (nextF (40 :: rest)).bytes.toNat) [] 1; rw [lp_next]; exact .nil _)
  have e : nextF (([40] ++ rest : Str).drop 0) = foT 3 [40] 1 := lp_next rest
  rw [e] at h
  exact ⟨_, h, rfl⟩
theorem Pe.scan {u : Str} {L : List Tok} (h : Pe u L []) (hl : u.length ≤ 65536) : (scanS u).2.2 = 0 ∧ (scanS u).1.map erT = L := by
  obtain ⟨l, h1, h2⟩ := h
  rw [List.append_nil] at h1
  rw [sc_scan hl h1]
  exact ⟨rfl, h2⟩

/-! A state at a place between tokens. -/
def Cur (pre post : List Tok) (d : Int) : PS := ⟨pre ++ post, pre.length, 0, d, 0, 0⟩
variable {pre post : List Tok} {d : Int} {t : Tok}
theorem cur_tk : tkS (Cur pre (t :: post) d) = t := by
  unfold tkS Cur
  simp only [List.getD_eq_getElem?_getD]
  rw [List.getElem?_append_right (Nat.le_refl _), Nat.sub_self]; rfl
theorem cur_end : endP (Cur pre (t :: post) d) = false := by
  unfold endP Cur
  simp only [List.length_append, List.length_cons, Bool.or_eq_false_iff, decide_eq_false_iff_not]
  exact ⟨rfl, by omega⟩
theorem cur_nil : endP (Cur pre [] d) = true := by
  unfold endP Cur
  simp only [List.append_nil, Bool.or_eq_true, decide_eq_true_eq]
  exact .inr (Int.le_refl _)
theorem is_cur {w : Str} : isP w (Cur pre (t :: post) d) = ((t.text == w) && ((t.kind == 3) || ((t.kind == 0) && keyS w))) := by
  unfold isP; rw [cur_end, cur_tk]; rfl
theorem is_nil {w : Str} : isP w (Cur pre [] d) = false := by unfold isP; rw [cur_nil]; rfl
theorem nxt_cur {k : Int} : nxtP k (Cur pre (t :: post) d) = ((t.kind == k) && ((k != 0) || !(keyS t.text))) := by
  unfold nxtP; rw [cur_end, cur_tk]; rfl
theorem adv_cur : adv (Cur pre (t :: post) d) = Cur (pre ++ [t]) post d := by
  unfold adv Cur
  simp only [PS.mk.injEq, and_true]
  exact ⟨by simp, by simp⟩
theorem exp_cur {w : Str} (h : ((t.text == w) && ((t.kind == 3) || ((t.kind == 0) && keyS w))) = true) : expP w (Cur pre (t :: post) d) = Cur (pre ++ [t]) post d := by
  rw [exp_yes rfl (by rw [is_cur]; exact h), adv_cur]
theorem tok_cur {k : Int} (h : ((t.kind == k) && ((k != 0) || !(keyS t.text))) = true) : tokP k (Cur pre (t :: post) d) = Cur (pre ++ [t]) post d ∧ txtP k (Cur pre (t :: post) d) = t.text := by
  unfold tokP txtP
  rw [nxt_cur, h, adv_cur, cur_tk]
  exact ⟨rfl, rfl⟩
theorem deep_cur (h0 : 0 ≤ d) (h1 : d < 64) : deep (Cur pre post d) = Cur pre post (d + 1) := by
  unfold deep Cur
  simp only [PS.mk.injEq, true_and, and_true]
  exact wrap_id (by omega) (by omega)
theorem shallow_cur (h0 : 0 ≤ d) (h1 : d < 64) : shallow (Cur pre post (d + 1)) = Cur pre post d := by
  unfold shallow Cur
  simp only [PS.mk.injEq, true_and, and_true]
  rw [show d + 1 - 1 = d by omega]; exact wrap_id (by omega) (by omega)
def Era (l : List Tok) : Prop := l.map erT = l
theorem Era.app {l m : List Tok} (h : Era l) (k : Era m) : Era (l ++ m) := by unfold Era at *; rw [List.map_append, h, k]
theorem Era.map (l : List Tok) : Era (l.map erT) := by
  unfold Era
  rw [List.map_map]
  exact List.map_congr_left fun t _ => rfl
theorem cur_ok (h : Era pre) (k : Era post) : Ok d (Cur pre post d) := ⟨by
  unfold er Cur
  simp only [List.map_append, PS.mk.injEq, and_true]
  rw [h, k], rfl, by unfold Cur; simp, rfl⟩
theorem cur_off (h : Era pre) (k : Era post) : offS (Cur pre post d) = 0 := (cur_ok h k).off

/-! What is read of a text alone, and within another one. -/
def Rdr (F : PS → Syn × PS) : Prop := Er F ∧ Bof F ∧ ∀ x : Cx, x.Pa → EmF x 0 F F
theorem rdr_EE : Rdr EE := ⟨er_EE, bof_EE, fun x hx => expr_em hx.ex (Int.le_refl _) (by omega) (by have := x.hk; omega)⟩
theorem em_E {x : Cx} (hx : x.Ex) : ∀ d, 0 ≤ d → EmF x d EE EE := fun d h0 => expr_em hx h0 (by omega) (by have := x.hk; omega)
theorem rdr_TT : Rdr TT := ⟨er_TT, bof_TT, fun x hx => patN_em hx bof_EE bof_EE (em_E hx.ex) 64 64 0 (Int.le_refl _) (by omega) (by have := x.hk; omega)⟩
abbrev tks (s : Str) : List Tok := (scanS s).1.map erT
theorem begin_er (s : Str) (n : Int) : er (beginS (scanS s).1 n) = Cur [] (tks s) 0 := rfl
theorem alone {F : PS → Syn × PS} (hF : Rdr F) {s : Str} (h : (parseP F s).2.2 = 0) : (scanS s).2.2 = 0 ∧ F (Cur [] (tks s) 0) = (erS (parseP F s).1, Cur (tks s) [] 0) := by
  obtain ⟨h1, h2, h3, h4⟩ := parse_good h
  refine ⟨h1, ?_⟩
  have e := hF.1 (beginS (scanS s).1 s.length)
  rw [begin_er] at e
  have eF : erS (parseP F s).1 = (F (Cur [] (tks s) 0)).1 := by rw [h4, e]
  have o := cur_ok (d := 0) (pre := []) (post := tks s) rfl (Era.map _)
  have g := (hF.2.2 ⟨[], [], 0, Int.le_refl _, fun c r h => (List.cons_ne_nil _ _ h.symm).elim, rfl, rfl⟩ (fun c r h => (List.cons_ne_nil _ _ h.symm).elim) _ o).good (by rw [e]; exact h2)
  rcases g with ⟨_, h⟩ | ⟨ok, _⟩
  · exact absurd h (by decide)
  · have b := hF.2.1 (Cur [] (tks s) 0)
    have ht : (F (Cur [] (tks s) 0)).2.toks = tks s := b.toks
    have hp : (F (Cur [] (tks s) 0)).2.pos = (tks s).length := by
      have h5 := ok.inn
      rw [ht] at h5
      have h6 : (F (beginS (scanS s).1 s.length)).2.toks.length ≤ (F (Cur [] (tks s) 0)).2.pos := by rw [e]; exact h3
      rw [(hF.2.1 (beginS (scanS s).1 s.length)).toks] at h6
      have h7 : (tks s).length = (scanS s).1.length := by simp [tks]
      have h8 : (beginS (scanS s).1 s.length).toks.length = (scanS s).1.length := rfl
      omega
    have hf : (F (Cur [] (tks s) 0)).2.fin = 0 := by rw [← ok.era]; rfl
    have hw : (F (Cur [] (tks s) 0)).2.whr = 0 := by rw [← ok.era]; rfl
    have hd := ok.dep
    have hg := ok.good
    rw [eF]
    refine Prod.ext rfl ?_
    show (F (Cur [] (tks s) 0)).2 = Cur (tks s) [] 0
    generalize (F (Cur [] (tks s) 0)).2 = q at *
    cases q
    unfold Cur
    simp only [List.append_nil, PS.mk.injEq]
    exact ⟨ht, hp, hf, hd, hg, hw⟩
/-- What stands behind an expression, behind a pattern. -/
def Bex (post : List Tok) : Prop := ∀ c r, post = c :: r → c.kind = 3 ∧ (c.text = w_rpar ∨ c.text = w_comma)
def Bpa (post : List Tok) : Prop := ∀ c r, post = c :: r → c.kind = 3 ∧ c.text = w_rpar
theorem Bex.nil : Bex [] := fun c r h => (List.cons_ne_nil _ _ h.symm).elim
theorem Bex.rp (r : List Tok) : Bex (trp :: r) := fun c r h => by rw [← (List.cons.inj h).1]; exact ⟨rfl, .inl rfl⟩
theorem Bex.cm (r : List Tok) : Bex (tcm :: r) := fun c r h => by rw [← (List.cons.inj h).1]; exact ⟨rfl, .inr rfl⟩
theorem Bpa.rp (r : List Tok) : Bpa (trp :: r) := fun c r h => by rw [← (List.cons.inj h).1]; exact ⟨rfl, rfl⟩
theorem emb_cur {L : List Tok} {d0 : Int} (x : Cx) : emb x (Cur [] L d0) = Cur x.pre (L ++ x.post) (d0 + x.k) ∧ emb x (Cur L [] d0) = Cur (x.pre ++ L) x.post (d0 + x.k) := by
  unfold emb Cur
  simp only [List.nil_append, List.append_nil, List.length_nil, Nat.add_zero, List.length_append, List.append_assoc, and_self]
/-- An expression within a text: read as it is alone, or too deep. -/
theorem within {n m : Nat} {d d' : Int} {L : List Tok} {t : Syn} (hL : Era L) (h0 : 0 ≤ d) (hd : d ≤ d') (hn : 64 ≤ (n : Int) + d) (hm : 64 ≤ (m : Int) + d') (hp : Era pre) (hq : Era post) (hb : Bex post) :
    (exprN n (Cur [] L d) = (t, Cur L [] d) → ((exprN m (Cur pre (L ++ post) d')).2.bad = 12 ∧ d < d') ∨ exprN m (Cur pre (L ++ post) d') = (t, Cur (pre ++ L) post d')) ∧ ((exprN n (Cur [] L d)).2.bad = 12 → (exprN m (Cur pre (L ++ post) d')).2.bad = 12) := by
  have g := expr_em (x := ⟨pre, post, d' - d, by omega, fun c r e => (hb c r e).1, hp, hq⟩) (fun c r e => (hb c r e).2) h0 hn (show 64 ≤ (m : Int) + d + (d' - d) by omega) _ (cur_ok (d := d) (pre := []) rfl hL)
  rw [(emb_cur _).1] at g
  have e : d + (d' - d) = d' := by omega
  simp only [e] at g
  refine ⟨fun h => ?_, g.deep⟩
  have g2 := g.good (by rw [h]; rfl)
  rw [h] at g2
  rcases g2 with ⟨g3, g4⟩ | ⟨_, g3⟩
  · exact .inl ⟨g3, by simp only at g4; omega⟩
  · refine .inr ?_
    rw [(emb_cur _).2] at g3
    simp only [e] at g3
    exact g3
theorem withinT {m : Nat} {d' : Int} {L : List Tok} {t : Syn} (hL : Era L) (hd : 0 ≤ d') (hm : 64 ≤ (m : Int) + d') (hp : Era pre) (hq : Era post) (hb : Bpa post) (h : TT (Cur [] L 0) = (t, Cur L [] 0)) :
    (patN EE m (Cur pre (L ++ post) d')).2.bad = 12 ∨ patN EE m (Cur pre (L ++ post) d') = (t, Cur (pre ++ L) post d') := by
  have hpa : (⟨pre, post, d', hd, fun c r e => (hb c r e).1, hp, hq⟩ : Cx).Pa := fun c r e => (hb c r e).2
  have g := patN_em hpa bof_EE bof_EE (em_E hpa.ex) 64 m 0 (Int.le_refl _) (by omega) (show 64 ≤ (m : Int) + 0 + d' by omega) _ (cur_ok (d := 0) (pre := []) rfl hL)
  rw [(emb_cur _).1] at g
  have e : 0 + d' = d' := by omega
  simp only [e] at g
  have h' : patN EE 64 (Cur [] L 0) = (t, Cur L [] 0) := h
  have g2 := g.good (by rw [h']; rfl)
  rw [h'] at g2
  rcases g2 with ⟨g3, g4⟩ | ⟨_, g3⟩
  · exact .inl g3
  · refine .inr ?_
    rw [(emb_cur _).2] at g3
    simp only [e] at g3
    exact g3

/-! Expressions that are one operand. -/
theorem chain_none {F : PS → Syn × PS} {sg : List (Str × Int)} {s : PS} (h : sg.find? (fun x => isP x.1 (F s).2) = none) : chainP F sg s = F s := by
  unfold chainP fuel chainGo
  rw [h]
/-- No operation stands here. -/
def NoOp (s : PS) : Prop := (isP w_tor s = false ∧ isP w_tand s = false ∧ isP w_add s = false ∧ isP w_sub s = false) ∧ isP w_lt s = false ∧ isP w_le s = false ∧ isP w_gt s = false ∧ isP w_ge s = false ∧ isP w_eqq s = false ∧ isP w_neq s = false
theorem NoOp.bad {s : PS} (h : s.bad ≠ 0) : NoOp s := ⟨⟨isP_bad h, isP_bad h, isP_bad h, isP_bad h⟩, isP_bad h, isP_bad h, isP_bad h, isP_bad h, isP_bad h, isP_bad h⟩
theorem NoOp.nil : NoOp (Cur pre [] d) := ⟨⟨is_nil, is_nil, is_nil, is_nil⟩, is_nil, is_nil, is_nil, is_nil, is_nil, is_nil⟩
theorem NoOp.cur (hb : Bex post) : NoOp (Cur pre post d) := by
  cases post with
  | nil => exact .nil
  | cons c r =>
    obtain ⟨h1, h2⟩ := hb c r rfl
    have key : ∀ w : Str, (w_rpar == w) = false → (w_comma == w) = false → isP w (Cur pre (c :: r) d) = false := fun w e1 e2 => by
      rw [is_cur]
      rcases h2 with h2 | h2
      · rw [h2, e1]; rfl
      · rw [h2, e2]; rfl
    exact ⟨⟨key _ (by decide) (by decide), key _ (by decide) (by decide), key _ (by decide) (by decide), key _ (by decide) (by decide)⟩, key _ (by decide) (by decide), key _ (by decide) (by decide), key _ (by decide) (by decide), key _ (by decide) (by decide), key _ (by decide) (by decide), key _ (by decide) (by decide)⟩
section
variable {E N : PS → Syn × PS} {s : PS}
theorem sum_unit (h : NoOp (unitP E s).2) : sumP E s = unitP E s := chain_none (by unfold sumL; rw [List.find?_cons, List.find?_cons, List.find?_nil, h.1.2.2.1, h.1.2.2.2])
theorem cmp_sum (h : NoOp (sumP E s).2) : cmpP E s = sumP E s := by
  obtain ⟨_, h1, h2, h3, h4, h5, h6⟩ := h
  rw [cmpP_K]
  unfold cmpK
  rw [h1, h2, h3, h4, h5, h6]
  rfl
theorem or_cmp (hn : isP w_tnot s = false) (h : NoOp (cmpP E s).2) : orP E N s = cmpP E s := by
  have e1 : notP E N s = cmpP E s := by unfold notP; rw [hn]; rfl
  have e2 : andP E N s = cmpP E s := by
    unfold andP
    rw [chain_none (by unfold andL; rw [List.find?_cons, List.find?_nil, e1, h.1.2.1]), e1]
  unfold orP
  rw [chain_none (by unfold orL; rw [List.find?_cons, List.find?_nil, e2, h.1.1]), e2]
theorem or_unit (hn : isP w_tnot s = false) (h : NoOp (unitP E s).2) : orP E N s = unitP E s := by
  have e1 := sum_unit h
  have e2 : cmpP E s = unitP E s := by rw [cmp_sum (by rw [e1]; exact h), e1]
  rw [or_cmp hn (by rw [e2]; exact h), e2]
/-- An operand in parentheses. -/
theorem unit_paren (h0 : 0 ≤ d) (h1 : d < 64) {inner : List Tok} : unitP E (Cur pre (tlp :: inner) d) = ((E (Cur (pre ++ [tlp]) inner (d + 1))).1, shallow (expP w_rpar (E (Cur (pre ++ [tlp]) inner (d + 1))).2)) := by
  have e1 : isP w_lpar (Cur pre (tlp :: inner) d) = true := by rw [is_cur]; rfl
  have e2 : nestF (Cur pre (tlp :: inner) d) = Cur pre (tlp :: inner) d := by
    unfold nestF
    rw [if_neg (by simp only [decide_eq_true_eq]; exact (by omega : ¬ 64 ≤ d))]
  unfold unitP
  rw [if_pos e1, nestP_eq', e2, if_neg (show ¬ ((Cur pre (tlp :: inner) d).bad != 0) = true from (by decide : ¬ ((0 : Int) != 0) = true)), deep_cur h0 h1, adv_cur]
theorem unit_paren_bad (h0 : 0 ≤ d) (h1 : d < 64) {inner : List Tok} (h : (E (Cur (pre ++ [tlp]) inner (d + 1))).2.bad = 12) : (unitP E (Cur pre (tlp :: inner) d)).2.bad = 12 := by
  rw [unit_paren h0 h1]
  show (expP w_rpar _).bad = 12
  rw [exp_stay (by rw [h]; decide), h]
theorem unit_paren_good (h0 : 0 ≤ d) (h1 : d < 64) {inner pre' : List Tok} {a : Syn} (h : E (Cur (pre ++ [tlp]) inner (d + 1)) = (a, Cur pre' (trp :: post) (d + 1))) : unitP E (Cur pre (tlp :: inner) d) = (a, Cur (pre' ++ [trp]) post d) := by
  rw [unit_paren h0 h1, h]
  show (a, shallow (expP w_rpar (Cur pre' (trp :: post) (d + 1)))) = _
  rw [exp_cur (by decide), shallow_cur h0 h1]
end
theorem not_lp {inner : List Tok} : isP w_tnot (Cur pre (tlp :: inner) d) = false := by rw [is_cur]; rfl
theorem expr_paren_bad {n : Nat} (h0 : 0 ≤ d) (h1 : d < 64) {inner : List Tok} (h : (exprN n (Cur (pre ++ [tlp]) inner (d + 1))).2.bad = 12) : (exprN (n + 1) (Cur pre (tlp :: inner) d)).2.bad = 12 := by
  have k := unit_paren_bad (E := exprN n) h0 h1 h
  have e : exprN (n + 1) (Cur pre (tlp :: inner) d) = unitP (exprN n) (Cur pre (tlp :: inner) d) := or_unit not_lp (.bad (show (unitP (exprN n) (Cur pre (tlp :: inner) d)).2.bad ≠ 0 by rw [k]; decide))
  rw [e, k]
theorem expr_paren_good {n : Nat} (h0 : 0 ≤ d) (h1 : d < 64) (hb : Bex post) {inner pre' : List Tok} {a : Syn} (h : exprN n (Cur (pre ++ [tlp]) inner (d + 1)) = (a, Cur pre' (trp :: post) (d + 1))) : exprN (n + 1) (Cur pre (tlp :: inner) d) = (a, Cur (pre' ++ [trp]) post d) := by
  have k := unit_paren_good (E := exprN n) h0 h1 h
  have e : exprN (n + 1) (Cur pre (tlp :: inner) d) = unitP (exprN n) (Cur pre (tlp :: inner) d) := or_unit not_lp (show NoOp (unitP (exprN n) (Cur pre (tlp :: inner) d)).2 by rw [k]; exact .cur hb)
  rw [e, k]
/-- A number as an operand. -/
abbrev tnum (c : UInt8) : Tok := ⟨1, [c], 0⟩
abbrev snum (n : Int) : Syn := ⟨13, [], w_tint, n, [], 0⟩
theorem unit_num {E : PS → Syn × PS} (hp : Era pre) (hq : Era post) (c : UInt8) : unitP E (Cur pre (tnum c :: post) d) = (snum (numS [c]).1, Cur (pre ++ [tnum c]) post d) := by
  have ei : ∀ w : Str, keyS w = keyS w → isP w (Cur pre (tnum c :: post) d) = false := fun w _ => by
    rw [is_cur]
    show ([c] == w && ((1 : Int) == 3 || ((1 : Int) == 0 && keyS w))) = false
    rw [show ((1 : Int) == 3) = false from rfl, show ((1 : Int) == 0) = false from rfl, Bool.false_and, Bool.false_or, Bool.and_false]
  have eo : offS (Cur pre (tnum c :: post) d) = 0 := cur_off hp (show List.map erT (tnum c :: post) = _ by rw [List.map_cons, hq]; rfl)
  have en : nxtP 1 (Cur pre (tnum c :: post) d) = true := by rw [nxt_cur]; rfl
  unfold unitP
  rw [ei _ rfl, ei _ rfl, ei _ rfl]
  have ef : totL.find? (fun s => isP s.1 (Cur pre (tnum c :: post) d)) = none := by
    unfold totL
    rw [List.find?_cons, List.find?_cons, List.find?_cons, List.find?_cons, List.find?_nil, ei _ rfl, ei _ rfl, ei _ rfl, ei _ rfl]
  rw [ef, show nxtP 0 (Cur pre (tnum c :: post) d) = false by rw [nxt_cur]; rfl]
  simp only [Bool.false_eq_true, ↓reduceIte]
  unfold constP
  rw [ei _ rfl, en, eo]
  simp only [Bool.false_eq_true, ↓reduceIte]
  have e1 : tokP 1 (Cur pre (tnum c :: post) d) = Cur (pre ++ [tnum c]) post d := (tok_cur (by rfl)).1
  have e2 : numP (Cur pre (tnum c :: post) d) = (numS [c]).1 := by unfold numP; rw [en, cur_tk]; rfl
  rw [e1, e2]

/-! The results of whole texts. -/
theorem whole {F : PS → Syn × PS} (hF : Er F) {s : Str} {L : List Tok} (h : (scanS s).2.2 = 0 ∧ (scanS s).1.map erT = L) :
    (∀ t M, F (Cur [] L 0) = (t, Cur M [] 0) → (parseP F s).2.2 = 0 ∧ erS (parseP F s).1 = t) ∧ ((F (Cur [] L 0)).2.bad = 12 → (parseP F s).2.2 = 12) := by
  have e := hF (beginS (scanS s).1 s.length)
  rw [begin_er, show tks s = L from h.2] at e
  have ep : parseP F s = doneP (F (beginS (scanS s).1 s.length)) := by unfold parseP; rw [h.1]; rfl
  rw [ep]
  generalize F (beginS (scanS s).1 s.length) = r at e
  refine ⟨fun t M ht => ?_, fun h12 => ?_⟩
  · rw [ht] at e
    have e1 : t = erS r.1 := congrArg Prod.fst e
    have e2 : Cur M [] 0 = er r.2 := congrArg Prod.snd e
    have hb : r.2.bad = 0 := (congrArg PS.bad e2).symm
    have hp : r.2.pos = M.length := (congrArg PS.pos e2).symm
    have hl : r.2.toks.length = M.length := by
      have := congrArg (fun s : PS => s.toks.length) e2
      simp only [len_er, Cur, List.append_nil] at this
      exact this.symm
    unfold doneP
    simp only
    rw [show (if decide ((r.2.pos : Int) < (r.2.toks.length : Int)) then failP 4 r.2 else r.2) = r.2 from if_neg (by rw [hp, hl]; simp), if_neg (by rw [hb]; decide)]
    exact ⟨rfl, e1.symm⟩
  · have hb : r.2.bad = 12 := by rw [e] at h12; exact h12
    have hne : r.2.bad ≠ 0 := by rw [hb]; decide
    unfold doneP
    simp only
    rw [show (if decide ((r.2.pos : Int) < (r.2.toks.length : Int)) then failP 4 r.2 else r.2) = r.2 by split; exact fail_stay hne; rfl, if_pos (by rw [hb]; decide)]
    exact hb
/-- The result of a text that is not read. -/
theorem parse_bad {F : PS → Syn × PS} {s : Str} (h : (parseP F s).2.2 ≠ 0) : (parseP F s).1 = synZ := by
  unfold parseP at h ⊢
  split
  · rfl
  · rename_i h1
    rw [if_neg h1] at h
    unfold doneP at h ⊢
    simp only at h ⊢
    generalize (if decide (((F (beginS (scanS s).1 s.length)).2.pos : Int) < ((F (beginS (scanS s).1 s.length)).2.toks.length : Int)) then failP 4 (F (beginS (scanS s).1 s.length)).2 else (F (beginS (scanS s).1 s.length)).2) = q at h ⊢
    split
    · rfl
    · rename_i h2
      rw [if_neg h2] at h
      exact absurd rfl h
end Go.Proofs.YtpgmglacdcfnaaaDoor
