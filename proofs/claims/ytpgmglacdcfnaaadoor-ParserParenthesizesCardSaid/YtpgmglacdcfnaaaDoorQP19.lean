/-
  The plain laws of parentheses, of texts within a query, of other separators, and of a query as a program. No program in sight. No condition.
-/
import Derived.Test.YtpgmglacdcfnaaaDoorQP18
namespace Go.Proofs.YtpgmglacdcfnaaaDoor
open Go Go.Aw
set_option linter.unusedVariables false
set_option linter.unusedSimpArgs false
set_option maxRecDepth 100000

theorem sep_of {c : UInt8} {r : Str} (h : wordS c = false) (h2 : c ≠ 61) : Sepd (c :: r) := Sepd.cons h h2
/-! Parentheses. -/
def par2 (x : Str) : Str := ([40, 32, 40] ++ x) ++ [41, 41]
def par1 (x : Str) : Str := ([49, 32, 60, 32, 48, 32, 43, 32, 40] ++ x) ++ [41]
abbrev tlt : Tok := ⟨3, w_lt, 0⟩
abbrev tpl : Tok := ⟨3, w_add, 0⟩
theorem par2_scan {x : Str} (hl : x.length ≤ 300) (hn : 35 ∉ x) (he : (scanS x).2.2 = 0) : (scanS (par2 x)).2.2 = 0 ∧ (scanS (par2 x)).1.map erT = tlp :: tlp :: (tks x ++ [trp, trp]) := by
  have h4 : Pe [41, 41] [trp, trp] [] := Pe.text (u := [41, 41]) (by kernel_rfl) (by decide) .nil
  have h3 : Pe x (tks x) ([41, 41] ++ []) := .text he hn (sep_of (by decide) (by decide))
  have h := (Pe.lpar _).app ((Pe.space _).app ((Pe.lpar _).app (h3.app h4)))
  have e : [40] ++ ([32] ++ ([40] ++ (x ++ [41, 41]))) = par2 x := by unfold par2; rw [List.append_assoc]; rfl
  rw [e] at h
  exact h.scan (by unfold par2; simp only [List.length_append, List.length_cons, List.length_nil]; omega)
theorem par1_scan {x : Str} (hl : x.length ≤ 300) (hn : 35 ∉ x) (he : (scanS x).2.2 = 0) : (scanS (par1 x)).2.2 = 0 ∧ (scanS (par1 x)).1.map erT = tnum 49 :: tlt :: tnum 48 :: tpl :: tlp :: (tks x ++ [trp]) := by
  have h4 : Pe [41] [trp] [] := Pe.text (u := [41]) (by kernel_rfl) (by decide) .nil
  have h3 : Pe x (tks x) ([41] ++ []) := .text he hn (sep_of (by decide) (by decide))
  have h1 : Pe [49, 32, 60, 32, 48, 32, 43, 32] [tnum 49, tlt, tnum 48, tpl] (([40] ++ (x ++ [41])) ++ []) := Pe.text (u := [49, 32, 60, 32, 48, 32, 43, 32]) (by kernel_rfl) (by decide) (sep_of (by decide) (by decide))
  have h := h1.app ((Pe.lpar _).app (h3.app h4))
  have e : [49, 32, 60, 32, 48, 32, 43, 32] ++ ([40] ++ (x ++ [41])) = par1 x := by unfold par1; rw [List.append_assoc]; rfl
  rw [e] at h
  exact h.scan (by unfold par1; simp only [List.length_append, List.length_cons, List.length_nil]; omega)
theorem chain_one {F : PS → Syn × PS} {sg : List (Str × Int)} {s : PS} {a b : Syn} {M : List Tok} {t : Tok} {post pre : List Tok} {d : Int} {o : Str × Int}
    (h1 : F s = (a, Cur pre (t :: post) d)) (h2 : sg.find? (fun x => isP x.1 (Cur pre (t :: post) d)) = some o) (h3 : F (Cur (pre ++ [t]) post d) = (b, Cur M [] d)) : chainP F sg s = (binS o.2 a b a.pos, Cur M [] d) := by
  have hn : ∀ (n : Nat) (c : Syn), chainGo F sg n (Cur M [] d) c = (c, Cur M [] d) := fun n c => by
    cases n with
    | zero => rfl
    | succ n =>
      unfold chainGo
      have : sg.find? (fun x => isP x.1 (Cur M [] d)) = none := by rw [List.find?_eq_none]; intro x _; rw [is_nil]; decide
      rw [this]
  unfold chainP fuel
  rw [h1]
  unfold chainGo
  simp only [h2, adv_cur, h3, hn]
theorem era_nums : Era [tnum 49] ∧ Era [tlt] ∧ Era [tnum 48] ∧ Era [tpl] ∧ Era [tlp] ∧ Era [trp] := ⟨rfl, rfl, rfl, rfl, rfl, rfl⟩
theorem exprN_s (n m : Nat) (h : m = n + 1) : exprN m = orP (exprN n) (negN n).1 := by subst h; rfl
theorem EE_or : EE = orP (exprN 63) (negN 63).1 := by
  have h := exprN_s 63 64 (by decide)
  exact h
theorem patN_s (E : PS → Syn × PS) (n m : Nat) (h : m = n + 1) : patN E m = patP E (patN E n) := by subst h; rfl
theorem TT_pat : TT = patP EE (patN EE 63) := by
  have h := patN_s EE 63 64 (by decide)
  exact h
theorem pat63 : patN EE 63 = patP EE (patN EE 62) := patN_s EE 62 63 (by decide)
theorem num49 : (numS [49]).1 = 1 := by kernel_rfl
theorem num48 : (numS [48]).1 = 0 := by kernel_rfl
theorem par1_or {E N : PS → Syn × PS} {x : Str} {t : Syn} {M : List Tok} (h : unitP E (Cur [tnum 49, tlt, tnum 48, tpl] (tlp :: (tks x ++ [trp])) 0) = (t, Cur M [] 0)) :
    orP E N (Cur [] (tnum 49 :: tlt :: tnum 48 :: tpl :: tlp :: (tks x ++ [trp])) 0) = (binS 7 (snum 1) (binS 5 (snum 0) t 0) 0, Cur M [] 0) := by
  have eq1 : Era (tlt :: tnum 48 :: tpl :: tlp :: (tks x ++ [trp])) := Era.app (l := [tlt, tnum 48, tpl, tlp]) rfl (Era.app (Era.map _) rfl)
  have eq2 : Era (tpl :: tlp :: (tks x ++ [trp])) := Era.app (l := [tpl, tlp]) rfl (Era.app (Era.map _) rfl)
  generalize hR : tlp :: (tks x ++ [trp]) = R at *
  have u1 := unit_num (E := E) (d := 0) (pre := []) (show Era [] from rfl) eq1 49
  have u2 := unit_num (E := E) (d := 0) (pre := [tnum 49, tlt]) (show Era [tnum 49, tlt] from rfl) eq2 48
  rw [num49] at u1
  rw [num48] at u2
  have s1 : sumP E (Cur [] (tnum 49 :: tlt :: tnum 48 :: tpl :: R) 0) = (snum 1, Cur ([] ++ [tnum 49]) (tlt :: tnum 48 :: tpl :: R) 0) := by
    have : sumP E (Cur [] (tnum 49 :: tlt :: tnum 48 :: tpl :: R) 0) = unitP E (Cur [] (tnum 49 :: tlt :: tnum 48 :: tpl :: R) 0) := chain_none (by
      rw [u1]; unfold sumL; rw [List.find?_cons, List.find?_cons, List.find?_nil, is_cur, is_cur]; rfl)
    rw [this, u1]
  have s2 : sumP E (Cur [tnum 49, tlt] (tnum 48 :: tpl :: R) 0) = (binS 5 (snum 0) t 0, Cur M [] 0) :=
    chain_one (o := (w_add, 5)) u2 (by unfold sumL; rw [List.find?_cons, is_cur]; rfl) h
  have c1 : cmpP E (Cur [] (tnum 49 :: tlt :: tnum 48 :: tpl :: R) 0) = (binS 7 (snum 1) (binS 5 (snum 0) t 0) 0, Cur M [] 0) := by
    rw [cmpP_K, s1]
    show cmpK E (snum 1) (Cur ([] ++ [tnum 49]) (tlt :: tnum 48 :: tpl :: R) 0) = _
    unfold cmpK
    rw [if_pos (show isP w_lt (Cur ([] ++ [tnum 49]) (tlt :: tnum 48 :: tpl :: R) 0) = true by rw [is_cur]; rfl), adv_cur]
    show (binS 7 (snum 1) (sumP E (Cur [tnum 49, tlt] (tnum 48 :: tpl :: R) 0)).1 0, (sumP E (Cur [tnum 49, tlt] (tnum 48 :: tpl :: R) 0)).2) = _
    rw [s2]
  rw [or_cmp (by rw [is_cur]; rfl) (by rw [c1]; exact .nil), c1]
theorem par1_read {x : Str} {t : Syn} {M : List Tok} (h : unitP (exprN 63) (Cur [tnum 49, tlt, tnum 48, tpl] (tlp :: (tks x ++ [trp])) 0) = (t, Cur M [] 0)) :
    EE (Cur [] (tnum 49 :: tlt :: tnum 48 :: tpl :: tlp :: (tks x ++ [trp])) 0) = (binS 7 (snum 1) (binS 5 (snum 0) t 0) 0, Cur M [] 0) := by
  rw [EE_or]
  exact par1_or h
theorem map_two {l : List Syn} {a b : Syn} (h : l.map erS = [a, b]) : ∃ x y, l = [x, y] ∧ erS x = a ∧ erS y = b := by
  match l, h with
  | [x, y], h =>
    simp only [List.map_cons, List.map_nil, List.cons.injEq, and_true] at h
    exact ⟨x, y, rfl, h.1, h.2⟩
theorem parens {x : Str} (hl : x.length ≤ 300) (hn : 35 ∉ x) (ha : (parseP EE x).2.2 = 0) :
    (parseP EE (par2 x)).2.2 = 12 ∨ ((parseP EE (par2 x)).2.2 = 0 ∧ (parseP EE (par1 x)).2.2 = 0 ∧ sameN (parseP EE x).1 (parseP EE (par2 x)).1 = true ∧
      ∃ a w z y, (parseP EE (par1 x)).1.kind = 17 ∧ (parseP EE (par1 x)).1.kids = [a, w] ∧ w.kids = [z, y] ∧ sameN y (parseP EE x).1 = true) := by
  obtain ⟨he, hr⟩ := alone rdr_EE ha
  have hL := Era.map (scanS x).1
  have w2 := within (n := 64) (m := 62) (d := 0) (d' := 2) (L := tks x) (pre := [tlp, tlp]) (post := [trp, trp]) (t := erS (parseP EE x).1) hL (by decide) (by decide) (by decide) (by decide) rfl rfl (.rp _)
  have W2 := whole er_EE (par2_scan hl hn he)
  rcases w2.1 hr with ⟨h12, _⟩ | hg
  · left
    refine W2.2 ?_
    have k1 : (exprN 63 (Cur [tlp] (tlp :: (tks x ++ [trp, trp])) 1)).2.bad = 12 := expr_paren_bad (n := 62) (d := 1) (pre := [tlp]) (by decide) (by decide) h12
    exact expr_paren_bad (n := 63) (d := 0) (pre := []) (by decide) (by decide) k1
  · right
    have k1 : exprN 63 (Cur [tlp] (tlp :: (tks x ++ [trp, trp])) 1) = _ := expr_paren_good (n := 62) (d := 1) (pre := [tlp]) (post := [trp]) (by decide) (by decide) (.rp _) hg
    have k2 : exprN 64 (Cur [] (tlp :: tlp :: (tks x ++ [trp, trp])) 0) = _ := expr_paren_good (n := 63) (d := 0) (pre := []) (post := []) (by decide) (by decide) .nil k1
    obtain ⟨b1, b2⟩ := W2.1 _ _ k2
    -- one level deeper, alone
    have w1 := within (n := 64) (m := 63) (d := 0) (d' := 1) (L := tks x) (pre := []) (post := []) (t := erS (parseP EE x).1) hL (by decide) (by decide) (by decide) (by decide) rfl rfl .nil
    rw [List.append_nil] at w1
    have p1 : exprN 63 (Cur [] (tks x) 1) = (erS (parseP EE x).1, Cur (tks x) [] 1) := by
      rcases w1.1 hr with ⟨h12, _⟩ | h
      · have w3 := within (n := 63) (m := 62) (d := 1) (d' := 2) (L := tks x) (pre := [tlp, tlp]) (post := [trp, trp]) (t := erS (parseP EE x).1) hL (by decide) (by decide) (by decide) (by decide) rfl rfl (.rp _)
        have := w3.2 h12
        rw [hg] at this
        exact absurd this (by show ¬ (0 : Int) = 12; decide)
      · exact h
    have w4 := within (n := 63) (m := 63) (d := 1) (d' := 1) (L := tks x) (pre := [tnum 49, tlt, tnum 48, tpl, tlp]) (post := [trp]) (t := erS (parseP EE x).1) hL (by decide) (by decide) (by decide) (by decide) rfl rfl (.rp _)
    rcases w4.1 p1 with ⟨_, h⟩ | hc
    · exact absurd h (by decide)
    · have u := unit_paren_good (E := exprN 63) (d := 0) (pre := [tnum 49, tlt, tnum 48, tpl]) (post := []) (by decide) (by decide) hc
      obtain ⟨c1, c2⟩ := (whole er_EE (par1_scan hl hn he)).1 _ _ (par1_read u)
      refine ⟨b1, c1, sameN_er _ _ b2.symm, ?_⟩
      rw [erS_eq] at c2
      have hk : (parseP EE (par1 x)).1.kind = 17 := congrArg Syn.kind c2
      obtain ⟨a, w, e1, e2, e3⟩ := map_two (congrArg Syn.kids c2)
      rw [erS_eq w] at e3
      obtain ⟨z, y, e4, e5, e6⟩ := map_two (congrArg Syn.kids e3)
      exact ⟨a, w, z, y, hk, e1, e4, sameN_er _ _ e6⟩

/-! Texts within a query. -/
def emT (p x : Str) : Str := (((([113, 117, 101, 114, 121, 32, 113, 32, 98, 121, 32, 107, 32, 109, 97, 116, 99, 104, 32, 119, 104, 101, 114, 101, 40, 112, 108, 117, 115, 40] ++ p) ++ [41, 44, 32]) ++ x) ++ [41, 32, 114, 101, 116, 117, 114, 110, 32]) ++ x ++ [44, 32, 49, 59]
abbrev tw (w : Str) : Tok := ⟨0, w, 0⟩
abbrev tsm : Tok := ⟨3, w_semi, 0⟩
/-- The tokens ahead of the pattern. -/
abbrev emA : List Tok := [tw w_tquery, tw [113], tw w_by, tw [107], tw w_tmatch, tw w_twhere, tlp, tw w_plus, tlp]
theorem em_scan {p x : Str} (hp : p.length ≤ 300) (hx : x.length ≤ 300) (np : 35 ∉ p) (nx : 35 ∉ x) (ep : (scanS p).2.2 = 0) (ex : (scanS x).2.2 = 0) :
    (scanS (emT p x)).2.2 = 0 ∧ (scanS (emT p x)).1.map erT = emA ++ (tks p ++ (trp :: tcm :: (tks x ++ (trp :: tw w_treturn :: (tks x ++ [tcm, tnum 49, tsm]))))) := by
  have h8 : Pe [44, 32, 49, 59] [tcm, tnum 49, tsm] [] := Pe.text (u := [44, 32, 49, 59]) (by kernel_rfl) (by decide) .nil
  have h7 : Pe x (tks x) ([44, 32, 49, 59] ++ []) := .text ex nx (sep_of (by decide) (by decide))
  have h6 : Pe [41, 32, 114, 101, 116, 117, 114, 110] [trp, tw w_treturn] (([32] ++ (x ++ [44, 32, 49, 59])) ++ []) := Pe.text (u := [41, 32, 114, 101, 116, 117, 114, 110]) (by kernel_rfl) (by decide) (sep_of (by decide) (by decide))
  have h5 : Pe x (tks x) (([41, 32, 114, 101, 116, 117, 114, 110] ++ ([32] ++ (x ++ [44, 32, 49, 59]))) ++ []) := .text ex nx (sep_of (by decide) (by decide))
  have h4 : Pe [41, 44] [trp, tcm] (([32] ++ (x ++ ([41, 32, 114, 101, 116, 117, 114, 110] ++ ([32] ++ (x ++ [44, 32, 49, 59]))))) ++ []) := Pe.text (u := [41, 44]) (by kernel_rfl) (by decide) (sep_of (by decide) (by decide))
  have h3 : Pe p (tks p) (([41, 44] ++ ([32] ++ (x ++ ([41, 32, 114, 101, 116, 117, 114, 110] ++ ([32] ++ (x ++ [44, 32, 49, 59])))))) ++ []) := .text ep np (sep_of (by decide) (by decide))
  have h1 : Pe [113, 117, 101, 114, 121, 32, 113, 32, 98, 121, 32, 107, 32, 109, 97, 116, 99, 104, 32, 119, 104, 101, 114, 101, 40, 112, 108, 117, 115] [tw w_tquery, tw [113], tw w_by, tw [107], tw w_tmatch, tw w_twhere, tlp, tw w_plus] (([40] ++ (p ++ ([41, 44] ++ ([32] ++ (x ++ ([41, 32, 114, 101, 116, 117, 114, 110] ++ ([32] ++ (x ++ [44, 32, 49, 59])))))))) ++ []) := Pe.text (u := [113, 117, 101, 114, 121, 32, 113, 32, 98, 121, 32, 107, 32, 109, 97, 116, 99, 104, 32, 119, 104, 101, 114, 101, 40, 112, 108, 117, 115]) (by kernel_rfl) (by decide) (sep_of (by decide) (by decide))
  have h := h1.app ((Pe.lpar _).app (h3.app (h4.app ((Pe.space _).app (h5.app (h6.app ((Pe.space _).app (h7.app h8))))))))
  have e : [113, 117, 101, 114, 121, 32, 113, 32, 98, 121, 32, 107, 32, 109, 97, 116, 99, 104, 32, 119, 104, 101, 114, 101, 40, 112, 108, 117, 115] ++ ([40] ++ (p ++ ([41, 44] ++ ([32] ++ (x ++ ([41, 32, 114, 101, 116, 117, 114, 110] ++ ([32] ++ (x ++ [44, 32, 49, 59])))))))) = emT p x := by
    unfold emT
    simp only [List.append_assoc, List.cons_append, List.nil_append]
  rw [e] at h
  exact h.scan (by unfold emT; simp only [List.length_append, List.length_cons, List.length_nil]; omega)
section
variable {E T : PS → Syn × PS} {pre post post' : List Tok} {d : Int} {t : Tok}
theorem nest_cur {read : Syn → PS → Syn × PS} {z : Syn} (h0 : 0 ≤ d) (h1 : d < 64) : nestP read z (Cur pre (t :: post) d) = ((read z (Cur (pre ++ [t]) post (d + 1))).1, shallow (read z (Cur (pre ++ [t]) post (d + 1))).2) := by
  have e2 : nestF (Cur pre (t :: post) d) = Cur pre (t :: post) d := by
    unfold nestF
    rw [if_neg (by simp only [decide_eq_true_eq]; exact (by omega : ¬ 64 ≤ d))]
  rw [nestP_eq', e2, if_neg (show ¬ ((Cur pre (t :: post) d).bad != 0) = true from (by decide : ¬ ((0 : Int) != 0) = true)), deep_cur h0 h1, adv_cur]
theorem pat_form {f : Str × Int} (h0 : 0 ≤ d) (h1 : d < 64) (he : Era pre) (hq : Era (t :: post)) (hf : formL.find? (fun f => isP f.1 (Cur pre (t :: post) d)) = some f) :
    patP E T (Cur pre (t :: post) d) = ((patK E T f.2 ⟨f.2, [], [], 0, [], 0⟩ (Cur (pre ++ [t]) post (d + 1))).1, shallow (patK E T f.2 ⟨f.2, [], [], 0, [], 0⟩ (Cur (pre ++ [t]) post (d + 1))).2) := by
  unfold patP
  rw [hf]
  simp only
  rw [cur_off he hq]
  exact nest_cur (read := patK E T f.2) h0 h1
theorem patK_bad (sE : Bof E) (sT : Bof T) {k : Int} {z : Syn} (h : (T (Cur (pre ++ [tlp]) post d)).2.bad = 12) : (patK E T k z (Cur pre (tlp :: post) d)).2.bad = 12 := by
  unfold patK
  rw [exp_cur (by decide)]
  have hne : (T (Cur (pre ++ [tlp]) post d)).2.bad ≠ 0 := by rw [h]; decide
  have b := bo_rest sE sT k { z with kids := [(T (Cur (pre ++ [tlp]) post d)).1] } (st := (T (Cur (pre ++ [tlp]) post d)).2) trivial
  exact ((b.trans (.exp w_rpar _)).bad hne).trans h
theorem patK_plus {z a : Syn} {M : List Tok} (h : T (Cur (pre ++ [tlp]) post d) = (a, Cur M (trp :: post') d)) : patK E T 9 z (Cur pre (tlp :: post) d) = ({ z with kids := [a] }, Cur (M ++ [trp]) post' d) := by
  unfold patK
  rw [exp_cur (by decide), h]
  show (({ z with kids := [a] } : Syn), expP w_rpar (Cur M (trp :: post') d)) = _
  rw [exp_cur (by decide)]
theorem patK_where {z a : Syn} {M inner : List Tok} (h : T (Cur (pre ++ [tlp]) post d) = (a, Cur M (tcm :: inner) d)) :
    patK E T 12 z (Cur pre (tlp :: post) d) = ({ z with kids := [a] ++ [(E (Cur (M ++ [tcm]) inner d)).1] }, expP w_rpar (E (Cur (M ++ [tcm]) inner d)).2) := by
  unfold patK
  rw [exp_cur (by decide), h]
  show (({ z with kids := [a] ++ [(E (expP w_comma (Cur M (tcm :: inner) d))).1] } : Syn), expP w_rpar (E (expP w_comma (Cur M (tcm :: inner) d))).2) = _
  rw [exp_cur (by decide)]
end
theorem one_or {E N : PS → Syn × PS} {pre : List Tok} (hp : Era pre) : orP E N (Cur pre [tnum 49, tsm] 0) = (snum 1, Cur (pre ++ [tnum 49]) [tsm] 0) := by
  have u := unit_num (E := E) (d := 0) hp (show Era [tsm] from rfl) 49
  rw [num49] at u
  have no : NoOp (Cur (pre ++ [tnum 49]) [tsm] 0) := by
    refine ⟨⟨?_, ?_, ?_, ?_⟩, ?_, ?_, ?_, ?_, ?_, ?_⟩ <;> (rw [is_cur]; rfl)
  rw [or_unit (by rw [is_cur]; rfl) (by rw [u]; exact no), u]
theorem one_read {pre : List Tok} (hp : Era pre) : EE (Cur pre [tnum 49, tsm] 0) = (snum 1, Cur (pre ++ [tnum 49]) [tsm] 0) := by
  rw [EE_or]
  exact one_or hp
/-- The list behind 'return'. -/
theorem ret_read {pre L : List Tok} {t : Syn} (hp : Era pre) (hL : Era L) (h : EE (Cur [] L 0) = (t, Cur L [] 0)) : listP EE (Cur pre (L ++ [tcm, tnum 49, tsm]) 0) = ([t, snum 1], Cur (((pre ++ L) ++ [tcm]) ++ [tnum 49]) [tsm] 0) := by
  have w := within (n := 64) (m := 64) (d := 0) (d' := 0) (L := L) (pre := pre) (post := [tcm, tnum 49, tsm]) (t := t) hL (by decide) (by decide) (by decide) (by decide) hp rfl (.cm _)
  have e : EE (Cur pre (L ++ [tcm, tnum 49, tsm]) 0) = (t, Cur (pre ++ L) [tcm, tnum 49, tsm] 0) := by
    rcases w.1 h with ⟨_, h⟩ | h
    · exact absurd h (by decide)
    · exact h
  have hn : ∀ (n : Nat) (o : List Syn), listGo EE n (Cur (((pre ++ L) ++ [tcm]) ++ [tnum 49]) [tsm] 0) o = (o, Cur (((pre ++ L) ++ [tcm]) ++ [tnum 49]) [tsm] 0) := fun n o => by
    cases n with
    | zero => rfl
    | succ n =>
      unfold listGo
      rw [if_neg (by rw [is_cur]; decide)]
  unfold listP fuel
  rw [e]
  unfold listGo
  simp only
  rw [if_pos (by rw [is_cur]; decide), adv_cur, one_read ((hp.app hL).app (show Era [tcm] from rfl)), hn]
  rfl
/-- The tree of the query. -/
def emS (P X : Syn) : Syn := ⟨3, [113], [], 0, [⟨4, [107], [], 0, [], 0⟩, ⟨12, [], [], 0, [⟨9, [], [], 0, [P], 0⟩, X], 0⟩, X, snum 1], 0⟩
theorem find_where {pre post : List Tok} {d : Int} : formL.find? (fun f => isP f.1 (Cur pre (tw w_twhere :: post) d)) = some (w_twhere, 12) := by
  unfold formL
  rw [List.find?_cons, List.find?_cons, List.find?_cons, List.find?_cons, List.find?_cons, List.find?_cons, List.find?_cons, is_cur, is_cur, is_cur, is_cur, is_cur, is_cur, is_cur]
  kernel_rfl
theorem find_plus {pre post : List Tok} {d : Int} : formL.find? (fun f => isP f.1 (Cur pre (tw w_plus :: post) d)) = some (w_plus, 9) := by
  unfold formL
  rw [List.find?_cons, List.find?_cons, List.find?_cons, List.find?_cons, is_cur, is_cur, is_cur, is_cur]
  kernel_rfl
theorem em_where' {E T1 T2 : PS → Syn × PS} (sE : Bof E) (sT1 : Bof T1) (sT2 : Bof T2) (hT1 : T1 = patP E T2) {L X rest : List Tok} {P Y : Syn} (hL : Era L) (hX : Era X) (hr : Era rest)
    (w1 : (T2 (Cur emA (L ++ (trp :: tcm :: (X ++ (trp :: rest)))) 2)).2.bad = 12 ∨ T2 (Cur emA (L ++ (trp :: tcm :: (X ++ (trp :: rest)))) 2) = (P, Cur (emA ++ L) (trp :: tcm :: (X ++ (trp :: rest))) 2))
    (w2 : (E (Cur (((emA ++ L) ++ [trp]) ++ [tcm]) (X ++ (trp :: rest)) 1)).2.bad = 12 ∨ E (Cur (((emA ++ L) ++ [trp]) ++ [tcm]) (X ++ (trp :: rest)) 1) = (Y, Cur ((((emA ++ L) ++ [trp]) ++ [tcm]) ++ X) (trp :: rest) 1)) :
    (patP E T1 (Cur [tw w_tquery, tw [113], tw w_by, tw [107], tw w_tmatch] (tw w_twhere :: tlp :: tw w_plus :: tlp :: (L ++ (trp :: tcm :: (X ++ (trp :: rest))))) 0)).2.bad = 12 ∨
    patP E T1 (Cur [tw w_tquery, tw [113], tw w_by, tw [107], tw w_tmatch] (tw w_twhere :: tlp :: tw w_plus :: tlp :: (L ++ (trp :: tcm :: (X ++ (trp :: rest))))) 0) = (⟨12, [], [], 0, [⟨9, [], [], 0, [P], 0⟩, Y], 0⟩, Cur (((((emA ++ L) ++ [trp]) ++ [tcm]) ++ X) ++ [trp]) rest 0) := by
  have era3 : Era (trp :: rest) := Era.app (l := [trp]) rfl hr
  have era2 : Era (trp :: tcm :: (X ++ (trp :: rest))) := Era.app (l := [trp, tcm]) rfl (hX.app era3)
  have era1 : Era (L ++ (trp :: tcm :: (X ++ (trp :: rest)))) := hL.app era2
  have e1 := pat_form (E := E) (T := T1) (d := 0) (pre := [tw w_tquery, tw [113], tw w_by, tw [107], tw w_tmatch]) (t := tw w_twhere) (post := tlp :: tw w_plus :: tlp :: (L ++ (trp :: tcm :: (X ++ (trp :: rest))))) (by decide) (by decide) rfl (Era.app (l := [tw w_twhere, tlp, tw w_plus, tlp]) rfl era1) find_where
  have e2 := pat_form (E := E) (T := T2) (d := 1) (pre := [tw w_tquery, tw [113], tw w_by, tw [107], tw w_tmatch, tw w_twhere, tlp]) (t := tw w_plus) (post := tlp :: (L ++ (trp :: tcm :: (X ++ (trp :: rest))))) (by decide) (by decide) rfl (Era.app (l := [tw w_plus, tlp]) rfl era1) find_plus
  rw [← hT1] at e2
  rw [e1]
  rcases w1 with h12 | hg
  · left
    show (patK E T1 12 ⟨12, [], [], 0, [], 0⟩ (Cur [tw w_tquery, tw [113], tw w_by, tw [107], tw w_tmatch, tw w_twhere] (tlp :: tw w_plus :: tlp :: (L ++ (trp :: tcm :: (X ++ (trp :: rest))))) 1)).2.bad = 12
    refine patK_bad sE sT1 ?_
    show (T1 (Cur [tw w_tquery, tw [113], tw w_by, tw [107], tw w_tmatch, tw w_twhere, tlp] (tw w_plus :: tlp :: (L ++ (trp :: tcm :: (X ++ (trp :: rest))))) 1)).2.bad = 12
    rw [e2]
    exact patK_bad (k := 9) (d := 2) (pre := [tw w_tquery, tw [113], tw w_by, tw [107], tw w_tmatch, tw w_twhere, tlp, tw w_plus]) sE sT2 h12
  · have k1 := patK_plus (E := E) (T := T2) (d := 2) (pre := [tw w_tquery, tw [113], tw w_by, tw [107], tw w_tmatch, tw w_twhere, tlp, tw w_plus]) (z := ⟨9, [], [], 0, [], 0⟩) hg
    have k2 : T1 (Cur ([tw w_tquery, tw [113], tw w_by, tw [107], tw w_tmatch, tw w_twhere] ++ [tlp]) (tw w_plus :: tlp :: (L ++ (trp :: tcm :: (X ++ (trp :: rest))))) 1) = (⟨9, [], [], 0, [P], 0⟩, Cur ((emA ++ L) ++ [trp]) (tcm :: (X ++ (trp :: rest))) 1) := by
      refine e2.trans ?_
      have k1' : patK E T2 9 ⟨9, [], [], 0, [], 0⟩ (Cur ([tw w_tquery, tw [113], tw w_by, tw [107], tw w_tmatch, tw w_twhere, tlp] ++ [tw w_plus]) (tlp :: (L ++ (trp :: tcm :: (X ++ (trp :: rest))))) (1 + 1)) = (⟨9, [], [], 0, [P], 0⟩, Cur ((emA ++ L) ++ [trp]) (tcm :: (X ++ (trp :: rest))) (1 + 1)) := k1
      rw [k1', shallow_cur (by decide) (by decide)]
    have k3 := patK_where (E := E) (T := T1) (d := 1) (pre := [tw w_tquery, tw [113], tw w_by, tw [107], tw w_tmatch, tw w_twhere]) (z := ⟨12, [], [], 0, [], 0⟩) k2
    have k3' : patK E T1 12 ⟨12, [], [], 0, [], 0⟩ (Cur ([tw w_tquery, tw [113], tw w_by, tw [107], tw w_tmatch] ++ [tw w_twhere]) (tlp :: tw w_plus :: tlp :: (L ++ (trp :: tcm :: (X ++ (trp :: rest))))) (0 + 1)) = _ := k3
    rw [k3']
    rcases w2 with h12 | hg2
    · left
      show (expP w_rpar (E (Cur (((emA ++ L) ++ [trp]) ++ [tcm]) (X ++ (trp :: rest)) 1)).2).bad = 12
      rw [exp_stay (by rw [h12]; decide), h12]
    · right
      show (({ kind := 12, text := [], name := [], num := 0, kids := [⟨9, [], [], 0, [P], 0⟩] ++ [(E (Cur (((emA ++ L) ++ [trp]) ++ [tcm]) (X ++ (trp :: rest)) 1)).1], pos := 0 } : Syn), shallow (expP w_rpar (E (Cur (((emA ++ L) ++ [trp]) ++ [tcm]) (X ++ (trp :: rest)) 1)).2)) = _
      rw [hg2, exp_cur (by decide)]
      exact congrArg (fun s => ((_ : Syn), s)) (shallow_cur (d := 0) (by decide) (by decide))
theorem em_where {L X rest : List Tok} {P Y : Syn} (hL : Era L) (hX : Era X) (hr : Era rest) (h1 : TT (Cur [] L 0) = (P, Cur L [] 0)) (h2 : EE (Cur [] X 0) = (Y, Cur X [] 0)) :
    (TT (Cur [tw w_tquery, tw [113], tw w_by, tw [107], tw w_tmatch] (tw w_twhere :: tlp :: tw w_plus :: tlp :: (L ++ (trp :: tcm :: (X ++ (trp :: rest))))) 0)).2.bad = 12 ∨
    TT (Cur [tw w_tquery, tw [113], tw w_by, tw [107], tw w_tmatch] (tw w_twhere :: tlp :: tw w_plus :: tlp :: (L ++ (trp :: tcm :: (X ++ (trp :: rest))))) 0) = (⟨12, [], [], 0, [⟨9, [], [], 0, [P], 0⟩, Y], 0⟩, Cur (((((emA ++ L) ++ [trp]) ++ [tcm]) ++ X) ++ [trp]) rest 0) := by
  have era3 : Era (trp :: rest) := Era.app (l := [trp]) rfl hr
  have era2 : Era (trp :: tcm :: (X ++ (trp :: rest))) := Era.app (l := [trp, tcm]) rfl (hX.app era3)
  have w1 := withinT (m := 62) (d' := 2) (L := L) (t := P) (pre := emA) (post := trp :: tcm :: (X ++ (trp :: rest))) hL (by decide) (by decide) rfl era2 (.rp _) h1
  have w2 := (within (n := 64) (m := 64) (d := 0) (d' := 1) (L := X) (t := Y) (pre := ((emA ++ L) ++ [trp]) ++ [tcm]) (post := trp :: rest) hX (by decide) (by decide) (by decide) (by decide) (((Era.app (l := emA) rfl hL).app (show Era [trp] from rfl)).app (show Era [tcm] from rfl)) era3 (.rp _)).1 h2
  rw [TT_pat]
  exact em_where' bof_EE (bof_patN bof_EE 63) (bof_patN bof_EE 62) pat63 hL hX hr w1 (w2.imp (fun h => h.1) id)
theorem em_read {L X : List Tok} {P Y : Syn} (hL : Era L) (hX : Era X) (h1 : TT (Cur [] L 0) = (P, Cur L [] 0)) (h2 : EE (Cur [] X 0) = (Y, Cur X [] 0)) :
    (queryP EE TT (Cur [] (emA ++ (L ++ (trp :: tcm :: (X ++ (trp :: tw w_treturn :: (X ++ [tcm, tnum 49, tsm])))))) 0)).2.bad = 12 ∨
    ∃ M, queryP EE TT (Cur [] (emA ++ (L ++ (trp :: tcm :: (X ++ (trp :: tw w_treturn :: (X ++ [tcm, tnum 49, tsm])))))) 0) = (emS P Y, Cur M [] 0) := by
  have era : Era (tw w_treturn :: (X ++ [tcm, tnum 49, tsm])) := Era.app (l := [tw w_treturn]) rfl (hX.app rfl)
  have eraA : Era (L ++ (trp :: tcm :: (X ++ (trp :: tw w_treturn :: (X ++ [tcm, tnum 49, tsm]))))) := hL.app (Era.app (l := [trp, tcm]) rfl (hX.app (Era.app (l := [trp]) rfl era)))
  have hw := em_where hL hX era h1 h2
  generalize hR : L ++ (trp :: tcm :: (X ++ (trp :: tw w_treturn :: (X ++ [tcm, tnum 49, tsm])))) = R at *
  have hoff : offS (Cur [] (emA ++ R) 0) = 0 := cur_off rfl (Era.app (l := emA) rfl eraA)
  have hoff2 : offS (Cur [tw w_tquery, tw [113], tw w_by] (tw [107] :: tw w_tmatch :: tw w_twhere :: tlp :: tw w_plus :: tlp :: R) 0) = 0 := cur_off rfl (Era.app (l := [tw [107], tw w_tmatch, tw w_twhere, tlp, tw w_plus, tlp]) rfl eraA)
  have a1 : expP w_tquery (Cur [] (emA ++ R) 0) = Cur [tw w_tquery] (tw [113] :: tw w_by :: tw [107] :: tw w_tmatch :: tw w_twhere :: tlp :: tw w_plus :: tlp :: R) 0 := exp_cur (by kernel_rfl)
  have a2 := tok_cur (k := 0) (pre := [tw w_tquery]) (t := tw [113]) (post := tw w_by :: tw [107] :: tw w_tmatch :: tw w_twhere :: tlp :: tw w_plus :: tlp :: R) (d := 0) (by kernel_rfl)
  have a3 : isP w_by (Cur [tw w_tquery, tw [113]] (tw w_by :: tw [107] :: tw w_tmatch :: tw w_twhere :: tlp :: tw w_plus :: tlp :: R) 0) = true := by rw [is_cur]; kernel_rfl
  have a4 := tok_cur (k := 0) (pre := [tw w_tquery, tw [113], tw w_by]) (t := tw [107]) (post := tw w_tmatch :: tw w_twhere :: tlp :: tw w_plus :: tlp :: R) (d := 0) (by kernel_rfl)
  have a5 : expP w_tmatch (Cur [tw w_tquery, tw [113], tw w_by, tw [107]] (tw w_tmatch :: tw w_twhere :: tlp :: tw w_plus :: tlp :: R) 0) = Cur [tw w_tquery, tw [113], tw w_by, tw [107], tw w_tmatch] (tw w_twhere :: tlp :: tw w_plus :: tlp :: R) 0 := exp_cur (by kernel_rfl)
  have hk : keyP (Cur [tw w_tquery, tw [113]] (tw w_by :: tw [107] :: tw w_tmatch :: tw w_twhere :: tlp :: tw w_plus :: tlp :: R) 0) 0 = (⟨4, [107], [], 0, [], 0⟩, Cur [tw w_tquery, tw [113], tw w_by, tw [107]] (tw w_tmatch :: tw w_twhere :: tlp :: tw w_plus :: tlp :: R) 0) := by
    unfold keyP
    rw [if_pos a3, adv_cur]
    show ((⟨4, txtP 0 (Cur [tw w_tquery, tw [113], tw w_by] (tw [107] :: tw w_tmatch :: tw w_twhere :: tlp :: tw w_plus :: tlp :: R) 0), [], 0, [], offS (Cur [tw w_tquery, tw [113], tw w_by] (tw [107] :: tw w_tmatch :: tw w_twhere :: tlp :: tw w_plus :: tlp :: R) 0)⟩ : Syn), tokP 0 (Cur [tw w_tquery, tw [113], tw w_by] (tw [107] :: tw w_tmatch :: tw w_twhere :: tlp :: tw w_plus :: tlp :: R) 0)) = _
    rw [a4.1, a4.2, hoff2]; rfl
  have hQ : queryP EE TT (Cur [] (emA ++ R) 0) = (⟨3, [113], [], 0, [⟨4, [107], [], 0, [], 0⟩, (TT (Cur [tw w_tquery, tw [113], tw w_by, tw [107], tw w_tmatch] (tw w_twhere :: tlp :: tw w_plus :: tlp :: R) 0)).1] ++ (listP EE (expP w_treturn (TT (Cur [tw w_tquery, tw [113], tw w_by, tw [107], tw w_tmatch] (tw w_twhere :: tlp :: tw w_plus :: tlp :: R) 0)).2)).1, 0⟩, expP w_semi (listP EE (expP w_treturn (TT (Cur [tw w_tquery, tw [113], tw w_by, tw [107], tw w_tmatch] (tw w_twhere :: tlp :: tw w_plus :: tlp :: R) 0)).2)).2) := by
    unfold queryP
    simp only
    rw [a1, a2.1, a2.2, hoff]
    have hk' : keyP (Cur ([tw w_tquery] ++ [tw [113]]) (tw w_by :: tw [107] :: tw w_tmatch :: tw w_twhere :: tlp :: tw w_plus :: tlp :: R) 0) 0 = _ := hk
    rw [hk', a5]
  rw [hQ]
  rcases hw with h12 | hg
  · left
    have hne : (TT (Cur [tw w_tquery, tw [113], tw w_by, tw [107], tw w_tmatch] (tw w_twhere :: tlp :: tw w_plus :: tlp :: R) 0)).2.bad ≠ 0 := by rw [h12]; decide
    have b := ((Bo.exp w_treturn _).trans (bo_list bof_EE trivial)).trans (Bo.exp w_semi (listP EE (expP w_treturn (TT (Cur [tw w_tquery, tw [113], tw w_by, tw [107], tw w_tmatch] (tw w_twhere :: tlp :: tw w_plus :: tlp :: R) 0)).2)).2)
    exact (b.bad hne).trans h12
  · right
    rw [hg]
    simp only
    have eraM : Era (((((emA ++ L) ++ [trp]) ++ [tcm]) ++ X) ++ [trp]) := ((((Era.app (l := emA) rfl hL).app (show Era [trp] from rfl)).app (show Era [tcm] from rfl)).app hX).app rfl
    rw [exp_cur (t := tw w_treturn) (by kernel_rfl), ret_read (eraM.app (show Era [tw w_treturn] from rfl)) hX h2, exp_cur (by decide)]
    exact ⟨_, rfl⟩
theorem map_four {l : List Syn} {a b c d : Syn} (h : l.map erS = [a, b, c, d]) : ∃ x y z w, l = [x, y, z, w] ∧ erS x = a ∧ erS y = b ∧ erS z = c ∧ erS w = d := by
  match l, h with
  | [x, y, z, w], h =>
    simp only [List.map_cons, List.map_nil, List.cons.injEq, and_true] at h
    exact ⟨x, y, z, w, rfl, h.1, h.2.1, h.2.2.1, h.2.2.2⟩
theorem map_one {l : List Syn} {a : Syn} (h : l.map erS = [a]) : ∃ x, l = [x] ∧ erS x = a := by
  match l, h with
  | [x], h =>
    simp only [List.map_cons, List.map_nil, List.cons.injEq, and_true] at h
    exact ⟨x, rfl, h⟩
theorem embeds {p x : Str} (hp : p.length ≤ 300) (hx : x.length ≤ 300) (np : 35 ∉ p) (nx : 35 ∉ x) (ep : (parseP TT p).2.2 = 0) (ex : (parseP EE x).2.2 = 0) :
    (parseP (queryP EE TT) (emT p x)).2.2 = 12 ∨ ((parseP (queryP EE TT) (emT p x)).2.2 = 0 ∧
      ∃ k w r o pl y p', (parseP (queryP EE TT) (emT p x)).1.kids = [k, w, r, o] ∧ k.text = [107] ∧ w.kind = 12 ∧ w.kids = [pl, y] ∧ pl.kids = [p'] ∧ sameN p' (parseP TT p).1 = true ∧ sameN y (parseP EE x).1 = true ∧ sameN r (parseP EE x).1 = true) := by
  obtain ⟨sp, rp⟩ := alone rdr_TT ep
  obtain ⟨sx, rx⟩ := alone rdr_EE ex
  have W := whole (er_query er_EE er_TT) (em_scan hp hx np nx sp sx)
  rcases em_read (Era.map _) (Era.map _) rp rx with h12 | ⟨M, hg⟩
  · exact .inl (W.2 h12)
  · right
    obtain ⟨c1, c2⟩ := W.1 _ _ hg
    refine ⟨c1, ?_⟩
    rw [erS_eq] at c2
    obtain ⟨k, w, r, o, e1, e2, e3, e4, e5⟩ := map_four (congrArg Syn.kids c2)
    rw [erS_eq w] at e3
    rw [erS_eq k] at e2
    obtain ⟨pl, y, f1, f2, f3⟩ := map_two (congrArg Syn.kids e3)
    rw [erS_eq pl] at f2
    obtain ⟨p', g1, g2⟩ := map_one (congrArg Syn.kids f2)
    exact ⟨k, w, r, o, pl, y, p', e1, congrArg Syn.text e2, congrArg Syn.kind e3, f1, g1, sameN_er _ _ g2, sameN_er _ _ f3, sameN_er _ _ e4⟩

/-! Other separators. -/
abbrev bs1 : Str := [32]
abbrev bs2 : Str := [10]
abbrev bs3 : Str := [32, 35, 32, 40, 10]
def Btw (b : Str) : Prop := b = bs1 ∨ b = bs2 ∨ b = bs3
theorem Btw.pe {b : Str} (h : Btw b) (rest : Str) : Pe b [] rest := by
  rcases h with rfl | rfl | rfl
  · exact .space rest
  · exact ⟨[], space_sc (c := 10) (r := rest) rfl (by decide) (.nil _), rfl⟩
  · refine ⟨[], ?_, rfl⟩
    refine space_sc (c := 32) (r := [35, 32, 40, 10] ++ rest) rfl (by decide) ?_
    have e : sepS ((bs3 ++ rest).drop (0 + 1)) = 3 := rfl
    refine .sep (by simp) (by rw [e]; decide) ?_
    rw [e]
    exact space_sc (c := 10) (r := rest) rfl (by decide) (.nil _)
theorem Btw.sep {b : Str} (h : Btw b) (rest : Str) : Sepd (b ++ rest) := by
  rcases h with rfl | rfl | rfl
  · exact sep_of (by decide) (by decide)
  · exact sep_of (by decide) (by decide)
  · exact sep_of (by decide) (by decide)
theorem Btw.len {b : Str} (h : Btw b) : b.length ≤ 5 := by rcases h with rfl | rfl | rfl <;> decide
/-- The texts of tokens with separators. -/
def spO (b : Str) : List Tok → Str
  | [] => []
  | t :: r => (writtenS t ++ b) ++ spO b r
theorem spO_pe {b : Str} (h : Btw b) : ∀ l : List Tok, (∀ t ∈ l, ∃ n, Good t n) → ∀ rest, Pe (spO b l) (l.map erT) rest
  | [], _, rest => .nil rest
  | t :: r, hg, rest => by
    obtain ⟨n, hn⟩ := hg t (List.mem_cons_self ..)
    have k1 : Pe (writtenS t) [erT t] (b ++ (spO b r ++ rest)) := ⟨_, first_tok hn (h.sep _) (l := []) (.nil _), rfl⟩
    have k2 := Pe.app k1 (h.pe _)
    exact Pe.app k2 (spO_pe h r (fun x hx => hg x (List.mem_cons_of_mem _ hx)) rest)
theorem spO_len {b : Str} (h : Btw b) : ∀ l : List Tok, (spO b l).length ≤ wlen l + 5 * l.length
  | [] => by simp [spO]
  | t :: r => by
    have ih := spO_len h r
    have hb := h.len
    have e : wlen (t :: r) = (writtenS t).length + wlen r := by unfold wlen; rw [List.map_cons, List.sum_cons]
    rw [e, spO]
    simp only [List.length_append, List.length_cons]
    omega
theorem spO_snoc (b : Str) (t : Tok) : ∀ l : List Tok, spO b (l ++ [t]) = spO b l ++ (writtenS t ++ b)
  | [] => by simp [spO]
  | x :: r => by simp only [List.cons_append, spO, spO_snoc b t r, List.append_assoc]
theorem wlen_app (l m : List Tok) : wlen (l ++ m) = wlen l + wlen m := by
  unfold wlen
  rw [List.map_append, List.sum_append]
theorem spaces {s b : Str} (hl : s.length ≤ 800) (hb : Btw b) (he : (scanS s).2.2 = 0) : (b ++ spO b (scanS s).1).length ≤ 10000 ∧
    (parseP (progP EE TT) (b ++ spO b (scanS s).1)).2.2 = (parseP (progP EE TT) s).2.2 ∧ sameN (parseP (progP EE TT) s).1 (parseP (progP EE TT) (b ++ spO b (scanS s).1)).1 = true := by
  have g := (scan_sc he).2.good
  have hlen := spO_len hb (scanS s).1
  have hb5 := hb.len
  have h1 : (b ++ spO b (scanS s).1).length ≤ 10000 := by rw [List.length_append]; omega
  have h2 := (hb.pe (spO b (scanS s).1 ++ [])).app (spO_pe hb (scanS s).1 (fun t ht => let ⟨n, h, _⟩ := g.1 t ht; ⟨n, h⟩) [])
  obtain ⟨e1, e2⟩ := h2.scan (by omega)
  have e3 : (scanS (b ++ spO b (scanS s).1)).1.map erT = (scanS s).1.map erT := e2
  have key := same_toks (er_prog er_EE er_TT) e3.symm s.length (b ++ spO b (scanS s).1).length
  have f1 : parseP (progP EE TT) s = doneP (progP EE TT (beginS (scanS s).1 s.length)) := by unfold parseP; rw [he]; rfl
  have f2 : parseP (progP EE TT) (b ++ spO b (scanS s).1) = doneP (progP EE TT (beginS (scanS (b ++ spO b (scanS s).1)).1 (b ++ spO b (scanS s).1).length)) := by unfold parseP; rw [e1]; rfl
  unfold done2 at key
  rw [← f1, ← f2, Prod.mk.injEq] at key
  exact ⟨h1, key.2.symm, sameN_er _ _ key.1⟩

/-! A query as a program. -/
theorem progGo_no {w : Str} {F : PS → Syn × PS} {n : Nat} {st : PS} {out : List Syn} (h : isP w st = false) : progGo w F n st out = (out, st) := by
  cases n with
  | zero => rfl
  | succ n => unfold progGo; rw [h]; rfl
theorem progGo_pre {w : Str} {F : PS → Syn × PS} : ∀ (n : Nat) (st : PS) (out : List Syn), ∃ r, (progGo w F n st out).1 = out ++ r
  | 0, st, out => ⟨[], by simp [progGo]⟩
  | n + 1, st, out => by
    unfold progGo
    split
    · obtain ⟨r, h⟩ := progGo_pre n (F st).2 (out ++ [(F st).1]) (w := w) (F := F)
      exact ⟨[(F st).1] ++ r, by rw [h, List.append_assoc]⟩
    · exact ⟨[], by simp⟩
theorem kind_kind (st : PS) : (kindP st).1.kind = 1 := by
  unfold kindP
  simp only
  split <;> rfl
theorem query_kind (E T : PS → Syn × PS) (st : PS) : (queryP E T st).1.kind = 3 := rfl
theorem one_word {w v : Str} {st : PS} (h : isP w st = true) (hn : (w == v) = false) : isP v st = false := by
  unfold isP at h ⊢
  cases he : endP st with
  | true => rfl
  | false =>
    rw [he] at h
    simp only [Bool.false_eq_true, ↓reduceIte, Bool.and_eq_true, beq_iff_eq] at h ⊢
    rw [h.1, hn]; rfl
theorem done_ok {r : Syn × PS} (h : (doneP r).2.2 = 0) : r.2.bad = 0 ∧ r.2.toks.length ≤ r.2.pos := by
  unfold doneP at h
  simp only at h
  by_cases h2 : decide ((r.2.pos : Int) < (r.2.toks.length : Int)) = true
  · rw [if_pos h2, fail_bad (by decide), if_pos rfl] at h
    exact absurd h (by have := fail_bad (e := 4) (by decide) r.2; simpa using this)
  · rw [if_neg h2] at h
    by_cases h3 : (r.2.bad != 0) = true
    · rw [if_pos h3] at h
      exact absurd h (by simpa using h3)
    · simp only [decide_eq_true_eq] at h2
      exact ⟨by simpa using h3, by omega⟩
theorem ok_done {r : Syn × PS} (h : r.2.bad = 0) (k : r.2.toks.length ≤ r.2.pos) : doneP r = (r.1, 0, 0) := by
  unfold doneP
  simp only
  rw [show (if decide ((r.2.pos : Int) < (r.2.toks.length : Int)) then failP 4 r.2 else r.2) = r.2 from if_neg (by simp only [decide_eq_true_eq]; omega), if_neg (by rw [h]; decide)]
/-- A text that is read as a query. -/
theorem nest_yes {s : Str} (h : (parseP (queryP EE TT) s).2.2 = 0) : ∃ q, parseP (queryP EE TT) s = (q, 0, 0) ∧ parseP (progP EE TT) s = (⟨0, [], [], 0, [q], 0⟩, 0, 0) := by
  obtain ⟨h1, h2, h3, h4⟩ := parse_good h
  refine ⟨_, h4, ?_⟩
  have hp : parseP (progP EE TT) s = doneP (progP EE TT (beginS (scanS s).1 s.length)) := by unfold parseP; rw [h1]; rfl
  rw [hp]
  generalize beginS (scanS s).1 s.length = st at *
  have hq : isP w_tquery st = true := by
    cases hi : isP w_tquery st with
    | true => rfl
    | false =>
      exfalso
      have b : Bo (expP w_tquery st) (queryP EE TT st).2 := by
        have k1 : Bo (expP w_tquery st) (expP w_tmatch (keyP (tokP 0 (expP w_tquery st)) (offS st)).2) := ((Bo.tok _ _).trans (bo_key _ _)).trans (.exp _ _)
        exact (((k1.trans (bof_TT _)).trans (.exp w_treturn _)).trans (bo_list bof_EE trivial)).trans (.exp _ _)
      have hb := b.good h2
      by_cases h0 : st.bad = 0
      · rw [exp_no h0 hi] at hb; exact absurd hb (by decide)
      · rw [exp_stay h0] at hb; exact h0 hb
  have ht : isP w_ttype st = false := one_word hq (by decide)
  have he : isP w_tquery (queryP EE TT st).2 = false := by
    unfold isP
    have : endP (queryP EE TT st).2 = true := by
      unfold endP
      rw [Bool.or_eq_true, decide_eq_true_eq]
      exact .inr (by omega)
    rw [this]; rfl
  have e : progP EE TT st = (⟨0, [], [], 0, [(queryP EE TT st).1], 0⟩, (queryP EE TT st).2) := by
    unfold progP
    simp only
    rw [progGo_no ht]
    simp only
    have : progGo w_tquery (queryP EE TT) (fuel st) st [] = ([(queryP EE TT st).1], (queryP EE TT st).2) := by
      unfold fuel progGo
      rw [hq]
      simp only [↓reduceIte]
      rw [progGo_no he]; rfl
    rw [this]
  rw [e]
  exact ok_done h2 h3
/-- A text that is not. -/
theorem nest_no {s : Str} (h : (parseP (queryP EE TT) s).2.2 ≠ 0) : ((parseP (progP EE TT) s).2.2 != 0) = true ∨ (((parseP (progP EE TT) s).1.kids.length : Int) != 1) = true ∨ ∃ x, (parseP (progP EE TT) s).1.kids = [x] ∧ (x.kind != 3) = true := by
  by_cases hf : (parseP (progP EE TT) s).2.2 = 0
  · right
    obtain ⟨h1, h2, h3, h4⟩ := parse_good hf
    by_cases hlen : (parseP (progP EE TT) s).1.kids.length = 1
    · right
      obtain ⟨x, hx⟩ : ∃ x, (parseP (progP EE TT) s).1.kids = [x] := List.length_eq_one_iff.1 hlen
      refine ⟨x, hx, ?_⟩
      cases hk : (x.kind != 3) with
      | true => rfl
      | false =>
        exfalso
        apply h
        have hk3 : x.kind = 3 := by simpa using hk
        have hp : parseP (queryP EE TT) s = doneP (queryP EE TT (beginS (scanS s).1 s.length)) := by unfold parseP; rw [h1]; rfl
        rw [hp]
        rw [h4] at hx
        generalize beginS (scanS s).1 s.length = st at *
        have hx' : (progGo w_tquery (queryP EE TT) (fuel (progGo w_ttype kindP (fuel st) st []).2) (progGo w_ttype kindP (fuel st) st []).2 (progGo w_ttype kindP (fuel st) st []).1).1 = [x] := hx
        have h2' : (progGo w_tquery (queryP EE TT) (fuel (progGo w_ttype kindP (fuel st) st []).2) (progGo w_ttype kindP (fuel st) st []).2 (progGo w_ttype kindP (fuel st) st []).1).2.bad = 0 := h2
        have h3' : (progGo w_tquery (queryP EE TT) (fuel (progGo w_ttype kindP (fuel st) st []).2) (progGo w_ttype kindP (fuel st) st []).2 (progGo w_ttype kindP (fuel st) st []).1).2.toks.length ≤ (progGo w_tquery (queryP EE TT) (fuel (progGo w_ttype kindP (fuel st) st []).2) (progGo w_ttype kindP (fuel st) st []).2 (progGo w_ttype kindP (fuel st) st []).1).2.pos := h3
        cases ht : isP w_ttype st with
        | true =>
          have e : progGo w_ttype kindP (fuel st) st [] = progGo w_ttype kindP (st.toks.length - st.pos) (kindP st).2 ([] ++ [(kindP st).1]) := by
            show progGo w_ttype kindP (st.toks.length - st.pos + 1) st [] = _
            rw [progGo, if_pos ht]
          obtain ⟨r, hr⟩ := progGo_pre (w := w_ttype) (F := kindP) (st.toks.length - st.pos) (kindP st).2 ([] ++ [(kindP st).1])
          rw [← e] at hr
          obtain ⟨r2, hr2⟩ := progGo_pre (w := w_tquery) (F := queryP EE TT) (fuel (progGo w_ttype kindP (fuel st) st []).2) (progGo w_ttype kindP (fuel st) st []).2 (progGo w_ttype kindP (fuel st) st []).1
          rw [hx', hr] at hr2
          simp only [List.nil_append, List.cons_append, List.cons.injEq] at hr2
          rw [hr2.1, kind_kind] at hk3
          exact absurd hk3 (by decide)
        | false =>
          rw [progGo_no ht] at hx' h2' h3'
          simp only at hx' h2' h3'
          cases hq : isP w_tquery st with
          | false =>
            rw [progGo_no hq] at hx'
            exact absurd hx' (by simp)
          | true =>
            have e : progGo w_tquery (queryP EE TT) (fuel st) st [] = progGo w_tquery (queryP EE TT) (st.toks.length - st.pos) (queryP EE TT st).2 ([] ++ [(queryP EE TT st).1]) := by
              show progGo w_tquery (queryP EE TT) (st.toks.length - st.pos + 1) st [] = _
              rw [progGo, if_pos hq]
            rw [e] at hx' h2' h3'
            -- nothing more is read
            have hstop : progGo w_tquery (queryP EE TT) (st.toks.length - st.pos) (queryP EE TT st).2 ([] ++ [(queryP EE TT st).1]) = ([] ++ [(queryP EE TT st).1], (queryP EE TT st).2) := by
              cases hn : st.toks.length - st.pos with
              | zero => rfl
              | succ n =>
                rw [hn] at hx'
                cases hq2 : isP w_tquery (queryP EE TT st).2 with
                | false => exact progGo_no hq2
                | true =>
                  exfalso
                  rw [progGo, if_pos hq2] at hx'
                  obtain ⟨r, hr⟩ := progGo_pre (w := w_tquery) (F := queryP EE TT) n (queryP EE TT (queryP EE TT st).2).2 ([] ++ [(queryP EE TT st).1] ++ [(queryP EE TT (queryP EE TT st).2).1])
                  rw [hr] at hx'
                  exact absurd (congrArg List.length hx') (by simp)
            rw [hstop] at h2' h3'
            rw [ok_done h2' h3']
    · left
      simp only [bne_iff_ne, ne_eq]
      omega
  · left
    simpa using hf
end Go.Proofs.YtpgmglacdcfnaaaDoor
