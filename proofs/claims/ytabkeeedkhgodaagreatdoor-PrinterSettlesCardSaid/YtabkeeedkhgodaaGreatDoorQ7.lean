/-
  Several texts in one: Q1, Q2, Q3, Q4, Q5, Q6, Q7, Qa, Qb, Qc, Qd, Qe, Qf. No condition.
-/
import Derived.Test.YtabkeeedkhgodaaGreatDoorM13
import Derived.Test.YtabkeeedkhgodaaGreatDoorP19
import Derived.Test.YtabkeeedkhgodaaGreatDoorQ0
namespace Go.Proofs.YtabkeeedkhgodaaGreatDoor
open Go Go.Aw
set_option linter.unusedVariables false
set_option linter.unusedSimpArgs false
set_option maxRecDepth 100000

/-! Numerals. -/
theorem dec_digits (n : Nat) : (Lib.decDigits n).all digitS = true ∧ 0 < (Lib.decDigits n).length := by
  induction n using Nat.strongRecOn with
  | _ n ih =>
    have key : ∀ k, k < 10 → digitS (UInt8.ofNat (48 + k)) = true := by
      intro k hk
      have := (show (List.range 10).all (fun k => digitS (UInt8.ofNat (48 + k))) = true by kernel_rfl)
      rw [List.all_eq_true] at this
      exact this k (List.mem_range.2 hk)
    by_cases h : n < 10
    · rw [Lib.decDigits, dif_pos h]
      exact ⟨by rw [List.all_cons, key n h]; rfl, by simp⟩
    · rw [Lib.decDigits, dif_neg h]
      obtain ⟨h1, h2⟩ := ih (n / 10) (by omega)
      exact ⟨by rw [List.all_append, h1, List.all_cons, key _ (Nat.mod_lt _ (by decide))]; rfl, by simp⟩
theorem numGo_app : ∀ (a b : Str) (n : Int), (numGo a n).2 = 0 → numGo (a ++ b) n = numGo b (numGo a n).1
  | [], b, n, _ => rfl
  | c :: r, b, n, h => by
    rw [List.cons_append, numGo, numGo]
    rw [numGo] at h
    split at h
    · cases h
    · rename_i h1
      rw [if_neg h1, if_neg h1]
      exact numGo_app r b _ h
theorem dv_digit {k : Nat} (hk : k < 10) : dvS (UInt8.ofNat (48 + k)) = (k : Int) := by
  have := (show (List.range 10).all (fun k => dvS (UInt8.ofNat (48 + k)) == (k : Int)) = true by kernel_rfl)
  rw [List.all_eq_true] at this
  simpa using this k (List.mem_range.2 hk)
theorem numGo_dec (n : Nat) (h : n ≤ 1099511627776) : numGo (Lib.decDigits n) 0 = ((n : Int), 0) := by
  induction n using Nat.strongRecOn with
  | _ n ih =>
    by_cases h1 : n < 10
    · rw [Lib.decDigits, dif_pos h1, numGo, dv_digit h1, if_neg (by simp only [decide_eq_true_eq]; omega), numGo]
      simp
    · rw [Lib.decDigits, dif_neg h1]
      have h2 := ih (n / 10) (by omega) (by omega)
      rw [numGo_app _ _ _ (by rw [h2]), h2, numGo, dv_digit (Nat.mod_lt _ (by decide)), if_neg (by simp only [decide_eq_true_eq]; omega), numGo]
      have : 10 * ((n / 10 : Nat) : Int) + ((n % 10 : Nat) : Int) = (n : Int) := by omega
      rw [this]
theorem all_span {s : Str} (h : s.all digitS = true) : spanS digitS s = s.length := by
  have := span_all digitS s
  rw [h] at this
  exact of_decide_eq_true this
theorem numS_dec {n : Nat} (h : n ≤ 1099511627776) : numS (Lib.decDigits n) = ((n : Int), 0) := by
  obtain ⟨h1, h2⟩ := dec_digits n
  have e : (Lib.decDigits n == []) = false := by
    cases hd : Lib.decDigits n with
    | nil => rw [hd] at h2; cases h2
    | cons c r => rfl
  unfold numS
  rw [e, all_span h1, Bool.false_or, if_neg (by simp), numGo_dec n h]

/-! Pieces. -/
theorem Pe.one {u rest : Str} {k : Int} {x : Str} (h0 : 0 < u.length) (hs : sepS (u ++ rest) = 0) (hn : nextF (u ++ rest) = foT k x u.length) : Pe u [⟨k, x, 0⟩] rest := by
  have h := Sc.tok (s := u ++ rest) (i := 0) (l := []) (j := u.length) (by rw [List.length_append]; omega) hs (by show (nextF (u ++ rest)).err = 0; rw [hn]; rfl)
    (by show Sc _ (0 + (nextF (u ++ rest)).bytes.toNat) [] u.length; rw [hn]; show Sc _ (0 + ((u.length : Int)).toNat) [] _; rw [Int.toNat_natCast, Nat.zero_add]; exact .nil _)
  have e : nextF ((u ++ rest).drop 0) = foT k x u.length := hn
  rw [e] at h
  exact ⟨_, h, rfl⟩
/-- Not the first byte of a separator. -/
def nsep (c : UInt8) : Bool := decide (c ≠ 35) && !decide (0 ≤ Lib.indexByte [32, 9, 13, 10] c)
theorem sep_no {c : UInt8} {r : Str} (h : nsep c = true) : sepS (c :: r) = 0 := by
  unfold nsep at h
  simp only [Bool.and_eq_true, decide_eq_true_eq, Bool.not_eq_true'] at h
  rw [sep_head h.1, h.2]; rfl
theorem letter_nsep (c : UInt8) : (!letterS c || nsep c) = true := u8_all (p := fun c => !letterS c || nsep c) (by kernel_rfl) c
theorem digit_nsep (c : UInt8) : (!digitS c || (nsep c && !letterS c)) = true := u8_all (p := fun c => !digitS c || (nsep c && !letterS c)) (by kernel_rfl) c
theorem Sepd.word {w : Str} (h : Sepd w) : ∀ c r, w = c :: r → wordS c = false := fun c r e => (h c r e).1
theorem Sepd.digit {w : Str} (h : Sepd w) : ∀ c r, w = c :: r → digitS c = false := fun c r e => (word_no (h c r e).1).2
/-- A name. -/
theorem name_is {s : Str} (h : nmS s = true) : 0 < s.length ∧ s.length ≤ 24 ∧ letterS (bt s 0) = true ∧ spanS wordS s = s.length ∧ keyS s = false := by
  unfold nmS at h
  rw [name_eq] at h
  unfold nameR at h
  split at h
  · cases h
  · rename_i h1
    simp only [Bool.or_eq_true, not_or, Bool.not_eq_true, decide_eq_true_eq, Bool.not_eq_true', bne_iff_ne, ne_eq, Decidable.not_not] at h1
    obtain ⟨⟨⟨⟨h1, h2⟩, h3⟩, h4⟩, h5⟩ := h1
    refine ⟨?_, by omega, by simpa using h3, by omega, by rw [key_eq]; exact h5⟩
    cases s with
    | nil => cases h1
    | cons c r => simp
theorem Pe.name {s rest : Str} (h : nmS s = true) (hr : Sepd rest) : Pe s [⟨0, s, 0⟩] rest := by
  obtain ⟨h0, h1, h2, h3, h4⟩ := name_is h
  obtain ⟨c, r, rfl⟩ : ∃ c r, s = c :: r := by cases s with | nil => cases h0 | cons c r => exact ⟨c, r, rfl⟩
  refine Pe.one h0 ?_ ?_
  · have := letter_nsep c
    rw [show letterS c = true from h2] at this
    exact sep_no this
  · have e : spanS wordS ((c :: r) ++ rest) = (c :: r).length := by rw [span_left hr.word, h3]
    rw [next_word (u := (c :: r) ++ rest) h2 (by simp), e, if_neg (by simp only [decide_eq_true_eq]; omega), List.take_left']
    rfl
/-- A word or a sign that is always the same. -/
theorem Pe.const {w rest : Str} {t : Tok} (h : (scanS w).1.map erT = [t]) (h2 : (scanS w).2.2 = 0) (hn : 35 ∉ w) (hr : Sepd rest) : Pe w [t] rest := by
  rw [← h]; exact .text h2 hn hr
def signOk (c : UInt8) : Bool := nsep c && !letterS c && !digitS c && !((c.toNat : Int) == 34) && (signV c true == some [c]) && (signV c false == some [c])
theorem Pe.sign {c : UInt8} (h : signOk c = true) (rest : Str) : Pe [c] [⟨3, [c], 0⟩] rest := by
  unfold signOk at h
  simp only [Bool.and_eq_true, Bool.not_eq_true', beq_iff_eq] at h
  obtain ⟨⟨⟨⟨⟨h1, h2⟩, h3⟩, h4⟩, h5⟩, h6⟩ := h
  refine Pe.one (by simp) (sep_no h1) ?_
  show nextF (c :: rest) = _
  rw [next_sign (u := c :: rest) h2 h3 (show (((c.toNat : Int) == 34)) = false from h4) (by simp), signF_cons]
  cases Lib.hasPrefix rest [61]
  · rw [h6]
  · rw [h5]
theorem Pe.lf (rest : Str) : Pe [10] [] rest := ⟨[], space_sc (c := 10) (r := rest) rfl (by decide) (.nil _), rfl⟩
theorem Pe.dec {n : Nat} (h : n ≤ 1099511627776) {rest : Str} (hr : Sepd rest) : Pe (Lib.decDigits n) [⟨1, Lib.decDigits n, 0⟩] rest := by
  obtain ⟨h1, h0⟩ := dec_digits n
  have h2 := numS_dec h
  generalize Lib.decDigits n = s at h0 h1 h2
  have h3 := all_span h1
  obtain ⟨c, r, rfl⟩ : ∃ c r, s = c :: r := by cases s with | nil => cases h0 | cons c r => exact ⟨c, r, rfl⟩
  have hd : digitS c = true := by rw [List.all_cons, Bool.and_eq_true] at h1; exact h1.1
  have hs := digit_nsep c
  rw [hd] at hs
  simp only [Bool.not_true, Bool.false_or, Bool.and_eq_true, Bool.not_eq_true'] at hs
  refine Pe.one h0 (sep_no hs.1) ?_
  have e : spanS digitS ((c :: r) ++ rest) = (c :: r).length := by rw [span_left hr.digit, h3]
  rw [next_num (u := (c :: r) ++ rest) hs.2 hd (by simp), e, List.take_left', h2, if_neg (by simp)]
  · rw [if_neg]
    rw [bt_right]
    simp only [Bool.and_eq_true, not_and, Bool.not_eq_true, decide_eq_true_eq]
    intro hl
    cases rest with
    | nil => simp at hl
    | cons a q => exact (word_no (hr a q rfl).1).1
  · rfl
theorem Pe.quote {s : Str} (h : s.length ≤ 64) (rest : Str) : Pe ([34] ++ quoteGo s ++ [34]) [⟨2, s, 0⟩] rest := by
  have e : ([34] ++ quoteGo s ++ [34] : Str) ++ rest = 34 :: (quoteGo s ++ 34 :: rest) := by simp
  refine Pe.one (by simp) ?_ ?_
  · rw [e]; exact sep_no (by kernel_rfl)
  · rw [e, next_quote s rest h]
    have : ((([34] ++ quoteGo s ++ [34] : Str).length : Nat) : Int) = ((quoteGo s).length : Int) + 2 := by simp; omega
    rw [this]

/-! The tokens of a tree. -/
abbrev tg (w : Str) : Tok := ⟨3, w, 0⟩
def numK (n : Int) : List Tok := if n < 0 then [tg w_sub, ⟨1, Lib.decDigits n.natAbs, 0⟩] else [⟨1, Lib.decDigits n.toNat, 0⟩]
def litK (t : Syn) : List Tok :=
  if (t.name == w_tint) then numK t.num
  else if (t.name == w_tbool) then if (t.num == 1) then [tw w_ttrue] else [tw w_tfalse]
  else [⟨2, t.text, 0⟩]
def wrapK (p k : Syn) (l : List Tok) : List Tok := if closedC p.kind k.kind then [tlp] ++ l ++ [trp] else l
def joinK : List (List Tok) → List Tok
  | [] => []
  | [x] => x
  | x :: y :: r => x ++ [tcm] ++ joinK (y :: r)
def operK (n : Int) : Tok := if (n == 10) || (n == 11) then tw (operT n) else tg (operT n)
def nodeK (t : Syn) (ws : List (List Tok)) : List Tok :=
  if (t.kind == 0) then ws.flatten
  else if (t.kind == 1) then [tw w_ttype] ++ [] ++ [tw t.text] ++ [tg w_lbrace] ++ joinK ws ++ [tg w_rbrace]
  else if (t.kind == 2) then [tw t.text] ++ [tg w_colon] ++ [tw (kindT t.num)]
  else if (t.kind == 3) then [tw w_tquery] ++ [] ++ [tw t.text] ++ (if (kidN t 0).text == [] then [] else [tw w_by] ++ [tw (kidN t 0).text]) ++ [] ++ [tw w_tmatch] ++ [] ++ ws.getD 1 [] ++ [] ++ [tw w_treturn] ++ [] ++ joinK (ws.drop 2) ++ [tg w_semi]
  else if (t.kind == 5) then [tw t.text] ++ [] ++ [tw t.name] ++ (if ws == [] then [] else [tw w_tif] ++ ws.getD 0 [])
  else if (t.kind == 13) then litK t
  else if (t.kind == 14) then [tw t.text] ++ [tg w_dot] ++ [tw t.name]
  else if (t.kind == 15) then [tw w_tcount] ++ [tlp] ++ [tw t.text] ++ [trp]
  else if (t.kind == 16) then [tw (aggT t.num)] ++ [tlp] ++ [tw t.text] ++ [tg w_dot] ++ [tw t.name] ++ (if ws == [] then [] else [tcm] ++ ws.getD 0 []) ++ [trp]
  else if (t.kind == 17) then wrapK t (kidN t 0) (ws.getD 0 []) ++ [] ++ [operK t.num] ++ [] ++ wrapK t (kidN t 1) (ws.getD 1 [])
  else if (t.kind == 18) then [tw w_tnot] ++ [] ++ wrapK t (kidN t 0) (ws.getD 0 [])
  else [tw (callT t.kind)] ++ [tlp] ++ joinK ws ++ (if (t.kind == 11) then [tcm] ++ numK t.num else []) ++ [trp]
mutual
def toksC : Syn → List Tok
  | ⟨k, x, n, m, kids, p⟩ => nodeK ⟨k, x, n, m, kids, p⟩ (toksM kids)
def toksM : List Syn → List (List Tok)
  | [] => []
  | x :: r => toksC x :: toksM r
end
theorem toksM_map : ∀ l : List Syn, toksM l = l.map toksC
  | [] => by rw [toksM, List.map_nil]
  | x :: r => by rw [toksM, toksM_map r, List.map_cons]
theorem toksC_eq (t : Syn) : toksC t = nodeK t (t.kids.map toksC) := by cases t; rw [toksC, toksM_map]
end Go.Proofs.YtabkeeedkhgodaaGreatDoor

namespace Go.Proofs.YtabkeeedkhgodaaGreatDoor
open Go Go.Aw
set_option linter.unusedVariables false
set_option linter.unusedSimpArgs false
set_option maxRecDepth 100000

/-! Pieces that are always the same. -/
theorem Pe.as {u rest : Str} {L M : List Tok} (h : Pe u L rest) (e : L = M) : Pe u M rest := e ▸ h
theorem pe_comma (rest : Str) : Pe [44, 32] [tcm] rest := (Pe.sign (by kernel_rfl) _).app (.space rest)
theorem pe_lbrace (rest : Str) : Pe [32, 123] [tg w_lbrace] rest := (Pe.space _).app (Pe.sign (by kernel_rfl) rest)
theorem pe_rbrace (rest : Str) : Pe [125, 10] [tg w_rbrace] rest := (Pe.sign (c := 125) (by kernel_rfl) _).app (.lf rest)
theorem pe_colon (rest : Str) : Pe [58, 32] [tg w_colon] rest := (Pe.sign (c := 58) (by kernel_rfl) _).app (.space rest)
theorem pe_semi (rest : Str) : Pe [59, 10] [tg w_semi] rest := (Pe.sign (c := 59) (by kernel_rfl) _).app (.lf rest)
theorem pe_lp (rest : Str) : Pe [40] [tlp] rest := .lpar rest
theorem pe_rp (rest : Str) : Pe [41] [trp] rest := Pe.sign (by kernel_rfl) rest
theorem pe_dot (rest : Str) : Pe [46] [tg w_dot] rest := Pe.sign (by kernel_rfl) rest
theorem sp (w : Str) : Sepd (32 :: w) := sep_of (by decide) (by decide)
theorem nl (w : Str) : Sepd (10 :: w) := sep_of (by decide) (by decide)
theorem lp (w : Str) : Sepd (40 :: w) := sep_of (by decide) (by decide)
theorem rp (w : Str) : Sepd (41 :: w) := sep_of (by decide) (by decide)
theorem cm (w : Str) : Sepd (44 :: w) := sep_of (by decide) (by decide)
/-- Words of the language. -/
def wordK : List Str := [w_ttype, w_tquery, w_by, w_tmatch, w_treturn, w_tif, w_tcount, w_tnot, w_tint, w_tbool, w_tstring, w_ttrue, w_tfalse, w_tsum, w_tmin, w_tmax, w_tfirst, w_tlast, w_seq, w_alt, w_all, w_plus, w_lacks, w_within, w_twhere, w_tand, w_tor, w_ttime]
theorem pe_word {w rest : Str} (h : w ∈ wordK) (hr : Sepd rest) : Pe w [tw w] rest := by
  have key : wordK.all (fun w => ((scanS w).1.map erT == [tw w]) && ((scanS w).2.2 == 0) && !(w.contains 35)) = true := by kernel_rfl
  rw [List.all_eq_true] at key
  have := key w h
  simp only [Bool.and_eq_true, beq_iff_eq, Bool.not_eq_true', List.contains_eq_mem, decide_eq_false_iff_not] at this
  exact .const this.1.1 this.1.2 this.2 hr
theorem pe_itoa {n : Int} (h1 : -1099511627776 ≤ n) (h2 : n ≤ 1099511627776) {rest : Str} (hr : Sepd rest) : Pe (Lib.itoa n) (numK n) rest := by
  unfold Lib.itoa numK
  split
  · exact (Pe.sign (c := 45) (by kernel_rfl) _).app (u := [45]) (L := [tg w_sub]) (.dec (by omega) hr)
  · exact .dec (by omega) hr
theorem pe_join : ∀ l : List Syn, (∀ a ∈ l, ∀ rest, Sepd rest → Pe (writeC a) (toksC a) rest) → ∀ rest, Sepd rest → Pe (joinC (l.map writeC)) (joinK (l.map toksC)) rest
  | [], _, rest, _ => .nil rest
  | [a], h, rest, hr => h a (by simp) rest hr
  | a :: b :: r, h, rest, hr => by
    have ih := pe_join (b :: r) (fun x hx => h x (List.mem_cons_of_mem _ hx)) rest hr
    exact ((h a (by simp) _ (cm _)).app (pe_comma _)).app ih
theorem pe_flat : ∀ l : List Syn, (∀ a ∈ l, ∀ rest, Pe (writeC a) (toksC a) rest) → ∀ rest, Pe ((l.map writeC).flatten) ((l.map toksC).flatten) rest
  | [], _, rest => .nil rest
  | a :: r, h, rest => (h a (by simp) _).app (pe_flat r (fun x hx => h x (List.mem_cons_of_mem _ hx)) rest)
theorem pe_wrap {p t : Syn} (h : ∀ rest, Sepd rest → Pe (writeC t) (toksC t) rest) {rest : Str} (hr : Sepd rest) : Pe (wrapT p t (writeC t)) (wrapK p t (toksC t)) rest := by
  unfold wrapT wrapK
  split
  · exact ((pe_lp _).app (h _ (rp _))).app (pe_rp _)
  · exact h _ hr
/-- A node of a tree, its kids. -/
theorem name_of {t : Syn} (h : namedC t = true) (hk : (usesC t.kind).1 = true) (h4 : t.kind ≠ 4) : nmS t.text = true := by
  unfold namedC at h
  rw [hk] at h
  have e : (t.kind != 4) = true := by simpa using h4
  rw [e] at h
  simp only [Bool.true_and, Bool.true_or, Bool.and_true, Bool.not_eq_true'] at h
  split at h
  · cases h
  · rename_i h1; simpa using h1
theorem name2_of {t : Syn} (h : namedC t = true) (hk : (usesC t.kind).2 = true) (h14 : t.kind ≠ 14) : nmS t.name = true := by
  unfold namedC at h
  split at h
  · cases h
  · rw [hk] at h
    have e : (t.kind == 14) = false := by simpa using h14
    rw [e] at h
    simpa using h
theorem name2_ref {t : Syn} (h : namedC t = true) (hk : t.kind = 14) : nmS t.name = true ∨ t.name = w_ttime := by
  unfold namedC at h
  split at h
  · cases h
  · rw [hk] at h
    have e : (usesC 14).2 = true := by decide
    rw [e] at h
    simpa using h
def PT (t : Syn) : Prop := ∀ rest, Sepd rest → Pe (writeC t) (toksC t) rest
/-- What follows may be anything. -/
def PA (t : Syn) : Prop := ∀ rest, Pe (writeC t) (toksC t) rest

section
variable {t : Syn} {p : Pl}
theorem pe_lit (h : checkC t p = 0) (hk : t.kind = 13) : PT t := by
  obtain ⟨_, _, _, hf⟩ := own_at (ok_own h).1
  intro rest hr
  rw [writeC_eq, toksC_eq]
  have e1 : ∀ ws, nodeT t ws = litT t := fun ws => by unfold nodeT; rw [hk]; rfl
  have e2 : ∀ ws, nodeK t ws = litK t := fun ws => by unfold nodeK; rw [hk]; rfl
  rw [e1, e2]
  unfold fieldsC at hf
  rw [hk] at hf
  replace hf : constC t = 0 := hf
  unfold constC at hf
  unfold litT litK
  split at hf
  · rename_i h1
    rw [if_pos h1, if_pos h1]
    split at hf
    · cases hf
    · rename_i h2
      simp only [Bool.or_eq_true, decide_eq_true_eq, not_or] at h2
      exact pe_itoa (by omega) (by omega) hr
  · rename_i h1
    rw [if_neg h1, if_neg h1]
    split at hf
    · rename_i h2
      rw [if_pos h2, if_pos h2]
      split
      · exact pe_word (by decide) hr
      · exact pe_word (by decide) hr
    · rename_i h2
      rw [if_neg h2, if_neg h2]
      split at hf
      · split at hf
        · cases hf
        · rename_i h3
          simp only [decide_eq_true_eq] at h3
          unfold quoteS
          rw [if_neg (by simp only [decide_eq_true_eq]; exact h3)]
          exact Pe.quote (by omega) rest
      · cases hf
theorem pe_ref (h : checkC t p = 0) (hk : t.kind = 14) : PT t := by
  obtain ⟨_, _, hn, _⟩ := own_at (ok_own h).1
  intro rest hr
  rw [writeC_eq, toksC_eq]
  have e1 : ∀ ws, nodeT t ws = t.text ++ [46] ++ t.name := fun ws => by unfold nodeT; rw [hk]; rfl
  have e2 : ∀ ws, nodeK t ws = [tw t.text] ++ [tg w_dot] ++ [tw t.name] := fun ws => by unfold nodeK; rw [hk]; rfl
  rw [e1, e2]
  refine ((Pe.name (name_of hn (by rw [hk]; rfl) (by omega)) (sep_of (by decide) (by decide))).app (pe_dot _)).app ?_
  rcases name2_ref hn hk with h1 | h1
  · exact .name h1 hr
  · rw [h1]; exact pe_word (by decide) hr
theorem pe_count (h : checkC t p = 0) (hk : t.kind = 15) : PT t := by
  obtain ⟨_, _, hn, _⟩ := own_at (ok_own h).1
  intro rest hr
  rw [writeC_eq, toksC_eq]
  have e1 : ∀ ws, nodeT t ws = w_tcount ++ [40] ++ t.text ++ [41] := fun ws => by unfold nodeT; rw [hk]; rfl
  have e2 : ∀ ws, nodeK t ws = [tw w_tcount] ++ [tlp] ++ [tw t.text] ++ [trp] := fun ws => by unfold nodeK; rw [hk]; rfl
  rw [e1, e2]
  exact (((pe_word (by decide) (lp _)).app (pe_lp _)).app (.name (name_of hn (by rw [hk]; rfl) (by omega)) (rp _))).app (pe_rp _)
theorem pe_field (h : checkC t p = 0) (hk : t.kind = 2) : PT t := by
  obtain ⟨_, _, hn, hf⟩ := own_at (ok_own h).1
  intro rest hr
  rw [writeC_eq, toksC_eq]
  have e1 : ∀ ws, nodeT t ws = t.text ++ [58, 32] ++ kindT t.num := fun ws => by unfold nodeT; rw [hk]; rfl
  have e2 : ∀ ws, nodeK t ws = [tw t.text] ++ [tg w_colon] ++ [tw (kindT t.num)] := fun ws => by unfold nodeK; rw [hk]; rfl
  rw [e1, e2]
  refine ((Pe.name (name_of hn (by rw [hk]; rfl) (by omega)) (sep_of (by decide) (by decide))).app (pe_colon _)).app ?_
  unfold kindT
  split
  · exact pe_word (by decide) hr
  · split
    · exact pe_word (by decide) hr
    · exact pe_word (by decide) hr
theorem agg_word (n : Int) : aggT n ∈ wordK := by
  unfold aggT
  repeat' split
  all_goals decide
theorem call_word (n : Int) : callT n ∈ wordK := by
  unfold callT
  repeat' split
  all_goals decide
theorem pe_total (h : checkC t p = 0) (hk : t.kind = 16) (ih : ∀ a ∈ t.kids, PT a) : PT t := by
  obtain ⟨_, hs, hn, hf⟩ := own_at (ok_own h).1
  intro rest hr
  rw [writeC_eq, toksC_eq]
  have e1 : ∀ ws, nodeT t ws = aggT t.num ++ [40] ++ t.text ++ [46] ++ t.name ++ (if ws == [] then [] else [44, 32] ++ ws.getD 0 []) ++ [41] := fun ws => by unfold nodeT; rw [hk]; rfl
  have e2 : ∀ ws, nodeK t ws = [tw (aggT t.num)] ++ [tlp] ++ [tw t.text] ++ [tg w_dot] ++ [tw t.name] ++ (if ws == [] then [] else [tcm] ++ ws.getD 0 []) ++ [trp] := fun ws => by unfold nodeK; rw [hk]; rfl
  rw [e1, e2]
  have e3 : ∀ rest : Str, Pe (aggT t.num ++ [40] ++ t.text ++ [46]) ([tw (aggT t.num)] ++ [tlp] ++ [tw t.text] ++ [tg w_dot]) rest := fun rest =>
    (((pe_word (agg_word _) (lp _)).app (pe_lp _)).app (.name (name_of hn (by rw [hk]; rfl) (by omega)) (sep_of (by decide) (by decide)))).app (pe_dot rest)
  have n2 := name2_of hn (by rw [hk]; rfl) (by omega)
  match hq : t.kids with
  | [] => exact (((e3 _).app (.name n2 (rp _))).app (.nil _)).app (pe_rp rest)
  | a :: r =>
    have ha := ih a (by rw [hq]; simp)
    exact (((e3 _).app (.name n2 (cm _))).app ((pe_comma _).app (ha _ (rp _)))).app (pe_rp rest)
theorem pe_event (h : checkC t p = 0) (hk : t.kind = 5) (ih : ∀ a ∈ t.kids, PT a) : PT t := by
  obtain ⟨_, hs, hn, hf⟩ := own_at (ok_own h).1
  intro rest hr
  rw [writeC_eq, toksC_eq]
  have e1 : ∀ ws, nodeT t ws = t.text ++ [32] ++ t.name ++ (if ws == [] then [] else [32] ++ w_tif ++ [32] ++ ws.getD 0 []) := fun ws => by unfold nodeT; rw [hk]; rfl
  have e2 : ∀ ws, nodeK t ws = [tw t.text] ++ [] ++ [tw t.name] ++ (if ws == [] then [] else [tw w_tif] ++ ws.getD 0 []) := fun ws => by unfold nodeK; rw [hk]; rfl
  rw [e1, e2]
  have n1 := name_of hn (by rw [hk]; rfl) (by omega)
  have n2 := name2_of hn (by rw [hk]; rfl) (by omega)
  match hq : t.kids with
  | [] => exact (((Pe.name n1 (sp _)).app (.space _)).app (.name n2 hr)).app (.nil rest)
  | a :: r =>
    have ha := ih a (by rw [hq]; simp)
    have e4 : Pe ([32] ++ w_tif ++ [32] ++ writeC a) ([tw w_tif] ++ toksC a) rest := ((((Pe.space _).app (pe_word (w := w_tif) (by decide) (sp _))).app (.space _)).app (ha _ hr)).as (by simp)
    exact (((Pe.name n1 (sp _)).app (.space _)).app (.name n2 (sp _))).app e4
theorem pe_bin (h : checkC t p = 0) (hk : t.kind = 17) (ih : ∀ a ∈ t.kids, PT a) : PT t := by
  obtain ⟨_, hs, hn, hf⟩ := own_at (ok_own h).1
  intro rest hr
  rw [writeC_eq, toksC_eq]
  have e1 : ∀ ws, nodeT t ws = wrapT t (kidN t 0) (ws.getD 0 []) ++ [32] ++ operT t.num ++ [32] ++ wrapT t (kidN t 1) (ws.getD 1 []) := fun ws => by unfold nodeT; rw [hk]; rfl
  have e2 : ∀ ws, nodeK t ws = wrapK t (kidN t 0) (ws.getD 0 []) ++ [] ++ [operK t.num] ++ [] ++ wrapK t (kidN t 1) (ws.getD 1 []) := fun ws => by unfold nodeK; rw [hk]; rfl
  rw [e1, e2]
  unfold shapeC at hs
  rw [hk] at hs
  replace hs : ((t.kids.length : Int) == 2) = true := hs
  obtain ⟨a, b, hq⟩ := kids_two (by simpa using hs)
  have ha := ih a (by rw [hq]; simp)
  have hb := ih b (by rw [hq]; simp)
  have k0 : kidN t 0 = a := by unfold kidN; rw [hq]; rfl
  have k1 : kidN t 1 = b := by unfold kidN; rw [hq]; rfl
  rw [k0, k1, hq]
  have eo : ∀ w : Str, Pe (operT t.num) [operK t.num] (32 :: w) := fun w => by
    rcases bin_num hf hk with h | h | h | h | h | h | h <;> rw [h] <;> exact Pe.const (by kernel_rfl) (by kernel_rfl) (by decide) (sp _)
  exact ((((pe_wrap ha (sp _)).app (.space _)).app (eo _)).app (.space _)).app (pe_wrap hb hr)
theorem pe_not (h : checkC t p = 0) (hk : t.kind = 18) (ih : ∀ a ∈ t.kids, PT a) : PT t := by
  obtain ⟨_, hs, hn, hf⟩ := own_at (ok_own h).1
  intro rest hr
  rw [writeC_eq, toksC_eq]
  have e1 : ∀ ws, nodeT t ws = w_tnot ++ [32] ++ wrapT t (kidN t 0) (ws.getD 0 []) := fun ws => by unfold nodeT; rw [hk]; rfl
  have e2 : ∀ ws, nodeK t ws = [tw w_tnot] ++ [] ++ wrapK t (kidN t 0) (ws.getD 0 []) := fun ws => by unfold nodeK; rw [hk]; rfl
  rw [e1, e2]
  unfold shapeC at hs
  rw [hk] at hs
  replace hs : ((t.kids.length : Int) == 1) = true := hs
  obtain ⟨a, hq⟩ := kids_one (by simpa using hs)
  have ha := ih a (by rw [hq]; simp)
  have k0 : kidN t 0 = a := by unfold kidN; rw [hq]; rfl
  rw [k0, hq]
  exact ((pe_word (by decide) (sp _)).app (.space _)).app (pe_wrap ha hr)
theorem pe_call (h : checkC t p = 0) (hk : 6 ≤ t.kind ∧ t.kind ≤ 12) (ih : ∀ a ∈ t.kids, PT a) : PT t := by
  obtain ⟨_, hs, hn, hf⟩ := own_at (ok_own h).1
  intro rest hr
  rw [writeC_eq, toksC_eq]
  have no : ∀ k : Int, k < 6 ∨ 12 < k → ¬ (t.kind == k) = true := fun k h => by simp only [beq_iff_eq]; omega
  have e1 : ∀ ws, nodeT t ws = callT t.kind ++ [40] ++ joinC ws ++ (if (t.kind == 11) then [44, 32] ++ Lib.itoa t.num else []) ++ [41] := fun ws => by
    unfold nodeT
    rw [if_neg (no 0 (by omega)), if_neg (no 1 (by omega)), if_neg (no 2 (by omega)), if_neg (no 3 (by omega)), if_neg (no 5 (by omega)), if_neg (no 13 (by omega)), if_neg (no 14 (by omega)), if_neg (no 15 (by omega)), if_neg (no 16 (by omega)), if_neg (no 17 (by omega)), if_neg (no 18 (by omega))]
  have e2 : ∀ ws, nodeK t ws = [tw (callT t.kind)] ++ [tlp] ++ joinK ws ++ (if (t.kind == 11) then [tcm] ++ numK t.num else []) ++ [trp] := fun ws => by
    unfold nodeK
    rw [if_neg (no 0 (by omega)), if_neg (no 1 (by omega)), if_neg (no 2 (by omega)), if_neg (no 3 (by omega)), if_neg (no 5 (by omega)), if_neg (no 13 (by omega)), if_neg (no 14 (by omega)), if_neg (no 15 (by omega)), if_neg (no 16 (by omega)), if_neg (no 17 (by omega)), if_neg (no 18 (by omega))]
  rw [e1, e2]
  have e3 : ∀ rest, Pe (callT t.kind ++ [40]) ([tw (callT t.kind)] ++ [tlp]) rest := fun rest => (pe_word (call_word _) (lp _)).app (pe_lp rest)
  by_cases h11 : t.kind = 11
  · rw [if_pos (by simpa using h11), if_pos (by simpa using h11)]
    unfold fieldsC numC at hf
    rw [h11] at hf
    have hf2 : (decide (t.num < 0) || decide (1099511627776 < t.num)) = false := by
      cases hq : (decide (t.num < 0) || decide (1099511627776 < t.num)) with
      | false => rfl
      | true => rw [hq] at hf; cases hf
    simp only [Bool.or_eq_false_iff, decide_eq_false_iff_not] at hf2
    exact ((((e3 _).app (pe_join t.kids ih _ (cm _))).app ((pe_comma _).app (pe_itoa (by omega) (by omega) (rp _)))).app (pe_rp rest))
  · rw [if_neg (by simpa using h11), if_neg (by simpa using h11)]
    exact (((e3 _).app (pe_join t.kids ih _ (rp _))).app (.nil _)).app (pe_rp rest)
theorem pe_type (h : checkC t p = 0) (hk : t.kind = 1) (ih : ∀ a ∈ t.kids, PT a) : PA t := by
  obtain ⟨_, hs, hn, hf⟩ := own_at (ok_own h).1
  intro rest
  rw [writeC_eq, toksC_eq]
  have e1 : ∀ ws, nodeT t ws = w_ttype ++ [32] ++ t.text ++ [32, 123] ++ (if ws == [] then [] else [32] ++ joinC ws ++ [32]) ++ [125, 10] := fun ws => by unfold nodeT; rw [hk]; rfl
  have e2 : ∀ ws, nodeK t ws = [tw w_ttype] ++ [] ++ [tw t.text] ++ [tg w_lbrace] ++ joinK ws ++ [tg w_rbrace] := fun ws => by unfold nodeK; rw [hk]; rfl
  rw [e1, e2]
  have e3 : ∀ rest, Pe (w_ttype ++ [32] ++ t.text ++ [32, 123]) ([tw w_ttype] ++ [] ++ [tw t.text] ++ [tg w_lbrace]) rest := fun rest =>
    (((pe_word (by decide) (sp _)).app (.space _)).app (.name (name_of hn (by rw [hk]; rfl) (by omega)) (sp _))).app (pe_lbrace rest)
  refine ((e3 _).app ?_).app (pe_rbrace rest)
  match hq : t.kids with
  | [] => exact .nil _
  | a :: r =>
    have := pe_join t.kids ih ([32] ++ ([125, 10] ++ rest)) (sp _)
    rw [hq] at this
    exact (((Pe.space _).app this).app (.space _)).as (by simp)
theorem pe_query (h : checkC t p = 0) (hk : t.kind = 3) (ih : ∀ (j : Nat) a, 1 ≤ j → t.kids[j]? = some a → PT a) : PA t := by
  obtain ⟨_, hs, hn, hf⟩ := own_at (ok_own h).1
  intro rest
  rw [writeC_eq, toksC_eq]
  have e1 : ∀ ws, nodeT t ws = w_tquery ++ [32] ++ t.text ++ (if (kidN t 0).text == [] then [] else [32] ++ w_by ++ [32] ++ (kidN t 0).text) ++ [10] ++ w_tmatch ++ [32] ++ ws.getD 1 [] ++ [10] ++ w_treturn ++ [32] ++ joinC (ws.drop 2) ++ [59, 10] := fun ws => by unfold nodeT; rw [hk]; rfl
  have e2 : ∀ ws, nodeK t ws = [tw w_tquery] ++ [] ++ [tw t.text] ++ (if (kidN t 0).text == [] then [] else [tw w_by] ++ [tw (kidN t 0).text]) ++ [] ++ [tw w_tmatch] ++ [] ++ ws.getD 1 [] ++ [] ++ [tw w_treturn] ++ [] ++ joinK (ws.drop 2) ++ [tg w_semi] := fun ws => by unfold nodeK; rw [hk]; rfl
  rw [e1, e2]
  unfold shapeC at hs
  rw [hk] at hs
  replace hs : decide (3 ≤ (t.kids.length : Int)) = true := hs
  simp only [decide_eq_true_eq] at hs
  match hq : t.kids with
  | [] => rw [hq] at hs; simp at hs
  | [a] => rw [hq] at hs; simp at hs
  | a :: b :: r =>
    have k0 : kidN t 0 = a := by unfold kidN; rw [hq]; rfl
    rw [k0]
    obtain ⟨ca, pa⟩ := kid_ok h (j := 0) (a := a) (by rw [hq]; rfl)
    have hka : a.kind = 4 := only_at (n := 4) (by
      have : kidC t 0 = .only 4 := by unfold kidC; rw [hk]; rfl
      rw [this] at pa; exact pa)
    have na := (own_at (ok_own ca).1).2.2.1
    have hb := ih 1 b (Nat.le_refl _) (by rw [hq]; rfl)
    have hr : ∀ x ∈ r, PT x := fun x hx => by
      obtain ⟨j, hj⟩ := List.mem_iff_getElem?.1 hx
      exact ih (j + 2) x (by omega) (by rw [hq]; simpa using hj)
    have n1 := name_of hn (by rw [hk]; rfl) (by omega)
    have e3 : ∀ rest, Pe (w_tquery ++ [32] ++ t.text ++ (if a.text == [] then [] else [32] ++ w_by ++ [32] ++ a.text) ++ [10]) ([tw w_tquery] ++ [] ++ [tw t.text] ++ (if a.text == [] then [] else [tw w_by] ++ [tw a.text]) ++ []) rest := fun rest => by
      split
      · exact ((((pe_word (by decide) (sp _)).app (.space _)).app (.name n1 (nl _))).app (.nil _)).app (.lf rest)
      · rename_i h1
        have n2 : nmS a.text = true := by
          unfold namedC at na
          rw [hka] at na
          have e5 : (!(a.text == [])) = true := by rw [Bool.not_eq_true']; simpa using h1
          rw [e5] at na
          simp only [Bool.or_true, Bool.and_true] at na
          cases hq2 : nmS a.text with
          | true => rfl
          | false => rw [hq2] at na; cases na
        have e4 : Pe ([32] ++ w_by ++ [32] ++ a.text) ([tw w_by] ++ [tw a.text]) ([10] ++ rest) := ((((Pe.space _).app (pe_word (w := w_by) (by decide) (sp _))).app (.space _)).app (.name n2 (nl _))).as rfl
        exact ((((pe_word (by decide) (sp _)).app (.space _)).app (.name n1 (sp _))).app e4).app (.lf rest)
    exact (((((((((e3 _).app (pe_word (by decide) (sp _))).app (.space _)).app (hb _ (nl _))).app (.lf _)).app (pe_word (by decide) (sp _))).app (.space _)).app (pe_join r hr _ (sep_of (by decide) (by decide)))).app (pe_semi rest))
end
/-- The tokens of the printed text. -/
theorem pe_all (t : Syn) : ∀ p, checkC t p = 0 → 1 ≤ t.kind → t.kind ≤ 18 → t.kind ≠ 4 → PT t ∧ (t.kind = 1 ∨ t.kind = 3 → PA t) := by
  refine Syn.ind (P := fun t => ∀ p, checkC t p = 0 → 1 ≤ t.kind → t.kind ≤ 18 → t.kind ≠ 4 → PT t ∧ (t.kind = 1 ∨ t.kind = 3 → PA t)) (fun t ih p h h1 h2 h4 => ?_) t
  have kid : ∀ (j : Nat) a, t.kids[j]? = some a → a.kind ≠ 4 → PT a := fun j a ha h4 => by
    obtain ⟨c, k⟩ := kid_ok h ha
    have kk := kid_kind k
    exact (ih a (List.mem_of_getElem? ha) _ c kk.1 kk.2 h4).1
  have kid' : t.kind ≠ 3 → ∀ a ∈ t.kids, PT a := fun h3 a ha => by
    obtain ⟨j, hj⟩ := List.mem_iff_getElem?.1 ha
    refine kid j a hj ?_
    obtain ⟨c, k⟩ := kid_ok h hj
    unfold kidC at k
    rw [if_neg (show ¬ (t.kind == 3) = true by simpa using h3)] at k
    repeat' split at k
    all_goals first | (have := only_at k; omega) | (have := exp_at k; omega) | (have := pat_at k; omega)
  have all : PA t → PT t ∧ (t.kind = 1 ∨ t.kind = 3 → PA t) := fun h => ⟨fun rest _ => h rest, fun _ => h⟩
  have one : t.kind ≠ 1 → t.kind ≠ 3 → PT t → PT t ∧ (t.kind = 1 ∨ t.kind = 3 → PA t) := fun a b h => ⟨h, fun e => by omega⟩
  by_cases k1 : t.kind = 1
  · exact all (pe_type h k1 (kid' (by omega)))
  by_cases k3 : t.kind = 3
  · refine all (pe_query h k3 fun j a hj ha => kid j a ha ?_)
    obtain ⟨c, k⟩ := kid_ok h ha
    unfold kidC at k
    rw [k3] at k
    have e : ((j : Int) == 0) = false := by simp; omega
    simp only [e] at k
    replace k : (if ((j : Int) == 1) = true then Pl.pats else Pl.exps).at a.kind = true := k
    split at k
    · have := pat_at k; omega
    · have := exp_at k; omega
  refine one k1 k3 ?_
  by_cases k2 : t.kind = 2
  · exact pe_field h k2
  by_cases k5 : t.kind = 5
  · exact pe_event h k5 (kid' k3)
  by_cases k13 : t.kind = 13
  · exact pe_lit h k13
  by_cases k14 : t.kind = 14
  · exact pe_ref h k14
  by_cases k15 : t.kind = 15
  · exact pe_count h k15
  by_cases k16 : t.kind = 16
  · exact pe_total h k16 (kid' k3)
  by_cases k17 : t.kind = 17
  · exact pe_bin h k17 (kid' k3)
  by_cases k18 : t.kind = 18
  · exact pe_not h k18 (kid' k3)
  exact pe_call h (by omega) (kid' k3)
end Go.Proofs.YtabkeeedkhgodaaGreatDoor

namespace Go.Proofs.YtabkeeedkhgodaaGreatDoor
open Go Go.Aw
set_option linter.unusedVariables false
set_option linter.unusedSimpArgs false
set_option maxRecDepth 100000

/-- What stands behind an expression or a pattern. -/
def Bq (post : List Tok) : Prop := ∀ c r, post = c :: r → c = trp ∨ c = tcm ∨ c = tsm ∨ c = tw w_treturn
theorem Bq.rp (r : List Tok) : Bq (trp :: r) := fun c q h => .inl (List.cons.inj h).1.symm
theorem Bq.cm (r : List Tok) : Bq (tcm :: r) := fun c q h => .inr (.inl (List.cons.inj h).1.symm)
theorem Bq.sm (r : List Tok) : Bq (tsm :: r) := fun c q h => .inr (.inr (.inl (List.cons.inj h).1.symm))
theorem Bq.ret (r : List Tok) : Bq (tw w_treturn :: r) := fun c q h => .inr (.inr (.inr (List.cons.inj h).1.symm))
variable {pre post rest : List Tok} {d : Int} {t : Tok}
/-- A token is a word. -/
def hitW (t : Tok) (w : Str) : Bool := (t.text == w) && ((t.kind == 3) || ((t.kind == 0) && keyS w))
theorem is_hit {w : Str} : isP w (Cur pre (t :: post) d) = hitW t w := is_cur
theorem Bq.not (hb : Bq post) {w : Str} (h : hitW trp w = false ∧ hitW tcm w = false ∧ hitW tsm w = false ∧ hitW (tw w_treturn) w = false) : isP w (Cur pre post d) = false := by
  cases post with
  | nil => exact is_nil
  | cons c r =>
    rw [is_hit]
    rcases hb c r rfl with rfl | rfl | rfl | rfl
    · exact h.1
    · exact h.2.1
    · exact h.2.2.1
    · exact h.2.2.2
theorem NoOp.q (hb : Bq post) : NoOp (Cur pre post d) :=
  ⟨⟨hb.not (by decide), hb.not (by decide), hb.not (by decide), hb.not (by decide)⟩, hb.not (by decide), hb.not (by decide), hb.not (by decide), hb.not (by decide), hb.not (by decide), hb.not (by decide)⟩
theorem era_cons {t : Tok} {l : List Tok} (h : t.pos = 0) (k : Era l) : Era (t :: l) := by
  unfold Era at *
  rw [List.map_cons, k]
  cases t; simp only at h; subst h; rfl
theorem era_flat : ∀ {l : List (List Tok)}, (∀ x ∈ l, Era x) → Era l.flatten
  | [], _ => rfl
  | x :: r, h => (h x (by simp)).app (era_flat fun y hy => h y (List.mem_cons_of_mem _ hy))
theorem era_join : ∀ {l : List (List Tok)}, (∀ x ∈ l, Era x) → Era (joinK l)
  | [], _ => rfl
  | [x], h => h x (by simp)
  | x :: y :: r, h => ((h x (by simp)).app (show Era [tcm] from rfl)).app (era_join fun z hz => h z (List.mem_cons_of_mem _ hz))
theorem era_wrap {p k : Syn} {l : List Tok} (h : Era l) : Era (wrapK p k l) := by
  unfold wrapK
  split
  · exact ((show Era [tlp] from rfl).app h).app (show Era [trp] from rfl)
  · exact h
theorem era_num (n : Int) : Era (numK n) := by unfold numK; split <;> rfl
theorem era_lit (t : Syn) : Era (litK t) := by
  unfold litK
  split
  · exact era_num _
  · split
    · split <;> rfl
    · rfl
theorem era_get {l : List (List Tok)} (h : ∀ x ∈ l, Era x) (j : Nat) : Era (l.getD j []) := by
  rw [List.getD_eq_getElem?_getD]
  cases hj : l[j]? with
  | none => rfl
  | some x => exact h x (List.mem_of_getElem? hj)
theorem era_one (t : Tok) (h : t.pos = 0) : Era [t] := era_cons h rfl
theorem era_if {c : Prop} [Decidable c] {a b : List Tok} (ha : Era a) (hb : Era b) : Era (if c then a else b) := by
  split
  · exact ha
  · exact hb
theorem era_node {t : Syn} {ws : List (List Tok)} (h : ∀ x ∈ ws, Era x) : Era (nodeK t ws) := by
  have h1 : ∀ w, Era [tw w] := fun w => rfl
  have h2 : ∀ w, Era [tg w] := fun w => rfl
  have h3 : Era (if (ws == []) = true then [] else [tw w_tif] ++ ws.getD 0 []) := by split; exact rfl; exact (h1 _).app (era_get h 0)
  have h4 : Era (if (ws == []) = true then [] else [tcm] ++ ws.getD 0 []) := by split; exact rfl; exact (show Era [tcm] from rfl).app (era_get h 0)
  have h5 : Era (if ((kidN t 0).text == []) = true then [] else [tw w_by] ++ [tw (kidN t 0).text]) := by split; exact rfl; exact (h1 _).app (h1 _)
  have h6 : Era (if (t.kind == 11) = true then [tcm] ++ numK t.num else []) := by split; exact (show Era [tcm] from rfl).app (era_num _); exact rfl
  have h7 : Era [operK t.num] := era_one _ (by unfold operK; split <;> rfl)
  have n0 : Era ([] : List Tok) := rfl
  exact era_if (era_flat h) (era_if (((((h1 _).app n0).app (h1 _)).app (h2 _)).app (era_join h) |>.app (h2 _)) (era_if (((h1 _).app (h2 _)).app (h1 _))
    (era_if (((((((((((((h1 _).app n0).app (h1 _)).app h5).app n0).app (h1 _)).app n0).app (era_get h 1)).app n0).app (h1 _)).app n0).app (era_join fun x hx => h x (List.mem_of_mem_drop hx))).app (h2 _))
    (era_if ((((h1 _).app n0).app (h1 _)).app h3) (era_if (era_lit t) (era_if (((h1 _).app (h2 _)).app (h1 _)) (era_if ((((h1 _).app (h2 _)).app (h1 _)).app (h2 _))
    (era_if (((((((h1 _).app (h2 _)).app (h1 _)).app (h2 _)).app (h1 _)).app h4).app (h2 _)) (era_if (((((era_wrap (era_get h 0)).app n0).app h7).app n0).app (era_wrap (era_get h 1)))
    (era_if (((h1 _).app n0).app (era_wrap (era_get h 0))) (((((h1 _).app (h2 _)).app (era_join h)).app h6).app (h2 _))))))))))))
theorem era_toks (t : Syn) : Era (toksC t) := by
  refine Syn.ind (P := fun t => Era (toksC t)) (fun t ih => ?_) t
  rw [toksC_eq]
  refine era_node fun x hx => ?_
  obtain ⟨a, ha, rfl⟩ := List.mem_map.1 hx
  exact ih a ha

/-! One operand. -/
theorem name_hit {s : Str} (h : keyS s = false) (w : Str) : hitW (tw s) w = false := by
  show ((s == w) && ((0 : Int) == 3 || ((0 : Int) == 0 && keyS w))) = false
  cases hq : (s == w) with
  | false => rfl
  | true =>
    have : s = w := by simpa using hq
    rw [← this, h]; rfl
theorem kind_hit {t : Tok} (h : t.kind = 1 ∨ t.kind = 2) (w : Str) : hitW t w = false := by
  unfold hitW
  have e1 : (t.kind == 3) = false := by rcases h with h | h <;> rw [h] <;> rfl
  have e2 : (t.kind == 0) = false := by rcases h with h | h <;> rw [h] <;> rfl
  rw [e1, e2]; simp
theorem hit_text {t : Tok} {w : Str} (h : hitW t w = true) : w = t.text := by
  unfold hitW at h
  rw [Bool.and_eq_true] at h
  have := h.1
  simp only [beq_iff_eq] at this
  exact this.symm
/-- An operand that is neither in parentheses nor an aggregate, a count, a name: a constant. -/
theorem unit_const {E : PS → Syn × PS} (h1 : hitW t w_lpar = false) (h2 : t.text ≠ w_tmin ∧ t.text ≠ w_tmax ∧ t.text ≠ w_tfirst ∧ t.text ≠ w_tlast ∧ t.text ≠ w_tsum ∧ t.text ≠ w_tcount ∨ t.kind = 2)
    (h3 : ((t.kind == 0) && (((0 : Int) != 0) || !(keyS t.text))) = false) : unitP E (Cur pre (t :: post) d) = constP (Cur pre (t :: post) d) := by
  have k : ∀ w : Str, (t.text ≠ w ∨ t.kind = 2) → isP w (Cur pre (t :: post) d) = false := fun w hw => by
    rw [is_hit]
    rcases hw with hw | hw
    · cases hq : hitW t w with
      | false => rfl
      | true => exact absurd (hit_text hq).symm hw
    · exact kind_hit (.inr hw) w
  have a : (t.text ≠ w_tmin ∨ t.kind = 2) ∧ (t.text ≠ w_tmax ∨ t.kind = 2) ∧ (t.text ≠ w_tfirst ∨ t.kind = 2) ∧ (t.text ≠ w_tlast ∨ t.kind = 2) ∧ (t.text ≠ w_tsum ∨ t.kind = 2) ∧ (t.text ≠ w_tcount ∨ t.kind = 2) := by
    rcases h2 with ⟨a, b, c, d, e, f⟩ | h
    · exact ⟨.inl a, .inl b, .inl c, .inl d, .inl e, .inl f⟩
    · exact ⟨.inr h, .inr h, .inr h, .inr h, .inr h, .inr h⟩
  unfold unitP
  rw [is_hit (w := w_lpar), h1]
  have ef : totL.find? (fun s => isP s.1 (Cur pre (t :: post) d)) = none := by
    unfold totL
    rw [List.find?_cons, List.find?_cons, List.find?_cons, List.find?_cons, List.find?_nil, k _ a.1, k _ a.2.1, k _ a.2.2.1, k _ a.2.2.2.1]
  rw [ef, k _ a.2.2.2.2.1, k _ a.2.2.2.2.2, show nxtP 0 (Cur pre (t :: post) d) = false by rw [nxt_cur]; exact h3]
  simp only [Bool.false_eq_true, ↓reduceIte]
theorem const_num {n : Nat} (hn : n ≤ 1099511627776) (hp : Era pre) (hq : Era post) : constP (Cur pre (⟨1, Lib.decDigits n, 0⟩ :: post) d) = (⟨13, [], w_tint, (n : Int), [], 0⟩, Cur (pre ++ [⟨1, Lib.decDigits n, 0⟩]) post d) := by
  have eo : offS (Cur pre (⟨1, Lib.decDigits n, 0⟩ :: post) d) = 0 := cur_off hp (era_cons rfl hq)
  have en : nxtP 1 (Cur pre (⟨1, Lib.decDigits n, 0⟩ :: post) d) = true := by rw [nxt_cur]; rfl
  unfold constP
  rw [is_hit, kind_hit (.inl rfl), en, eo]
  simp only [Bool.false_eq_true, ↓reduceIte]
  have e1 : tokP 1 (Cur pre (⟨1, Lib.decDigits n, 0⟩ :: post) d) = Cur (pre ++ [⟨1, Lib.decDigits n, 0⟩]) post d := (tok_cur (by rfl)).1
  have e2 : numP (Cur pre (⟨1, Lib.decDigits n, 0⟩ :: post) d) = (n : Int) := by unfold numP; rw [en, cur_tk]; show (numS (Lib.decDigits n)).1 = _; rw [numS_dec hn]
  rw [e1, e2]
theorem const_neg {n : Nat} (hn : n ≤ 1099511627776) (hp : Era pre) (hq : Era post) : constP (Cur pre (tg w_sub :: ⟨1, Lib.decDigits n, 0⟩ :: post) d) = (⟨13, [], w_tint, 0 - (n : Int), [], 0⟩, Cur (pre ++ [tg w_sub, ⟨1, Lib.decDigits n, 0⟩]) post d) := by
  have eo : offS (Cur pre (tg w_sub :: ⟨1, Lib.decDigits n, 0⟩ :: post) d) = 0 := cur_off hp (era_cons rfl (era_cons rfl hq))
  unfold constP
  rw [is_hit, show hitW (tg w_sub) w_sub = true by decide, eo, adv_cur]
  simp only [↓reduceIte]
  have e1 : tokP 1 (Cur (pre ++ [tg w_sub]) (⟨1, Lib.decDigits n, 0⟩ :: post) d) = Cur (pre ++ [tg w_sub] ++ [⟨1, Lib.decDigits n, 0⟩]) post d := (tok_cur (by rfl)).1
  have e2 : numP (Cur (pre ++ [tg w_sub]) (⟨1, Lib.decDigits n, 0⟩ :: post) d) = (n : Int) := by unfold numP; rw [nxt_cur, cur_tk]; show (numS (Lib.decDigits n)).1 = _; rw [numS_dec hn]
  rw [e1, e2, List.append_assoc]; rfl
/-- The form of a constant. -/
theorem lit_read {a : Syn} {p : Pl} (h : checkC a p = 0) (hk : a.kind = 13) (hp : Era pre) (hq : Era post) : constP (Cur pre (toksC a ++ post) d) = (erS a, Cur (pre ++ toksC a) post d) ∧ ∀ E : PS → Syn × PS, unitP E (Cur pre (toksC a ++ post) d) = constP (Cur pre (toksC a ++ post) d) := by
  obtain ⟨_, hs, _, hf⟩ := own_at (ok_own h).1
  have e2 : toksC a = litK a := by rw [toksC_eq]; unfold nodeK; rw [hk]; rfl
  unfold shapeC at hs
  rw [hk] at hs
  replace hs : ((a.kids.length : Int) == 0) = true := hs
  have hkid : a.kids = [] := by
    cases hq : a.kids with
    | nil => rfl
    | cons x r => rw [hq] at hs; simp at hs; omega
  unfold fieldsC at hf
  rw [hk] at hf
  replace hf : constC a = 0 := hf
  have er : erS a = ⟨13, a.text, a.name, a.num, [], 0⟩ := by rw [erS_eq, hkid, hk]; rfl
  rw [e2, er]
  unfold constC at hf
  unfold litK
  split at hf
  · rename_i h1
    rw [if_pos h1]
    have hn : a.name = w_tint := by simpa using h1
    split at hf
    · cases hf
    · rename_i h2
      simp only [Bool.or_eq_true, decide_eq_true_eq, not_or] at h2
      split at hf
      · cases hf
      · rename_i h3
        have ht : a.text = [] := by simpa using h3
        rw [hn, ht]
        unfold numK
        by_cases hneg : a.num < 0
        · rw [if_pos hneg]
          refine ⟨?_, fun E => unit_const (by decide) (.inl (by decide)) (by decide)⟩
          rw [List.cons_append, List.cons_append, List.nil_append, const_neg (by omega) hp hq]
          have : 0 - ((a.num.natAbs : Nat) : Int) = a.num := by omega
          rw [this]
        · rw [if_neg hneg]
          refine ⟨?_, fun E => ?_⟩
          · rw [List.cons_append, List.nil_append, const_num (by omega) hp hq]
            have : ((a.num.toNat : Nat) : Int) = a.num := by omega
            rw [this]
          · have hd := dec_digits a.num.toNat
            have key : ∀ w : Str, letterS (bt w 0) = true → Lib.decDigits a.num.toNat ≠ w := fun w hw e => by
              rw [e] at hd
              cases w with
              | nil => cases hd.2
              | cons c r =>
                have h4 := digit_nsep c
                have h5 : digitS c = true := by have := hd.1; rw [List.all_cons, Bool.and_eq_true] at this; exact this.1
                have h6 : letterS c = true := hw
                rw [h5, h6] at h4
                simp at h4
            exact unit_const (kind_hit (.inl rfl) _) (.inl ⟨key _ (by decide), key _ (by decide), key _ (by decide), key _ (by decide), key _ (by decide), key _ (by decide)⟩) (by rfl)
  · rename_i h1
    rw [if_neg h1]
    split at hf
    · rename_i h2
      have hn : a.name = w_tbool := by simpa using h2
      rw [if_pos h2]
      split at hf
      · cases hf
      · rename_i h3
        simp only [Bool.or_eq_true, decide_eq_true_eq, not_or] at h3
        split at hf
        · cases hf
        · rename_i h4
          have ht : a.text = [] := by simpa using h4
          rw [hn, ht]
          by_cases hb : a.num = 1
          · rw [if_pos (by simpa using hb)]
            refine ⟨?_, fun E => unit_const (by decide) (.inl (by decide)) (by decide)⟩
            rw [List.cons_append, List.nil_append]
            unfold constP
            rw [is_hit, is_hit, show hitW (tw w_ttrue) w_sub = false by decide, show hitW (tw w_ttrue) w_ttrue = true by decide, nxt_cur, cur_off hp (era_cons rfl hq), adv_cur, hb]; rfl
          · rw [if_neg (by simpa using hb)]
            have h0 : a.num = 0 := by omega
            refine ⟨?_, fun E => unit_const (by decide) (.inl (by decide)) (by decide)⟩
            rw [List.cons_append, List.nil_append]
            unfold constP
            rw [is_hit, is_hit, is_hit, show hitW (tw w_tfalse) w_sub = false by decide, show hitW (tw w_tfalse) w_ttrue = false by decide, show hitW (tw w_tfalse) w_tfalse = true by decide, nxt_cur, cur_off hp (era_cons rfl hq), adv_cur, h0]; rfl
    · rename_i h2
      rw [if_neg h2]
      split at hf
      · rename_i h3
        have hn : a.name = w_tstring := by simpa using h3
        split at hf
        · cases hf
        · split at hf
          · cases hf
          · rename_i h4 h5
            have h0 : a.num = 0 := by simpa using h5
            rw [hn, h0]
            refine ⟨?_, fun E => unit_const (kind_hit (.inr rfl) _) (.inr rfl) (by rfl)⟩
            rw [List.cons_append, List.nil_append]
            have kh := fun w => kind_hit (t := ⟨2, a.text, 0⟩) (.inr rfl) w
            unfold constP
            rw [is_hit, is_hit, is_hit, kh, kh, kh, show nxtP 1 (Cur pre (⟨2, a.text, 0⟩ :: post) d) = false by rw [nxt_cur]; rfl, cur_off hp (era_cons rfl hq)]
            simp only [Bool.false_eq_true, ↓reduceIte]
            have := tok_cur (pre := pre) (post := post) (d := d) (t := ⟨2, a.text, 0⟩) (k := 2) (by rfl)
            rw [this.1, this.2]
      · cases hf
end Go.Proofs.YtabkeeedkhgodaaGreatDoor

namespace Go.Proofs.YtabkeeedkhgodaaGreatDoor
open Go Go.Aw
set_option linter.unusedVariables false
set_option linter.unusedSimpArgs false
set_option maxRecDepth 100000
variable {pre post rest : List Tok} {d : Int} {t : Tok}

theorem nxt_name {s : Str} (h : keyS s = false) : nxtP 0 (Cur pre (tw s :: post) d) = true := by
  rw [nxt_cur]
  show ((0 : Int) == 0 && ((0 : Int) != 0 || !(keyS s))) = true
  rw [h]; rfl
theorem tok_name {s : Str} (h : keyS s = false) : tokP 0 (Cur pre (tw s :: post) d) = Cur (pre ++ [tw s]) post d ∧ txtP 0 (Cur pre (tw s :: post) d) = s := by
  refine tok_cur ?_
  show ((0 : Int) == 0 && ((0 : Int) != 0 || !(keyS s))) = true
  rw [h]; rfl
theorem exp_hit {w : Str} (h : hitW t w = true) : expP w (Cur pre (t :: post) d) = Cur (pre ++ [t]) post d := exp_cur h
theorem name_key {s : Str} (h : nmS s = true) : keyS s = false := (name_is h).2.2.2.2
theorem erS_leaf {a : Syn} (h : a.kids = []) : erS a = ⟨a.kind, a.text, a.name, a.num, [], 0⟩ := by rw [erS_eq, h]; rfl
theorem no_kids {a : Syn} (h : (a.kids.length : Int) = 0) : a.kids = [] := by
  cases hq : a.kids with
  | nil => rfl
  | cons x r => rw [hq] at h; simp at h; omega
theorem app1 (a b : Tok) : (pre ++ [a]) ++ [b] = pre ++ [a, b] := by simp
/-- A name ahead: the field of a variable. -/
theorem ref_read {a : Syn} {p : Pl} {E : PS → Syn × PS} (h : checkC a p = 0) (hk : a.kind = 14) (hp : Era pre) (hq : Era post) : unitP E (Cur pre (toksC a ++ post) d) = (erS a, Cur (pre ++ toksC a) post d) := by
  obtain ⟨_, hs, hn, hf⟩ := own_at (ok_own h).1
  have e2 : toksC a = [tw a.text, tg w_dot, tw a.name] := by rw [toksC_eq]; unfold nodeK; rw [hk]; rfl
  unfold shapeC at hs
  rw [hk] at hs
  replace hs : ((a.kids.length : Int) == 0) = true := hs
  have hkid := no_kids (by simpa using hs)
  have hnum := zero_num hf ⟨by omega, by omega, by omega, by omega, by omega⟩
  have er : erS a = ⟨14, a.text, a.name, 0, [], 0⟩ := by rw [erS_leaf hkid, hk, hnum]
  have k1 := name_key (name_of hn (by rw [hk]; rfl) (by omega))
  have nh := name_hit k1
  rw [e2, er]
  show unitP E (Cur pre (tw a.text :: tg w_dot :: tw a.name :: post) d) = _
  have e3 : totL.find? (fun s => isP s.1 (Cur pre (tw a.text :: tg w_dot :: tw a.name :: post) d)) = none := by
    rw [List.find?_eq_none]; intro x _; rw [is_hit, nh]; decide
  unfold unitP
  rw [is_hit, nh, e3, is_hit, nh, is_hit, nh, nxt_name k1]
  simp only [Bool.false_eq_true, ↓reduceIte]
  rw [(tok_name k1).1, (tok_name k1).2, exp_hit (t := tg w_dot) (by decide), cur_off hp (era_cons rfl (era_cons rfl (era_cons rfl hq))), is_hit, app1]
  have e5 : (pre ++ [tw a.text, tg w_dot]) ++ [tw a.name] = pre ++ [tw a.text, tg w_dot, tw a.name] := by simp
  rcases name2_ref hn hk with h1 | h1
  · have k2 := name_key h1
    rw [name_hit k2, (tok_name k2).1, (tok_name k2).2, e5]; rfl
  · rw [h1] at e5 ⊢
    rw [show hitW (tw w_ttime) w_ttime = true by decide, if_pos rfl, adv_cur, e5]
theorem count_read {a : Syn} {p : Pl} {E : PS → Syn × PS} (h : checkC a p = 0) (hk : a.kind = 15) (hp : Era pre) (hq : Era post) : unitP E (Cur pre (toksC a ++ post) d) = (erS a, Cur (pre ++ toksC a) post d) := by
  obtain ⟨_, hs, hn, hf⟩ := own_at (ok_own h).1
  have e2 : toksC a = [tw w_tcount, tlp, tw a.text, trp] := by rw [toksC_eq]; unfold nodeK; rw [hk]; rfl
  unfold shapeC at hs
  rw [hk] at hs
  replace hs : ((a.kids.length : Int) == 0) = true := hs
  have hkid := no_kids (by simpa using hs)
  have hnum := zero_num hf ⟨by omega, by omega, by omega, by omega, by omega⟩
  have hname : a.name = [] := by
    unfold fieldsC at hf
    rw [hk] at hf
    replace hf : (if (numC a != 0) = true then numC a else if ((!true && !(a.text == [])) || (!false && !(a.name == []))) = true then 3 else 0) = 0 := hf
    split at hf
    · rename_i h1; rw [hf] at h1; cases h1
    · split at hf
      · cases hf
      · rename_i h2; simpa using h2
  have er : erS a = ⟨15, a.text, [], 0, [], 0⟩ := by rw [erS_leaf hkid, hk, hnum, hname]
  have k1 := name_key (name_of hn (by rw [hk]; rfl) (by omega))
  rw [e2, er]
  show unitP E (Cur pre (tw w_tcount :: tlp :: tw a.text :: trp :: post) d) = _
  have e3 : totL.find? (fun s => isP s.1 (Cur pre (tw w_tcount :: tlp :: tw a.text :: trp :: post) d)) = none := by
    rw [List.find?_eq_none]; intro x hx; rw [is_hit]; revert x; decide
  unfold unitP
  rw [is_hit, show hitW (tw w_tcount) w_lpar = false by decide, e3, is_hit, show hitW (tw w_tcount) w_tsum = false by decide, is_hit, show hitW (tw w_tcount) w_tcount = true by decide]
  simp only [Bool.false_eq_true, ↓reduceIte]
  rw [adv_cur, exp_hit (t := tlp) (by decide), (tok_name k1).1, (tok_name k1).2, exp_hit (t := trp) (by decide), cur_off hp (era_cons rfl (era_cons rfl (era_cons rfl (era_cons rfl hq))))]
  simp
theorem cm_hit : hitW tcm w_comma = true := by decide
/-- The variable and the field of an aggregate. -/
theorem ins_read {x y : Str} (h1 : keyS x = false) (h2 : keyS y = false) : insP (Cur pre (tlp :: tw x :: tg w_dot :: tw y :: post) d) = ((x, y), Cur (pre ++ [tlp, tw x, tg w_dot, tw y]) post d) := by
  unfold insP
  simp only
  rw [exp_hit (t := tlp) (by decide), (tok_name h1).1, (tok_name h1).2, exp_hit (t := tg w_dot) (by decide), (tok_name h2).1, (tok_name h2).2]
  simp
theorem total_read {a : Syn} {p : Pl} {E : PS → Syn × PS} (h : checkC a p = 0) (hk : a.kind = 16) (hp : Era pre) (hq : Era post) : unitP E (Cur pre (toksC a ++ post) d) = (erS a, Cur (pre ++ toksC a) post d) := by
  obtain ⟨_, hs, hn, hf⟩ := own_at (ok_own h).1
  have hi := total_num hf hk
  have k1 := name_key (name_of hn (by rw [hk]; rfl) (by omega))
  have k2 := name_key (name2_of hn (by rw [hk]; rfl) (by omega))
  have e0 : toksC a = [tw (aggT a.num)] ++ [tlp] ++ [tw a.text] ++ [tg w_dot] ++ [tw a.name] ++ (if (a.kids.map toksC == []) = true then [] else [tcm] ++ (a.kids.map toksC).getD 0 []) ++ [trp] := by rw [toksC_eq]; unfold nodeK; rw [hk]; rfl
  unfold shapeC at hs
  rw [hk] at hs
  replace hs : (if (a.num == 1) = true then ((a.kids.length : Int) == 0) else ((a.kids.length : Int) == 1)) = true := hs
  by_cases h1 : a.num = 1
  · rw [h1] at hs
    replace hs : ((a.kids.length : Int) == 0) = true := hs
    have hkid := no_kids (by simpa using hs)
    have e2 : toksC a = [tw w_tsum, tlp, tw a.text, tg w_dot, tw a.name, trp] := by rw [e0, hkid, h1]; rfl
    have er : erS a = ⟨16, a.text, a.name, 1, [], 0⟩ := by rw [erS_leaf hkid, hk, h1]
    rw [e2, er]
    show unitP E (Cur pre (tw w_tsum :: tlp :: tw a.text :: tg w_dot :: tw a.name :: trp :: post) d) = _
    have e3 : totL.find? (fun s => isP s.1 (Cur pre (tw w_tsum :: tlp :: tw a.text :: tg w_dot :: tw a.name :: trp :: post) d)) = none := by
      rw [List.find?_eq_none]; intro x hx; rw [is_hit]; revert x; decide
    unfold unitP
    rw [is_hit, show hitW (tw w_tsum) w_lpar = false by decide, e3, is_hit, show hitW (tw w_tsum) w_tsum = true by decide]
    simp only [Bool.false_eq_true, ↓reduceIte]
    rw [adv_cur, ins_read k1 k2, exp_hit (t := trp) (by decide), cur_off hp (era_cons rfl (era_cons rfl (era_cons rfl (era_cons rfl (era_cons rfl (era_cons rfl hq))))))]
    simp
  · rw [if_neg (by simpa using h1)] at hs
    obtain ⟨x, hkid⟩ := kids_one (t := a) (by simpa using hs)
    have hx := kid_ok h (j := 0) (a := x) (by rw [hkid]; rfl)
    have hx13 : x.kind = 13 := only_at (n := 13) (by
      have e : kidC a 0 = .only 13 := by unfold kidC; rw [hk]; rfl
      rw [← e]; exact hx.2)
    have e2 : toksC a = tw (aggT a.num) :: tlp :: tw a.text :: tg w_dot :: tw a.name :: tcm :: (toksC x ++ [trp]) := by rw [e0, hkid]; simp
    have er : erS a = ⟨16, a.text, a.name, a.num, [erS x], 0⟩ := by rw [erS_eq, hk, hkid]; rfl
    rw [e2, er]
    show unitP E (Cur pre (tw (aggT a.num) :: tlp :: tw a.text :: tg w_dot :: tw a.name :: tcm :: ((toksC x ++ [trp]) ++ post)) d) = _
    have hn2 : a.num = 2 ∨ a.num = 3 ∨ a.num = 4 ∨ a.num = 5 := by omega
    have eL : hitW (tw (aggT a.num)) w_lpar = false := by rcases hn2 with h | h | h | h <;> rw [h] <;> decide
    have e3 : ∀ R : List Tok, totL.find? (fun s => isP s.1 (Cur pre (tw (aggT a.num) :: R) d)) = some (aggT a.num, a.num) := fun R => by
      unfold totL
      rw [List.find?_cons, List.find?_cons, List.find?_cons, List.find?_cons, is_hit, is_hit, is_hit, is_hit]
      rcases hn2 with h | h | h | h <;> rw [h] <;> rfl
    unfold unitP
    rw [is_hit, eL, e3]
    simp only [Bool.false_eq_true, ↓reduceIte]
    have eR : Era ((toksC x ++ [trp]) ++ post) := ((era_toks x).app (show Era [trp] from rfl)).app hq
    have hlit := (lit_read (d := d) (pre := pre ++ [tw (aggT a.num)] ++ [tlp, tw a.text, tg w_dot, tw a.name] ++ [tcm]) (post := trp :: post) hx.1 hx13 (((hp.app (era_one _ rfl)).app (show Era [tlp, tw a.text, tg w_dot, tw a.name] from rfl)).app (era_one _ rfl)) (era_cons rfl hq)).1
    rw [adv_cur, ins_read k1 k2, exp_hit cm_hit, List.append_assoc (toksC x), show [trp] ++ post = trp :: post from rfl, hlit, exp_hit (t := trp) (by decide), cur_off hp (era_cons rfl (era_cons rfl (era_cons rfl (era_cons rfl (era_cons rfl (era_cons rfl ((era_toks x).app (era_cons rfl hq))))))))]
    simp
/-- An operand that is a single unit. -/
theorem unit_read {a : Syn} {p : Pl} (E : PS → Syn × PS) (h : checkC a p = 0) (hk : 13 ≤ a.kind ∧ a.kind ≤ 16) (hp : Era pre) (hq : Era post) : unitP E (Cur pre (toksC a ++ post) d) = (erS a, Cur (pre ++ toksC a) post d) := by
  by_cases h3 : a.kind = 13
  · have := lit_read (d := d) h h3 hp hq
    rw [this.2 E, this.1]
  by_cases h4 : a.kind = 14
  · exact ref_read h h4 hp hq
  by_cases h5 : a.kind = 15
  · exact count_read h h5 hp hq
  exact total_read h (by omega) hp hq

/-! Expressions. -/
def lowN : Nat → (PS → Syn × PS) × (PS → Syn × PS)
  | 0 => (dullP, dullP)
  | n + 1 => negN n
theorem neg_low : ∀ n, negN n = (notP (lowN n).2 (lowN n).1, orP (lowN n).2 (lowN n).1)
  | 0 => rfl
  | _ + 1 => rfl
/-- An expression is read, at each level of nesting that is deep enough. -/
def RE (a : Syn) : Prop := ∀ (n : Nat) (d : Int) (pre post : List Tok), 0 ≤ d → d + (depthC a : Int) ≤ 64 → 64 ≤ (n : Int) + d → Era pre → Era post → Bq post →
  (negN n).2 (Cur pre (toksC a ++ post) d) = (erS a, Cur (pre ++ toksC a) post d) ∧ (a.kind ≠ 17 → (negN n).1 (Cur pre (toksC a ++ post) d) = (erS a, Cur (pre ++ toksC a) post d))
/-- An operand: in parentheses, or a unit. -/
theorem opnd {q a : Syn} (ha : checkC a .exps = 0) (hr : RE a) (hc : closedC q.kind a.kind = false → a.kind ≤ 16) {n : Nat} (h0 : 0 ≤ d) (hd : d + ((depthC a + (if closedC q.kind a.kind then 1 else 0) : Nat) : Int) ≤ 64) (hn : 64 ≤ (n : Int) + d) (hp : Era pre) (hq : Era post) :
    unitP (lowN n).2 (Cur pre (wrapK q a (toksC a) ++ post) d) = (erS a, Cur (pre ++ wrapK q a (toksC a)) post d) := by
  have hk := exp_at (own_at (ok_own ha).1).1
  unfold wrapK
  cases hcl : closedC q.kind a.kind with
  | false =>
    simp only [Bool.false_eq_true, ↓reduceIte]
    exact unit_read _ ha ⟨hk.1, hc hcl⟩ hp hq
  | true =>
    rw [hcl] at hd
    simp only [↓reduceIte] at hd ⊢
    obtain ⟨m, rfl⟩ : ∃ m, n = m + 1 := ⟨n - 1, by omega⟩
    have h1 := (hr m (d + 1) (pre ++ [tlp]) (trp :: post) (by omega) (by omega) (by omega) (hp.app (show Era [tlp] from rfl)) (era_cons rfl hq) (.rp _)).1
    have h2 := unit_paren_good (E := (negN m).2) (d := d) (pre := pre) (post := post) h0 (by omega) h1
    have e : ([tlp] ++ toksC a ++ [trp]) ++ post = tlp :: (toksC a ++ trp :: post) := by simp
    rw [e]
    show unitP (negN m).2 _ = _
    rw [h2]
    simp
theorem wrap_first {q a : Syn} (ha : checkC a .exps = 0) (hc : closedC q.kind a.kind = false → a.kind ≤ 16) : ∃ c r, wrapK q a (toksC a) = c :: r ∧ hitW c w_tnot = false := by
  have hk := exp_at (own_at (ok_own ha).1).1
  obtain ⟨_, _, hn, hf⟩ := own_at (ok_own ha).1
  unfold wrapK
  cases hcl : closedC q.kind a.kind with
  | true => exact ⟨tlp, _, rfl, by decide⟩
  | false =>
    have hk2 := hc hcl
    simp only [Bool.false_eq_true, ↓reduceIte]
    by_cases h3 : a.kind = 13
    · have e2 : toksC a = litK a := by rw [toksC_eq]; unfold nodeK; rw [h3]; rfl
      rw [e2]
      unfold litK numK
      split
      · split
        · exact ⟨_, _, rfl, by decide⟩
        · exact ⟨_, _, rfl, kind_hit (.inl rfl) _⟩
      · split
        · split
          · exact ⟨_, _, rfl, by decide⟩
          · exact ⟨_, _, rfl, by decide⟩
        · exact ⟨_, _, rfl, kind_hit (.inr rfl) _⟩
    by_cases h4 : a.kind = 14
    · have e2 : toksC a = [tw a.text, tg w_dot, tw a.name] := by rw [toksC_eq]; unfold nodeK; rw [h4]; rfl
      exact ⟨_, _, e2, name_hit (name_key (name_of hn (by rw [h4]; rfl) (by omega))) _⟩
    by_cases h5 : a.kind = 15
    · have e2 : toksC a = [tw w_tcount, tlp, tw a.text, trp] := by rw [toksC_eq]; unfold nodeK; rw [h5]; rfl
      exact ⟨_, _, e2, by decide⟩
    have h6 : a.kind = 16 := by omega
    have e2 : toksC a = [tw (aggT a.num)] ++ [tlp] ++ [tw a.text] ++ [tg w_dot] ++ [tw a.name] ++ (if (a.kids.map toksC == []) = true then [] else [tcm] ++ (a.kids.map toksC).getD 0 []) ++ [trp] := by rw [toksC_eq]; unfold nodeK; rw [h6]; rfl
    have hi := total_num hf h6
    refine ⟨tw (aggT a.num), _, by rw [e2]; simp only [List.append_assoc]; rfl, ?_⟩
    have : a.num = 1 ∨ a.num = 2 ∨ a.num = 3 ∨ a.num = 4 ∨ a.num = 5 := by omega
    rcases this with h | h | h | h | h <;> rw [h] <;> decide
end Go.Proofs.YtabkeeedkhgodaaGreatDoor

namespace Go.Proofs.YtabkeeedkhgodaaGreatDoor
open Go Go.Aw
set_option linter.unusedVariables false
set_option linter.unusedSimpArgs false
set_option maxRecDepth 100000
variable {pre post rest : List Tok} {d : Int} {t : Tok}

theorem chain_two {F : PS → Syn × PS} {sg : List (Str × Int)} {s : PS} {a b : Syn} {M : List Tok} {o : Str × Int}
    (h1 : F s = (a, Cur pre (t :: rest) d)) (h2 : sg.find? (fun x => isP x.1 (Cur pre (t :: rest) d)) = some o) (h3 : F (Cur (pre ++ [t]) rest d) = (b, Cur M post d)) (h4 : sg.find? (fun x => isP x.1 (Cur M post d)) = none) : chainP F sg s = (binS o.2 a b a.pos, Cur M post d) := by
  have hn : ∀ (n : Nat) (c : Syn), chainGo F sg n (Cur M post d) c = (c, Cur M post d) := fun n c => by
    cases n with
    | zero => rfl
    | succ n => unfold chainGo; rw [h4]
  unfold chainP fuel
  rw [h1]
  unfold chainGo
  simp only [h2, adv_cur, h3, hn]
theorem fnone' {sg : List (Str × Int)} {s : PS} (h : ∀ x, x ∈ sg → isP x.1 s = false) : sg.find? (fun x => isP x.1 s) = none := by
  rw [List.find?_eq_none]; intro x hx; rw [h x hx]; decide
theorem q_sum (hb : Bq post) : sumL.find? (fun x => isP x.1 (Cur pre post d)) = none := fnone' fun x hx => by
  have h := NoOp.q (pre := pre) (d := d) hb
  simp only [sumL, List.mem_cons, List.not_mem_nil, or_false] at hx
  rcases hx with rfl | rfl
  · exact h.1.2.2.1
  · exact h.1.2.2.2
theorem q_and (hb : Bq post) : andL.find? (fun x => isP x.1 (Cur pre post d)) = none := fnone' fun x hx => by
  simp only [andL, List.mem_cons, List.not_mem_nil, or_false] at hx
  subst hx; exact (NoOp.q hb).1.2.1
theorem q_or (hb : Bq post) : orL.find? (fun x => isP x.1 (Cur pre post d)) = none := fnone' fun x hx => by
  simp only [orL, List.mem_cons, List.not_mem_nil, or_false] at hx
  subst hx; exact (NoOp.q hb).1.1
/-- A level that finds nothing. -/
theorem not_of {E N : PS → Syn × PS} {s : PS} {r : Syn × PS} (hn : isP w_tnot s = false) (h : cmpP E s = r) : notP E N s = r := by unfold notP; rw [hn]; exact h
theorem and_of {E N : PS → Syn × PS} {s : PS} {r : Syn × PS} (h : notP E N s = r) (hs : andL.find? (fun x => isP x.1 r.2) = none) : andP E N s = r := by
  have : chainP (notP E N) andL s = notP E N s := chain_none (by rw [h]; exact hs)
  unfold andP; rw [this, h]
theorem or_of {E N : PS → Syn × PS} {s : PS} {r : Syn × PS} (h : andP E N s = r) (hs : orL.find? (fun x => isP x.1 r.2) = none) : orP E N s = r := by
  have : chainP (andP E N) orL s = andP E N s := chain_none (by rw [h]; exact hs)
  unfold orP; rw [this, h]
theorem sum_of {E : PS → Syn × PS} {s : PS} {r : Syn × PS} (h : unitP E s = r) (hs : sumL.find? (fun x => isP x.1 r.2) = none) : sumP E s = r := by
  have : chainP (unitP E) sumL s = unitP E s := chain_none (by rw [h]; exact hs)
  unfold sumP; rw [this, h]
theorem cmp_of {E : PS → Syn × PS} {s : PS} {r : Syn × PS} (h : sumP E s = r) (hs : isP w_lt r.2 = false ∧ isP w_le r.2 = false ∧ isP w_gt r.2 = false ∧ isP w_ge r.2 = false ∧ isP w_eqq r.2 = false ∧ isP w_neq r.2 = false) : cmpP E s = r := by
  obtain ⟨h1, h2, h3, h4, h5, h6⟩ := hs
  rw [cmpP_K, h]
  unfold cmpK
  rw [h1, h2, h3, h4, h5, h6]; rfl
/-- Two operands with the operation between them. -/
theorem bin_read {E N : PS → Syn × PS} {n : Int} {A B : Syn} {L R : List Tok} (hn : n = 5 ∨ n = 6 ∨ n = 7 ∨ n = 8 ∨ n = 9 ∨ n = 10 ∨ n = 11) (hA : A.pos = 0) (hb : Bq post)
    (u1 : unitP E (Cur pre (L ++ operK n :: (R ++ post)) d) = (A, Cur (pre ++ L) (operK n :: (R ++ post)) d)) (h2 : unitP E (Cur (pre ++ L ++ [operK n]) (R ++ post) d) = (B, Cur (pre ++ L ++ [operK n] ++ R) post d))
    (n1 : ∀ q, isP w_tnot (Cur pre (L ++ q) d) = false) (n2 : ∀ p q, isP w_tnot (Cur p (R ++ q) d) = false) :
    orP E N (Cur pre (L ++ operK n :: (R ++ post)) d) = (binS n A B 0, Cur (pre ++ L ++ [operK n] ++ R) post d) := by
  have hq := NoOp.q (pre := pre ++ L ++ [operK n] ++ R) (d := d) hb
  have s2 : sumP E (Cur (pre ++ L ++ [operK n]) (R ++ post) d) = _ := sum_of h2 (q_sum hb)
  have c2 : cmpP E (Cur (pre ++ L ++ [operK n]) (R ++ post) d) = _ := cmp_of s2 hq.2
  have t2 : notP E N (Cur (pre ++ L ++ [operK n]) (R ++ post) d) = _ := not_of (n2 _ _) c2
  have a2 : andP E N (Cur (pre ++ L ++ [operK n]) (R ++ post) d) = _ := and_of t2 (q_and hb)
  have hitS : ∀ w, isP w (Cur (pre ++ L) (operK n :: (R ++ post)) d) = hitW (operK n) w := fun w => is_hit
  have noS : n ≠ 5 → n ≠ 6 → sumL.find? (fun x => isP x.1 (Cur (pre ++ L) (operK n :: (R ++ post)) d)) = none := fun h5 h6 => fnone' fun x hx => by
    rw [hitS]
    rcases hn with h | h | h | h | h | h | h
    · exact absurd h h5
    · exact absurd h h6
    all_goals (subst h; revert x; decide)
  have noC : n ≠ 7 → n ≠ 8 → n ≠ 9 → hitW (operK n) w_lt = false ∧ hitW (operK n) w_le = false ∧ hitW (operK n) w_gt = false ∧ hitW (operK n) w_ge = false ∧ hitW (operK n) w_eqq = false ∧ hitW (operK n) w_neq = false := fun h7 h8 h9 => by
    rcases hn with h | h | h | h | h | h | h
    · subst h; decide
    · subst h; decide
    · exact absurd h h7
    · exact absurd h h8
    · exact absurd h h9
    · subst h; decide
    · subst h; decide
  by_cases hs : n = 5 ∨ n = 6
  · have c : sumP E (Cur pre (L ++ operK n :: (R ++ post)) d) = (binS n A B A.pos, Cur (pre ++ L ++ [operK n] ++ R) post d) :=
      chain_two (o := (operT n, n)) u1 (by unfold sumL; rw [List.find?_cons, List.find?_cons, hitS, hitS]; rcases hs with h | h <;> subst h <;> rfl) h2 (q_sum hb)
    rw [hA] at c
    exact or_of (and_of (not_of (n1 _) (cmp_of c hq.2)) (q_and hb)) (q_or hb)
  · have s1 : sumP E (Cur pre (L ++ operK n :: (R ++ post)) d) = _ := sum_of u1 (noS (fun h => hs (.inl h)) (fun h => hs (.inr h)))
    by_cases hc : n = 7 ∨ n = 8 ∨ n = 9
    · have c : cmpP E (Cur pre (L ++ operK n :: (R ++ post)) d) = (binS n A B 0, Cur (pre ++ L ++ [operK n] ++ R) post d) := by
        rw [cmpP_K, s1]
        unfold cmpK
        rw [hitS, hitS, hitS, hitS, hitS, hitS]
        simp only [adv_cur, s2, hA]
        rcases hc with h | h | h <;> subst h <;> rfl
      exact or_of (and_of (not_of (n1 _) c) (q_and hb)) (q_or hb)
    · have c1 : cmpP E (Cur pre (L ++ operK n :: (R ++ post)) d) = _ := cmp_of s1 (by
        have := noC (fun h => hc (.inl h)) (fun h => hc (.inr (.inl h))) (fun h => hc (.inr (.inr h)))
        simp only [hitS]; exact this)
      have t1 : notP E N (Cur pre (L ++ operK n :: (R ++ post)) d) = _ := not_of (n1 _) c1
      by_cases ha : n = 10
      · have c : andP E N (Cur pre (L ++ operK n :: (R ++ post)) d) = (binS n A B A.pos, Cur (pre ++ L ++ [operK n] ++ R) post d) :=
          chain_two (o := (w_tand, 10)) t1 (by unfold andL; rw [List.find?_cons, hitS]; subst ha; rfl) t2 (q_and hb) |>.trans (by subst ha; rfl)
        rw [hA] at c
        exact or_of c (q_or hb)
      · have hn11 : n = 11 := by omega
        have a1 : andP E N (Cur pre (L ++ operK n :: (R ++ post)) d) = _ := and_of t1 (fnone' fun x hx => by
          rw [hitS]; subst hn11; revert x; decide)
        have c : orP E N (Cur pre (L ++ operK n :: (R ++ post)) d) = (binS n A B A.pos, Cur (pre ++ L ++ [operK n] ++ R) post d) :=
          chain_two (o := (w_tor, 11)) a1 (by unfold orL; rw [List.find?_cons, hitS]; subst hn11; rfl) a2 (q_or hb) |>.trans (by subst hn11; rfl)
        rw [hA] at c
        exact c
/-- An operand followed by nothing that goes on. -/
theorem one_unit {E N : PS → Syn × PS} {A : Syn} {s : PS} {M : List Tok} (hb : Bq post) (h : unitP E s = (A, Cur M post d)) (hn : isP w_tnot s = false) : notP E N s = (A, Cur M post d) ∧ orP E N s = (A, Cur M post d) := by
  have t := not_of (N := N) hn (cmp_of (sum_of h (q_sum hb)) (NoOp.q hb).2)
  exact ⟨t, or_of (and_of t (q_and hb)) (q_or hb)⟩
theorem first_not {L : List Tok} (h : ∃ c r, L = c :: r ∧ hitW c w_tnot = false) (p q : List Tok) : isP w_tnot (Cur p (L ++ q) d) = false := by
  obtain ⟨c, r, rfl, h⟩ := h
  rw [List.cons_append, is_hit, h]
/-- Every well-formed expression is read. -/
theorem expr_read (a : Syn) : checkC a .exps = 0 → RE a := by
  refine Syn.ind (P := fun a => checkC a .exps = 0 → RE a) (fun a ih h => ?_) a
  have hk := exp_at (own_at (ok_own h).1).1
  obtain ⟨_, hs, hn, hf⟩ := own_at (ok_own h).1
  intro n d pre post h0 hd hnn hp hq hb
  rw [neg_low n]
  have hde := depthC_eq a
  by_cases h17 : a.kind = 17
  · refine ⟨?_, fun h => absurd h17 h⟩
    unfold shapeC at hs
    rw [h17] at hs
    replace hs : ((a.kids.length : Int) == 2) = true := hs
    obtain ⟨x, y, hkid⟩ := kids_two (t := a) (by simpa using hs)
    have cx : checkC x .exps = 0 := by
      have := (kid_ok h (j := 0) (a := x) (by rw [hkid]; rfl)).1
      have e : kidC a 0 = .exps := by unfold kidC; rw [h17]; rfl
      rwa [e] at this
    have cy : checkC y .exps = 0 := by
      have := (kid_ok h (j := 1) (a := y) (by rw [hkid]; rfl)).1
      have e : kidC a 1 = .exps := by unfold kidC; rw [h17]; rfl
      rwa [e] at this
    have rx := ih x (by rw [hkid]; simp) cx
    have ry := ih y (by rw [hkid]; simp) cy
    have kx := exp_at (own_at (ok_own cx).1).1
    have ky := exp_at (own_at (ok_own cy).1).1
    have clx : closedC a.kind x.kind = false → x.kind ≤ 16 := fun hc => by
      rw [h17] at hc
      replace hc : ((x.kind == 17) || (x.kind == 18)) = false := hc
      simp only [Bool.or_eq_false_iff, beq_eq_false_iff_ne] at hc
      omega
    have cly : closedC a.kind y.kind = false → y.kind ≤ 16 := fun hc => by
      rw [h17] at hc
      replace hc : ((y.kind == 17) || (y.kind == 18)) = false := hc
      simp only [Bool.or_eq_false_iff, beq_eq_false_iff_ne] at hc
      omega
    have hdl : depthL a.kind a.kids = max (depthC x + (if closedC a.kind x.kind then 1 else 0)) (max (depthC y + (if closedC a.kind y.kind then 1 else 0)) 0) := by rw [hkid, depthL, depthL, depthL]
    have hi := bin_num hf h17
    have e2 : toksC a = wrapK a x (toksC x) ++ operK a.num :: wrapK a y (toksC y) := by
      have k0 : kidN a 0 = x := by unfold kidN; rw [hkid]; rfl
      have k1 : kidN a 1 = y := by unfold kidN; rw [hkid]; rfl
      rw [toksC_eq]; unfold nodeK; rw [h17]
      show wrapK a (kidN a 0) ((a.kids.map toksC).getD 0 []) ++ [] ++ [operK a.num] ++ [] ++ wrapK a (kidN a 1) ((a.kids.map toksC).getD 1 []) = _
      rw [k0, k1, hkid]; simp
    have hnm : a.text = [] ∧ a.name = [] := by
      unfold fieldsC at hf
      rw [h17] at hf
      replace hf : (if (numC a != 0) = true then numC a else if ((!false && !(a.text == [])) || (!false && !(a.name == []))) = true then 3 else 0) = 0 := hf
      split at hf
      · rename_i h1; rw [hf] at h1; cases h1
      · split at hf
        · cases hf
        · rename_i h2
          have h3 : (!(a.text == []) || !(a.name == [])) = false := by simpa using h2
          simp only [Bool.or_eq_false_iff, Bool.not_eq_false'] at h3
          exact ⟨by simpa using h3.1, by simpa using h3.2⟩
    have er : erS a = binS a.num (erS x) (erS y) 0 := by rw [erS_eq, h17, hkid, hnm.1, hnm.2]; rfl
    have eW : ∀ (z : Syn), Era (wrapK a z (toksC z)) := fun z => era_wrap (era_toks z)
    have eO : Era [operK a.num] := era_one _ (by unfold operK; split <;> rfl)
    rw [e2, er]
    have key := bin_read (E := (lowN n).2) (N := (lowN n).1) (pre := pre) (post := post) (d := d) (n := a.num) (A := erS x) (B := erS y) (L := wrapK a x (toksC x)) (R := wrapK a y (toksC y)) hi (erS_pos x) hb
      (opnd cx rx clx h0 (by omega) hnn hp (era_cons (by unfold operK; split <;> rfl) ((eW y).app hq))) (opnd cy ry cly h0 (by omega) hnn ((hp.app (eW x)).app eO) hq) (fun q => first_not (wrap_first cx clx) _ _) (fun p q => first_not (wrap_first cy cly) _ _)
    rw [List.append_assoc, List.cons_append]
    show orP (lowN n).2 (lowN n).1 _ = _
    rw [key]
    simp
  · by_cases h18 : a.kind = 18
    · unfold shapeC at hs
      rw [h18] at hs
      replace hs : ((a.kids.length : Int) == 1) = true := hs
      obtain ⟨x, hkid⟩ := kids_one (t := a) (by simpa using hs)
      have cx : checkC x .exps = 0 := by
        have := (kid_ok h (j := 0) (a := x) (by rw [hkid]; rfl)).1
        have e : kidC a 0 = .exps := by unfold kidC; rw [h18]; rfl
        rwa [e] at this
      have rx := ih x (by rw [hkid]; simp) cx
      have kx := exp_at (own_at (ok_own cx).1).1
      have hdl : depthL a.kind a.kids = max (depthC x + (if closedC a.kind x.kind then 1 else 0)) 0 := by rw [hkid, depthL, depthL]
      have hcl : closedC a.kind x.kind = (x.kind == 17) := by rw [h18]; rfl
      rw [h18] at hde
      replace hde : depthC a = depthL 18 a.kids + 1 := hde
      rw [h18] at hdl
      obtain ⟨m, rfl⟩ : ∃ m, n = m + 1 := ⟨n - 1, by omega⟩
      have e2 : toksC a = tw w_tnot :: wrapK a x (toksC x) := by
        have k0 : kidN a 0 = x := by unfold kidN; rw [hkid]; rfl
        rw [toksC_eq]; unfold nodeK; rw [h18]
        show [tw w_tnot] ++ [] ++ wrapK a (kidN a 0) ((a.kids.map toksC).getD 0 []) = _
        rw [k0, hkid]; rfl
      have hnum := zero_num hf ⟨by omega, by omega, by omega, by omega, by omega⟩
      have hnm : a.text = [] ∧ a.name = [] := by
        unfold fieldsC at hf
        rw [h18] at hf
        replace hf : (if (numC a != 0) = true then numC a else if ((!false && !(a.text == [])) || (!false && !(a.name == []))) = true then 3 else 0) = 0 := hf
        split at hf
        · rename_i h1; rw [hf] at h1; cases h1
        · split at hf
          · cases hf
          · rename_i h2
            have h3 : (!(a.text == []) || !(a.name == [])) = false := by simpa using h2
            simp only [Bool.or_eq_false_iff, Bool.not_eq_false'] at h3
            exact ⟨by simpa using h3.1, by simpa using h3.2⟩
      have er : erS a = ⟨18, [], [], 0, [erS x], 0⟩ := by rw [erS_eq, h18, hkid, hnm.1, hnm.2, hnum]; rfl
      have inner : (negN m).1 (Cur (pre ++ [tw w_tnot]) (wrapK a x (toksC x) ++ post) (d + 1)) = (erS x, Cur (pre ++ [tw w_tnot] ++ wrapK a x (toksC x)) post (d + 1)) := by
        have hp1 : Era (pre ++ [tw w_tnot]) := hp.app (era_one _ rfl)
        by_cases hx : x.kind = 17
        · have hc1 : closedC a.kind x.kind = true := by rw [hcl, hx]; rfl
          have hc18 : closedC 18 x.kind = true := by rw [← h18]; exact hc1
          rw [hc18] at hdl
          have u := opnd (q := a) (a := x) (d := d + 1) (n := m) (pre := pre ++ [tw w_tnot]) (post := post) cx rx (fun hc => by rw [hc1] at hc; cases hc) (by omega) (by rw [hc1]; simp only [↓reduceIte] at hdl ⊢; omega) (by omega) hp1 hq
          rw [neg_low m]
          exact (one_unit (N := (lowN m).1) hb u (first_not (wrap_first cx (fun hc => by rw [hc1] at hc; cases hc)) _ _)).1
        · have hc1 : closedC a.kind x.kind = false := by rw [hcl]; simpa using hx
          have hc18 : closedC 18 x.kind = false := by rw [← h18]; exact hc1
          rw [hc18] at hdl
          simp only [Bool.false_eq_true, ↓reduceIte] at hdl
          have ew : wrapK a x (toksC x) = toksC x := by unfold wrapK; rw [hc1]; rfl
          rw [ew]
          exact (rx m (d + 1) (pre ++ [tw w_tnot]) post (by omega) (by omega) (by omega) hp1 hq hb).2 hx
      have ti : isP w_tnot (Cur pre (tw w_tnot :: (wrapK a x (toksC x) ++ post)) d) = true := by rw [is_hit]; decide
      have eo : offS (Cur pre (tw w_tnot :: (wrapK a x (toksC x) ++ post)) d) = 0 := cur_off hp (era_cons rfl ((era_wrap (era_toks x)).app hq))
      have key : notP (negN m).2 (negN m).1 (Cur pre (tw w_tnot :: (wrapK a x (toksC x) ++ post)) d) = (erS a, Cur (pre ++ tw w_tnot :: wrapK a x (toksC x)) post d) := by
        unfold notP
        rw [ti, eo]
        rw [if_neg (by decide)]
        rw [nest_cur h0 (by omega)]
        simp only [inner]
        rw [shallow_cur h0 (by omega), er]
        simp
      rw [e2]
      exact ⟨or_of (and_of key (q_and hb)) (q_or hb), fun _ => key⟩
    · have hc0 : closedC a.kind a.kind = false := by
        unfold closedC
        rw [if_neg (by simpa using h17), if_neg (by simpa using h18)]
      have ew : wrapK a a (toksC a) = toksC a := by unfold wrapK; rw [hc0]; rfl
      have hf1 := wrap_first (q := a) h (fun _ => by omega)
      rw [ew] at hf1
      have u := unit_read (d := d) (pre := pre) (post := post) (lowN n).2 h ⟨hk.1, by omega⟩ hp hq
      have := one_unit (N := (lowN n).1) hb u (first_not hf1 _ _)
      exact ⟨this.2, fun _ => this.1⟩
end Go.Proofs.YtabkeeedkhgodaaGreatDoor

namespace Go.Proofs.YtabkeeedkhgodaaGreatDoor
open Go Go.Aw
set_option linter.unusedVariables false
set_option linter.unusedSimpArgs false
set_option maxRecDepth 100000
variable {pre post rest : List Tok} {d : Int} {t : Tok}

def tailK (l : List Syn) : List Tok := l.flatMap fun a => tcm :: toksC a
theorem joinK_tail : ∀ (x : Syn) (r : List Syn), joinK ((x :: r).map toksC) = toksC x ++ tailK r
  | x, [] => by simp [joinK, tailK]
  | x, y :: r => by
    have := joinK_tail y r
    rw [List.map_cons] at this
    rw [List.map_cons, List.map_cons, joinK, this]
    simp [tailK]
theorem era_tail (l : List Syn) : Era (tailK l) := by
  induction l with
  | nil => rfl
  | cons x r ih => exact era_cons rfl ((era_toks x).app ih)
theorem tail_len (l : List Syn) : l.length ≤ (tailK l).length := by
  induction l with
  | nil => exact Nat.le_refl _
  | cons x r ih => show _ ≤ (tcm :: (toksC x ++ tailK r)).length; simp only [List.length_cons, List.length_append]; omega
theorem fuel_cur (pre L : List Tok) : fuel (Cur pre L d) = L.length + 1 := by
  unfold fuel Cur
  simp
theorem listGo_read {F : PS → Syn × PS} {B : List Tok → Prop} (hB : ∀ r, B (tcm :: r)) (hb : B post) (hq : Era post) (hc : ∀ p, isP w_comma (Cur p post d) = false) :
    ∀ (l : List Syn) (n : Nat) (pre : List Tok) (out : List Syn), l.length < n → (∀ a ∈ l, ∀ p q, Era p → Era q → B q → F (Cur p (toksC a ++ q) d) = (erS a, Cur (p ++ toksC a) q d)) → Era pre →
      listGo F n (Cur pre (tailK l ++ post) d) out = (out ++ l.map erS, Cur (pre ++ tailK l) post d)
  | [], n, pre, out, hn, _, hp => by
    obtain ⟨m, rfl⟩ : ∃ m, n = m + 1 := ⟨n - 1, by omega⟩
    show listGo F (m + 1) (Cur pre post d) out = _
    unfold listGo
    rw [hc]
    simp [tailK]
  | a :: r, n, pre, out, hn, hF, hp => by
    obtain ⟨m, rfl⟩ : ∃ m, n = m + 1 := ⟨n - 1, by omega⟩
    have e : tailK (a :: r) ++ post = tcm :: (toksC a ++ (tailK r ++ post)) := by simp [tailK]
    have hBr : B (tailK r ++ post) := by
      cases r with
      | nil => exact hb
      | cons y s => exact hB _
    have h1 := hF a (List.mem_cons_self ..) (pre ++ [tcm]) (tailK r ++ post) (hp.app (era_one _ rfl)) ((era_tail r).app hq) hBr
    rw [e]
    unfold listGo
    rw [is_hit, show hitW tcm w_comma = true by decide, if_pos rfl, adv_cur, h1]
    simp only
    rw [listGo_read hB hb hq hc r m _ _ (by rw [List.length_cons] at hn; omega) (fun x hx => hF x (List.mem_cons_of_mem _ hx)) ((hp.app (era_one _ rfl)).app (era_toks a))]
    simp [tailK]
theorem rp_no_comma (p : List Tok) : isP w_comma (Cur p (trp :: post) d) = false := by rw [is_hit]; decide

/-! Events. -/
theorem EE_neg : EE = (negN 64).2 := rfl
theorem event_read {a : Syn} {p : Pl} (h : checkC a p = 0) (hk : a.kind = 5) (h0 : 0 ≤ d) (hd : d + (depthC a : Int) ≤ 64) (hp : Era pre) (hq : Era post) (hb : Bq post) : eventP EE (Cur pre (toksC a ++ post) d) = (erS a, Cur (pre ++ toksC a) post d) := by
  obtain ⟨_, hs, hn, hf⟩ := own_at (ok_own h).1
  have k1 := name_key (name_of hn (by rw [hk]; rfl) (by omega))
  have k2 := name_key (name2_of hn (by rw [hk]; rfl) (by omega))
  have hnum := zero_num hf ⟨by omega, by omega, by omega, by omega, by omega⟩
  have e0 : toksC a = [tw a.text] ++ [] ++ [tw a.name] ++ (if (a.kids.map toksC == []) = true then [] else [tw w_tif] ++ (a.kids.map toksC).getD 0 []) := by rw [toksC_eq]; unfold nodeK; rw [hk]; rfl
  unfold shapeC at hs
  rw [hk] at hs
  replace hs : decide ((a.kids.length : Int) ≤ 1) = true := hs
  simp only [decide_eq_true_eq] at hs
  match hkid : a.kids with
  | [] =>
    have e2 : toksC a = [tw a.text, tw a.name] := by rw [e0, hkid]; rfl
    have er : erS a = ⟨5, a.text, a.name, 0, [], 0⟩ := by rw [erS_leaf hkid, hk, hnum]
    rw [e2, er]
    show eventP EE (Cur pre (tw a.text :: tw a.name :: post) d) = _
    unfold eventP
    simp only
    rw [(tok_name k1).1, (tok_name k1).2, (tok_name k2).1, (tok_name k2).2, hb.not (by decide), cur_off hp (era_cons rfl (era_cons rfl hq))]
    simp
  | [x] =>
    have hx := kid_ok h (j := 0) (a := x) (by rw [hkid]; rfl)
    have ek : kidC a 0 = .exps := by unfold kidC; rw [hk]; rfl
    rw [ek] at hx
    have e2 : toksC a = tw a.text :: tw a.name :: tw w_tif :: toksC x := by rw [e0, hkid]; simp
    have er : erS a = ⟨5, a.text, a.name, 0, [erS x], 0⟩ := by rw [erS_eq, hk, hkid, hnum]; rfl
    have hde := depthC_eq a
    rw [hk, hkid, depthL, depthL] at hde
    have hde2 : depthC x ≤ depthC a := by rw [hde]; omega
    rw [e2, er]
    show eventP EE (Cur pre (tw a.text :: tw a.name :: tw w_tif :: (toksC x ++ post)) d) = _
    have r := (expr_read x hx.1 64 d (pre ++ [tw a.text] ++ [tw a.name] ++ [tw w_tif]) post h0 (by omega) (by omega) (((hp.app (era_one _ rfl)).app (era_one _ rfl)).app (era_one _ rfl)) hq hb).1
    unfold eventP
    simp only
    rw [(tok_name k1).1, (tok_name k1).2, (tok_name k2).1, (tok_name k2).2, is_hit, show hitW (tw w_tif) w_tif = true by decide, if_pos rfl, adv_cur, EE_neg, r, cur_off hp (era_cons rfl (era_cons rfl (era_cons rfl ((era_toks x).app hq))))]
    simp
  | x :: y :: r => rw [hkid] at hs; simp only [List.length_cons] at hs; omega
/-! Patterns. -/
def lowT : Nat → PS → Syn × PS
  | 0 => dullP
  | n + 1 => patN EE n
theorem pat_low : ∀ n, patN EE n = patP EE (lowT n)
  | 0 => rfl
  | _ + 1 => rfl
def RT (a : Syn) : Prop := ∀ (n : Nat) (d : Int) (pre post : List Tok), 0 ≤ d → d + (depthC a : Int) ≤ 64 → 64 ≤ (n : Int) + d → Era pre → Era post → Bq post →
  patN EE n (Cur pre (toksC a ++ post) d) = (erS a, Cur (pre ++ toksC a) post d)
theorem form_find' {k : Int} (hk : 6 ≤ k ∧ k ≤ 12) : formL.find? (fun f => isP f.1 (Cur pre (tw (callT k) :: post) d)) = some (callT k, k) := by
  unfold formL
  rw [List.find?_cons, List.find?_cons, List.find?_cons, List.find?_cons, List.find?_cons, List.find?_cons, List.find?_cons, is_hit, is_hit, is_hit, is_hit, is_hit, is_hit, is_hit]
  have : k = 6 ∨ k = 7 ∨ k = 8 ∨ k = 9 ∨ k = 10 ∨ k = 11 ∨ k = 12 := by omega
  rcases this with rfl | rfl | rfl | rfl | rfl | rfl | rfl <;> rfl
theorem form_none {s : Str} (h : keyS s = false) : formL.find? (fun f => isP f.1 (Cur pre (tw s :: post) d)) = none := by
  rw [List.find?_eq_none]; intro x _; rw [is_hit, name_hit h]; decide
theorem call_toks {a : Syn} (hk : 6 ≤ a.kind ∧ a.kind ≤ 12) : toksC a = tw (callT a.kind) :: tlp :: (joinK (a.kids.map toksC) ++ ((if (a.kind == 11) = true then [tcm] ++ numK a.num else []) ++ [trp])) := by
  have no : ∀ k : Int, k < 6 ∨ 12 < k → ¬ (a.kind == k) = true := fun k h => by simp only [beq_iff_eq]; omega
  rw [toksC_eq]
  unfold nodeK
  rw [if_neg (no 0 (by omega)), if_neg (no 1 (by omega)), if_neg (no 2 (by omega)), if_neg (no 3 (by omega)), if_neg (no 5 (by omega)), if_neg (no 13 (by omega)), if_neg (no 14 (by omega)), if_neg (no 15 (by omega)), if_neg (no 16 (by omega)), if_neg (no 17 (by omega)), if_neg (no 18 (by omega))]
  simp
/-- What a form reads behind its word. -/
theorem form_read {a : Syn} {n : Nat} {K : List Syn} {m : Int} {M : List Tok} (hk : 6 ≤ a.kind ∧ a.kind ≤ 12) (h0 : 0 ≤ d) (hd : d < 64) (hp : Era pre) (hq : Era (toksC a ++ post))
    (h : patK EE (lowT n) a.kind ⟨a.kind, [], [], 0, [], 0⟩ (Cur (pre ++ [tw (callT a.kind)]) (tlp :: (M ++ post)) (d + 1)) = (⟨a.kind, [], [], m, K, 0⟩, Cur (pre ++ [tw (callT a.kind)] ++ tlp :: M) post (d + 1)))
    (e : toksC a = tw (callT a.kind) :: tlp :: M) : patP EE (lowT n) (Cur pre (toksC a ++ post) d) = (⟨a.kind, [], [], m, K, 0⟩, Cur (pre ++ toksC a) post d) := by
  rw [e] at hq ⊢
  show patP EE (lowT n) (Cur pre (tw (callT a.kind) :: (tlp :: (M ++ post))) d) = _
  rw [pat_form (t := tw (callT a.kind)) (post := tlp :: (M ++ post)) h0 hd hp hq (form_find' hk)]
  simp only
  rw [h, shallow_cur h0 hd]
  simp
theorem plain_own {a : Syn} (hf : fieldsC a = 0) (hk : (usesC a.kind).1 = false ∧ (usesC a.kind).2 = false ∧ a.kind ≠ 13) : a.text = [] ∧ a.name = [] := by
  unfold fieldsC at hf
  rw [if_neg (by simpa using hk.2.2)] at hf
  split at hf
  · rename_i h1; rw [hf] at h1; cases h1
  · split at hf
    · cases hf
    · rename_i h2
      rw [hk.1, hk.2.1] at h2
      have h3 : (!(a.text == []) || !(a.name == [])) = false := by simpa using h2
      simp only [Bool.or_eq_false_iff, Bool.not_eq_false'] at h3
      exact ⟨by simpa using h3.1, by simpa using h3.2⟩
theorem pat_read (a : Syn) : checkC a .pats = 0 → RT a := by
  refine Syn.ind (P := fun a => checkC a .pats = 0 → RT a) (fun a ih h => ?_) a
  have hkk := pat_at (own_at (ok_own h).1).1
  obtain ⟨_, hs, hn, hf⟩ := own_at (ok_own h).1
  intro n d pre post h0 hd hnn hp hq hb
  rw [pat_low]
  by_cases h5 : a.kind = 5
  · have k1 := name_key (name_of hn (by rw [h5]; rfl) (by omega))
    have e0 : toksC a = [tw a.text] ++ [] ++ [tw a.name] ++ (if (a.kids.map toksC == []) = true then [] else [tw w_tif] ++ (a.kids.map toksC).getD 0 []) := by rw [toksC_eq]; unfold nodeK; rw [h5]; rfl
    have ev := event_read (post := post) (pre := pre) h h5 h0 hd hp hq hb
    obtain ⟨L, eL⟩ : ∃ L, toksC a = tw a.text :: L := ⟨_, by rw [e0]; simp only [List.append_assoc]; rfl⟩
    unfold patP
    rw [eL, List.cons_append, form_none k1]
    rw [eL, List.cons_append] at ev
    exact ev
  · have hk : 6 ≤ a.kind ∧ a.kind ≤ 12 := by omega
    have hde := depthC_eq a
    have e1 : ((a.kind == 18) || (isPat a.kind && (a.kind != 5))) = true := by
      have h6 : (a.kind != 5) = true := by simpa using h5
      unfold isPat
      rw [h6, decide_eq_true (by omega : (5 : Int) ≤ a.kind), decide_eq_true (by omega : a.kind ≤ 12)]
      simp
    rw [if_pos e1] at hde
    obtain ⟨m, rfl⟩ : ∃ m, n = m + 1 := ⟨n - 1, by omega⟩
    have hkey : ∀ k : Int, 6 ≤ k → k ≤ 12 → (usesC k).1 = false ∧ (usesC k).2 = false := fun k k6 k12 => by
      have : k = 6 ∨ k = 7 ∨ k = 8 ∨ k = 9 ∨ k = 10 ∨ k = 11 ∨ k = 12 := by omega
      rcases this with rfl | rfl | rfl | rfl | rfl | rfl | rfl <;> exact ⟨rfl, rfl⟩
    have hnm := plain_own hf ⟨(hkey a.kind hk.1 hk.2).1, (hkey a.kind hk.1 hk.2).2, by omega⟩
    have hcl : ∀ k : Int, closedC a.kind k = false := fun k => by
      unfold closedC
      rw [if_neg (by simp only [beq_iff_eq]; omega), if_neg (by simp only [beq_iff_eq]; omega)]
    have hdk : ∀ x ∈ a.kids, depthC x + 1 ≤ depthC a := by
      have key : ∀ l : List Syn, ∀ x ∈ l, depthC x ≤ depthL a.kind l := by
        intro l
        induction l with
        | nil => intro x hx; cases hx
        | cons y r ihl =>
          intro x hx
          rw [depthL]
          rcases List.mem_cons.1 hx with rfl | hx
          · omega
          · have := ihl x hx; omega
      intro x hx
      have := key a.kids x hx
      omega
    have eA := (era_toks a).app hq
    have hz : a.kind ≠ 11 → a.num = 0 := fun h11 => zero_num hf ⟨by omega, by omega, by omega, by omega, h11⟩
    have hct := call_toks hk
    -- a kid that is a pattern, one level deeper
    have rk : ∀ (j : Nat) x, a.kids[j]? = some x → kidC a j = .pats → ∀ p q, Era p → Era q → Bq q → lowT (m + 1) (Cur p (toksC x ++ q) (d + 1)) = (erS x, Cur (p ++ toksC x) q (d + 1)) := fun j x hx hj p q hp1 hq1 hb1 => by
      have c := (kid_ok h hx).1
      rw [hj] at c
      have hd1 := hdk x (List.mem_of_getElem? hx)
      exact ih x (List.mem_of_getElem? hx) c m (d + 1) p q (by omega) (by omega) (by omega) hp1 hq1 hb1
    have p0 : kidC a 0 = .pats := by
      have : a.kind = 6 ∨ a.kind = 7 ∨ a.kind = 8 ∨ a.kind = 9 ∨ a.kind = 10 ∨ a.kind = 11 ∨ a.kind = 12 := by omega
      unfold kidC
      rcases this with h | h | h | h | h | h | h <;> rw [h] <;> rfl
    have eP : Era (pre ++ [tw (callT a.kind)]) := hp.app (era_one _ rfl)
    have eQ : Era (pre ++ [tw (callT a.kind)] ++ [tlp]) := eP.app (era_one _ rfl)
    by_cases h8 : a.kind ≤ 8
    · have hlen : 2 ≤ (a.kids.length : Int) := by
        unfold shapeC at hs
        have : a.kind = 6 ∨ a.kind = 7 ∨ a.kind = 8 := by omega
        rcases this with h | h | h <;> (rw [h] at hs; exact of_decide_eq_true hs)
      match hkid : a.kids with
      | [] => rw [hkid] at hlen; simp at hlen
      | [x] => rw [hkid] at hlen; simp at hlen
      | x :: y :: r =>
        have pj : ∀ j : Nat, kidC a j = .pats := fun j => by
          have : a.kind = 6 ∨ a.kind = 7 ∨ a.kind = 8 := by omega
          unfold kidC
          rcases this with h | h | h <;> rw [h] <;> rfl
        have h11 : ¬ (a.kind == 11) = true := by simp only [beq_iff_eq]; omega
        rw [if_neg h11, List.nil_append, hkid, joinK_tail] at hct
        have er : erS a = ⟨a.kind, [], [], 0, erS x :: erS y :: r.map erS, 0⟩ := by rw [erS_eq, hnm.1, hnm.2, hz (by omega), hkid]; rfl
        rw [er]
        refine form_read (M := toksC x ++ tailK (y :: r) ++ [trp]) hk h0 (by omega) hp eA ?_ hct
        have eT : (toksC x ++ tailK (y :: r) ++ [trp]) ++ post = toksC x ++ (tcm :: (toksC y ++ (tailK r ++ trp :: post))) := by simp [tailK]
        have r0 := rk 0 x (by rw [hkid]; rfl) (pj 0) (pre ++ [tw (callT a.kind)] ++ [tlp]) (tcm :: (toksC y ++ (tailK r ++ trp :: post))) eQ (era_cons rfl ((era_toks y).app ((era_tail r).app (era_cons rfl hq)))) (.cm _)
        have r1 := rk 1 y (by rw [hkid]; rfl) (pj 1) (pre ++ [tw (callT a.kind)] ++ [tlp] ++ toksC x ++ [tcm]) (tailK r ++ trp :: post) ((eQ.app (era_toks x)).app (era_one _ rfl)) ((era_tail r).app (era_cons rfl hq)) (by cases r with | nil => exact .rp _ | cons z s => exact .cm _)
        have r2 := listGo_read (F := lowT (m + 1)) (d := d + 1) (B := Bq) (post := trp :: post) .cm (.rp _) (era_cons rfl hq) rp_no_comma r (fuel (Cur (pre ++ [tw (callT a.kind)] ++ [tlp] ++ toksC x ++ [tcm] ++ toksC y) (tailK r ++ trp :: post) (d + 1))) (pre ++ [tw (callT a.kind)] ++ [tlp] ++ toksC x ++ [tcm] ++ toksC y) [erS x, erS y]
          (by rw [fuel_cur, List.length_append]; have := tail_len r; omega) (fun z hz' p q e1 e2 e3 => by
            obtain ⟨j, hj⟩ := List.mem_iff_getElem?.1 hz'
            exact rk (j + 2) z (by rw [hkid]; simpa using hj) (pj _) p q e1 e2 e3) (((eQ.app (era_toks x)).app (era_one _ rfl)).app (era_toks y))
        rw [eT]
        unfold patK
        rw [exp_hit (t := tlp) (by decide), r0]
        simp only
        unfold restP
        rw [if_pos (decide_eq_true h8)]
        unfold sevP
        simp only
        rw [exp_hit cm_hit, r1]
        simp only [List.cons_append, List.nil_append]
        rw [r2, exp_hit (t := trp) (by decide)]
        simp [tailK]
    · have h9 : a.kind = 9 ∨ a.kind = 10 ∨ a.kind = 11 ∨ a.kind = 12 := by omega
      rcases h9 with h9 | h9 | h9 | h9
      · unfold shapeC at hs
        rw [h9] at hs
        replace hs : ((a.kids.length : Int) == 1) = true := hs
        obtain ⟨x, hkid⟩ := kids_one (t := a) (by simpa using hs)
        have h11 : ¬ (a.kind == 11) = true := by simp only [beq_iff_eq]; omega
        rw [if_neg h11, List.nil_append, hkid, joinK_tail] at hct
        have er : erS a = ⟨a.kind, [], [], 0, [erS x], 0⟩ := by rw [erS_eq, hnm.1, hnm.2, hz (by omega), hkid]; rfl
        rw [er]
        refine form_read (M := toksC x ++ tailK [] ++ [trp]) hk h0 (by omega) hp eA ?_ hct
        have r0 := rk 0 x (by rw [hkid]; rfl) p0 (pre ++ [tw (callT a.kind)] ++ [tlp]) (trp :: post) eQ (era_cons rfl hq) (.rp _)
        have := patK_plus (E := EE) (z := ⟨a.kind, [], [], 0, [], 0⟩) r0
        have eT : (toksC x ++ tailK [] ++ [trp]) ++ post = toksC x ++ trp :: post := by simp [tailK]
        rw [eT]
        rw [← h9] at this
        rw [this]
        simp [tailK]
      · unfold shapeC at hs
        rw [h9] at hs
        replace hs : ((a.kids.length : Int) == 2) = true := hs
        obtain ⟨x, y, hkid⟩ := kids_two (t := a) (by simpa using hs)
        have h11 : ¬ (a.kind == 11) = true := by simp only [beq_iff_eq]; omega
        rw [if_neg h11, List.nil_append, hkid, joinK_tail] at hct
        have er : erS a = ⟨a.kind, [], [], 0, [erS x, erS y], 0⟩ := by rw [erS_eq, hnm.1, hnm.2, hz (by omega), hkid]; rfl
        rw [er]
        refine form_read (M := toksC x ++ tailK [y] ++ [trp]) hk h0 (by omega) hp eA ?_ hct
        have hy := kid_ok h (j := 1) (a := y) (by rw [hkid]; rfl)
        have ky5 : y.kind = 5 := only_at (n := 5) (by
          have e : kidC a 1 = .only 5 := by unfold kidC; rw [h9]; rfl
          rw [← e]; exact hy.2)
        have hdy := hdk y (by rw [hkid]; simp)
        have r0 := rk 0 x (by rw [hkid]; rfl) p0 (pre ++ [tw (callT a.kind)] ++ [tlp]) (tcm :: (toksC y ++ trp :: post)) eQ (era_cons rfl ((era_toks y).app (era_cons rfl hq))) (.cm _)
        have r1 := event_read (d := d + 1) (pre := pre ++ [tw (callT a.kind)] ++ [tlp] ++ toksC x ++ [tcm]) (post := trp :: post) hy.1 ky5 (by omega) (by omega) ((eQ.app (era_toks x)).app (era_one _ rfl)) (era_cons rfl hq) (.rp _)
        have eT : (toksC x ++ tailK [y] ++ [trp]) ++ post = toksC x ++ (tcm :: (toksC y ++ trp :: post)) := by simp [tailK]
        rw [eT]
        unfold patK
        rw [exp_hit (t := tlp) (by decide), r0]
        simp only
        unfold restP
        rw [if_neg (by simp only [decide_eq_true_eq]; omega), if_neg (by rw [h9]; decide), if_pos (by rw [h9]; decide), exp_hit cm_hit, r1]
        simp only
        rw [exp_hit (t := trp) (by decide)]
        simp [tailK]
      · unfold shapeC at hs
        rw [h9] at hs
        replace hs : ((a.kids.length : Int) == 1) = true := hs
        obtain ⟨x, hkid⟩ := kids_one (t := a) (by simpa using hs)
        have h11 : (a.kind == 11) = true := by simpa using h9
        have hnum := within_num hf h9
        have enk : numK a.num = [⟨1, Lib.decDigits a.num.toNat, 0⟩] := by unfold numK; rw [if_neg (by omega)]
        rw [if_pos h11, hkid, joinK_tail, enk] at hct
        have er : erS a = ⟨a.kind, [], [], a.num, [erS x], 0⟩ := by rw [erS_eq, hnm.1, hnm.2, hkid]; rfl
        rw [er]
        refine form_read (M := (toksC x ++ tailK []) ++ (([tcm] ++ [⟨1, Lib.decDigits a.num.toNat, 0⟩]) ++ [trp])) hk h0 (by omega) hp eA ?_ hct
        have r0 := rk 0 x (by rw [hkid]; rfl) p0 (pre ++ [tw (callT a.kind)] ++ [tlp]) (tcm :: ⟨1, Lib.decDigits a.num.toNat, 0⟩ :: trp :: post) eQ (era_cons rfl (era_cons rfl (era_cons rfl hq))) (.cm _)
        have eT : ((toksC x ++ tailK []) ++ (([tcm] ++ [⟨1, Lib.decDigits a.num.toNat, 0⟩]) ++ [trp])) ++ post = toksC x ++ (tcm :: ⟨1, Lib.decDigits a.num.toNat, 0⟩ :: trp :: post) := by simp [tailK]
        rw [eT]
        unfold patK
        rw [exp_hit (t := tlp) (by decide), r0]
        simp only
        unfold restP
        rw [if_neg (by simp only [decide_eq_true_eq]; omega), if_neg (by rw [h9]; decide), if_neg (by rw [h9]; decide), if_pos (by rw [h9]; decide), exp_hit cm_hit]
        have e1 : tokP 1 (Cur (pre ++ [tw (callT a.kind)] ++ [tlp] ++ toksC x ++ [tcm]) (⟨1, Lib.decDigits a.num.toNat, 0⟩ :: trp :: post) (d + 1)) = Cur (pre ++ [tw (callT a.kind)] ++ [tlp] ++ toksC x ++ [tcm] ++ [⟨1, Lib.decDigits a.num.toNat, 0⟩]) (trp :: post) (d + 1) := (tok_cur (by rfl)).1
        have e2 : numP (Cur (pre ++ [tw (callT a.kind)] ++ [tlp] ++ toksC x ++ [tcm]) (⟨1, Lib.decDigits a.num.toNat, 0⟩ :: trp :: post) (d + 1)) = a.num := by
          unfold numP
          rw [nxt_cur, cur_tk]
          show (numS (Lib.decDigits a.num.toNat)).1 = _
          rw [numS_dec (by omega)]
          show ((a.num.toNat : Nat) : Int) = a.num
          omega
        rw [e1, e2]
        simp only
        rw [exp_hit (t := trp) (by decide)]
        simp [tailK]
      · unfold shapeC at hs
        rw [h9] at hs
        replace hs : ((a.kids.length : Int) == 2) = true := hs
        obtain ⟨x, y, hkid⟩ := kids_two (t := a) (by simpa using hs)
        have h11 : ¬ (a.kind == 11) = true := by simp only [beq_iff_eq]; omega
        rw [if_neg h11, List.nil_append, hkid, joinK_tail] at hct
        have er : erS a = ⟨a.kind, [], [], 0, [erS x, erS y], 0⟩ := by rw [erS_eq, hnm.1, hnm.2, hz (by omega), hkid]; rfl
        rw [er]
        refine form_read (M := toksC x ++ tailK [y] ++ [trp]) hk h0 (by omega) hp eA ?_ hct
        have hy := kid_ok h (j := 1) (a := y) (by rw [hkid]; rfl)
        have e : kidC a 1 = .exps := by unfold kidC; rw [h9]; rfl
        rw [e] at hy
        have hdy := hdk y (by rw [hkid]; simp)
        have r0 := rk 0 x (by rw [hkid]; rfl) p0 (pre ++ [tw (callT a.kind)] ++ [tlp]) (tcm :: (toksC y ++ trp :: post)) eQ (era_cons rfl ((era_toks y).app (era_cons rfl hq))) (.cm _)
        have r1 := (expr_read y hy.1 64 (d + 1) (pre ++ [tw (callT a.kind)] ++ [tlp] ++ toksC x ++ [tcm]) (trp :: post) (by omega) (by omega) (by omega) ((eQ.app (era_toks x)).app (era_one _ rfl)) (era_cons rfl hq) (.rp _)).1
        have := patK_where (E := EE) (z := ⟨a.kind, [], [], 0, [], 0⟩) r0
        have eT : (toksC x ++ tailK [y] ++ [trp]) ++ post = toksC x ++ (tcm :: (toksC y ++ trp :: post)) := by simp [tailK]
        rw [eT]
        rw [← h9] at this
        rw [this, EE_neg, r1, exp_hit (t := trp) (by decide)]
        simp [tailK]
end Go.Proofs.YtabkeeedkhgodaaGreatDoor

namespace Go.Proofs.YtabkeeedkhgodaaGreatDoor
open Go Go.Aw
set_option linter.unusedVariables false
set_option linter.unusedSimpArgs false
set_option maxRecDepth 100000
variable {pre post rest : List Tok} {d : Int} {t : Tok}

theorem own_name {a : Syn} (hf : fieldsC a = 0) (h13 : a.kind ≠ 13) (hk : (usesC a.kind).2 = false) : a.name = [] := by
  unfold fieldsC at hf
  rw [if_neg (by simpa using h13)] at hf
  split at hf
  · rename_i h1; rw [hf] at h1; cases h1
  · split at hf
    · cases hf
    · rename_i h2
      rw [hk] at h2
      simp only [Bool.not_false, Bool.true_and, Bool.or_eq_true, not_or, Bool.not_eq_true, Bool.not_eq_false'] at h2
      simpa using h2.2
theorem list_read {F : PS → Syn × PS} {B : List Tok → Prop} (hB : ∀ r, B (tcm :: r)) (hb : B post) (hq : Era post) (hc : ∀ p, isP w_comma (Cur p post d) = false) (x : Syn) (r : List Syn)
    (hF : ∀ a ∈ x :: r, ∀ p q, Era p → Era q → B q → F (Cur p (toksC a ++ q) d) = (erS a, Cur (p ++ toksC a) q d)) (hp : Era pre) :
    listP F (Cur pre (joinK ((x :: r).map toksC) ++ post) d) = ((x :: r).map erS, Cur (pre ++ joinK ((x :: r).map toksC)) post d) := by
  rw [joinK_tail, List.append_assoc]
  have h1 := hF x (List.mem_cons_self ..) pre (tailK r ++ post) hp ((era_tail r).app hq) (by cases r with | nil => exact hb | cons z s => exact hB _)
  unfold listP
  rw [h1]
  simp only
  rw [listGo_read hB hb hq hc r _ _ _ (by rw [fuel_cur, List.length_append]; have := tail_len r; omega) (fun a ha => hF a (List.mem_cons_of_mem _ ha)) (hp.app (era_toks x))]
  simp
theorem field_read {a : Syn} {p : Pl} (h : checkC a p = 0) (hk : a.kind = 2) (hp : Era pre) (hq : Era post) : fieldP (Cur pre (toksC a ++ post) d) = (erS a, Cur (pre ++ toksC a) post d) := by
  obtain ⟨_, hs, hn, hf⟩ := own_at (ok_own h).1
  have k1 := name_key (name_of hn (by rw [hk]; rfl) (by omega))
  have hi := field_num hf hk
  unfold shapeC at hs
  rw [hk] at hs
  replace hs : ((a.kids.length : Int) == 0) = true := hs
  have hkid := no_kids (by simpa using hs)
  have er : erS a = ⟨2, a.text, [], a.num, [], 0⟩ := by rw [erS_leaf hkid, hk, own_name hf (by omega) (by rw [hk]; rfl)]
  have e2 : toksC a = [tw a.text, tg w_colon, tw (kindT a.num)] := by rw [toksC_eq]; unfold nodeK; rw [hk]; rfl
  rw [e2, er]
  show fieldP (Cur pre (tw a.text :: tg w_colon :: tw (kindT a.num) :: post) d) = _
  unfold fieldP
  rw [(tok_name k1).1, (tok_name k1).2, exp_hit (t := tg w_colon) (by decide), is_hit, is_hit, is_hit, cur_off hp (era_cons rfl (era_cons rfl (era_cons rfl hq))), adv_cur]
  have : a.num = 0 ∨ a.num = 1 ∨ a.num = 2 := by omega
  rcases this with h | h | h
  · rw [h, show hitW (tw (kindT 0)) w_tint = true by decide, if_pos rfl]; simp
  · rw [h, show hitW (tw (kindT 1)) w_tint = false by decide, show hitW (tw (kindT 1)) w_tbool = true by decide, if_neg (by decide), if_pos rfl]; simp
  · rw [h, show hitW (tw (kindT 2)) w_tint = false by decide, show hitW (tw (kindT 2)) w_tbool = false by decide, show hitW (tw (kindT 2)) w_tstring = true by decide, if_neg (by decide), if_neg (by decide), if_pos rfl]; simp
theorem type_toks {a : Syn} (hk : a.kind = 1) : toksC a = tw w_ttype :: tw a.text :: tg w_lbrace :: (joinK (a.kids.map toksC) ++ [tg w_rbrace]) := by
  rw [toksC_eq]; unfold nodeK; rw [hk]
  show [tw w_ttype] ++ [] ++ [tw a.text] ++ [tg w_lbrace] ++ joinK (a.kids.map toksC) ++ [tg w_rbrace] = _
  simp
theorem type_read {a : Syn} {p : Pl} (h : checkC a p = 0) (hk : a.kind = 1) (hp : Era pre) (hq : Era post) : kindP (Cur pre (toksC a ++ post) d) = (erS a, Cur (pre ++ toksC a) post d) := by
  obtain ⟨_, hs, hn, hf⟩ := own_at (ok_own h).1
  have k1 := name_key (name_of hn (by rw [hk]; rfl) (by omega))
  have hnum := zero_num hf ⟨by omega, by omega, by omega, by omega, by omega⟩
  have er : erS a = ⟨1, a.text, [], 0, a.kids.map erS, 0⟩ := by rw [erS_eq, hk, own_name hf (by omega) (by rw [hk]; rfl), hnum]
  have eo : Era (toksC a ++ post) := (era_toks a).app hq
  have e2 := type_toks hk
  rw [er]
  rw [e2] at eo ⊢
  have eT : (tw w_ttype :: tw a.text :: tg w_lbrace :: (joinK (a.kids.map toksC) ++ [tg w_rbrace])) ++ post = tw w_ttype :: tw a.text :: tg w_lbrace :: (joinK (a.kids.map toksC) ++ tg w_rbrace :: post) := by simp
  rw [eT] at eo ⊢
  unfold kindP
  simp only
  rw [exp_hit (t := tw w_ttype) (by decide), (tok_name k1).1, (tok_name k1).2, exp_hit (t := tg w_lbrace) (by decide), cur_off hp eo]
  match hkid : a.kids with
  | [] =>
    have e9 : joinK (([] : List Syn).map toksC) ++ tg w_rbrace :: post = tg w_rbrace :: post := rfl
    rw [e9, is_hit, show hitW (tg w_rbrace) w_rbrace = true by decide, if_neg (by simp), exp_hit (t := tg w_rbrace) (by decide)]
    simp [joinK]
  | x :: r =>
    have kids : ∀ z ∈ x :: r, checkC z (.only 2) = 0 ∧ z.kind = 2 := fun z hz => by
      obtain ⟨j, hj⟩ := List.mem_iff_getElem?.1 hz
      have := kid_ok h (j := j) (a := z) (by rw [hkid]; exact hj)
      have e : kidC a j = .only 2 := by unfold kidC; rw [hk]; rfl
      rw [e] at this
      exact ⟨this.1, only_at this.2⟩
    obtain ⟨L, eL⟩ : ∃ L, joinK ((x :: r).map toksC) = tw x.text :: L := ⟨tg w_colon :: tw (kindT x.num) :: tailK r, by
      rw [joinK_tail]
      have : toksC x = [tw x.text, tg w_colon, tw (kindT x.num)] := by rw [toksC_eq]; unfold nodeK; rw [(kids x (by simp)).2]; rfl
      rw [this]; rfl⟩
    have kx := name_key (name_of (own_at (ok_own (kids x (by simp)).1).1).2.2.1 (by rw [(kids x (by simp)).2]; rfl) (by have := (kids x (by simp)).2; omega))
    have nb : isP w_rbrace (Cur (pre ++ [tw w_ttype] ++ [tw a.text] ++ [tg w_lbrace]) (joinK ((x :: r).map toksC) ++ tg w_rbrace :: post) d) = false := by rw [eL, List.cons_append, is_hit]; exact name_hit kx _
    have lr := list_read (F := fieldP) (d := d) (B := fun _ => True) (post := tg w_rbrace :: post) (pre := pre ++ [tw w_ttype] ++ [tw a.text] ++ [tg w_lbrace]) (fun _ => trivial) trivial (era_cons rfl hq) (fun p => by rw [is_hit]; decide) x r
      (fun z hz p q hp1 hq1 _ => field_read (kids z hz).1 (kids z hz).2 hp1 hq1) (((hp.app (era_one _ rfl)).app (era_one _ rfl)).app (era_one _ rfl))
    rw [nb, lr, if_pos (by rfl)]
    simp only
    rw [exp_hit (t := tg w_rbrace) (by decide)]
    simp
theorem TT_64 : TT = patN EE 64 := rfl
theorem depth_kid {a x : Syn} (hx : x ∈ a.kids) : depthC x ≤ depthC a := by
  have key : ∀ (k : Int) (l : List Syn), ∀ x ∈ l, depthC x ≤ depthL k l := by
    intro k l
    induction l with
    | nil => intro x hx; cases hx
    | cons y r ihl =>
      intro x hx
      rw [depthL]
      rcases List.mem_cons.1 hx with rfl | hx
      · omega
      · have := ihl x hx; omega
  have := key a.kind a.kids x hx
  have h2 := depthC_eq a
  omega
/-- The tokens of a query. -/
theorem query_toks {a k0 k1 : Syn} {r : List Syn} (hk : a.kind = 3) (hq : a.kids = k0 :: k1 :: r) : toksC a = tw w_tquery :: tw a.text :: ((if (k0.text == []) = true then [] else [tw w_by, tw k0.text]) ++ (tw w_tmatch :: (toksC k1 ++ (tw w_treturn :: (joinK (r.map toksC) ++ [tsm]))))) := by
  rw [toksC_eq]; unfold nodeK; rw [hk]
  have e0 : kidN a 0 = k0 := by unfold kidN; rw [hq]; rfl
  show [tw w_tquery] ++ [] ++ [tw a.text] ++ (if ((kidN a 0).text == []) = true then [] else [tw w_by] ++ [tw (kidN a 0).text]) ++ [] ++ [tw w_tmatch] ++ [] ++ (a.kids.map toksC).getD 1 [] ++ [] ++ [tw w_treturn] ++ [] ++ joinK ((a.kids.map toksC).drop 2) ++ [tg w_semi] = _
  rw [e0, hq]
  simp
theorem query_read {a : Syn} {p : Pl} (h : checkC a p = 0) (hk : a.kind = 3) (hd : depthC a ≤ 64) (hp : Era pre) (hq : Era post) : queryP EE TT (Cur pre (toksC a ++ post) 0) = (erS a, Cur (pre ++ toksC a) post 0) := by
  obtain ⟨_, hs, hn, hf⟩ := own_at (ok_own h).1
  have n1 := name_key (name_of hn (by rw [hk]; rfl) (by omega))
  have hnum := zero_num hf ⟨by omega, by omega, by omega, by omega, by omega⟩
  unfold shapeC at hs
  rw [hk] at hs
  replace hs : decide (3 ≤ (a.kids.length : Int)) = true := hs
  simp only [decide_eq_true_eq] at hs
  match hkid : a.kids with
  | [] => rw [hkid] at hs; simp at hs
  | [x] => rw [hkid] at hs; simp at hs
  | [x, y] => rw [hkid] at hs; simp at hs
  | k0 :: k1 :: e0 :: r =>
    have er : erS a = ⟨3, a.text, [], 0, erS k0 :: erS k1 :: (e0 :: r).map erS, 0⟩ := by rw [erS_eq, hk, own_name hf (by omega) (by rw [hk]; rfl), hnum, hkid]; rfl
    have e2 := query_toks hk hkid
    have eo : Era (toksC a ++ post) := (era_toks a).app hq
    have c0 := kid_ok h (j := 0) (a := k0) (by rw [hkid]; rfl)
    have x0 : kidC a 0 = .only 4 := by unfold kidC; rw [hk]; rfl
    rw [x0] at c0
    have kk0 : k0.kind = 4 := only_at c0.2
    obtain ⟨_, s0, nn0, ff0⟩ := own_at (ok_own c0.1).1
    have c1 := kid_ok h (j := 1) (a := k1) (by rw [hkid]; rfl)
    have x1 : kidC a 1 = .pats := by unfold kidC; rw [hk]; rfl
    rw [x1] at c1
    have hd1 : depthC k1 ≤ depthC a := depth_kid (by rw [hkid]; simp)
    have kids : ∀ z ∈ e0 :: r, checkC z .exps = 0 ∧ depthC z ≤ 64 := fun z hz => by
      obtain ⟨j, hj⟩ := List.mem_iff_getElem?.1 hz
      have hj2 : a.kids[j + 2]? = some z := by rw [hkid]; simpa using hj
      have := (kid_ok h hj2).1
      have e : kidC a (j + 2) = .exps := by
        unfold kidC; rw [hk]
        have h2 : (((j + 2 : Nat) : Int) == 0) = false := by simp; omega
        have h3 : (((j + 2 : Nat) : Int) == 1) = false := by simp; omega
        simp only [h2, h3]; rfl
      rw [e] at this
      exact ⟨this, Nat.le_trans (depth_kid (List.mem_of_getElem? hj2)) hd⟩
    -- the key
    have s00 : k0.kids = [] := by
      unfold shapeC at s0
      rw [kk0] at s0
      replace s0 : ((k0.kids.length : Int) == 0) = true := s0
      exact no_kids (by simpa using s0)
    have er0 : erS k0 = ⟨4, k0.text, [], 0, [], 0⟩ := by rw [erS_leaf s00, kk0, own_name ff0 (by omega) (by rw [kk0]; rfl), zero_num ff0 ⟨by omega, by omega, by omega, by omega, by omega⟩]
    rw [er, er0]
    rw [e2] at eo ⊢
    generalize hR : tw w_tmatch :: (toksC k1 ++ (tw w_treturn :: (joinK ((e0 :: r).map toksC) ++ [tsm]))) = R at eo ⊢
    have eR : Era (R ++ post) := by
      rw [← hR]
      exact (era_cons rfl ((era_toks k1).app (era_cons rfl ((era_join fun z hz => by obtain ⟨y, hy, rfl⟩ := List.mem_map.1 hz; exact era_toks y).app (show Era [tsm] from rfl))))).app hq
    have key : ∀ P : List Tok, Era P → ∃ K, (if (k0.text == []) = true then [] else [tw w_by, tw k0.text]) = K ∧ keyP (Cur P (K ++ (R ++ post)) 0) 0 = (⟨4, k0.text, [], 0, [], 0⟩, Cur (P ++ K) (R ++ post) 0) := fun P hP => by
      by_cases h0 : k0.text = []
      · refine ⟨[], by rw [h0]; rfl, ?_⟩
        unfold keyP
        rw [List.nil_append, ← hR, List.cons_append, is_hit, show hitW (tw w_tmatch) w_by = false by decide, h0]
        simp
      · have e4 : (k0.text == []) = false := by simpa using h0
        have nk : nmS k0.text = true := by
          unfold namedC at nn0
          rw [kk0] at nn0
          have e5 : (!(k0.text == [])) = true := by rw [e4]; rfl
          rw [e5] at nn0
          simp only [Bool.or_true, Bool.and_true] at nn0
          cases hq2 : nmS k0.text with
          | true => rfl
          | false => rw [hq2] at nn0; cases nn0
        have k1' := name_key nk
        refine ⟨[tw w_by, tw k0.text], by rw [e4]; rfl, ?_⟩
        show keyP (Cur P (tw w_by :: tw k0.text :: (R ++ post)) 0) 0 = _
        unfold keyP
        rw [is_hit, show hitW (tw w_by) w_by = true by decide, if_pos rfl, adv_cur, (tok_name k1').1, (tok_name k1').2, cur_off (hP.app (era_one _ rfl)) (era_cons rfl eR)]
        simp
    obtain ⟨K, eK, rK⟩ := key (pre ++ [tw w_tquery] ++ [tw a.text]) ((hp.app (era_one _ rfl)).app (era_one _ rfl))
    have EK : Era K := by rw [← eK]; split <;> rfl
    rw [eK] at eo ⊢
    have eT : (tw w_tquery :: tw a.text :: (K ++ R)) ++ post = tw w_tquery :: tw a.text :: (K ++ (R ++ post)) := by simp
    rw [eT] at eo ⊢
    have hpK : Era (pre ++ [tw w_tquery] ++ [tw a.text] ++ K) := ((hp.app (era_one _ rfl)).app (era_one _ rfl)).app EK
    have eJ : Era (joinK ((e0 :: r).map toksC)) := era_join fun z hz => by obtain ⟨y, hy, rfl⟩ := List.mem_map.1 hz; exact era_toks y
    have rp := pat_read k1 c1.1 64 0 (pre ++ [tw w_tquery] ++ [tw a.text] ++ K ++ [tw w_tmatch]) (tw w_treturn :: (joinK ((e0 :: r).map toksC) ++ tsm :: post)) (Int.le_refl _) (by omega) (by omega) (hpK.app (era_one _ rfl)) (era_cons rfl (eJ.app (era_cons rfl hq))) (.ret _)
    have rl := list_read (F := EE) (d := 0) (B := Bq) (post := tsm :: post) (pre := pre ++ [tw w_tquery] ++ [tw a.text] ++ K ++ [tw w_tmatch] ++ toksC k1 ++ [tw w_treturn]) .cm (.sm _) (era_cons rfl hq) (fun p => by rw [is_hit]; decide) e0 r
      (fun z hz p q hp1 hq1 hb1 => by
        have := (expr_read z (kids z hz).1 64 0 p q (Int.le_refl _) (by have := (kids z hz).2; omega) (by omega) hp1 hq1 hb1).1
        exact this) (((hpK.app (era_one _ rfl)).app (era_toks k1)).app (era_one _ rfl))
    have eR2 : R ++ post = tw w_tmatch :: (toksC k1 ++ (tw w_treturn :: (joinK ((e0 :: r).map toksC) ++ tsm :: post))) := by rw [← hR]; simp
    unfold queryP
    simp only
    rw [exp_hit (t := tw w_tquery) (by decide), (tok_name n1).1, (tok_name n1).2, cur_off hp eo, rK]
    simp only
    rw [eR2, exp_hit (t := tw w_tmatch) (by decide), TT_64, rp]
    simp only
    rw [exp_hit (t := tw w_treturn) (by decide), rl]
    simp only
    rw [exp_hit (t := tsm) (by decide), ← hR]
    simp
/-! Programs. -/
theorem progGo_read {w : Str} {F : PS → Syn × PS} (hq : Era post) (hn : ∀ p, isP w (Cur p post d) = false) : ∀ (l : List Syn) (n : Nat) (pre : List Tok) (out : List Syn), l.length < n →
    (∀ a ∈ l, (∃ L, toksC a = tw w :: L) ∧ hitW (tw w) w = true ∧ ∀ p q, Era p → Era q → F (Cur p (toksC a ++ q) d) = (erS a, Cur (p ++ toksC a) q d)) → Era pre →
      progGo w F n (Cur pre ((l.map toksC).flatten ++ post) d) out = (out ++ l.map erS, Cur (pre ++ (l.map toksC).flatten) post d)
  | [], n, pre, out, h, _, hp => by
    rw [List.map_nil, List.flatten_nil, List.nil_append, progGo_no (hn _)]
    simp
  | a :: r, n, pre, out, h, hF, hp => by
    obtain ⟨m, rfl⟩ : ∃ m, n = m + 1 := ⟨n - 1, by omega⟩
    obtain ⟨⟨L, eL⟩, hw, hr⟩ := hF a (List.mem_cons_self ..)
    have eF : Era ((r.map toksC).flatten) := era_flat fun z hz => by obtain ⟨y, hy, rfl⟩ := List.mem_map.1 hz; exact era_toks y
    have r1 := hr pre ((r.map toksC).flatten ++ post) hp (eF.app hq)
    have hi : isP w (Cur pre (toksC a ++ ((r.map toksC).flatten ++ post)) d) = true := by rw [eL, List.cons_append, is_hit]; exact hw
    rw [List.map_cons, List.flatten_cons, List.append_assoc]
    unfold progGo
    rw [hi, if_pos rfl, r1]
    simp only
    rw [progGo_read hq hn r m _ _ (by rw [List.length_cons] at h; omega) (fun z hz => hF z (List.mem_cons_of_mem _ hz)) (hp.app (era_toks a))]
    simp
theorem flat_len' (l : List Syn) (h : ∀ a ∈ l, ∃ c L, toksC a = c :: L) : l.length ≤ ((l.map toksC).flatten).length := by
  induction l with
  | nil => exact Nat.le_refl _
  | cons x r ih =>
    obtain ⟨c, L, e⟩ := h x (List.mem_cons_self ..)
    have := ih fun a ha => h a (List.mem_cons_of_mem _ ha)
    rw [List.map_cons, List.flatten_cons, List.length_append, e, List.length_cons, List.length_cons]; omega
/-- A program: types, then queries. -/
theorem prog_split {a : Syn} (h : checkC a (.only 0) = 0) (hk : a.kind = 0) : ∃ A B, a.kids = A ++ B ∧ (∀ x ∈ A, x.kind = 1 ∧ checkC x (.only 1) = 0) ∧ ∀ x ∈ B, x.kind = 3 ∧ checkC x (.only 3) = 0 := by
  have key : ∀ (j : Nat) x, a.kids[j]? = some x → (x.kind = 1 ∧ (j = 0 ∨ (kidN a (j - 1)).kind = 1)) ∨ x.kind = 3 := fun j x hx => by
    have c := kid_ok h hx
    have e : kidN a j = x := by unfold kidN; rw [List.getD_eq_getElem?_getD, hx]; rfl
    unfold kidC at c
    rw [hk, if_pos (by rfl), e] at c
    split at c
    · rename_i h1
      rw [Bool.and_eq_true, Bool.or_eq_true] at h1
      refine .inl ⟨by simpa using h1.1, ?_⟩
      rcases h1.2 with h2 | h2
      · left; simpa using h2
      · right; simpa using h2
    · exact .inr (only_at c.2)
  have kc : ∀ (j : Nat) x, a.kids[j]? = some x → (x.kind = 1 → checkC x (.only 1) = 0) ∧ (x.kind = 3 → checkC x (.only 3) = 0) := fun j x hx => by
    have c := kid_ok h hx
    have e : kidN a j = x := by unfold kidN; rw [List.getD_eq_getElem?_getD, hx]; rfl
    unfold kidC at c
    rw [hk, if_pos (by rfl), e] at c
    split at c
    · exact ⟨fun _ => c.1, fun h3 => by have := only_at c.2; omega⟩
    · exact ⟨fun h1 => by have := only_at c.2; omega, fun _ => c.1⟩
  -- the longest beginning of types
  have main : ∀ n : Nat, n ≤ a.kids.length → (∀ j, j < n → ∀ x, a.kids[j]? = some x → x.kind = 1) ∨ ∃ m, m < n ∧ (∀ j, j < m → ∀ x, a.kids[j]? = some x → x.kind = 1) ∧ ∀ j, m ≤ j → j < n → ∀ x, a.kids[j]? = some x → x.kind = 3 := by
    intro n
    induction n with
    | zero => intro _; left; intro j hj; omega
    | succ n ih =>
      intro hn
      have hx : a.kids[n]? = some a.kids[n] := List.getElem?_eq_getElem (by omega)
      rcases ih (by omega) with h1 | ⟨m, hm, h2, h3⟩
      · rcases key n _ hx with ⟨k1, _⟩ | k3
        · left
          intro j hj x hjx
          by_cases hjn : j = n
          · subst hjn; rw [hx] at hjx; cases hjx; exact k1
          · exact h1 j (by omega) x hjx
        · right
          refine ⟨n, by omega, h1, fun j hj hj2 x hjx => ?_⟩
          obtain rfl : j = n := by omega
          rw [hx] at hjx; cases hjx; exact k3
      · right
        refine ⟨m, by omega, h2, fun j hj hj2 x hjx => ?_⟩
        by_cases hjn : j = n
        · subst hjn
          rw [hx] at hjx; cases hjx
          rcases key j _ hx with ⟨k1, k2⟩ | k3
          · exfalso
            have hp : a.kids[j - 1]? = some a.kids[j - 1] := List.getElem?_eq_getElem (by omega)
            have e : kidN a (j - 1) = a.kids[j - 1] := by unfold kidN; rw [List.getD_eq_getElem?_getD, hp]; rfl
            have k3 := h3 (j - 1) (by omega) (by omega) _ hp
            rcases k2 with h0 | h0
            · omega
            · rw [e] at h0; omega
          · exact k3
        · exact h3 j hj (by omega) x hjx
  rcases main a.kids.length (Nat.le_refl _) with h1 | ⟨m, hm, h2, h3⟩
  · refine ⟨a.kids, [], by simp, fun x hx => ?_, fun x hx => by cases hx⟩
    obtain ⟨j, hj⟩ := List.mem_iff_getElem?.1 hx
    have := h1 j (List.getElem?_eq_some_iff.1 hj).1 x hj
    exact ⟨this, (kc j x hj).1 this⟩
  · refine ⟨a.kids.take m, a.kids.drop m, (List.take_append_drop ..).symm, fun x hx => ?_, fun x hx => ?_⟩
    · obtain ⟨j, hj⟩ := List.mem_iff_getElem?.1 hx
      rw [List.getElem?_take] at hj
      split at hj
      · have := h2 j (by assumption) x hj
        exact ⟨this, (kc j x hj).1 this⟩
      · cases hj
    · obtain ⟨j, hj⟩ := List.mem_iff_getElem?.1 hx
      rw [List.getElem?_drop] at hj
      have := h3 (m + j) (by omega) (List.getElem?_eq_some_iff.1 hj).1 x hj
      exact ⟨this, (kc _ x hj).2 this⟩
theorem prog_read {a : Syn} (h : checkC a (.only 0) = 0) (hd : depthC a ≤ 64) : progP EE TT (Cur [] (toksC a) 0) = (erS a, Cur (toksC a) [] 0) := by
  have hk : a.kind = 0 := only_at (own_at (ok_own h).1).1
  obtain ⟨_, hs, hn, hf⟩ := own_at (ok_own h).1
  have hnum := zero_num hf ⟨by omega, by omega, by omega, by omega, by omega⟩
  have hnm := plain_own hf ⟨by rw [hk]; rfl, by rw [hk]; rfl, by omega⟩
  obtain ⟨A, B, hkid, hA, hB⟩ := prog_split h hk
  have et : toksC a = (A.map toksC).flatten ++ (B.map toksC).flatten := by
    rw [toksC_eq]; unfold nodeK; rw [hk]
    show (a.kids.map toksC).flatten = _
    rw [hkid, List.map_append, List.flatten_append]
  have er : erS a = ⟨0, [], [], 0, A.map erS ++ B.map erS, 0⟩ := by rw [erS_eq, hk, hnum, hnm.1, hnm.2, hkid, List.map_append]
  have tA : ∀ x ∈ A, ∃ L, toksC x = tw w_ttype :: L := fun x hx => ⟨_, type_toks (hA x hx).1⟩
  have tB : ∀ x ∈ B, ∃ L, toksC x = tw w_tquery :: L := fun x hx => by
    have hs := (own_at (ok_own (hB x hx).2).1).2.1
    unfold shapeC at hs
    rw [(hB x hx).1] at hs
    replace hs : decide (3 ≤ (x.kids.length : Int)) = true := hs
    simp only [decide_eq_true_eq] at hs
    match hq : x.kids with
    | [] => rw [hq] at hs; simp at hs
    | [y] => rw [hq] at hs; simp at hs
    | y :: z :: r => exact ⟨_, query_toks (hB x hx).1 hq⟩
  have eA : Era ((A.map toksC).flatten) := era_flat fun z hz => by obtain ⟨y, hy, rfl⟩ := List.mem_map.1 hz; exact era_toks y
  have eB : Era ((B.map toksC).flatten) := era_flat fun z hz => by obtain ⟨y, hy, rfl⟩ := List.mem_map.1 hz; exact era_toks y
  have nB : ∀ p : List Tok, isP w_ttype (Cur p ((B.map toksC).flatten) 0) = false := fun p => by
    cases hB0 : B with
    | nil => exact is_nil
    | cons b r =>
      obtain ⟨L, e⟩ := tB b (by rw [hB0]; simp)
      rw [List.map_cons, List.flatten_cons, e, List.cons_append, is_hit]; decide
  have lA := flat_len' A fun x hx => by obtain ⟨L, e⟩ := tA x hx; exact ⟨_, L, e⟩
  have lB := flat_len' B fun x hx => by obtain ⟨L, e⟩ := tB x hx; exact ⟨_, L, e⟩
  have r1 := progGo_read (w := w_ttype) (F := kindP) (d := 0) (post := (B.map toksC).flatten) eB nB A (fuel (Cur [] ((A.map toksC).flatten ++ (B.map toksC).flatten) 0)) [] [] (by rw [fuel_cur, List.length_append]; omega)
    (fun x hx => ⟨tA x hx, by decide, fun p q hp hq => type_read (hA x hx).2 (hA x hx).1 hp hq⟩) rfl
  have r2 := progGo_read (w := w_tquery) (F := queryP EE TT) (d := 0) (post := []) rfl (fun p => is_nil) B (fuel (Cur ((A.map toksC).flatten) ((B.map toksC).flatten) 0)) ((A.map toksC).flatten) (A.map erS) (by rw [fuel_cur]; omega)
    (fun x hx => ⟨tB x hx, by decide, fun p q hp hq => query_read (hB x hx).2 (hB x hx).1 (Nat.le_trans (depth_kid (by rw [hkid]; exact List.mem_append_right _ hx)) hd) hp hq⟩) eA
  rw [List.append_nil] at r2
  rw [er, et]
  unfold progP
  simp only
  rw [r1]
  simp only [List.nil_append]
  rw [r2]
/-- What is printed is read. -/
theorem prog_back {a : Syn} (h : checkC a (.only 0) = 0) (hd : depthC a ≤ 64) (hl : (writeC a).length ≤ 65536) : (parseP (progP EE TT) (writeC a)).2 = (0, 0) ∧ erS (parseP (progP EE TT) (writeC a)).1 = erS a := by
  have hk : a.kind = 0 := only_at (own_at (ok_own h).1).1
  have hpe : Pe (writeC a) (toksC a) [] := by
    have e1 : writeC a = (a.kids.map writeC).flatten := by rw [writeC_eq]; unfold nodeT; rw [hk]; rfl
    have e2 : toksC a = (a.kids.map toksC).flatten := by rw [toksC_eq]; unfold nodeK; rw [hk]; rfl
    rw [e1, e2]
    obtain ⟨A, B, hkid, hA, hB⟩ := prog_split h hk
    refine pe_flat a.kids (fun x hx => ?_) []
    rw [hkid] at hx
    rcases List.mem_append.1 hx with hx | hx
    · exact (pe_all x _ (hA x hx).2 (by have := (hA x hx).1; omega) (by have := (hA x hx).1; omega) (by have := (hA x hx).1; omega)).2 (.inl (hA x hx).1)
    · exact (pe_all x _ (hB x hx).2 (by have := (hB x hx).1; omega) (by have := (hB x hx).1; omega) (by have := (hB x hx).1; omega)).2 (.inr (hB x hx).1)
  have w := (whole (er_prog er_EE er_TT) (hpe.scan hl)).1 _ _ (prog_read h hd)
  refine ⟨?_, w.2⟩
  obtain ⟨_, _, _, h4⟩ := parse_good w.1
  rw [h4]
end Go.Proofs.YtabkeeedkhgodaaGreatDoor

namespace Go.Proofs.YtabkeeedkhgodaaGreatDoor
open Go Go.Aw
set_option linter.unusedVariables false
set_option linter.unusedSimpArgs false
set_option maxRecDepth 100000

/-! What the tokens read so far may pay for. -/
def wt (t : Tok) : Nat := 70 + 5 * t.text.length
def pot : List Tok → Nat → Nat
  | [], _ => 0
  | _ :: _, 0 => 0
  | t :: r, n + 1 => wt t + pot r n
theorem pot_zero (l : List Tok) : pot l 0 = 0 := by cases l <;> rfl
theorem pot_succ : ∀ {l : List Tok} {n : Nat}, n < l.length → pot l (n + 1) = pot l n + wt (l.getD n tokZ)
  | t :: r, 0, _ => by
    show wt t + pot r 0 = 0 + wt t
    rw [pot_zero]; omega
  | t :: r, n + 1, h => by
    rw [pot, pot, pot_succ (by simpa using h)]
    simp only [List.getD_cons_succ]; omega
theorem pot_mono : ∀ (l : List Tok) {n m : Nat}, n ≤ m → pot l n ≤ pot l m
  | [], _, _, _ => Nat.le_refl _
  | t :: r, 0, m, _ => by rw [pot_zero]; exact Nat.zero_le _
  | t :: r, n + 1, 0, h => by omega
  | t :: r, n + 1, m + 1, h => by
    rw [pot, pot]
    have := pot_mono r (n := n) (m := m) (by omega)
    omega
theorem pot_top (l : List Tok) (n : Nat) : pot l n ≤ (l.map wt).sum := by
  induction l generalizing n with
  | nil => exact Nat.zero_le _
  | cons t r ih =>
    cases n with
    | zero => rw [pot_zero]; exact Nat.zero_le _
    | succ n => rw [pot, List.map_cons, List.sum_cons]; have := ih n; omega
/-- What a token is worth as text. -/
def Gt (t : Tok) : Prop := (t.kind = 0 → keyS t.text = false → nmS t.text = true) ∧ (t.kind = 1 → 0 ≤ (numS t.text).1 ∧ (numS t.text).1 ≤ 1099511627776) ∧ (t.kind = 2 → t.text.length ≤ 64)
def pt (st : PS) : Nat := pot st.toks st.pos
variable {l : List Tok} {e d : Int} {a b st : PS} {w : Str}
theorem Bo.pt (h : Bo a b) : pt a ≤ pt b := by
  unfold Go.Proofs.YtabkeeedkhgodaaGreatDoor.pt
  rw [h.toks]; exact pot_mono _ h.pos
theorem pt_adv (h : endP st = false) : pt (adv st) = pt st + 70 + 5 * (tkS st).text.length := by
  have h1 : st.pos < st.toks.length := not_end h
  show pot st.toks (st.pos + 1) = _
  rw [pot_succ h1]
  unfold wt pt tkS
  omega
theorem pt_is (hi : isP w st = true) : pt (adv st) = pt st + 70 + 5 * w.length := by
  have h := is_end hi
  have e : (tkS st).text = w := by
    unfold isP at hi
    rw [h] at hi
    simp only [Bool.false_eq_true, ↓reduceIte, Bool.and_eq_true, beq_iff_eq] at hi
    exact hi.1
  rw [pt_adv h, e]
theorem exp_good (h : (expP w st).bad = 0) : st.bad = 0 ∧ isP w st = true ∧ expP w st = adv st := by
  have h0 := (Bo.exp w st).good h
  cases hi : isP w st with
  | true => exact ⟨h0, rfl, exp_yes h0 hi⟩
  | false => rw [exp_no h0 hi] at h; exact absurd h (by decide)
theorem pt_exp (h : (expP w st).bad = 0) : pt (expP w st) = pt st + 70 + 5 * w.length := by
  obtain ⟨h0, hi, he⟩ := exp_good h
  rw [he, pt_is hi]
theorem tok_good {k : Int} (h : (tokP k st).bad = 0) : st.bad = 0 ∧ nxtP k st = true ∧ tokP k st = adv st := by
  have h0 := (Bo.tok k st).good h
  cases hi : nxtP k st with
  | true => exact ⟨h0, rfl, by unfold tokP; rw [if_pos hi]⟩
  | false => rw [tok_no h0 hi] at h; exact absurd h (by decide)
theorem pt_tok {k : Int} (h : (tokP k st).bad = 0) : pt (tokP k st) = pt st + 70 + 5 * (txtP k st).length := by
  obtain ⟨h0, hi, he⟩ := tok_good h
  rw [he, pt_adv (nxt_end hi)]
  unfold txtP
  rw [if_pos hi]
theorem nxt_tok {k : Int} (hg : ∀ t ∈ st.toks, Gt t) (hi : nxtP k st = true) : Gt (tkS st) ∧ (tkS st).kind = k ∧ (k = 0 → keyS (tkS st).text = false) ∧ txtP k st = (tkS st).text := by
  have he := nxt_end hi
  have h1 : st.pos < st.toks.length := not_end he
  have h2 := hi
  unfold nxtP at h2
  rw [he] at h2
  simp only [Bool.false_eq_true, ↓reduceIte, Bool.and_eq_true, beq_iff_eq, Bool.or_eq_true, bne_iff_ne, ne_eq, Bool.not_eq_true'] at h2
  refine ⟨?_, h2.1, fun hk => ?_, by unfold txtP; rw [if_pos hi]⟩
  · unfold tkS
    rw [List.getD_eq_getElem?_getD, List.getElem?_eq_getElem h1]
    exact hg _ (List.getElem_mem h1)
  · rcases h2.2 with h3 | h3
    · exact absurd hk h3
    · exact h3
/-- A name that was read. -/
theorem txt_name (hg : ∀ t ∈ st.toks, Gt t) (h : (tokP 0 st).bad = 0) : nmS (txtP 0 st) = true := by
  obtain ⟨_, hi, _⟩ := tok_good h
  obtain ⟨g, k, n, e⟩ := nxt_tok hg hi
  rw [e]
  exact g.1 k (n rfl)
theorem txt_string (hg : ∀ t ∈ st.toks, Gt t) (h : (tokP 2 st).bad = 0) : (txtP 2 st).length ≤ 64 := by
  obtain ⟨_, hi, _⟩ := tok_good h
  obtain ⟨g, k, n, e⟩ := nxt_tok hg hi
  rw [e]
  exact g.2.2 k
theorem num_read (hg : ∀ t ∈ st.toks, Gt t) (h : (tokP 1 st).bad = 0) : 0 ≤ numP st ∧ numP st ≤ 1099511627776 := by
  obtain ⟨_, hi, _⟩ := tok_good h
  obtain ⟨g, k, n, e⟩ := nxt_tok hg hi
  unfold numP
  rw [if_pos hi]
  exact g.2.1 k

/-! How large a tree is. -/
def mC (t : Syn) : Nat := (writeC t).length + wC t + 2
def mL : List Syn → Nat
  | [] => 0
  | x :: r => mC x + mL r
theorem mL_app : ∀ (a b : List Syn), mL (a ++ b) = mL a + mL b
  | [], b => by rw [List.nil_append, mL]; omega
  | x :: r, b => by rw [List.cons_append, mL, mL, mL_app r b]; omega
theorem mL_len : ∀ l : List Syn, lenS (l.map writeC) + 2 * l.length + wL l = mL l
  | [] => rfl
  | x :: r => by
    have := mL_len r
    rw [List.map_cons, lenS_cons, wL, mL, List.length_cons]
    unfold mC; omega
theorem node_m {t : Syn} (hi : -1099511627776 ≤ t.num ∧ t.num ≤ 1099511627776) (h3 : t.kind ≠ 3) : mC t ≤ mL t.kids + 5 * t.text.length + 2 * t.name.length + 58 := by
  have h1 := join_len (t.kids.map writeC)
  have h2 := get3_len (t.kids.map writeC)
  have hf := flat_len (t.kids.map writeC)
  have hm := mL_len t.kids
  rw [List.length_map] at h1 h2
  have hq := quoteGo_le t.text
  obtain ⟨w1, w2, w3, w4⟩ := words_len
  have k1 := w1 t.num
  have k2 := w2 t.num
  have k3 := w3 t.num
  have k4 := w4 t.kind
  have h5 := Lib.itoa_length_le t.num (by omega) (by omega)
  have hl : (litT t).length ≤ 4 * t.text.length + 25 := by
    unfold litT
    split
    · omega
    · split
      · split
        · show (4 : Nat) ≤ _; omega
        · show (5 : Nat) ≤ _; omega
      · unfold quoteS
        split
        · simp
        · simp only [List.length_append, List.length_cons, List.length_nil]; omega
  have r0 := wrap_len t (kidN t 0) ((t.kids.map writeC).getD 0 [])
  have r1 := wrap_len t (kidN t 1) ((t.kids.map writeC).getD 1 [])
  have q1 : w_ttype.length = 4 := rfl
  have q6 : w_tif.length = 2 := rfl
  have q7 : w_tcount.length = 5 := rfl
  have q8 : w_tnot.length = 3 := rfl
  have hw := wC_eq t
  have key : (nodeT t (t.kids.map writeC)).length ≤ lenS (t.kids.map writeC) + 2 * t.kids.length + 4 * t.text.length + t.name.length + 55 := by
    unfold nodeT
    refine if_len (by omega) (if_len ?_ (if_len ?_ ?_))
    · have : (if (t.kids.map writeC == []) = true then [] else [32] ++ joinC (t.kids.map writeC) ++ [32] : Str).length ≤ (joinC (t.kids.map writeC)).length + 2 := if_len (by simp) (by simp)
      simp only [List.length_append, List.length_cons, List.length_nil] at this ⊢; omega
    · simp only [List.length_append, List.length_cons, List.length_nil]; omega
    · rw [if_neg (by simpa using h3)]
      refine if_len ?_ (if_len (by omega) (if_len ?_ (if_len ?_ (if_len ?_ (if_len ?_ (if_len ?_ ?_))))))
      · have : (if (t.kids.map writeC == []) = true then [] else [32] ++ w_tif ++ [32] ++ (t.kids.map writeC).getD 0 [] : Str).length ≤ ((t.kids.map writeC).getD 0 []).length + 6 := if_len (by simp) (by simp only [List.length_append, List.length_cons, List.length_nil]; omega)
        simp only [List.length_append, List.length_cons, List.length_nil] at this ⊢; omega
      · simp only [List.length_append, List.length_cons, List.length_nil]; omega
      · simp only [List.length_append, List.length_cons, List.length_nil]; omega
      · have : (if (t.kids.map writeC == []) = true then [] else [44, 32] ++ (t.kids.map writeC).getD 0 [] : Str).length ≤ ((t.kids.map writeC).getD 0 []).length + 2 := if_len (by simp) (by simp only [List.length_append, List.length_cons, List.length_nil]; omega)
        simp only [List.length_append, List.length_cons, List.length_nil] at this ⊢; omega
      · simp only [List.length_append, List.length_cons, List.length_nil]; omega
      · simp only [List.length_append, List.length_cons, List.length_nil]; omega
      · have : (if (t.kind == 11) = true then [44, 32] ++ Lib.itoa t.num else [] : Str).length ≤ 30 := if_len (by simp only [List.length_append, List.length_cons, List.length_nil]; omega) (by simp)
        simp only [List.length_append, List.length_cons, List.length_nil] at this ⊢; omega
  unfold mC
  rw [writeC_eq t]
  omega
theorem bin_m (op : Int) (x y : Syn) (p : Int) : mC (binS op x y p) ≤ mC x + mC y + 12 := by
  have e : writeC (binS op x y p) = wrapT (binS op x y p) x (writeC x) ++ [32] ++ operT op ++ [32] ++ wrapT (binS op x y p) y (writeC y) := by rw [writeC_eq]; rfl
  have r0 := wrap_len (binS op x y p) x (writeC x)
  have r1 := wrap_len (binS op x y p) y (writeC y)
  have h9 : (operT op).length ≤ 3 := by
    unfold operT; repeat' split
    all_goals decide
  have hw : wC (binS op x y p) = 1 + wC x + wC y := by
    unfold binS
    rw [wC, wL, wL, wL]
    simp only [List.length_nil]; omega
  unfold mC
  rw [e, hw]
  simp only [List.length_append, List.length_cons, List.length_nil]
  omega
theorem not_m (x : Syn) (p : Int) : mC ⟨18, [], [], 0, [x], p⟩ ≤ mC x + 8 := by
  have e : writeC ⟨18, [], [], 0, [x], p⟩ = w_tnot ++ [32] ++ wrapT ⟨18, [], [], 0, [x], p⟩ x (writeC x) := by rw [writeC_eq]; rfl
  have r0 := wrap_len ⟨18, [], [], 0, [x], p⟩ x (writeC x)
  have q8 : w_tnot.length = 3 := rfl
  have hw : wC ⟨18, [], [], 0, [x], p⟩ = 1 + wC x := by
    rw [wC, wL, wL]
    simp only [List.length_nil]; omega
  unfold mC
  rw [e, hw]
  simp only [List.length_append, List.length_cons, List.length_nil]
  omega
/-! Well-formed nodes. -/
theorem kidsE_of {t : Syn} : ∀ (l : List Syn) (i : Nat), (∀ j a, l[j]? = some a → checkC a (kidC t (i + j)) = 0) → kidsE t i l = 0
  | [], i, _ => rfl
  | x :: r, i, h => by
    have h0 := h 0 x rfl
    rw [Nat.add_zero] at h0
    rw [kidsE, h0, if_neg (by decide)]
    exact kidsE_of r (i + 1) fun j a ha => by
      have := h (j + 1) a ha
      rwa [show i + (j + 1) = i + 1 + j by omega] at this
theorem mk_check {t : Syn} {p : Pl} (ho : ownC p t = 0) (hk : ∀ j a, t.kids[j]? = some a → checkC a (kidC t j) = 0) : checkC t p = 0 := by
  rw [checkC_eq, ho, if_neg (by decide)]
  exact kidsE_of t.kids 0 fun j a ha => by rw [Nat.zero_add]; exact hk j a ha
theorem mk_own {t : Syn} {p : Pl} (h1 : p.at t.kind = true) (h2 : shapeC t = true) (h3 : namedC t = true) (h4 : fieldsC t = 0) : ownC p t = 0 := by
  unfold ownC
  rw [h1, h2, h3]
  exact h4
theorem mk_leaf {t : Syn} {p : Pl} (ho : ownC p t = 0) (hk : t.kids = []) : checkC t p = 0 := mk_check ho fun j a ha => by rw [hk] at ha; cases ha
end Go.Proofs.YtabkeeedkhgodaaGreatDoor

namespace Go.Proofs.YtabkeeedkhgodaaGreatDoor
open Go Go.Aw
set_option linter.unusedVariables false
set_option linter.unusedSimpArgs false
set_option maxRecDepth 100000

variable {l : List Tok} {e d : Int} {a b st : PS} {w : Str} {p : Pl}
/-- Of a place, and paid for. -/
def Wg (p : Pl) (st : PS) (r : Syn × PS) : Prop := r.2.bad = 0 → checkC r.1 p = 0 ∧ pt st + mC r.1 ≤ pt r.2
def AllG (l : List Tok) : Prop := ∀ t ∈ l, Gt t
def WgF (p : Pl) (l : List Tok) (e d : Int) (F : PS → Syn × PS) : Prop := ∀ st, At l e d st → Wg p st (F st)
theorem At.gt (hG : AllG l) (h : At l e d st) : ∀ t ∈ st.toks, Gt t := by rw [h.1]; exact hG
theorem wg_const (hG : AllG l) : WgF (.only 13) l e d constP := fun st h => by
  have mk : ∀ (t : Syn) (s : PS), t.kind = 13 → t.kids = [] → constC t = 0 → t.name.length ≤ 6 → -1099511627776 ≤ t.num ∧ t.num ≤ 1099511627776 → pt st + 70 + 5 * t.text.length ≤ pt s → checkC t (.only 13) = 0 ∧ pt st + mC t ≤ pt s := fun t s hk h0 hc hn hi hp => by
    refine ⟨mk_leaf (mk_own (by rw [hk]; rfl) (by unfold shapeC; rw [hk, h0]; rfl) (by unfold namedC; rw [hk]; rfl) (by unfold fieldsC; rw [hk]; exact hc)) h0, ?_⟩
    have hl : (litT t).length ≤ 4 * t.text.length + 25 := by
      have h5 := Lib.itoa_length_le t.num (by omega) (by omega)
      have hq := quoteGo_le t.text
      unfold litT
      split
      · omega
      · split
        · split
          · show (4 : Nat) ≤ _; omega
          · show (5 : Nat) ≤ _; omega
        · unfold quoteS
          split
          · simp
          · simp only [List.length_append, List.length_cons, List.length_nil]; omega
    have e1 : writeC t = litT t := by rw [writeC_eq]; unfold nodeT; rw [hk]; rfl
    have e2 : wC t = 1 + t.text.length + t.name.length := by rw [wC_eq, h0, wL]; omega
    unfold mC
    rw [e1, e2]; omega
  have int : ∀ (n : Int) (q : Int), -1099511627776 ≤ n → n ≤ 1099511627776 → constC ⟨13, [], w_tint, n, [], q⟩ = 0 := fun n q h1 h2 => by
    unfold constC
    rw [if_pos (show (w_tint == w_tint) = true from rfl), if_neg (by simp only [Bool.or_eq_true, decide_eq_true_eq, not_or]; omega)]; rfl
  intro hb
  unfold constP at hb ⊢
  split
  · rename_i h1
    rw [if_pos h1] at hb
    have h2 := num_read ((h.next (Bo.adv st)).gt hG) hb
    have h3 := pt_tok hb
    have h4 := pt_is h1
    exact mk _ _ rfl rfl (int _ _ (by omega) (by omega)) (by show (3 : Nat) ≤ 6; omega) ⟨by simp only; omega, by simp only; omega⟩ (by simp only [List.length_nil]; omega)
  · rename_i h1
    rw [if_neg h1] at hb
    split
    · rename_i h2
      rw [if_pos h2] at hb
      have h3 := num_read (h.gt hG) hb
      have h4 := pt_tok hb
      exact mk _ _ rfl rfl (int _ _ (by omega) (by omega)) (by show (3 : Nat) ≤ 6; omega) ⟨by simp only; omega, by simp only; omega⟩ (by simp only [List.length_nil]; omega)
    · rename_i h2
      rw [if_neg h2] at hb
      split
      · rename_i h3
        have h4 := pt_is h3
        exact mk _ _ rfl rfl rfl (by show (4 : Nat) ≤ 6; omega) ⟨by simp only; omega, by simp only; omega⟩ (by simp only [List.length_nil]; omega)
      · rename_i h3
        rw [if_neg h3] at hb
        split
        · rename_i h4
          have h5 := pt_is h4
          exact mk _ _ rfl rfl rfl (by show (4 : Nat) ≤ 6; omega) ⟨by simp only; omega, by simp only; omega⟩ (by simp only [List.length_nil]; omega)
        · rename_i h4
          rw [if_neg h4] at hb
          have h5 := txt_string (h.gt hG) hb
          have h6 := pt_tok hb
          refine mk _ _ rfl rfl ?_ (by show (6 : Nat) ≤ 6; omega) ⟨by simp only; omega, by simp only; omega⟩ (by simp only; omega)
          unfold constC
          rw [if_neg (show ¬ (w_tstring == w_tint) = true by decide), if_neg (show ¬ (w_tstring == w_tbool) = true by decide), if_pos (show (w_tstring == w_tstring) = true from rfl), if_neg (by simp only [decide_eq_true_eq]; omega)]; rfl
/-- At a wider place. -/
theorem wide {t : Syn} (hk : checkC t (.only 13) = 0) : checkC t .exps = 0 := by
  have h7 := only_at (own_at (ok_own hk).1).1
  rw [checkC_eq] at hk ⊢
  have e3 : ownC .exps t = ownC (.only 13) t := by
    unfold ownC
    have e4 : Pl.at .exps t.kind = true := by rw [h7]; rfl
    have e5 : Pl.at (.only 13) t.kind = true := by rw [h7]; rfl
    rw [e4, e5]
  rw [e3]; exact hk
theorem wg_nest (h : At l e d st) {read : Syn → PS → Syn × PS} {z : Syn} (hr : d < 64 → endP st = false → Wg p st ((read z (adv (Go.Proofs.YtabkeeedkhgodaaGreatDoor.deep st))).1, shallow (read z (adv (Go.Proofs.YtabkeeedkhgodaaGreatDoor.deep st))).2)) : endP st = false → Wg p st (nestP read z st) := by
  intro he
  rw [nestP_eq']
  rcases nest_bad st with hn | ⟨hn, h0⟩
  · rw [if_pos hn]
    exact fun hb => absurd hb (by simpa using hn)
  · rw [hn, if_neg (by rw [h0]; decide)]
    refine hr ?_ he
    by_cases hd : d < 64
    · exact hd
    · exfalso
      unfold nestF at hn
      rw [if_pos (decide_eq_true (show 64 ≤ st.depth by rw [h.2.2.1]; omega))] at hn
      have := fail_bad (e := 12) (by decide) st
      rw [hn, h0] at this
      exact absurd this (by decide)
theorem ins_good (hG : AllG l) (h : At l e d st) (hb : (insP st).2.bad = 0) : nmS (insP st).1.1 = true ∧ nmS (insP st).1.2 = true ∧ pt st + 140 + 5 * (insP st).1.1.length + 5 * (insP st).1.2.length ≤ pt (insP st).2 := by
  unfold insP at hb ⊢
  simp only at hb ⊢
  have k1 : Bo st (expP w_lpar st) := .exp _ _
  have k2 : Bo st (expP w_dot (tokP 0 (expP w_lpar st))) := (k1.trans (.tok _ _)).trans (.exp _ _)
  have b3 := (Bo.tok 0 _).good hb
  have b2 := (Bo.exp w_dot _).good b3
  have b1 := (Bo.tok 0 _).good b2
  have p1 := pt_exp b1
  have p2 := pt_tok b2
  have p3 := pt_exp b3
  have p4 := pt_tok hb
  exact ⟨txt_name ((h.next k1).gt hG) b2, txt_name ((h.next k2).gt hG) hb, by omega⟩
theorem wg_unit (hG : AllG l) {E : PS → Syn × PS} (sE : Bof E) (hE : d < 64 → WgF .exps l e (d + 1) E) : WgF .exps l e d (unitP E) := fun st h => by
  unfold unitP
  split
  · rename_i h1
    refine wg_nest h (fun hd he => ?_) (is_end h1)
    have ha := h.deep hd
    have kd : Bo (deep st) (adv (deep st)) := .adv _
    intro hb
    have b1 := (Bo.exp w_rpar (E (adv (deep st))).2).good hb
    obtain ⟨g1, g2⟩ := hE hd _ (ha.next kd) b1
    have p1 := (Bo.exp w_rpar (E (adv (deep st))).2).pt
    have p2 : pt (deep st) ≤ pt (adv (deep st)) := kd.pt
    exact ⟨g1, Nat.le_trans (Nat.le_trans (Nat.add_le_add_right p2 _) g2) p1⟩
  · split
    · rename_i s hs
      simp only
      intro hb
      have hi := find_is hs
      have k0 : Bo st (adv st) := .adv _
      have k1 : Bo st (expP w_comma (insP (adv st)).2) := (k0.trans (bo_ins _)).trans (.exp _ _)
      have b3 := (Bo.exp w_rpar _).good hb
      have b2 := (bo_const _).good b3
      have b1 := (Bo.exp w_comma _).good b2
      obtain ⟨n1, n2, q⟩ := ins_good hG (h.next k0) b1
      have p0 := pt_is hi
      obtain ⟨g1, g2⟩ := wg_const hG _ (h.next k1) b3
      have p2 := (Bo.exp w_comma (insP (adv st)).2).pt
      have p3 := (Bo.exp w_rpar (constP (expP w_comma (insP (adv st)).2)).2).pt
      have hs2 : s.2 = 2 ∨ s.2 = 3 ∨ s.2 = 4 ∨ s.2 = 5 := by
        have hm := List.mem_of_find?_eq_some hs
        unfold totL at hm
        simp only [List.mem_cons, List.not_mem_nil, or_false] at hm
        rcases hm with rfl | rfl | rfl | rfl <;> simp
      have m := node_m (t := ⟨16, (insP (adv st)).1.1, (insP (adv st)).1.2, s.2, [(constP (expP w_comma (insP (adv st)).2)).1], offS st⟩) (by simp only; omega) (by simp only; omega)
      simp only [mL] at m
      refine ⟨mk_check (mk_own rfl ?_ ?_ ?_) ?_, by simp only; omega⟩
      · show (if (s.2 == 1) then (((([(constP (expP w_comma (insP (adv st)).2)).1] : List Syn).length : Int)) == 0) else (((([(constP (expP w_comma (insP (adv st)).2)).1] : List Syn).length : Int)) == 1)) = true
        rw [if_neg (by simp only [beq_iff_eq]; omega)]; rfl
      · unfold namedC; simp only; rw [n1, n2]; rfl
      · unfold fieldsC
        have : numC ⟨16, (insP (adv st)).1.1, (insP (adv st)).1.2, s.2, [(constP (expP w_comma (insP (adv st)).2)).1], offS st⟩ = 0 := by
          show (if (decide (s.2 < 1) || decide (5 < s.2)) then (1 : Int) else 0) = 0
          rw [decide_eq_false (by omega), decide_eq_false (by omega)]; rfl
        rw [this]; rfl
      · intro j x hx
        cases j with
        | zero => cases hx; exact g1
        | succ j => cases hx
    · split
      · rename_i h2
        intro hb
        have k0 : Bo st (adv st) := .adv _
        have b1 := (Bo.exp w_rpar _).good hb
        obtain ⟨n1, n2, q⟩ := ins_good hG (h.next k0) b1
        have p0 := pt_is h2
        have p3 := (Bo.exp w_rpar (insP (adv st)).2).pt
        have m := node_m (t := ⟨16, (insP (adv st)).1.1, (insP (adv st)).1.2, 1, [], offS st⟩) (by simp only; omega) (by simp only; omega)
        simp only [mL] at m
        refine ⟨mk_leaf (mk_own rfl rfl ?_ rfl) rfl, by simp only; omega⟩
        unfold namedC; simp only; rw [n1, n2]; rfl
      · split
        · rename_i h3
          intro hb
          have k1 : Bo st (expP w_lpar (adv st)) := (Bo.adv _).trans (.exp _ _)
          have b2 := (Bo.exp w_rpar _).good hb
          have b1 := (Bo.tok 0 _).good b2
          have n1 := txt_name ((h.next k1).gt hG) b2
          have p0 := pt_is h3
          have p1 := pt_exp b1
          have p2 := pt_tok b2
          have p3 := pt_exp hb
          have m := node_m (t := ⟨15, txtP 0 (expP w_lpar (adv st)), [], 0, [], offS st⟩) (by simp only; omega) (by simp only; omega)
          simp only [mL, List.length_nil] at m
          refine ⟨mk_leaf (mk_own rfl rfl ?_ rfl) rfl, by simp only; omega⟩
          unfold namedC; simp only; rw [n1]; rfl
        · split
          · rename_i h4
            simp only
            have k1 : Bo st (expP w_dot (tokP 0 st)) := (Bo.tok _ _).trans (.exp _ _)
            split
            · rename_i h5
              intro hb
              have b2 : (expP w_dot (tokP 0 st)).bad = 0 := hb
              have b1 := (Bo.exp w_dot _).good b2
              have n1 := txt_name (h.gt hG) b1
              have p1 := pt_tok b1
              have p2 := pt_exp b2
              have p3 := pt_is h5
              have m := node_m (t := ⟨14, txtP 0 st, w_ttime, 0, [], offS st⟩) (by simp only; omega) (by simp only; omega)
              have q : w_ttime.length = 4 := rfl
              simp only [mL, q] at m
              refine ⟨mk_leaf (mk_own rfl rfl ?_ rfl) rfl, by simp only; omega⟩
              unfold namedC; simp only; rw [n1]; rfl
            · intro hb
              have b2 := (Bo.tok 0 _).good hb
              have b1 := (Bo.exp w_dot _).good b2
              have n1 := txt_name (h.gt hG) b1
              have n2 := txt_name ((h.next k1).gt hG) hb
              have p1 := pt_tok b1
              have p2 := pt_exp b2
              have p3 := pt_tok hb
              have m := node_m (t := ⟨14, txtP 0 st, txtP 0 (expP w_dot (tokP 0 st)), 0, [], offS st⟩) (by simp only; omega) (by simp only; omega)
              simp only [mL] at m
              refine ⟨mk_leaf (mk_own rfl rfl ?_ rfl) rfl, by simp only; omega⟩
              unfold namedC; simp only; rw [n1, n2]; rfl
          · intro hb
            obtain ⟨g1, g2⟩ := wg_const hG _ h hb
            exact ⟨wide g1, g2⟩
theorem bin_check {x y : Syn} {op p : Int} (h1 : 5 ≤ op) (h2 : op ≤ 11) (hx : checkC x .exps = 0) (hy : checkC y .exps = 0) : checkC (binS op x y p) .exps = 0 := by
  refine mk_check (mk_own rfl rfl rfl ?_) ?_
  · unfold fieldsC
    have : numC (binS op x y p) = 0 := by
      show (if (decide (op < 5) || decide (11 < op)) then (1 : Int) else 0) = 0
      rw [decide_eq_false (by omega), decide_eq_false (by omega)]; rfl
    rw [this]; rfl
  · intro j z hz
    match j, hz with
    | 0, hz => cases hz; exact hx
    | 1, hz => cases hz; exact hy
    | j + 2, hz => cases hz
theorem not_check {x : Syn} {p : Int} (hx : checkC x .exps = 0) : checkC ⟨18, [], [], 0, [x], p⟩ .exps = 0 := by
  refine mk_check (mk_own rfl rfl rfl rfl) ?_
  intro j z hz
  match j, hz with
  | 0, hz => cases hz; exact hx
  | j + 1, hz => cases hz
theorem wg_chainGo (hG : AllG l) {F : PS → Syn × PS} (sF : Bof F) (hF : WgF .exps l e d F) {sg : List (Str × Int)} (hs : ∀ s ∈ sg, 5 ≤ s.2 ∧ s.2 ≤ 11) {f : Nat} : ∀ (n : Nat) (st : PS) (out : Syn), At l e d st → checkC out .exps = 0 → f + mC out ≤ pt st → (chainGo F sg n st out).2.bad = 0 → checkC (chainGo F sg n st out).1 .exps = 0 ∧ f + mC (chainGo F sg n st out).1 ≤ pt (chainGo F sg n st out).2
  | 0, st, out, h, ho, hp, hb => ⟨ho, hp⟩
  | n + 1, st, out, h, ho, hp, hb => by
    unfold chainGo at hb ⊢
    split
    · rename_i s hs1
      rw [hs1] at hb
      simp only at hb
      have hop := hs s (List.mem_of_find?_eq_some hs1)
      have k := (Bo.adv st).trans (sF (adv st))
      have hb2 := (bo_chainGo sF n (F (adv st)).2 (binS s.2 out (F (adv st)).1 out.pos) trivial).good hb
      obtain ⟨g1, g2⟩ := hF (adv st) (h.next (.adv st)) hb2
      have p0 := pt_is (find_is hs1)
      have m := bin_m s.2 out (F (adv st)).1 out.pos
      exact wg_chainGo hG sF hF hs n _ _ (h.next k) (bin_check hop.1 hop.2 ho g1) (by omega) hb
    · exact ⟨ho, hp⟩
theorem wg_chain (hG : AllG l) {F : PS → Syn × PS} (sF : Bof F) (hF : WgF .exps l e d F) {sg : List (Str × Int)} (hs : ∀ s ∈ sg, 5 ≤ s.2 ∧ s.2 ≤ 11) : WgF .exps l e d (chainP F sg) := fun st h hb => by
  unfold chainP at hb ⊢
  have hb2 := (bo_chainGo sF (fuel (F st).2) (F st).2 (F st).1 trivial).good hb
  obtain ⟨g1, g2⟩ := hF st h hb2
  exact wg_chainGo hG sF hF hs _ _ _ (h.next (sF st)) g1 g2 hb
theorem sum_ops : ∀ s ∈ sumL, 5 ≤ s.2 ∧ s.2 ≤ 11 := by decide
theorem and_ops : ∀ s ∈ andL, 5 ≤ s.2 ∧ s.2 ≤ 11 := by decide
theorem or_ops : ∀ s ∈ orL, 5 ≤ s.2 ∧ s.2 ≤ 11 := by decide
theorem wg_sum (hG : AllG l) {E : PS → Syn × PS} (sE : Bof E) (hE : d < 64 → WgF .exps l e (d + 1) E) : WgF .exps l e d (sumP E) := wg_chain hG (bof_unit sE) (wg_unit hG sE hE) sum_ops
theorem wg_cmp (hG : AllG l) {E : PS → Syn × PS} (sE : Bof E) (hE : d < 64 → WgF .exps l e (d + 1) E) : WgF .exps l e d (cmpP E) := fun st h => by
  have hs := wg_sum hG sE hE
  have b1 := bof_sum sE st
  have b2 := (Bo.adv (sumP E st).2).trans (bof_sum sE (adv (sumP E st).2))
  have key : ∀ w, isP w (sumP E st).2 = true → (sumP E (adv (sumP E st).2)).2.bad = 0 → checkC (sumP E st).1 .exps = 0 ∧ checkC (sumP E (adv (sumP E st).2)).1 .exps = 0 ∧ pt st + mC (sumP E st).1 + mC (sumP E (adv (sumP E st).2)).1 + 70 ≤ pt (sumP E (adv (sumP E st).2)).2 := fun w hi hb => by
    obtain ⟨g1, g2⟩ := hs st h (b2.good hb)
    have h2 := h.next b1
    obtain ⟨g3, g4⟩ := hs _ (h2.next (.adv _)) hb
    have p0 := pt_is hi
    exact ⟨g1, g3, by omega⟩
  have K : ∀ (w : Str) (op : Int), isP w (sumP E st).2 = true → 5 ≤ op → op ≤ 11 → Wg .exps st (binS op (sumP E st).1 (sumP E (adv (sumP E st).2)).1 (sumP E st).1.pos, (sumP E (adv (sumP E st).2)).2) := fun w op hi o1 o2 hb => by
    obtain ⟨k1, k2, k3⟩ := key w hi hb
    have m := bin_m op (sumP E st).1 (sumP E (adv (sumP E st).2)).1 (sumP E st).1.pos
    exact ⟨bin_check o1 o2 k1 k2, by simp only; omega⟩
  have K2 : ∀ (w : Str) (op : Int), isP w (sumP E st).2 = true → 5 ≤ op → op ≤ 11 → Wg .exps st (binS op (sumP E (adv (sumP E st).2)).1 (sumP E st).1 (sumP E st).1.pos, (sumP E (adv (sumP E st).2)).2) := fun w op hi o1 o2 hb => by
    obtain ⟨k1, k2, k3⟩ := key w hi hb
    have m := bin_m op (sumP E (adv (sumP E st).2)).1 (sumP E st).1 (sumP E st).1.pos
    exact ⟨bin_check o1 o2 k2 k1, by simp only; omega⟩
  unfold cmpP
  simp only
  split
  · rename_i hi; exact K _ 7 hi (by decide) (by decide)
  · split
    · rename_i hi; exact K _ 8 hi (by decide) (by decide)
    · split
      · rename_i hi; exact K2 _ 7 hi (by decide) (by decide)
      · split
        · rename_i hi; exact K2 _ 8 hi (by decide) (by decide)
        · split
          · rename_i hi; exact K _ 9 hi (by decide) (by decide)
          · split
            · rename_i hi
              intro hb
              obtain ⟨k1, k2, k3⟩ := key _ hi hb
              have m := bin_m 9 (sumP E st).1 (sumP E (adv (sumP E st).2)).1 (sumP E st).1.pos
              have m2 := not_m (binS 9 (sumP E st).1 (sumP E (adv (sumP E st).2)).1 (sumP E st).1.pos) (sumP E st).1.pos
              exact ⟨not_check (bin_check (by decide) (by decide) k1 k2), by simp only; omega⟩
            · exact hs st h
theorem wg_not (hG : AllG l) {E N : PS → Syn × PS} (sE : Bof E) (hE : d < 64 → WgF .exps l e (d + 1) E) (sN : Bof N) (hN : d < 64 → WgF .exps l e (d + 1) N) : WgF .exps l e d (notP E N) := fun st h => by
  unfold notP
  cases hi : isP w_tnot st with
  | false => exact wg_cmp hG sE hE st h
  | true =>
    rw [if_neg (by decide)]
    refine wg_nest h (fun hd he => ?_) (is_end hi)
    have ha := h.deep hd
    have kd : Bo (deep st) (adv (deep st)) := .adv _
    intro hb
    obtain ⟨g1, g2⟩ := hN hd _ (ha.next kd) hb
    have p0 : pt (adv (deep st)) = pt st + 70 + 5 * w_tnot.length := pt_is hi
    have m := not_m (N (adv (deep st))).1 (offS st)
    exact ⟨not_check g1, by
      show pt st + mC ⟨18, [], [], 0, [(N (adv (deep st))).1], offS st⟩ ≤ pt (N (adv (deep st))).2
      omega⟩
theorem wg_or (hG : AllG l) {E N : PS → Syn × PS} (sE : Bof E) (hE : d < 64 → WgF .exps l e (d + 1) E) (sN : Bof N) (hN : d < 64 → WgF .exps l e (d + 1) N) : WgF .exps l e d (orP E N) :=
  wg_chain hG (bof_chain (bof_not sE sN) andL) (wg_chain hG (bof_not sE sN) (wg_not hG sE hE sN hN) and_ops) or_ops
theorem wg_neg (hG : AllG l) : ∀ (n : Nat) (d : Int), 64 ≤ (n : Int) + d → WgF .exps l e d (negN n).1 ∧ WgF .exps l e d (negN n).2
  | 0, d, h => ⟨wg_not hG bof_dull (fun hd => by omega) bof_dull (fun hd => by omega), wg_or hG bof_dull (fun hd => by omega) bof_dull (fun hd => by omega)⟩
  | n + 1, d, h => by
    obtain ⟨i1, i2⟩ := wg_neg hG n (d + 1) (by omega)
    exact ⟨wg_not hG (bof_neg n).2 (fun _ => i2) (bof_neg n).1 (fun _ => i1), wg_or hG (bof_neg n).2 (fun _ => i2) (bof_neg n).1 (fun _ => i1)⟩
theorem wg_EE (hG : AllG l) (hd : 0 ≤ d) : WgF .exps l e d EE := (wg_neg hG 64 d (by omega)).2
end Go.Proofs.YtabkeeedkhgodaaGreatDoor

namespace Go.Proofs.YtabkeeedkhgodaaGreatDoor
open Go Go.Aw
set_option linter.unusedVariables false
set_option linter.unusedSimpArgs false
set_option maxRecDepth 100000

theorem four_ne {n : Int} : ¬ (foE n 4).err = 0 := fun h => absurd (show (4 : Int) = 0 from h) (by decide)
theorem numGo_in : ∀ (s : Str) (n : Int), (∀ c ∈ s, digitS c = true) → 0 ≤ n → n ≤ 1099511627776 → 0 ≤ (numGo s n).1 ∧ (numGo s n).1 ≤ 1099511627776
  | [], n, _, h0, h1 => ⟨h0, h1⟩
  | c :: r, n, hd, h0, h1 => by
    rw [numGo]
    have hc : 0 ≤ dvS c := by
      have h2 := u8_all (p := fun c => !digitS c || decide (0 ≤ dvS c)) (by kernel_rfl) c
      rw [hd c (List.mem_cons_self ..)] at h2
      simpa using h2
    split
    · exact ⟨Int.le_refl _, by decide⟩
    · rename_i h2
      simp only [decide_eq_true_eq] at h2
      exact numGo_in r _ (fun x hx => hd x (List.mem_cons_of_mem _ hx)) (by omega) (by omega)
theorem span_each {p : UInt8 → Bool} : ∀ {s : Str}, s.length ≤ spanS p s → ∀ c ∈ s, p c = true
  | [], _, c, h => by cases h
  | x :: r, h, c, hc => by
    unfold spanS at h
    split at h
    · rename_i h1
      rw [List.length_cons] at h
      rcases List.mem_cons.1 hc with rfl | hc
      · exact h1
      · exact span_each (s := r) (by omega) c hc
    · rw [List.length_cons] at h; omega
theorem num_any (s : Str) : 0 ≤ (numS s).1 ∧ (numS s).1 ≤ 1099511627776 := by
  unfold numS
  split
  · exact ⟨Int.le_refl _, by decide⟩
  · rename_i h
    simp only [Bool.or_eq_true, decide_eq_true_eq, not_or] at h
    exact numGo_in s 0 (span_each (by omega)) (Int.le_refl _) (by decide)
theorem lit_kind (s : Str) : ∀ (n i : Nat) (b : Str), (litGo s n i b).err = 0 → (litGo s n i b).tok.kind = 2 ∧ (litGo s n i b).tok.text.length ≤ 64
  | 0, i, b, h => absurd h four_ne
  | n + 1, i, b, h => by
    unfold litGo at h ⊢
    split at h
    · rename_i h1
      rw [if_pos h1]
      split at h
      · rename_i h2
        rw [if_pos h2]
        split at h
        · exact absurd h (by decide)
        · rename_i h3
          rw [if_neg h3]
          simp only [decide_eq_true_eq] at h3
          exact ⟨rfl, by show b.length ≤ 64; omega⟩
      · rename_i h2
        rw [if_neg h2]
        split at h
        · rename_i h3
          rw [if_pos h3]
          split at h
          · exact absurd h four_ne
          · rename_i h4
            rw [if_neg h4]
            exact lit_kind s n _ _ h
        · rename_i h3
          rw [if_neg h3]
          split at h
          · exact absurd h four_ne
          · rename_i h4
            rw [if_neg h4]
            exact lit_kind s n _ _ h
    · exact absurd h four_ne
theorem sign_kind (s : Str) : ∀ (ws : List Str), (signGo s ws).err = 0 → (signGo s ws).tok.kind = 3
  | [], h => absurd h four_ne
  | x :: r, h => by
    unfold signGo at h ⊢
    split at h
    · rename_i h1; rw [if_pos h1]; rfl
    · rename_i h1; rw [if_neg h1]; exact sign_kind s r h
theorem name_nm {u : Str} (h0 : 0 < u.length) (h : letterS (bt u 0) = true) (hl : spanS wordS u ≤ 24) (hk : keyS (u.take (spanS wordS u)) = false) : nmS (u.take (spanS wordS u)) = true := by
  have hp : 0 < spanS wordS u := by
    have := span_pos (p := wordS) (s := u) (k := 0) h0 (by unfold wordS; rw [h]; rfl)
    simpa using this
  have hle := span_le wordS u
  have tl : (u.take (spanS wordS u)).length = spanS wordS u := by rw [List.length_take]; omega
  unfold nmS
  rw [name_eq]
  unfold nameR
  rw [tl, span_take, bt_take hp, h, ← key_eq, hk]
  have h1 : (u.take (spanS wordS u) == []) = false := by
    cases hq : u.take (spanS wordS u) with
    | nil => rw [hq] at tl; simp at tl; omega
    | cons c r => rfl
  rw [h1, decide_eq_false (by omega)]
  simp
theorem next_gt {u : Str} (h0 : 0 < u.length) (he : (nextF u).err = 0) (i : Int) : Gt ⟨(nextF u).tok.kind, (nextF u).tok.text, i⟩ := by
  refine ⟨fun hk hs => ?_, fun _ => num_any _, fun hk => ?_⟩
  · simp only at hk hs ⊢
    cases hl : letterS (bt u 0) with
    | true =>
      rw [next_word hl h0] at he hk hs ⊢
      split at he
      · exact absurd he (by decide)
      · rename_i h1
        rw [if_neg h1] at hs ⊢
        simp only [decide_eq_true_eq] at h1
        exact name_nm h0 hl (by omega) hs
    | false =>
      exfalso
      have hn : nameF u = foZ := by unfold nameF; rw [hl]; rfl
      unfold nextF at he hk
      rw [hn, if_neg (show ¬ hitF foZ = true by decide)] at he hk
      split at he
      · rename_i h1
        rw [if_pos h1] at hk
        unfold numberF at he hk h1
        split at he
        · rename_i h2
          rw [if_pos h2] at h1
          exact absurd h1 (by decide)
        · rename_i h2
          rw [if_neg h2] at hk
          split at he
          · rename_i h3
            simp only [bne_iff_ne, ne_eq] at h3
            exact h3 he
          · rename_i h3
            rw [if_neg h3] at hk
            split at he
            · exact absurd he four_ne
            · rename_i h4
              rw [if_neg h4] at hk
              exact absurd hk (by simp [foT])
      · rename_i h1
        rw [if_neg h1] at hk
        split at he
        · rename_i h2
          rw [if_pos h2] at hk
          unfold litF at he hk h2
          split at he
          · rename_i h3
            rw [if_pos h3] at h2
            exact absurd h2 (by decide)
          · rename_i h3
            rw [if_neg h3] at hk
            rw [(lit_kind _ _ _ _ he).1] at hk
            exact absurd hk (by decide)
        · rename_i h2
          rw [if_neg h2] at hk
          rw [show (signF u).tok.kind = 3 from sign_kind _ _ he] at hk
          exact absurd hk (by decide)
  · simp only at hk ⊢
    rcases next_take h0 he with ⟨t, m, h1, h2, h3⟩ | ⟨k, n, h1, hp, hn, h2, h3⟩
    · rw [h1]; exact h2
    · rw [h2] at hk; exact absurd hk h1
theorem Sc.worth {s : Str} {i : Nat} {l : List Tok} {j : Nat} (h : Sc s i l j) : (∀ t ∈ l, Gt t) ∧ (l.map wt).sum + 75 * i ≤ 75 * j := by
  induction h with
  | nil i => exact ⟨fun _ h => (List.not_mem_nil h).elim, by simp⟩
  | @sep i l j hi hs hr ih => exact ⟨ih.1, by omega⟩
  | @tok i l j hi hs he hr ih =>
    have h0 : 0 < (s.drop i).length := by rw [List.length_drop]; omega
    have hg := next_gt h0 he (i : Int)
    have hgd := good_next h0 hs he (i : Int)
    have hn := next_le (s.drop i) h0
    have hpos := hn.2.2.2.2 he
    refine ⟨fun t ht => ?_, ?_⟩
    · rcases List.mem_cons.1 ht with rfl | ht
      · exact hg
      · exact ih.1 t ht
    · have h1 := hgd.2.2.2.2
      have h2 := ih.2
      rw [List.map_cons, List.sum_cons]
      show 70 + 5 * (nextF (s.drop i)).tok.text.length + (l.map wt).sum + 75 * i ≤ 75 * j
      simp only at h1
      omega
theorem scan_worth {s : Str} (h : (scanS s).2.2 = 0) : (∀ t ∈ (scanS s).1, Gt t) ∧ ((scanS s).1.map wt).sum ≤ 75 * s.length := by
  have h1 := (scan_sc h).2.worth
  exact ⟨h1.1, by omega⟩
end Go.Proofs.YtabkeeedkhgodaaGreatDoor

namespace Go.Proofs.YtabkeeedkhgodaaGreatDoor
open Go Go.Aw
set_option linter.unusedVariables false
set_option linter.unusedSimpArgs false
set_option maxRecDepth 100000

variable {l : List Tok} {e d : Int} {a b st : PS} {w : Str} {p : Pl}
theorem kids_1 {x : Syn} {Q : Nat → Syn → Prop} (h : Q 0 x) : ∀ (j : Nat) (y : Syn), [x][j]? = some y → Q j y
  | 0, y, hy => by cases hy; exact h
  | j + 1, y, hy => by cases hy
theorem kids_2 {x z : Syn} {Q : Nat → Syn → Prop} (h : Q 0 x) (k : Q 1 z) : ∀ (j : Nat) (y : Syn), [x, z][j]? = some y → Q j y
  | 0, y, hy => by cases hy; exact h
  | 1, y, hy => by cases hy; exact k
  | j + 2, y, hy => by cases hy
theorem wg_event (hG : AllG l) {E : PS → Syn × PS} (sE : Bof E) (hE : WgF .exps l e d E) : WgF (.only 5) l e d (eventP E) := fun st h => by
  have k1 : Bo st (tokP 0 st) := .tok _ _
  have k2 : Bo st (tokP 0 (tokP 0 st)) := k1.trans (.tok _ _)
  unfold eventP
  simp only
  split
  · rename_i hi
    intro hb
    have k3 := k2.trans (.adv _)
    have b3 := (sE (adv (tokP 0 (tokP 0 st)))).good hb
    have b2 : (tokP 0 (tokP 0 st)).bad = 0 := b3
    have b1 := (Bo.tok 0 _).good b2
    have n1 := txt_name (h.gt hG) b1
    have n2 := txt_name ((h.next k1).gt hG) b2
    have p1 := pt_tok b1
    have p2 := pt_tok b2
    have p3 := pt_is hi
    obtain ⟨g1, g2⟩ := hE _ (h.next k3) hb
    have m := node_m (t := ⟨5, txtP 0 st, txtP 0 (tokP 0 st), 0, [(E (adv (tokP 0 (tokP 0 st)))).1], offS st⟩) (by simp only; omega) (by simp only; omega)
    simp only [mL] at m
    refine ⟨mk_check (mk_own rfl rfl ?_ rfl) (kids_1 g1), by simp only; omega⟩
    unfold namedC; simp only; rw [n1, n2]; rfl
  · intro hb
    have b2 : (tokP 0 (tokP 0 st)).bad = 0 := hb
    have b1 := (Bo.tok 0 _).good b2
    have n1 := txt_name (h.gt hG) b1
    have n2 := txt_name ((h.next k1).gt hG) b2
    have p1 := pt_tok b1
    have p2 := pt_tok b2
    have m := node_m (t := ⟨5, txtP 0 st, txtP 0 (tokP 0 st), 0, [], offS st⟩) (by simp only; omega) (by simp only; omega)
    simp only [mL] at m
    refine ⟨mk_leaf (mk_own rfl rfl ?_ rfl) rfl, by simp only; omega⟩
    unfold namedC; simp only; rw [n1, n2]; rfl
theorem wideE {t : Syn} (hk : checkC t (.only 5) = 0) : checkC t .pats = 0 := by
  have h7 := only_at (own_at (ok_own hk).1).1
  rw [checkC_eq] at hk ⊢
  have e3 : ownC .pats t = ownC (.only 5) t := by
    unfold ownC
    have e4 : Pl.at .pats t.kind = true := by rw [h7]; rfl
    have e5 : Pl.at (.only 5) t.kind = true := by rw [h7]; rfl
    rw [e4, e5]
  rw [e3]; exact hk
theorem wg_listGo {F : PS → Syn × PS} (sF : Bof F) (hF : WgF p l e d F) {f : Nat} : ∀ (n : Nat) (st : PS) (out : List Syn), At l e d st → f + mL out ≤ pt st → (∀ x ∈ out, checkC x p = 0) → (listGo F n st out).2.bad = 0 → (∀ x ∈ (listGo F n st out).1, checkC x p = 0) ∧ f + mL (listGo F n st out).1 ≤ pt (listGo F n st out).2 ∧ out.length ≤ (listGo F n st out).1.length
  | 0, st, out, _, hf, ho, _ => ⟨ho, hf, Nat.le_refl _⟩
  | n + 1, st, out, h, hf, ho, hb => by
    unfold listGo at hb ⊢
    split
    · rename_i hi
      rw [if_pos hi] at hb
      have k := (Bo.adv st).trans (sF (adv st))
      have hb2 := (bo_listGo sF n (F (adv st)).2 (out ++ [(F (adv st)).1]) trivial).good hb
      obtain ⟨g1, g2⟩ := hF (adv st) (h.next (.adv st)) hb2
      have p0 := pt_is hi
      have r := wg_listGo (f := f) sF hF n _ (out ++ [(F (adv st)).1]) (h.next k) (by rw [mL_app, mL, mL]; omega) (app_mem ho (one_mem g1)) hb
      rw [List.length_append] at r
      exact ⟨r.1, r.2.1, by have := r.2.2; omega⟩
    · exact ⟨ho, hf, Nat.le_refl _⟩
theorem wg_list {F : PS → Syn × PS} (sF : Bof F) (hF : WgF p l e d F) (h : At l e d st) (hb : (listP F st).2.bad = 0) : (∀ x ∈ (listP F st).1, checkC x p = 0) ∧ pt st + mL (listP F st).1 ≤ pt (listP F st).2 ∧ 1 ≤ (listP F st).1.length := by
  unfold listP at hb ⊢
  have hb2 := (bo_listGo sF (fuel (F st).2) (F st).2 [(F st).1] trivial).good hb
  obtain ⟨g1, g2⟩ := hF st h hb2
  exact wg_listGo (f := pt st) sF hF _ _ _ (h.next (sF st)) (by rw [mL, mL]; omega) (one_mem g1) hb
/-- A pattern of several patterns. -/
theorem sev_check {k : Int} (hk : k = 6 ∨ k = 7 ∨ k = 8) {ks : List Syn} {q : Int} (hl : 2 ≤ ks.length) (hs : ∀ x ∈ ks, checkC x .pats = 0) : checkC ⟨k, [], [], 0, ks, q⟩ .pats = 0 := by
  refine mk_check (mk_own ?_ ?_ ?_ ?_) ?_
  · rcases hk with rfl | rfl | rfl <;> rfl
  · have h2 : decide (2 ≤ (ks.length : Int)) = true := decide_eq_true (by omega)
    rcases hk with rfl | rfl | rfl <;> exact h2
  · rcases hk with rfl | rfl | rfl <;> rfl
  · rcases hk with rfl | rfl | rfl <;> rfl
  · intro j x hx
    have : kidC ⟨k, [], [], 0, ks, q⟩ j = .pats := by rcases hk with rfl | rfl | rfl <;> rfl
    rw [this]
    exact hs x (List.mem_of_getElem? hx)
theorem wg_rest (hG : AllG l) {E T : PS → Syn × PS} (sE : Bof E) (hE : WgF .exps l e d E) (sT : Bof T) (hT : WgF .pats l e d T) {f : Nat} {k q : Int} {x : Syn} (hk : 6 ≤ k ∧ k ≤ 12) (h : At l e d st) (hx : checkC x .pats = 0) (hf : f + mC x + 70 ≤ pt st)
    (hb : (restP E T k ⟨k, [], [], 0, [x], q⟩ st).2.bad = 0) :
    checkC (restP E T k ⟨k, [], [], 0, [x], q⟩ st).1 .pats = 0 ∧ f + mC (restP E T k ⟨k, [], [], 0, [x], q⟩ st).1 ≤ pt (restP E T k ⟨k, [], [], 0, [x], q⟩ st).2 := by
  have kc : Bo st (expP w_comma st) := .exp _ _
  have hc := h.next kc
  have pc := kc.pt
  unfold restP at hb ⊢
  split
  · rename_i h1
    rw [if_pos h1] at hb
    unfold sevP at hb ⊢
    simp only at hb ⊢
    have k2 := sT (expP w_comma st)
    have hb2 := (bo_listGo sT (fuel (T (expP w_comma st)).2) (T (expP w_comma st)).2 ([x] ++ [(T (expP w_comma st)).1]) trivial).good hb
    obtain ⟨g1, g2⟩ := hT _ hc hb2
    have r := wg_listGo (f := f + 70) sT hT (fuel (T (expP w_comma st)).2) _ ([x] ++ [(T (expP w_comma st)).1]) (hc.next k2) (by rw [mL_app, mL, mL, mL, mL]; omega) (app_mem (one_mem hx) (one_mem g1)) hb
    have h2 := of_decide_eq_true h1
    have m := node_m (t := ⟨k, [], [], 0, (listGo T (fuel (T (expP w_comma st)).2) (T (expP w_comma st)).2 ([x] ++ [(T (expP w_comma st)).1])).1, q⟩) (by simp only; omega) (by simp only; omega)
    simp only [List.length_nil] at m
    refine ⟨sev_check (by omega) (by have := r.2.2; simp only [List.length_append, List.length_cons, List.length_nil] at this; omega) r.1, ?_⟩
    have := r.2.1
    omega
  · rename_i h1
    rw [if_neg h1] at hb
    simp only [decide_eq_true_eq] at h1
    split
    · rename_i h2
      have h2 : k = 9 := by simpa using h2
      subst h2
      have m := node_m (t := ⟨9, [], [], 0, [x], q⟩) (by simp only; omega) (by simp only; omega)
      simp only [mL, List.length_nil] at m
      exact ⟨mk_check (mk_own rfl rfl rfl rfl) (kids_1 hx), by simp only; omega⟩
    · rename_i h2
      rw [if_neg h2] at hb
      split
      · rename_i h3
        rw [if_pos h3] at hb
        have h3 : k = 10 := by simpa using h3
        subst h3
        simp only at hb ⊢
        obtain ⟨g1, g2⟩ := wg_event hG sE hE _ hc hb
        have m := node_m (t := ⟨10, [], [], 0, [x] ++ [(eventP E (expP w_comma st)).1], q⟩) (by simp only; omega) (by simp only; omega)
        simp only [mL, mL_app, List.length_nil] at m
        exact ⟨mk_check (mk_own rfl rfl rfl rfl) (kids_2 hx g1), by omega⟩
      · rename_i h3
        rw [if_neg h3] at hb
        split
        · rename_i h4
          rw [if_pos h4] at hb
          have h4 : k = 11 := by simpa using h4
          subst h4
          simp only at hb ⊢
          have hn := num_read (hc.gt hG) hb
          have p3 := pt_tok hb
          have m := node_m (t := ⟨11, [], [], numP (expP w_comma st), [x], q⟩) (by simp only; omega) (by simp only; omega)
          simp only [mL, List.length_nil] at m
          refine ⟨mk_check (mk_own rfl rfl rfl ?_) (kids_1 hx), by omega⟩
          unfold fieldsC
          have : numC ⟨11, [], [], numP (expP w_comma st), [x], q⟩ = 0 := by
            show (if (decide (numP (expP w_comma st) < 0) || decide (1099511627776 < numP (expP w_comma st))) then (2 : Int) else 0) = 0
            rw [decide_eq_false (by omega), decide_eq_false (by omega)]; rfl
          rw [this]; rfl
        · rename_i h4
          rw [if_neg h4] at hb
          have h5 : k = 12 := by
            simp only [beq_iff_eq] at h2 h3 h4
            omega
          subst h5
          simp only at hb ⊢
          obtain ⟨g1, g2⟩ := hE _ hc hb
          have m := node_m (t := ⟨12, [], [], 0, [x] ++ [(E (expP w_comma st)).1], q⟩) (by simp only; omega) (by simp only; omega)
          simp only [mL, mL_app, List.length_nil] at m
          exact ⟨mk_check (mk_own rfl rfl rfl rfl) (kids_2 hx g1), by omega⟩
theorem wg_pat (hG : AllG l) {E T : PS → Syn × PS} (sE : Bof E) (hE : ∀ d, 0 ≤ d → WgF .exps l e d E) (sT : Bof T) (hT : d < 64 → WgF .pats l e (d + 1) T) : WgF .pats l e d (patP E T) := fun st h => by
  unfold patP
  split
  · rename_i f hf
    have hi := find_is hf
    have hk : 6 ≤ f.2 ∧ f.2 ≤ 12 := by
      have hm := List.mem_of_find?_eq_some hf
      unfold formL at hm
      simp only [List.mem_cons, List.not_mem_nil, or_false] at hm
      rcases hm with rfl | rfl | rfl | rfl | rfl | rfl | rfl <;> exact ⟨by decide, by decide⟩
    refine wg_nest h (fun hd he => ?_) (is_end hi)
    have ha := h.deep hd
    have h0 := h.2.2.2.1
    have kd : Bo (deep st) (adv (deep st)) := .adv _
    have kl : Bo (deep st) (expP w_lpar (adv (deep st))) := kd.trans (.exp _ _)
    have hl := ha.next kl
    have kt := sT (expP w_lpar (adv (deep st)))
    have ht := hl.next kt
    intro hb
    have hb2 := (Bo.exp w_rpar _).good hb
    have kr := bo_rest sE sT f.2 (⟨f.2, [], [], 0, [(T (expP w_lpar (adv (deep st)))).1], offS st⟩ : Syn) (st := (T (expP w_lpar (adv (deep st)))).2) trivial
    have hb1 := kr.good hb2
    have hb0 := kt.good hb1
    obtain ⟨g1, g2⟩ := hT hd _ hl hb1
    have p0 : pt (adv (deep st)) = pt st + 70 + 5 * f.1.length := pt_is hi
    have p1 := pt_exp hb0
    have r := wg_rest (f := pt st) hG sE (hE (d + 1) (by omega)) sT (hT hd) hk ht g1 (by omega) hb2
    have p2 := (Bo.exp w_rpar (restP E T f.2 (⟨f.2, [], [], 0, [(T (expP w_lpar (adv (deep st)))).1], offS st⟩ : Syn) (T (expP w_lpar (adv (deep st)))).2).2).pt
    exact ⟨r.1, Nat.le_trans r.2 p2⟩
  · intro hb
    obtain ⟨g1, g2⟩ := wg_event hG sE (hE d h.2.2.2.1) st h hb
    exact ⟨wideE g1, g2⟩
theorem wg_patN (hG : AllG l) {E : PS → Syn × PS} (sE : Bof E) (hE : ∀ d, 0 ≤ d → WgF .exps l e d E) : ∀ (n : Nat) (d : Int), 64 ≤ (n : Int) + d → WgF .pats l e d (patN E n)
  | 0, d, h => wg_pat hG sE hE bof_dull (fun hd => by omega)
  | n + 1, d, h => wg_pat hG sE hE (bof_patN sE n) (fun _ => wg_patN hG sE hE n (d + 1) (by omega))
theorem wg_TT (hG : AllG l) (hd : 0 ≤ d) : WgF .pats l e d TT := wg_patN hG bof_EE (fun d hd => wg_EE hG hd) 64 d (by omega)
end Go.Proofs.YtabkeeedkhgodaaGreatDoor

namespace Go.Proofs.YtabkeeedkhgodaaGreatDoor
open Go Go.Aw
set_option linter.unusedVariables false
set_option linter.unusedSimpArgs false
set_option maxRecDepth 100000

variable {l : List Tok} {e d : Int} {a b st : PS} {w : Str} {p : Pl}
theorem wg_field (hG : AllG l) : WgF (.only 2) l e d fieldP := fun st h => by
  have mk : ∀ (n : Int) (s : PS), (n = 0 ∨ n = 1 ∨ n = 2) → (tokP 0 st).bad = 0 → pt (tokP 0 st) ≤ pt s → checkC ⟨2, txtP 0 st, [], n, [], offS st⟩ (.only 2) = 0 ∧ pt st + mC ⟨2, txtP 0 st, [], n, [], offS st⟩ ≤ pt s := fun n s hn b1 hp => by
    have n1 := txt_name (h.gt hG) b1
    have p1 := pt_tok b1
    have m := node_m (t := ⟨2, txtP 0 st, [], n, [], offS st⟩) (by simp only; omega) (by simp only; omega)
    simp only [mL, List.length_nil] at m
    refine ⟨mk_leaf (mk_own rfl rfl ?_ ?_) rfl, by omega⟩
    · unfold namedC; simp only; rw [n1]; rfl
    · rcases hn with rfl | rfl | rfl <;> rfl
  have kx : Bo (tokP 0 st) (expP w_colon (tokP 0 st)) := .exp _ _
  intro hb
  unfold fieldP at hb ⊢
  split
  · rename_i h1
    rw [if_pos h1] at hb
    exact mk 0 _ (.inl rfl) (kx.good hb) (kx.trans (.adv _)).pt
  · rename_i h1
    rw [if_neg h1] at hb
    split
    · rename_i h2
      rw [if_pos h2] at hb
      exact mk 1 _ (.inr (.inl rfl)) (kx.good hb) (kx.trans (.adv _)).pt
    · rename_i h2
      rw [if_neg h2] at hb
      split
      · rename_i h3
        rw [if_pos h3] at hb
        exact mk 2 _ (.inr (.inr rfl)) (kx.good hb) (kx.trans (.adv _)).pt
      · rename_i h3
        rw [if_neg h3] at hb
        have hf := fail_bad (e := 4) (by decide) (expP w_colon (tokP 0 st))
        rw [show (failP 4 (expP w_colon (tokP 0 st))).bad = 0 from hb] at hf
        exact absurd hf (by decide)
theorem type_check {x : Str} {ks : List Syn} {q : Int} (hn : nmS x = true) (hk : ∀ y ∈ ks, checkC y (.only 2) = 0) : checkC ⟨1, x, [], 0, ks, q⟩ (.only 1) = 0 := by
  refine mk_check (mk_own rfl rfl ?_ rfl) fun j y hy => hk y (List.mem_of_getElem? hy)
  unfold namedC; simp only; rw [hn]; rfl
theorem wg_kind (hG : AllG l) : WgF (.only 1) l e d kindP := fun st h => by
  have k1 : Bo st (expP w_ttype st) := .exp _ _
  have k2 : Bo (expP w_ttype st) (tokP 0 (expP w_ttype st)) := .tok _ _
  have k3 : Bo (tokP 0 (expP w_ttype st)) (expP w_lbrace (tokP 0 (expP w_ttype st))) := .exp _ _
  have k : Bo st (expP w_lbrace (tokP 0 (expP w_ttype st))) := (k1.trans k2).trans k3
  intro hb
  unfold kindP at hb ⊢
  simp only at hb ⊢
  have fin : ∀ (ks : List Syn) (s : PS), (expP w_lbrace (tokP 0 (expP w_ttype st))).bad = 0 → (∀ y ∈ ks, checkC y (.only 2) = 0) → pt (expP w_lbrace (tokP 0 (expP w_ttype st))) + mL ks ≤ pt s → checkC ⟨1, txtP 0 (expP w_ttype st), [], 0, ks, offS st⟩ (.only 1) = 0 ∧ pt st + mC ⟨1, txtP 0 (expP w_ttype st), [], 0, ks, offS st⟩ ≤ pt s := fun ks s b3 hk hp => by
    have b2 := k3.good b3
    have b1 := k2.good b2
    have n1 := txt_name ((h.next k1).gt hG) b2
    have p1 := pt_exp b1
    have p2 := pt_tok b2
    have p3 := pt_exp b3
    have m := node_m (t := ⟨1, txtP 0 (expP w_ttype st), [], 0, ks, offS st⟩) (by simp only; omega) (by simp only; omega)
    simp only [List.length_nil] at m
    exact ⟨type_check n1 hk, by omega⟩
  split
  · rename_i h1
    rw [if_pos h1] at hb
    simp only at hb
    have b5 := (Bo.exp w_rbrace _).good hb
    have b4 := (bo_list bof_field trivial).good b5
    have r := wg_list bof_field (wg_field hG) (h.next k) b5
    have p4 := (Bo.exp w_rbrace (listP fieldP (expP w_lbrace (tokP 0 (expP w_ttype st)))).2).pt
    exact fin _ _ b4 r.1 (by simp only; omega)
  · rename_i h1
    rw [if_neg h1] at hb
    simp only at hb
    have b4 := (Bo.exp w_rbrace _).good hb
    have p4 := (Bo.exp w_rbrace (expP w_lbrace (tokP 0 (expP w_ttype st)))).pt
    exact fin [] _ b4 (fun y hy => (List.not_mem_nil hy).elim) (by rw [mL]; simp only; omega)
/-- The key of a query. -/
theorem wg_key (hG : AllG l) (h : At l e d st) (q : Int) (hb : (keyP st q).2.bad = 0) : checkC (keyP st q).1 (.only 4) = 0 ∧ (keyP st q).1.kind = 4 ∧ (keyP st q).1.name = [] ∧ (keyP st q).1.kids = [] ∧ pt st + 5 * (keyP st q).1.text.length ≤ pt (keyP st q).2 := by
  unfold keyP at hb ⊢
  split
  · rename_i h1
    rw [if_pos h1] at hb
    have k0 : Bo st (adv st) := .adv _
    have n1 := txt_name ((h.next k0).gt hG) hb
    have p0 := pt_is h1
    have p1 := pt_tok hb
    refine ⟨mk_leaf (mk_own rfl rfl ?_ rfl) rfl, rfl, rfl, rfl, by simp only; omega⟩
    unfold namedC; simp only; rw [n1]; rfl
  · exact ⟨mk_leaf (mk_own rfl rfl rfl rfl) rfl, rfl, rfl, rfl, by simp⟩
theorem query_m {x : Str} {k y : Syn} {ks : List Syn} {q : Int} (h1 : k.name = []) (h2 : k.kids = []) : mC ⟨3, x, [], 0, [k, y] ++ ks, q⟩ ≤ mC y + mL ks + 2 * x.length + 2 * k.text.length + 50 := by
  have e1 : writeC ⟨3, x, [], 0, [k, y] ++ ks, q⟩ = w_tquery ++ [32] ++ x ++ (if k.text == [] then [] else [32] ++ w_by ++ [32] ++ k.text) ++ [10] ++ w_tmatch ++ [32] ++ writeC y ++ [10] ++ w_treturn ++ [32] ++ joinC (ks.map writeC) ++ [59, 10] := by rw [writeC_eq]; rfl
  have e2 : wC ⟨3, x, [], 0, [k, y] ++ ks, q⟩ = 1 + x.length + (1 + k.text.length) + wC y + wL ks := by
    have : wL ([k, y] ++ ks) = wC k + (wC y + wL ks) := rfl
    rw [wC, this, wC_eq k, h1, h2, wL]
    simp only [List.length_nil]; omega
  have h3 := join_len (ks.map writeC)
  have h4 := mL_len ks
  rw [List.length_map] at h3
  have h5 : (if k.text == [] then [] else [32] ++ w_by ++ [32] ++ k.text : Str).length ≤ k.text.length + 4 := if_len (by simp) (by have q3 : w_by.length = 2 := rfl; simp only [List.length_append, List.length_cons, List.length_nil]; omega)
  have q2 : w_tquery.length = 5 := rfl
  have q4 : w_tmatch.length = 5 := rfl
  have q5 : w_treturn.length = 6 := rfl
  unfold mC
  rw [e1, e2]
  simp only [List.length_append, List.length_cons, List.length_nil] at h5 ⊢
  omega
theorem query_check {x : Str} {k y : Syn} {ks : List Syn} {q : Int} (hn : nmS x = true) (hk : checkC k (.only 4) = 0) (hy : checkC y .pats = 0) (hs : ∀ z ∈ ks, checkC z .exps = 0) (hl : 1 ≤ ks.length) : checkC ⟨3, x, [], 0, [k, y] ++ ks, q⟩ (.only 3) = 0 := by
  refine mk_check (mk_own rfl ?_ ?_ rfl) ?_
  · show decide (3 ≤ ((([k, y] ++ ks : List Syn).length : Int))) = true
    simp only [List.length_append, List.length_cons, List.length_nil, decide_eq_true_eq]; omega
  · unfold namedC; simp only; rw [hn]; rfl
  · intro j z hz
    match j, hz with
    | 0, hz => cases hz; exact hk
    | 1, hz => cases hz; exact hy
    | j + 2, hz =>
      have : kidC ⟨3, x, [], 0, [k, y] ++ ks, q⟩ (j + 2) = .exps := by
        show (if (((j + 2 : Nat) : Int) == 0) then Pl.only 4 else if (((j + 2 : Nat) : Int) == 1) then Pl.pats else Pl.exps) = .exps
        rw [if_neg (by simp only [beq_iff_eq]; omega), if_neg (by simp only [beq_iff_eq]; omega)]
      rw [this]
      exact hs z (List.mem_of_getElem? (i := j) hz)
theorem wg_query (hG : AllG l) {E T : PS → Syn × PS} (sE : Bof E) (hE : WgF .exps l e d E) (sT : Bof T) (hT : WgF .pats l e d T) : WgF (.only 3) l e d (queryP E T) := fun st h => by
  have k0 : Bo st (expP w_tquery st) := .exp _ _
  have k1 : Bo st (tokP 0 (expP w_tquery st)) := k0.trans (.tok _ _)
  have h1 := h.next k1
  have k2 := bo_key (tokP 0 (expP w_tquery st)) (offS st)
  have k3 : Bo (keyP (tokP 0 (expP w_tquery st)) (offS st)).2 (expP w_tmatch (keyP (tokP 0 (expP w_tquery st)) (offS st)).2) := .exp _ _
  have k4 := (k1.trans k2).trans k3
  have k5 := sT (expP w_tmatch (keyP (tokP 0 (expP w_tquery st)) (offS st)).2)
  have k6 : Bo _ (expP w_treturn (T (expP w_tmatch (keyP (tokP 0 (expP w_tquery st)) (offS st)).2)).2) := .exp _ _
  have k7 : Bo _ (listP E (expP w_treturn (T (expP w_tmatch (keyP (tokP 0 (expP w_tquery st)) (offS st)).2)).2)).2 := bo_list sE trivial
  have h4 := h.next k4
  have h6 := h4.next (k5.trans k6)
  intro hb
  unfold queryP at hb ⊢
  simp only at hb ⊢
  have b7 := (Bo.exp w_semi _).good hb
  have b6 := k7.good b7
  have b5 := k6.good b6
  have b4 := k5.good b5
  have b3 := k3.good b4
  have b2 := k2.good b3
  have b1 := (Bo.tok 0 _).good b2
  have n1 := txt_name ((h.next k0).gt hG) b2
  obtain ⟨c1, c2, c3, c4, c5⟩ := wg_key hG h1 (offS st) b3
  obtain ⟨g1, g2⟩ := hT _ h4 b5
  have r := wg_list sE hE h6 b7
  have p1 := pt_exp b1
  have p2 := pt_tok b2
  have p3 := pt_exp b4
  have p4 := pt_exp b6
  have p5 := (Bo.exp w_semi (listP E (expP w_treturn (T (expP w_tmatch (keyP (tokP 0 (expP w_tquery st)) (offS st)).2)).2)).2).pt
  have m := query_m (x := txtP 0 (expP w_tquery st)) (k := (keyP (tokP 0 (expP w_tquery st)) (offS st)).1) (y := (T (expP w_tmatch (keyP (tokP 0 (expP w_tquery st)) (offS st)).2)).1) (ks := (listP E (expP w_treturn (T (expP w_tmatch (keyP (tokP 0 (expP w_tquery st)) (offS st)).2)).2)).1) (q := offS st) c3 c4
  refine ⟨query_check n1 c1 g1 r.1 r.2.2, ?_⟩
  have r2 := r.2.1
  omega
theorem wg_progGo {F : PS → Syn × PS} (sF : Bof F) (hF : WgF p l e d F) {w : Str} : ∀ (n : Nat) (st : PS) (out : List Syn), At l e d st → (progGo w F n st out).2.bad = 0 → ∃ r, (progGo w F n st out).1 = out ++ r ∧ (∀ x ∈ r, checkC x p = 0) ∧ pt st + mL r ≤ pt (progGo w F n st out).2
  | 0, st, out, h, hb => ⟨[], by rw [List.append_nil]; rfl, fun x hx => (List.not_mem_nil hx).elim, Nat.le_refl _⟩
  | n + 1, st, out, h, hb => by
    unfold progGo at hb ⊢
    split
    · rename_i hi
      rw [if_pos hi] at hb
      have k := sF st
      have hb2 := (bo_progGo (w := w) sF n (F st).2 (out ++ [(F st).1])).good hb
      obtain ⟨g1, g2⟩ := hF st h hb2
      obtain ⟨r, r1, r2, r3⟩ := wg_progGo sF hF (w := w) n (F st).2 (out ++ [(F st).1]) (h.next k) hb
      refine ⟨(F st).1 :: r, by rw [r1, List.append_assoc]; rfl, fun x hx => ?_, by rw [mL]; omega⟩
      rcases List.mem_cons.1 hx with rfl | hx
      · exact g1
      · exact r2 x hx
    · exact ⟨[], by rw [List.append_nil], fun x hx => (List.not_mem_nil hx).elim, Nat.le_refl _⟩
theorem prog_check {A B : List Syn} (hA : ∀ x ∈ A, checkC x (.only 1) = 0) (hB : ∀ x ∈ B, checkC x (.only 3) = 0) : checkC ⟨0, [], [], 0, A ++ B, 0⟩ (.only 0) = 0 := by
  refine mk_check (mk_own rfl rfl rfl rfl) fun j x hx => ?_
  have kA : ∀ (i : Nat), i < A.length → (kidN ⟨0, [], [], 0, A ++ B, 0⟩ i).kind = 1 := fun i hi => by
    have e : kidN ⟨0, [], [], 0, A ++ B, 0⟩ i = A[i] := by
      unfold kidN
      rw [List.getD_eq_getElem?_getD, List.getElem?_append_left hi, List.getElem?_eq_getElem hi]; rfl
    rw [e]
    exact only_at (own_at (ok_own (hA _ (List.getElem_mem hi))).1).1
  by_cases hj : j < A.length
  · have hx2 : A[j]? = some x := by rwa [List.getElem?_append_left hj] at hx
    have : kidC ⟨0, [], [], 0, A ++ B, 0⟩ j = .only 1 := by
      show (if ((kidN ⟨0, [], [], 0, A ++ B, 0⟩ j).kind == 1) && (((j : Int) == 0) || ((kidN ⟨0, [], [], 0, A ++ B, 0⟩ (j - 1)).kind == 1)) then Pl.only 1 else Pl.only 3) = .only 1
      rw [kA j hj, kA (j - 1) (by omega)]
      simp
    rw [this]
    exact hA x (List.mem_of_getElem? hx2)
  · have hx2 : B[j - A.length]? = some x := by rwa [List.getElem?_append_right (by omega)] at hx
    have hc := hB x (List.mem_of_getElem? hx2)
    have hk : x.kind = 3 := only_at (own_at (ok_own hc).1).1
    have e : kidN ⟨0, [], [], 0, A ++ B, 0⟩ j = x := by
      unfold kidN
      rw [List.getD_eq_getElem?_getD, hx]; rfl
    have : kidC ⟨0, [], [], 0, A ++ B, 0⟩ j = .only 3 := by
      show (if ((kidN ⟨0, [], [], 0, A ++ B, 0⟩ j).kind == 1) && (((j : Int) == 0) || ((kidN ⟨0, [], [], 0, A ++ B, 0⟩ (j - 1)).kind == 1)) then Pl.only 1 else Pl.only 3) = .only 3
      rw [e, hk]; rfl
    rw [this]
    exact hc
theorem wg_prog (hG : AllG l) (h : At l e d st) (hb : (progP EE TT st).2.bad = 0) : checkC (progP EE TT st).1 (.only 0) = 0 ∧ (writeC (progP EE TT st).1).length ≤ pot l (progP EE TT st).2.pos ∧ wC (progP EE TT st).1 ≤ 1 + pot l (progP EE TT st).2.pos := by
  have hd := h.2.2.2.1
  unfold progP at hb ⊢
  simp only at hb ⊢
  have k1 : Bo st (progGo w_ttype kindP (fuel st) st []).2 := bo_progGo bof_kind _ _ _
  have sq := bof_query bof_EE bof_TT
  have k2 : Bo _ (progGo w_tquery (queryP EE TT) (fuel (progGo w_ttype kindP (fuel st) st []).2) (progGo w_ttype kindP (fuel st) st []).2 (progGo w_ttype kindP (fuel st) st []).1).2 := bo_progGo sq _ _ _
  have hb2 := k2.good hb
  obtain ⟨A, a1, a2, a3⟩ := wg_progGo (w := w_ttype) bof_kind (wg_kind hG) (fuel st) st [] h hb2
  obtain ⟨B, b1, b2, b3⟩ := wg_progGo (w := w_tquery) sq (wg_query hG bof_EE (wg_EE hG hd) bof_TT (wg_TT hG hd)) (fuel (progGo w_ttype kindP (fuel st) st []).2) _ (progGo w_ttype kindP (fuel st) st []).1 (h.next k1) hb
  have ht := (h.next (k1.trans k2)).1
  have e1 : pot l (progGo w_tquery (queryP EE TT) (fuel (progGo w_ttype kindP (fuel st) st []).2) (progGo w_ttype kindP (fuel st) st []).2 (progGo w_ttype kindP (fuel st) st []).1).2.pos = pt (progGo w_tquery (queryP EE TT) (fuel (progGo w_ttype kindP (fuel st) st []).2) (progGo w_ttype kindP (fuel st) st []).2 (progGo w_ttype kindP (fuel st) st []).1).2 := by unfold pt; rw [ht]
  have hk : (progGo w_tquery (queryP EE TT) (fuel (progGo w_ttype kindP (fuel st) st []).2) (progGo w_ttype kindP (fuel st) st []).2 (progGo w_ttype kindP (fuel st) st []).1).1 = A ++ B := by rw [b1, a1, List.nil_append]
  rw [e1, hk]
  have m := mL_len (A ++ B)
  have m2 := mL_app A B
  have e2 : writeC ⟨0, [], [], 0, A ++ B, 0⟩ = ((A ++ B).map writeC).flatten := by rw [writeC_eq]; rfl
  have e3 : wC ⟨0, [], [], 0, A ++ B, 0⟩ = 1 + wL (A ++ B) := by rw [wC]; simp
  rw [e2, e3, flat_len]
  exact ⟨prog_check a2 b2, by omega, by omega⟩
/-- What is read from a short text. -/
theorem parsed {s : Str} (hs : s.length ≤ 800) (h : (parseP (progP EE TT) s).2.2 = 0) : checkC (parseP (progP EE TT) s).1 (.only 0) = 0 ∧ (writeC (parseP (progP EE TT) s).1).length ≤ 65536 ∧ medC (parseP (progP EE TT) s).1 := by
  obtain ⟨h1, h2, h3, h4⟩ := parse_good h
  have hw := scan_worth h1
  have hA : At (scanS s).1 s.length 0 (beginS (scanS s).1 s.length) := ⟨rfl, rfl, rfl, Int.le_refl _, by decide⟩
  have r := wg_prog (fun t ht => hw.1 t ht) hA h2
  have ht := pot_top (scanS s).1 (progP EE TT (beginS (scanS s).1 s.length)).2.pos
  have e : (parseP (progP EE TT) s).1 = (progP EE TT (beginS (scanS s).1 s.length)).1 := congrArg (fun x => x.1) h4
  rw [e]
  refine ⟨r.1, by omega, ?_⟩
  unfold medC
  omega
end Go.Proofs.YtabkeeedkhgodaaGreatDoor

namespace Go.Proofs.YtabkeeedkhgodaaGreatDoor
open Go Go.Aw
set_option linter.unusedVariables false
set_option linter.unusedSimpArgs false
set_option maxRecDepth 100000

theorem ek (t : Syn) : (erS t).kind = t.kind := by rw [erS_eq]
theorem ex (t : Syn) : (erS t).text = t.text := by rw [erS_eq]
theorem en (t : Syn) : (erS t).name = t.name := by rw [erS_eq]
theorem em (t : Syn) : (erS t).num = t.num := by rw [erS_eq]
theorem el (t : Syn) : (erS t).kids.length = t.kids.length := by rw [erS_kids, List.length_map]
theorem ekid (t : Syn) (i : Nat) : kidN (erS t) i = erS (kidN t i) := by
  unfold kidN
  rw [erS_kids, List.getD_eq_getElem?_getD, List.getD_eq_getElem?_getD, List.getElem?_map]
  cases t.kids[i]? with
  | none => exact erS_z.symm
  | some a => rfl
theorem node_er (t : Syn) (ws : List Str) : nodeT (erS t) ws = nodeT t ws := by
  unfold nodeT litT wrapT
  simp only [ek, ex, en, em, ekid]
theorem write_er (t : Syn) : writeC (erS t) = writeC t := by
  refine Syn.ind (P := fun t => writeC (erS t) = writeC t) (fun t ih => ?_) t
  rw [writeC_eq, writeC_eq t, node_er, erS_kids, List.map_map]
  congr 1
  exact List.map_congr_left fun a ha => ih a ha
theorem wL_er : ∀ (l : List Syn), (∀ a ∈ l, wC (erS a) = wC a) → wL (l.map erS) = wL l
  | [], _ => rfl
  | x :: r, h => by rw [List.map_cons, wL, wL, h x (List.mem_cons_self ..), wL_er r fun a ha => h a (List.mem_cons_of_mem _ ha)]
theorem w_er (t : Syn) : wC (erS t) = wC t := by
  refine Syn.ind (P := fun t => wC (erS t) = wC t) (fun t ih => ?_) t
  rw [wC_eq, wC_eq t, ex, en, erS_kids, wL_er _ ih]
theorem depthL_er (k : Int) : ∀ (l : List Syn), (∀ a ∈ l, depthC (erS a) = depthC a) → depthL k (l.map erS) = depthL k l
  | [], _ => rfl
  | x :: r, h => by rw [List.map_cons, depthL, depthL, h x (List.mem_cons_self ..), ek, depthL_er k r fun a ha => h a (List.mem_cons_of_mem _ ha)]
theorem depth_er2 (t : Syn) : depthC (erS t) = depthC t := by
  refine Syn.ind (P := fun t => depthC (erS t) = depthC t) (fun t ih => ?_) t
  rw [depthC_eq, depthC_eq t, ek, erS_kids, depthL_er _ _ ih]
theorem own_er (p : Pl) (t : Syn) : ownC p (erS t) = ownC p t := by
  unfold ownC shapeC namedC fieldsC constC numC
  simp only [ek, ex, en, em, el]
theorem kid_er (t : Syn) (i : Nat) : kidC (erS t) i = kidC t i := by
  unfold kidC
  simp only [ek, ekid]
theorem kidsE_er (t : Syn) : ∀ (l : List Syn) (i : Nat), (∀ a ∈ l, ∀ p, checkC (erS a) p = checkC a p) → kidsE (erS t) i (l.map erS) = kidsE t i l
  | [], _, _ => rfl
  | x :: r, i, h => by rw [List.map_cons, kidsE, kidsE, kid_er, h x (List.mem_cons_self ..), kidsE_er t r (i + 1) fun a ha => h a (List.mem_cons_of_mem _ ha)]
theorem check_er (t : Syn) : ∀ p, checkC (erS t) p = checkC t p := by
  refine Syn.ind (P := fun t => ∀ p, checkC (erS t) p = checkC t p) (fun t ih p => ?_) t
  rw [checkC_eq, checkC_eq t, own_er, erS_kids, kidsE_er t _ 0 ih]
theorem written_er (t : Syn) (p : Pl) : writtenC (erS t) p = writtenC t p := by
  unfold writtenC
  rw [check_er, depth_er2, write_er]
/-- What is read of a short text, printed and read again. -/
theorem settles {s : Str} (hs : s.length ≤ 800) (h : (parseP (progP EE TT) s).2.2 = 0) :
    medC (parseP (progP EE TT) s).1 ∧ (((writtenC (parseP (progP EE TT) s).1 (.only 0)).2 == 12) = false →
      writtenC (parseP (progP EE TT) s).1 (.only 0) = (writeC (parseP (progP EE TT) s).1, 0) ∧ (writeC (parseP (progP EE TT) s).1).length ≤ 65536 ∧
      (parseP (progP EE TT) (writeC (parseP (progP EE TT) s).1)).2 = (0, 0) ∧
      medC (parseP (progP EE TT) (writeC (parseP (progP EE TT) s).1)).1 ∧
      writtenC (parseP (progP EE TT) (writeC (parseP (progP EE TT) s).1)).1 (.only 0) = (writeC (parseP (progP EE TT) s).1, 0) ∧
      sameN (parseP (progP EE TT) s).1 (parseP (progP EE TT) (writeC (parseP (progP EE TT) s).1)).1 = true) := by
  obtain ⟨h1, h2, h3⟩ := parsed hs h
  generalize (parseP (progP EE TT) s).1 = t at h1 h2 h3 ⊢
  refine ⟨h3, fun h4 => ?_⟩
  have hd : depthC t ≤ 64 := by
    by_cases hd : depthC t ≤ 64
    · exact hd
    · exfalso
      have e : writtenC t (.only 0) = ([], 12) := by
        unfold writtenC
        rw [if_neg (by rw [h1]; decide), if_pos (by simp only [decide_eq_true_eq]; omega)]
      rw [e] at h4
      cases h4
  have hw : writtenC t (.only 0) = (writeC t, 0) := by
    unfold writtenC
    rw [if_neg (by rw [h1]; decide), if_neg (by simp only [decide_eq_true_eq]; omega), if_neg (by simp only [decide_eq_true_eq]; omega)]
  obtain ⟨b1, b2⟩ := prog_back h1 hd h2
  generalize (parseP (progP EE TT) (writeC t)).1 = u at b2 ⊢
  refine ⟨hw, h2, b1, ?_, ?_, sameN_er _ _ b2.symm⟩
  · unfold medC at h3 ⊢
    rw [← w_er u, b2, w_er t]; exact h3
  · rw [← written_er u, b2, written_er t]; exact hw
end Go.Proofs.YtabkeeedkhgodaaGreatDoor
