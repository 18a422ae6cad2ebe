/-
  Several texts in one: Q1, Q2, Q3, Q4, Q5, Q6, Q7. No condition.
-/
import Derived.Test.YtabkeeedkhgodaaGreatDoorM13
import Derived.Test.YtabkeeedkhgodaaGreatDoorP19
import Derived.Test.YtabkeeedkhgodaaGreatDoorQ0
namespace Go.Proofs.YtabkeeedkhgodaaGreatDoor
open Go Go.Aw
set_option linter.unusedVariables false
set_option linter.unusedSimpArgs false
set_option maxRecDepth 100000

/-! Numerals. -/
theorem dec_digits (n : Nat) : (Lib.decDigits n).all digitS = true ∧ 0 < (Lib.decDigits n).length := by
  induction n using Nat.strongRecOn with
  | _ n ih =>
    have key : ∀ k, k < 10 → digitS (UInt8.ofNat (48 + k)) = true := by
      intro k hk
      have := (show (List.range 10).all (fun k => digitS (UInt8.ofNat (48 + k))) = true by kernel_rfl)
      rw [List.all_eq_true] at this
      exact this k (List.mem_range.2 hk)
    by_cases h : n < 10
    · rw [Lib.decDigits, dif_pos h]
      exact ⟨by rw [List.all_cons, key n h]; rfl, by simp⟩
    · rw [Lib.decDigits, dif_neg h]
      obtain ⟨h1, h2⟩ := ih (n / 10) (by omega)
      exact ⟨by rw [List.all_append, h1, List.all_cons, key _ (Nat.mod_lt _ (by decide))]; rfl, by simp⟩
theorem numGo_app : ∀ (a b : Str) (n : Int), (numGo a n).2 = 0 → numGo (a ++ b) n = numGo b (numGo a n).1
  | [], b, n, _ => rfl
  | c :: r, b, n, h => by
    rw [List.cons_append, numGo, numGo]
    rw [numGo] at h
    split at h
    · cases h
    · rename_i h1
      rw [if_neg h1, if_neg h1]
      exact numGo_app r b _ h
theorem dv_digit {k : Nat} (hk : k < 10) : dvS (UInt8.ofNat (48 + k)) = (k : Int) := by
  have := (show (List.range 10).all (fun k => dvS (UInt8.ofNat (48 + k)) == (k : Int)) = true by kernel_rfl)
  rw [List.all_eq_true] at this
  simpa using this k (List.mem_range.2 hk)
theorem numGo_dec (n : Nat) (h : n ≤ 1099511627776) : numGo (Lib.decDigits n) 0 = ((n : Int), 0) := by
  induction n using Nat.strongRecOn with
  | _ n ih =>
    by_cases h1 : n < 10
    · rw [Lib.decDigits, dif_pos h1, numGo, dv_digit h1, if_neg (by simp only [decide_eq_true_eq]; omega), numGo]
      simp
    · rw [Lib.decDigits, dif_neg h1]
      have h2 := ih (n / 10) (by omega) (by omega)
      rw [numGo_app _ _ _ (by rw [h2]), h2, numGo, dv_digit (Nat.mod_lt _ (by decide)), if_neg (by simp only [decide_eq_true_eq]; omega), numGo]
      have : 10 * ((n / 10 : Nat) : Int) + ((n % 10 : Nat) : Int) = (n : Int) := by omega
      rw [this]
theorem all_span {s : Str} (h : s.all digitS = true) : spanS digitS s = s.length := by
  have := span_all digitS s
  rw [h] at this
  exact of_decide_eq_true this
theorem numS_dec {n : Nat} (h : n ≤ 1099511627776) : numS (Lib.decDigits n) = ((n : Int), 0) := by
  obtain ⟨h1, h2⟩ := dec_digits n
  have e : (Lib.decDigits n == []) = false := by
    cases hd : Lib.decDigits n with
    | nil => rw [hd] at h2; cases h2
    | cons c r => rfl
  unfold numS
  rw [e, all_span h1, Bool.false_or, if_neg (by simp), numGo_dec n h]

/-! Pieces. -/
theorem Pe.one {u rest : Str} {k : Int} {x : Str} (h0 : 0 < u.length) (hs : sepS (u ++ rest) = 0) (hn : nextF (u ++ rest) = foT k x u.length) : Pe u [⟨k, x, 0⟩] rest := by
  have h := Sc.tok (s := u ++ rest) (i := 0) (l := []) (j := u.length) (by rw [List.length_append]; omega) hs (by show (nextF (u ++ rest)).err = 0; rw [hn]; rfl)
    (by show Sc _ (0 + (nextF (u ++ rest)).bytes.toNat) [] u.length; rw [hn]; show Sc _ (0 + ((u.length : Int)).toNat) [] _; rw [Int.toNat_natCast, Nat.zero_add]; exact .nil _)
  have e : nextF ((u ++ rest).drop 0) = foT k x u.length := hn
  rw [e] at h
  exact ⟨_, h, rfl⟩
/-- Not the first byte of a separator. -/
def nsep (c : UInt8) : Bool := decide (c ≠ 35) && !decide (0 ≤ Lib.indexByte [32, 9, 13, 10] c)
theorem sep_no {c : UInt8} {r : Str} (h : nsep c = true) : sepS (c :: r) = 0 := by
  unfold nsep at h
  simp only [Bool.and_eq_true, decide_eq_true_eq, Bool.not_eq_true'] at h
  rw [sep_head h.1, h.2]; rfl
theorem letter_nsep (c : UInt8) : (!letterS c || nsep c) = true := u8_all (p := fun c => !letterS c || nsep c) (by kernel_rfl) c
theorem digit_nsep (c : UInt8) : (!digitS c || (nsep c && !letterS c)) = true := u8_all (p := fun c => !digitS c || (nsep c && !letterS c)) (by kernel_rfl) c
theorem Sepd.word {w : Str} (h : Sepd w) : ∀ c r, w = c :: r → wordS c = false := fun c r e => (h c r e).1
theorem Sepd.digit {w : Str} (h : Sepd w) : ∀ c r, w = c :: r → digitS c = false := fun c r e => (word_no (h c r e).1).2
/-- A name. -/
theorem name_is {s : Str} (h : nmS s = true) : 0 < s.length ∧ s.length ≤ 24 ∧ letterS (bt s 0) = true ∧ spanS wordS s = s.length ∧ keyS s = false := by
  unfold nmS at h
  rw [name_eq] at h
  unfold nameR at h
  split at h
  · cases h
  · rename_i h1
    simp only [Bool.or_eq_true, not_or, Bool.not_eq_true, decide_eq_true_eq, Bool.not_eq_true', bne_iff_ne, ne_eq, Decidable.not_not] at h1
    obtain ⟨⟨⟨⟨h1, h2⟩, h3⟩, h4⟩, h5⟩ := h1
    refine ⟨?_, by omega, by simpa using h3, by omega, by rw [key_eq]; exact h5⟩
    cases s with
    | nil => cases h1
    | cons c r => simp
theorem Pe.name {s rest : Str} (h : nmS s = true) (hr : Sepd rest) : Pe s [⟨0, s, 0⟩] rest := by
  obtain ⟨h0, h1, h2, h3, h4⟩ := name_is h
  obtain ⟨c, r, rfl⟩ : ∃ c r, s = c :: r := by cases s with | nil => cases h0 | cons c r => exact ⟨c, r, rfl⟩
  refine Pe.one h0 ?_ ?_
  · have := letter_nsep c
    rw [show letterS c = true from h2] at this
    exact sep_no this
  · have e : spanS wordS ((c :: r) ++ rest) = (c :: r).length := by rw [span_left hr.word, h3]
    rw [next_word (u := (c :: r) ++ rest) h2 (by simp), e, if_neg (by simp only [decide_eq_true_eq]; omega), List.take_left']
    rfl
/-- A word or a sign that is always the same. -/
theorem Pe.const {w rest : Str} {t : Tok} (h : (scanS w).1.map erT = [t]) (h2 : (scanS w).2.2 = 0) (hn : 35 ∉ w) (hr : Sepd rest) : Pe w [t] rest := by
  rw [← h]; exact .text h2 hn hr
def signOk (c : UInt8) : Bool := nsep c && !letterS c && !digitS c && !((c.toNat : Int) == 34) && (signV c true == some [c]) && (signV c false == some [c])
theorem Pe.sign {c : UInt8} (h : signOk c = true) (rest : Str) : Pe [c] [⟨3, [c], 0⟩] rest := by
  unfold signOk at h
  simp only [Bool.and_eq_true, Bool.not_eq_true', beq_iff_eq] at h
  obtain ⟨⟨⟨⟨⟨h1, h2⟩, h3⟩, h4⟩, h5⟩, h6⟩ := h
  refine Pe.one (by simp) (sep_no h1) ?_
  show nextF (c :: rest) = _
  rw [next_sign (u := c :: rest) h2 h3 (show (((c.toNat : Int) == 34)) = false from h4) (by simp), signF_cons]
  cases Lib.hasPrefix rest [61]
  · rw [h6]
  · rw [h5]
theorem Pe.lf (rest : Str) : Pe [10] [] rest := ⟨[], space_sc (c := 10) (r := rest) rfl (by decide) (.nil _), rfl⟩
theorem Pe.dec {n : Nat} (h : n ≤ 1099511627776) {rest : Str} (hr : Sepd rest) : Pe (Lib.decDigits n) [⟨1, Lib.decDigits n, 0⟩] rest := by
  obtain ⟨h1, h0⟩ := dec_digits n
  have h2 := numS_dec h
  generalize Lib.decDigits n = s at h0 h1 h2
  have h3 := all_span h1
  obtain ⟨c, r, rfl⟩ : ∃ c r, s = c :: r := by cases s with | nil => cases h0 | cons c r => exact ⟨c, r, rfl⟩
  have hd : digitS c = true := by rw [List.all_cons, Bool.and_eq_true] at h1; exact h1.1
  have hs := digit_nsep c
  rw [hd] at hs
  simp only [Bool.not_true, Bool.false_or, Bool.and_eq_true, Bool.not_eq_true'] at hs
  refine Pe.one h0 (sep_no hs.1) ?_
  have e : spanS digitS ((c :: r) ++ rest) = (c :: r).length := by rw [span_left hr.digit, h3]
  rw [next_num (u := (c :: r) ++ rest) hs.2 hd (by simp), e, List.take_left', h2, if_neg (by simp)]
  · rw [if_neg]
    rw [bt_right]
    simp only [Bool.and_eq_true, not_and, Bool.not_eq_true, decide_eq_true_eq]
    intro hl
    cases rest with
    | nil => simp at hl
    | cons a q => exact (word_no (hr a q rfl).1).1
  · rfl
theorem Pe.quote {s : Str} (h : s.length ≤ 64) (rest : Str) : Pe ([34] ++ quoteGo s ++ [34]) [⟨2, s, 0⟩] rest := by
  have e : ([34] ++ quoteGo s ++ [34] : Str) ++ rest = 34 :: (quoteGo s ++ 34 :: rest) := by simp
  refine Pe.one (by simp) ?_ ?_
  · rw [e]; exact sep_no (by kernel_rfl)
  · rw [e, next_quote s rest h]
    have : ((([34] ++ quoteGo s ++ [34] : Str).length : Nat) : Int) = ((quoteGo s).length : Int) + 2 := by simp; omega
    rw [this]

/-! The tokens of a tree. -/
abbrev tg (w : Str) : Tok := ⟨3, w, 0⟩
def numK (n : Int) : List Tok := if n < 0 then [tg w_sub, ⟨1, Lib.decDigits n.natAbs, 0⟩] else [⟨1, Lib.decDigits n.toNat, 0⟩]
def litK (t : Syn) : List Tok :=
  if (t.name == w_tint) then numK t.num
  else if (t.name == w_tbool) then if (t.num == 1) then [tw w_ttrue] else [tw w_tfalse]
  else [⟨2, t.text, 0⟩]
def wrapK (p k : Syn) (l : List Tok) : List Tok := if closedC p.kind k.kind then [tlp] ++ l ++ [trp] else l
def joinK : List (List Tok) → List Tok
  | [] => []
  | [x] => x
  | x :: y :: r => x ++ [tcm] ++ joinK (y :: r)
def operK (n : Int) : Tok := if (n == 10) || (n == 11) then tw (operT n) else tg (operT n)
def nodeK (t : Syn) (ws : List (List Tok)) : List Tok :=
  if (t.kind == 0) then ws.flatten
  else if (t.kind == 1) then [tw w_ttype] ++ [] ++ [tw t.text] ++ [tg w_lbrace] ++ joinK ws ++ [tg w_rbrace]
  else if (t.kind == 2) then [tw t.text] ++ [tg w_colon] ++ [tw (kindT t.num)]
  else if (t.kind == 3) then [tw w_tquery] ++ [] ++ [tw t.text] ++ (if (kidN t 0).text == [] then [] else [tw w_by] ++ [tw (kidN t 0).text]) ++ [] ++ [tw w_tmatch] ++ [] ++ ws.getD 1 [] ++ [] ++ [tw w_treturn] ++ [] ++ joinK (ws.drop 2) ++ [tg w_semi]
  else if (t.kind == 5) then [tw t.text] ++ [] ++ [tw t.name] ++ (if ws == [] then [] else [tw w_tif] ++ ws.getD 0 [])
  else if (t.kind == 13) then litK t
  else if (t.kind == 14) then [tw t.text] ++ [tg w_dot] ++ [tw t.name]
  else if (t.kind == 15) then [tw w_tcount] ++ [tlp] ++ [tw t.text] ++ [trp]
  else if (t.kind == 16) then [tw (aggT t.num)] ++ [tlp] ++ [tw t.text] ++ [tg w_dot] ++ [tw t.name] ++ (if ws == [] then [] else [tcm] ++ ws.getD 0 []) ++ [trp]
  else if (t.kind == 17) then wrapK t (kidN t 0) (ws.getD 0 []) ++ [] ++ [operK t.num] ++ [] ++ wrapK t (kidN t 1) (ws.getD 1 [])
  else if (t.kind == 18) then [tw w_tnot] ++ [] ++ wrapK t (kidN t 0) (ws.getD 0 [])
  else [tw (callT t.kind)] ++ [tlp] ++ joinK ws ++ (if (t.kind == 11) then [tcm] ++ numK t.num else []) ++ [trp]
mutual
def toksC : Syn → List Tok
  | ⟨k, x, n, m, kids, p⟩ => nodeK ⟨k, x, n, m, kids, p⟩ (toksM kids)
def toksM : List Syn → List (List Tok)
  | [] => []
  | x :: r => toksC x :: toksM r
end
theorem toksM_map : ∀ l : List Syn, toksM l = l.map toksC
  | [] => by rw [toksM, List.map_nil]
  | x :: r => by rw [toksM, toksM_map r, List.map_cons]
theorem toksC_eq (t : Syn) : toksC t = nodeK t (t.kids.map toksC) := by cases t; rw [toksC, toksM_map]
end Go.Proofs.YtabkeeedkhgodaaGreatDoor

namespace Go.Proofs.YtabkeeedkhgodaaGreatDoor
open Go Go.Aw
set_option linter.unusedVariables false
set_option linter.unusedSimpArgs false
set_option maxRecDepth 100000

/-! Pieces that are always the same. -/
theorem Pe.as {u rest : Str} {L M : List Tok} (h : Pe u L rest) (e : L = M) : Pe u M rest := e ▸ h
theorem pe_comma (rest : Str) : Pe [44, 32] [tcm] rest := (Pe.sign (by kernel_rfl) _).app (.space rest)
theorem pe_lbrace (rest : Str) : Pe [32, 123] [tg w_lbrace] rest := (Pe.space _).app (Pe.sign (by kernel_rfl) rest)
theorem pe_rbrace (rest : Str) : Pe [125, 10] [tg w_rbrace] rest := (Pe.sign (c := 125) (by kernel_rfl) _).app (.lf rest)
theorem pe_colon (rest : Str) : Pe [58, 32] [tg w_colon] rest := (Pe.sign (c := 58) (by kernel_rfl) _).app (.space rest)
theorem pe_semi (rest : Str) : Pe [59, 10] [tg w_semi] rest := (Pe.sign (c := 59) (by kernel_rfl) _).app (.lf rest)
theorem pe_lp (rest : Str) : Pe [40] [tlp] rest := .lpar rest
theorem pe_rp (rest : Str) : Pe [41] [trp] rest := Pe.sign (by kernel_rfl) rest
theorem pe_dot (rest : Str) : Pe [46] [tg w_dot] rest := Pe.sign (by kernel_rfl) rest
theorem sp (w : Str) : Sepd (32 :: w) := sep_of (by decide) (by decide)
theorem nl (w : Str) : Sepd (10 :: w) := sep_of (by decide) (by decide)
theorem lp (w : Str) : Sepd (40 :: w) := sep_of (by decide) (by decide)
theorem rp (w : Str) : Sepd (41 :: w) := sep_of (by decide) (by decide)
theorem cm (w : Str) : Sepd (44 :: w) := sep_of (by decide) (by decide)
/-- Words of the language. -/
def wordK : List Str := [w_ttype, w_tquery, w_by, w_tmatch, w_treturn, w_tif, w_tcount, w_tnot, w_tint, w_tbool, w_tstring, w_ttrue, w_tfalse, w_tsum, w_tmin, w_tmax, w_tfirst, w_tlast, w_seq, w_alt, w_all, w_plus, w_lacks, w_within, w_twhere, w_tand, w_tor, w_ttime]
theorem pe_word {w rest : Str} (h : w ∈ wordK) (hr : Sepd rest) : Pe w [tw w] rest := by
  have key : wordK.all (fun w => ((scanS w).1.map erT == [tw w]) && ((scanS w).2.2 == 0) && !(w.contains 35)) = true := by kernel_rfl
  rw [List.all_eq_true] at key
  have := key w h
  simp only [Bool.and_eq_true, beq_iff_eq, Bool.not_eq_true', List.contains_eq_mem, decide_eq_false_iff_not] at this
  exact .const this.1.1 this.1.2 this.2 hr
theorem pe_itoa {n : Int} (h1 : -1099511627776 ≤ n) (h2 : n ≤ 1099511627776) {rest : Str} (hr : Sepd rest) : Pe (Lib.itoa n) (numK n) rest := by
  unfold Lib.itoa numK
  split
  · exact (Pe.sign (c := 45) (by kernel_rfl) _).app (u := [45]) (L := [tg w_sub]) (.dec (by omega) hr)
  · exact .dec (by omega) hr
theorem pe_join : ∀ l : List Syn, (∀ a ∈ l, ∀ rest, Sepd rest → Pe (writeC a) (toksC a) rest) → ∀ rest, Sepd rest → Pe (joinC (l.map writeC)) (joinK (l.map toksC)) rest
  | [], _, rest, _ => .nil rest
  | [a], h, rest, hr => h a (by simp) rest hr
  | a :: b :: r, h, rest, hr => by
    have ih := pe_join (b :: r) (fun x hx => h x (List.mem_cons_of_mem _ hx)) rest hr
    exact ((h a (by simp) _ (cm _)).app (pe_comma _)).app ih
theorem pe_wrap {p t : Syn} (h : ∀ rest, Sepd rest → Pe (writeC t) (toksC t) rest) {rest : Str} (hr : Sepd rest) : Pe (wrapT p t (writeC t)) (wrapK p t (toksC t)) rest := by
  unfold wrapT wrapK
  split
  · exact ((pe_lp _).app (h _ (rp _))).app (pe_rp _)
  · exact h _ hr
/-- A node of a tree, its kids. -/
theorem name_of {t : Syn} (h : namedC t = true) (hk : (usesC t.kind).1 = true) (h4 : t.kind ≠ 4) : nmS t.text = true := by
  unfold namedC at h
  rw [hk] at h
  have e : (t.kind != 4) = true := by simpa using h4
  rw [e] at h
  simp only [Bool.true_and, Bool.true_or, Bool.and_true, Bool.not_eq_true'] at h
  split at h
  · cases h
  · rename_i h1; simpa using h1
theorem name2_of {t : Syn} (h : namedC t = true) (hk : (usesC t.kind).2 = true) (h14 : t.kind ≠ 14) : nmS t.name = true := by
  unfold namedC at h
  split at h
  · cases h
  · rw [hk] at h
    have e : (t.kind == 14) = false := by simpa using h14
    rw [e] at h
    simpa using h
theorem name2_ref {t : Syn} (h : namedC t = true) (hk : t.kind = 14) : nmS t.name = true ∨ t.name = w_ttime := by
  unfold namedC at h
  split at h
  · cases h
  · rw [hk] at h
    have e : (usesC 14).2 = true := by decide
    rw [e] at h
    simpa using h
def PT (t : Syn) : Prop := ∀ rest, Sepd rest → Pe (writeC t) (toksC t) rest
/-- What follows may be anything. -/
def PA (t : Syn) : Prop := ∀ rest, Pe (writeC t) (toksC t) rest

section
variable {t : Syn} {p : Pl}
theorem pe_lit (h : checkC t p = 0) (hk : t.kind = 13) : PT t := by
  obtain ⟨_, _, _, hf⟩ := own_at (ok_own h).1
  intro rest hr
  rw [writeC_eq, toksC_eq]
  have e1 : ∀ ws, nodeT t ws = litT t := fun ws => by unfold nodeT; rw [hk]; rfl
  have e2 : ∀ ws, nodeK t ws = litK t := fun ws => by unfold nodeK; rw [hk]; rfl
  rw [e1, e2]
  unfold fieldsC at hf
  rw [hk] at hf
  replace hf : constC t = 0 := hf
  unfold constC at hf
  unfold litT litK
  split at hf
  · rename_i h1
    rw [if_pos h1, if_pos h1]
    split at hf
    · cases hf
    · rename_i h2
      simp only [Bool.or_eq_true, decide_eq_true_eq, not_or] at h2
      exact pe_itoa (by omega) (by omega) hr
  · rename_i h1
    rw [if_neg h1, if_neg h1]
    split at hf
    · rename_i h2
      rw [if_pos h2, if_pos h2]
      split
      · exact pe_word (by decide) hr
      · exact pe_word (by decide) hr
    · rename_i h2
      rw [if_neg h2, if_neg h2]
      split at hf
      · split at hf
        · cases hf
        · rename_i h3
          simp only [decide_eq_true_eq] at h3
          unfold quoteS
          rw [if_neg (by simp only [decide_eq_true_eq]; exact h3)]
          exact Pe.quote (by omega) rest
      · cases hf
theorem pe_ref (h : checkC t p = 0) (hk : t.kind = 14) : PT t := by
  obtain ⟨_, _, hn, _⟩ := own_at (ok_own h).1
  intro rest hr
  rw [writeC_eq, toksC_eq]
  have e1 : ∀ ws, nodeT t ws = t.text ++ [46] ++ t.name := fun ws => by unfold nodeT; rw [hk]; rfl
  have e2 : ∀ ws, nodeK t ws = [tw t.text] ++ [tg w_dot] ++ [tw t.name] := fun ws => by unfold nodeK; rw [hk]; rfl
  rw [e1, e2]
  refine ((Pe.name (name_of hn (by rw [hk]; rfl) (by omega)) (sep_of (by decide) (by decide))).app (pe_dot _)).app ?_
  rcases name2_ref hn hk with h1 | h1
  · exact .name h1 hr
  · rw [h1]; exact pe_word (by decide) hr
theorem pe_count (h : checkC t p = 0) (hk : t.kind = 15) : PT t := by
  obtain ⟨_, _, hn, _⟩ := own_at (ok_own h).1
  intro rest hr
  rw [writeC_eq, toksC_eq]
  have e1 : ∀ ws, nodeT t ws = w_tcount ++ [40] ++ t.text ++ [41] := fun ws => by unfold nodeT; rw [hk]; rfl
  have e2 : ∀ ws, nodeK t ws = [tw w_tcount] ++ [tlp] ++ [tw t.text] ++ [trp] := fun ws => by unfold nodeK; rw [hk]; rfl
  rw [e1, e2]
  exact (((pe_word (by decide) (lp _)).app (pe_lp _)).app (.name (name_of hn (by rw [hk]; rfl) (by omega)) (rp _))).app (pe_rp _)
theorem pe_field (h : checkC t p = 0) (hk : t.kind = 2) : PT t := by
  obtain ⟨_, _, hn, hf⟩ := own_at (ok_own h).1
  intro rest hr
  rw [writeC_eq, toksC_eq]
  have e1 : ∀ ws, nodeT t ws = t.text ++ [58, 32] ++ kindT t.num := fun ws => by unfold nodeT; rw [hk]; rfl
  have e2 : ∀ ws, nodeK t ws = [tw t.text] ++ [tg w_colon] ++ [tw (kindT t.num)] := fun ws => by unfold nodeK; rw [hk]; rfl
  rw [e1, e2]
  refine ((Pe.name (name_of hn (by rw [hk]; rfl) (by omega)) (sep_of (by decide) (by decide))).app (pe_colon _)).app ?_
  unfold kindT
  split
  · exact pe_word (by decide) hr
  · split
    · exact pe_word (by decide) hr
    · exact pe_word (by decide) hr
theorem agg_word (n : Int) : aggT n ∈ wordK := by
  unfold aggT
  repeat' split
  all_goals decide
theorem call_word (n : Int) : callT n ∈ wordK := by
  unfold callT
  repeat' split
  all_goals decide
theorem pe_total (h : checkC t p = 0) (hk : t.kind = 16) (ih : ∀ a ∈ t.kids, PT a) : PT t := by
  obtain ⟨_, hs, hn, hf⟩ := own_at (ok_own h).1
  intro rest hr
  rw [writeC_eq, toksC_eq]
  have e1 : ∀ ws, nodeT t ws = aggT t.num ++ [40] ++ t.text ++ [46] ++ t.name ++ (if ws == [] then [] else [44, 32] ++ ws.getD 0 []) ++ [41] := fun ws => by unfold nodeT; rw [hk]; rfl
  have e2 : ∀ ws, nodeK t ws = [tw (aggT t.num)] ++ [tlp] ++ [tw t.text] ++ [tg w_dot] ++ [tw t.name] ++ (if ws == [] then [] else [tcm] ++ ws.getD 0 []) ++ [trp] := fun ws => by unfold nodeK; rw [hk]; rfl
  rw [e1, e2]
  have e3 : ∀ rest : Str, Pe (aggT t.num ++ [40] ++ t.text ++ [46]) ([tw (aggT t.num)] ++ [tlp] ++ [tw t.text] ++ [tg w_dot]) rest := fun rest =>
    (((pe_word (agg_word _) (lp _)).app (pe_lp _)).app (.name (name_of hn (by rw [hk]; rfl) (by omega)) (sep_of (by decide) (by decide)))).app (pe_dot rest)
  have n2 := name2_of hn (by rw [hk]; rfl) (by omega)
  match hq : t.kids with
  | [] => exact (((e3 _).app (.name n2 (rp _))).app (.nil _)).app (pe_rp rest)
  | a :: r =>
    have ha := ih a (by rw [hq]; simp)
    exact (((e3 _).app (.name n2 (cm _))).app ((pe_comma _).app (ha _ (rp _)))).app (pe_rp rest)
theorem pe_event (h : checkC t p = 0) (hk : t.kind = 5) (ih : ∀ a ∈ t.kids, PT a) : PT t := by
  obtain ⟨_, hs, hn, hf⟩ := own_at (ok_own h).1
  intro rest hr
  rw [writeC_eq, toksC_eq]
  have e1 : ∀ ws, nodeT t ws = t.text ++ [32] ++ t.name ++ (if ws == [] then [] else [32] ++ w_tif ++ [32] ++ ws.getD 0 []) := fun ws => by unfold nodeT; rw [hk]; rfl
  have e2 : ∀ ws, nodeK t ws = [tw t.text] ++ [] ++ [tw t.name] ++ (if ws == [] then [] else [tw w_tif] ++ ws.getD 0 []) := fun ws => by unfold nodeK; rw [hk]; rfl
  rw [e1, e2]
  have n1 := name_of hn (by rw [hk]; rfl) (by omega)
  have n2 := name2_of hn (by rw [hk]; rfl) (by omega)
  match hq : t.kids with
  | [] => exact (((Pe.name n1 (sp _)).app (.space _)).app (.name n2 hr)).app (.nil rest)
  | a :: r =>
    have ha := ih a (by rw [hq]; simp)
    have e4 : Pe ([32] ++ w_tif ++ [32] ++ writeC a) ([tw w_tif] ++ toksC a) rest := ((((Pe.space _).app (pe_word (w := w_tif) (by decide) (sp _))).app (.space _)).app (ha _ hr)).as (by simp)
    exact (((Pe.name n1 (sp _)).app (.space _)).app (.name n2 (sp _))).app e4
theorem pe_bin (h : checkC t p = 0) (hk : t.kind = 17) (ih : ∀ a ∈ t.kids, PT a) : PT t := by
  obtain ⟨_, hs, hn, hf⟩ := own_at (ok_own h).1
  intro rest hr
  rw [writeC_eq, toksC_eq]
  have e1 : ∀ ws, nodeT t ws = wrapT t (kidN t 0) (ws.getD 0 []) ++ [32] ++ operT t.num ++ [32] ++ wrapT t (kidN t 1) (ws.getD 1 []) := fun ws => by unfold nodeT; rw [hk]; rfl
  have e2 : ∀ ws, nodeK t ws = wrapK t (kidN t 0) (ws.getD 0 []) ++ [] ++ [operK t.num] ++ [] ++ wrapK t (kidN t 1) (ws.getD 1 []) := fun ws => by unfold nodeK; rw [hk]; rfl
  rw [e1, e2]
  unfold shapeC at hs
  rw [hk] at hs
  replace hs : ((t.kids.length : Int) == 2) = true := hs
  obtain ⟨a, b, hq⟩ := kids_two (by simpa using hs)
  have ha := ih a (by rw [hq]; simp)
  have hb := ih b (by rw [hq]; simp)
  have k0 : kidN t 0 = a := by unfold kidN; rw [hq]; rfl
  have k1 : kidN t 1 = b := by unfold kidN; rw [hq]; rfl
  rw [k0, k1, hq]
  have eo : ∀ w : Str, Pe (operT t.num) [operK t.num] (32 :: w) := fun w => by
    rcases bin_num hf hk with h | h | h | h | h | h | h <;> rw [h] <;> exact Pe.const (by kernel_rfl) (by kernel_rfl) (by decide) (sp _)
  exact ((((pe_wrap ha (sp _)).app (.space _)).app (eo _)).app (.space _)).app (pe_wrap hb hr)
theorem pe_not (h : checkC t p = 0) (hk : t.kind = 18) (ih : ∀ a ∈ t.kids, PT a) : PT t := by
  obtain ⟨_, hs, hn, hf⟩ := own_at (ok_own h).1
  intro rest hr
  rw [writeC_eq, toksC_eq]
  have e1 : ∀ ws, nodeT t ws = w_tnot ++ [32] ++ wrapT t (kidN t 0) (ws.getD 0 []) := fun ws => by unfold nodeT; rw [hk]; rfl
  have e2 : ∀ ws, nodeK t ws = [tw w_tnot] ++ [] ++ wrapK t (kidN t 0) (ws.getD 0 []) := fun ws => by unfold nodeK; rw [hk]; rfl
  rw [e1, e2]
  unfold shapeC at hs
  rw [hk] at hs
  replace hs : ((t.kids.length : Int) == 1) = true := hs
  obtain ⟨a, hq⟩ := kids_one (by simpa using hs)
  have ha := ih a (by rw [hq]; simp)
  have k0 : kidN t 0 = a := by unfold kidN; rw [hq]; rfl
  rw [k0, hq]
  exact ((pe_word (by decide) (sp _)).app (.space _)).app (pe_wrap ha hr)
theorem pe_call (h : checkC t p = 0) (hk : 6 ≤ t.kind ∧ t.kind ≤ 12) (ih : ∀ a ∈ t.kids, PT a) : PT t := by
  obtain ⟨_, hs, hn, hf⟩ := own_at (ok_own h).1
  intro rest hr
  rw [writeC_eq, toksC_eq]
  have no : ∀ k : Int, k < 6 ∨ 12 < k → ¬ (t.kind == k) = true := fun k h => by simp only [beq_iff_eq]; omega
  have e1 : ∀ ws, nodeT t ws = callT t.kind ++ [40] ++ joinC ws ++ (if (t.kind == 11) then [44, 32] ++ Lib.itoa t.num else []) ++ [41] := fun ws => by
    unfold nodeT
    rw [if_neg (no 0 (by omega)), if_neg (no 1 (by omega)), if_neg (no 2 (by omega)), if_neg (no 3 (by omega)), if_neg (no 5 (by omega)), if_neg (no 13 (by omega)), if_neg (no 14 (by omega)), if_neg (no 15 (by omega)), if_neg (no 16 (by omega)), if_neg (no 17 (by omega)), if_neg (no 18 (by omega))]
  have e2 : ∀ ws, nodeK t ws = [tw (callT t.kind)] ++ [tlp] ++ joinK ws ++ (if (t.kind == 11) then [tcm] ++ numK t.num else []) ++ [trp] := fun ws => by
    unfold nodeK
    rw [if_neg (no 0 (by omega)), if_neg (no 1 (by omega)), if_neg (no 2 (by omega)), if_neg (no 3 (by omega)), if_neg (no 5 (by omega)), if_neg (no 13 (by omega)), if_neg (no 14 (by omega)), if_neg (no 15 (by omega)), if_neg (no 16 (by omega)), if_neg (no 17 (by omega)), if_neg (no 18 (by omega))]
  rw [e1, e2]
  have e3 : ∀ rest, Pe (callT t.kind ++ [40]) ([tw (callT t.kind)] ++ [tlp]) rest := fun rest => (pe_word (call_word _) (lp _)).app (pe_lp rest)
  by_cases h11 : t.kind = 11
  · rw [if_pos (by simpa using h11), if_pos (by simpa using h11)]
    unfold fieldsC numC at hf
    rw [h11] at hf
    have hf2 : (decide (t.num < 0) || decide (1099511627776 < t.num)) = false := by
      cases hq : (decide (t.num < 0) || decide (1099511627776 < t.num)) with
      | false => rfl
      | true => rw [hq] at hf; cases hf
    simp only [Bool.or_eq_false_iff, decide_eq_false_iff_not] at hf2
    exact ((((e3 _).app (pe_join t.kids ih _ (cm _))).app ((pe_comma _).app (pe_itoa (by omega) (by omega) (rp _)))).app (pe_rp rest))
  · rw [if_neg (by simpa using h11), if_neg (by simpa using h11)]
    exact (((e3 _).app (pe_join t.kids ih _ (rp _))).app (.nil _)).app (pe_rp rest)
theorem pe_type (h : checkC t p = 0) (hk : t.kind = 1) (ih : ∀ a ∈ t.kids, PT a) : PA t := by
  obtain ⟨_, hs, hn, hf⟩ := own_at (ok_own h).1
  intro rest
  rw [writeC_eq, toksC_eq]
  have e1 : ∀ ws, nodeT t ws = w_ttype ++ [32] ++ t.text ++ [32, 123] ++ (if ws == [] then [] else [32] ++ joinC ws ++ [32]) ++ [125, 10] := fun ws => by unfold nodeT; rw [hk]; rfl
  have e2 : ∀ ws, nodeK t ws = [tw w_ttype] ++ [] ++ [tw t.text] ++ [tg w_lbrace] ++ joinK ws ++ [tg w_rbrace] := fun ws => by unfold nodeK; rw [hk]; rfl
  rw [e1, e2]
  have e3 : ∀ rest, Pe (w_ttype ++ [32] ++ t.text ++ [32, 123]) ([tw w_ttype] ++ [] ++ [tw t.text] ++ [tg w_lbrace]) rest := fun rest =>
    (((pe_word (by decide) (sp _)).app (.space _)).app (.name (name_of hn (by rw [hk]; rfl) (by omega)) (sp _))).app (pe_lbrace rest)
  refine ((e3 _).app ?_).app (pe_rbrace rest)
  match hq : t.kids with
  | [] => exact .nil _
  | a :: r =>
    have := pe_join t.kids ih ([32] ++ ([125, 10] ++ rest)) (sp _)
    rw [hq] at this
    exact (((Pe.space _).app this).app (.space _)).as (by simp)
theorem pe_query (h : checkC t p = 0) (hk : t.kind = 3) (ih : ∀ (j : Nat) a, 1 ≤ j → t.kids[j]? = some a → PT a) : PA t := by
  obtain ⟨_, hs, hn, hf⟩ := own_at (ok_own h).1
  intro rest
  rw [writeC_eq, toksC_eq]
  have e1 : ∀ ws, nodeT t ws = w_tquery ++ [32] ++ t.text ++ (if (kidN t 0).text == [] then [] else [32] ++ w_by ++ [32] ++ (kidN t 0).text) ++ [10] ++ w_tmatch ++ [32] ++ ws.getD 1 [] ++ [10] ++ w_treturn ++ [32] ++ joinC (ws.drop 2) ++ [59, 10] := fun ws => by unfold nodeT; rw [hk]; rfl
  have e2 : ∀ ws, nodeK t ws = [tw w_tquery] ++ [] ++ [tw t.text] ++ (if (kidN t 0).text == [] then [] else [tw w_by] ++ [tw (kidN t 0).text]) ++ [] ++ [tw w_tmatch] ++ [] ++ ws.getD 1 [] ++ [] ++ [tw w_treturn] ++ [] ++ joinK (ws.drop 2) ++ [tg w_semi] := fun ws => by unfold nodeK; rw [hk]; rfl
  rw [e1, e2]
  unfold shapeC at hs
  rw [hk] at hs
  replace hs : decide (3 ≤ (t.kids.length : Int)) = true := hs
  simp only [decide_eq_true_eq] at hs
  match hq : t.kids with
  | [] => rw [hq] at hs; simp at hs
  | [a] => rw [hq] at hs; simp at hs
  | a :: b :: r =>
    have k0 : kidN t 0 = a := by unfold kidN; rw [hq]; rfl
    rw [k0]
    obtain ⟨ca, pa⟩ := kid_ok h (j := 0) (a := a) (by rw [hq]; rfl)
    have hka : a.kind = 4 := only_at (n := 4) (by
      have : kidC t 0 = .only 4 := by unfold kidC; rw [hk]; rfl
      rw [this] at pa; exact pa)
    have na := (own_at (ok_own ca).1).2.2.1
    have hb := ih 1 b (Nat.le_refl _) (by rw [hq]; rfl)
    have hr : ∀ x ∈ r, PT x := fun x hx => by
      obtain ⟨j, hj⟩ := List.mem_iff_getElem?.1 hx
      exact ih (j + 2) x (by omega) (by rw [hq]; simpa using hj)
    have n1 := name_of hn (by rw [hk]; rfl) (by omega)
    have e3 : ∀ rest, Pe (w_tquery ++ [32] ++ t.text ++ (if a.text == [] then [] else [32] ++ w_by ++ [32] ++ a.text) ++ [10]) ([tw w_tquery] ++ [] ++ [tw t.text] ++ (if a.text == [] then [] else [tw w_by] ++ [tw a.text]) ++ []) rest := fun rest => by
      split
      · exact ((((pe_word (by decide) (sp _)).app (.space _)).app (.name n1 (nl _))).app (.nil _)).app (.lf rest)
      · rename_i h1
        have n2 : nmS a.text = true := by
          unfold namedC at na
          rw [hka] at na
          have e5 : (!(a.text == [])) = true := by rw [Bool.not_eq_true']; simpa using h1
          rw [e5] at na
          simp only [Bool.or_true, Bool.and_true] at na
          cases hq2 : nmS a.text with
          | true => rfl
          | false => rw [hq2] at na; cases na
        have e4 : Pe ([32] ++ w_by ++ [32] ++ a.text) ([tw w_by] ++ [tw a.text]) ([10] ++ rest) := ((((Pe.space _).app (pe_word (w := w_by) (by decide) (sp _))).app (.space _)).app (.name n2 (nl _))).as rfl
        exact ((((pe_word (by decide) (sp _)).app (.space _)).app (.name n1 (sp _))).app e4).app (.lf rest)
    exact (((((((((e3 _).app (pe_word (by decide) (sp _))).app (.space _)).app (hb _ (nl _))).app (.lf _)).app (pe_word (by decide) (sp _))).app (.space _)).app (pe_join r hr _ (sep_of (by decide) (by decide)))).app (pe_semi rest))
end
/-- The tokens of the printed text. -/
theorem pe_all (t : Syn) : ∀ p, checkC t p = 0 → 1 ≤ t.kind → t.kind ≤ 18 → t.kind ≠ 4 → PT t ∧ (t.kind = 1 ∨ t.kind = 3 → PA t) := by
  refine Syn.ind (P := fun t => ∀ p, checkC t p = 0 → 1 ≤ t.kind → t.kind ≤ 18 → t.kind ≠ 4 → PT t ∧ (t.kind = 1 ∨ t.kind = 3 → PA t)) (fun t ih p h h1 h2 h4 => ?_) t
  have kid : ∀ (j : Nat) a, t.kids[j]? = some a → a.kind ≠ 4 → PT a := fun j a ha h4 => by
    obtain ⟨c, k⟩ := kid_ok h ha
    have kk := kid_kind k
    exact (ih a (List.mem_of_getElem? ha) _ c kk.1 kk.2 h4).1
  have kid' : t.kind ≠ 3 → ∀ a ∈ t.kids, PT a := fun h3 a ha => by
    obtain ⟨j, hj⟩ := List.mem_iff_getElem?.1 ha
    refine kid j a hj ?_
    obtain ⟨c, k⟩ := kid_ok h hj
    unfold kidC at k
    rw [if_neg (show ¬ (t.kind == 3) = true by simpa using h3)] at k
    repeat' split at k
    all_goals first | (have := only_at k; omega) | (have := exp_at k; omega) | (have := pat_at k; omega)
  have all : PA t → PT t ∧ (t.kind = 1 ∨ t.kind = 3 → PA t) := fun h => ⟨fun rest _ => h rest, fun _ => h⟩
  have one : t.kind ≠ 1 → t.kind ≠ 3 → PT t → PT t ∧ (t.kind = 1 ∨ t.kind = 3 → PA t) := fun a b h => ⟨h, fun e => by omega⟩
  by_cases k1 : t.kind = 1
  · exact all (pe_type h k1 (kid' (by omega)))
  by_cases k3 : t.kind = 3
  · refine all (pe_query h k3 fun j a hj ha => kid j a ha ?_)
    obtain ⟨c, k⟩ := kid_ok h ha
    unfold kidC at k
    rw [k3] at k
    have e : ((j : Int) == 0) = false := by simp; omega
    simp only [e] at k
    replace k : (if ((j : Int) == 1) = true then Pl.pats else Pl.exps).at a.kind = true := k
    split at k
    · have := pat_at k; omega
    · have := exp_at k; omega
  refine one k1 k3 ?_
  by_cases k2 : t.kind = 2
  · exact pe_field h k2
  by_cases k5 : t.kind = 5
  · exact pe_event h k5 (kid' k3)
  by_cases k13 : t.kind = 13
  · exact pe_lit h k13
  by_cases k14 : t.kind = 14
  · exact pe_ref h k14
  by_cases k15 : t.kind = 15
  · exact pe_count h k15
  by_cases k16 : t.kind = 16
  · exact pe_total h k16 (kid' k3)
  by_cases k17 : t.kind = 17
  · exact pe_bin h k17 (kid' k3)
  by_cases k18 : t.kind = 18
  · exact pe_not h k18 (kid' k3)
  exact pe_call h (by omega) (kid' k3)
end Go.Proofs.YtabkeeedkhgodaaGreatDoor

namespace Go.Proofs.YtabkeeedkhgodaaGreatDoor
open Go Go.Aw
set_option linter.unusedVariables false
set_option linter.unusedSimpArgs false
set_option maxRecDepth 100000

/-- What stands behind an expression or a pattern. -/
def Bq (post : List Tok) : Prop := ∀ c r, post = c :: r → c = trp ∨ c = tcm ∨ c = tsm ∨ c = tw w_treturn
theorem Bq.nil : Bq [] := fun c r h => (List.cons_ne_nil _ _ h.symm).elim
theorem Bq.rp (r : List Tok) : Bq (trp :: r) := fun c q h => .inl (List.cons.inj h).1.symm
variable {pre post rest : List Tok} {d : Int} {t : Tok}
/-- A token is a word. -/
def hitW (t : Tok) (w : Str) : Bool := (t.text == w) && ((t.kind == 3) || ((t.kind == 0) && keyS w))
theorem is_hit {w : Str} : isP w (Cur pre (t :: post) d) = hitW t w := is_cur
theorem Bq.not (hb : Bq post) {w : Str} (h : hitW trp w = false ∧ hitW tcm w = false ∧ hitW tsm w = false ∧ hitW (tw w_treturn) w = false) : isP w (Cur pre post d) = false := by
  cases post with
  | nil => exact is_nil
  | cons c r =>
    rw [is_hit]
    rcases hb c r rfl with rfl | rfl | rfl | rfl
    · exact h.1
    · exact h.2.1
    · exact h.2.2.1
    · exact h.2.2.2
theorem NoOp.q (hb : Bq post) : NoOp (Cur pre post d) :=
  ⟨⟨hb.not (by decide), hb.not (by decide), hb.not (by decide), hb.not (by decide)⟩, hb.not (by decide), hb.not (by decide), hb.not (by decide), hb.not (by decide), hb.not (by decide), hb.not (by decide)⟩
theorem era_cons {t : Tok} {l : List Tok} (h : t.pos = 0) (k : Era l) : Era (t :: l) := by
  unfold Era at *
  rw [List.map_cons, k]
  cases t; simp only at h; subst h; rfl
theorem era_flat : ∀ {l : List (List Tok)}, (∀ x ∈ l, Era x) → Era l.flatten
  | [], _ => rfl
  | x :: r, h => (h x (by simp)).app (era_flat fun y hy => h y (List.mem_cons_of_mem _ hy))
theorem era_join : ∀ {l : List (List Tok)}, (∀ x ∈ l, Era x) → Era (joinK l)
  | [], _ => rfl
  | [x], h => h x (by simp)
  | x :: y :: r, h => ((h x (by simp)).app (show Era [tcm] from rfl)).app (era_join fun z hz => h z (List.mem_cons_of_mem _ hz))
theorem era_wrap {p k : Syn} {l : List Tok} (h : Era l) : Era (wrapK p k l) := by
  unfold wrapK
  split
  · exact ((show Era [tlp] from rfl).app h).app (show Era [trp] from rfl)
  · exact h
theorem era_num (n : Int) : Era (numK n) := by unfold numK; split <;> rfl
theorem era_lit (t : Syn) : Era (litK t) := by
  unfold litK
  split
  · exact era_num _
  · split
    · split <;> rfl
    · rfl
theorem era_get {l : List (List Tok)} (h : ∀ x ∈ l, Era x) (j : Nat) : Era (l.getD j []) := by
  rw [List.getD_eq_getElem?_getD]
  cases hj : l[j]? with
  | none => rfl
  | some x => exact h x (List.mem_of_getElem? hj)
theorem era_one (t : Tok) (h : t.pos = 0) : Era [t] := era_cons h rfl
theorem era_if {c : Prop} [Decidable c] {a b : List Tok} (ha : Era a) (hb : Era b) : Era (if c then a else b) := by
  split
  · exact ha
  · exact hb
theorem era_node {t : Syn} {ws : List (List Tok)} (h : ∀ x ∈ ws, Era x) : Era (nodeK t ws) := by
  have h1 : ∀ w, Era [tw w] := fun w => rfl
  have h2 : ∀ w, Era [tg w] := fun w => rfl
  have h3 : Era (if (ws == []) = true then [] else [tw w_tif] ++ ws.getD 0 []) := by split; exact rfl; exact (h1 _).app (era_get h 0)
  have h4 : Era (if (ws == []) = true then [] else [tcm] ++ ws.getD 0 []) := by split; exact rfl; exact (show Era [tcm] from rfl).app (era_get h 0)
  have h5 : Era (if ((kidN t 0).text == []) = true then [] else [tw w_by] ++ [tw (kidN t 0).text]) := by split; exact rfl; exact (h1 _).app (h1 _)
  have h6 : Era (if (t.kind == 11) = true then [tcm] ++ numK t.num else []) := by split; exact (show Era [tcm] from rfl).app (era_num _); exact rfl
  have h7 : Era [operK t.num] := era_one _ (by unfold operK; split <;> rfl)
  have n0 : Era ([] : List Tok) := rfl
  exact era_if (era_flat h) (era_if (((((h1 _).app n0).app (h1 _)).app (h2 _)).app (era_join h) |>.app (h2 _)) (era_if (((h1 _).app (h2 _)).app (h1 _))
    (era_if (((((((((((((h1 _).app n0).app (h1 _)).app h5).app n0).app (h1 _)).app n0).app (era_get h 1)).app n0).app (h1 _)).app n0).app (era_join fun x hx => h x (List.mem_of_mem_drop hx))).app (h2 _))
    (era_if ((((h1 _).app n0).app (h1 _)).app h3) (era_if (era_lit t) (era_if (((h1 _).app (h2 _)).app (h1 _)) (era_if ((((h1 _).app (h2 _)).app (h1 _)).app (h2 _))
    (era_if (((((((h1 _).app (h2 _)).app (h1 _)).app (h2 _)).app (h1 _)).app h4).app (h2 _)) (era_if (((((era_wrap (era_get h 0)).app n0).app h7).app n0).app (era_wrap (era_get h 1)))
    (era_if (((h1 _).app n0).app (era_wrap (era_get h 0))) (((((h1 _).app (h2 _)).app (era_join h)).app h6).app (h2 _))))))))))))
theorem era_toks (t : Syn) : Era (toksC t) := by
  refine Syn.ind (P := fun t => Era (toksC t)) (fun t ih => ?_) t
  rw [toksC_eq]
  refine era_node fun x hx => ?_
  obtain ⟨a, ha, rfl⟩ := List.mem_map.1 hx
  exact ih a ha

/-! One operand. -/
theorem name_hit {s : Str} (h : keyS s = false) (w : Str) : hitW (tw s) w = false := by
  show ((s == w) && ((0 : Int) == 3 || ((0 : Int) == 0 && keyS w))) = false
  cases hq : (s == w) with
  | false => rfl
  | true =>
    have : s = w := by simpa using hq
    rw [← this, h]; rfl
theorem kind_hit {t : Tok} (h : t.kind = 1 ∨ t.kind = 2) (w : Str) : hitW t w = false := by
  unfold hitW
  have e1 : (t.kind == 3) = false := by rcases h with h | h <;> rw [h] <;> rfl
  have e2 : (t.kind == 0) = false := by rcases h with h | h <;> rw [h] <;> rfl
  rw [e1, e2]; simp
theorem hit_text {t : Tok} {w : Str} (h : hitW t w = true) : w = t.text := by
  unfold hitW at h
  rw [Bool.and_eq_true] at h
  have := h.1
  simp only [beq_iff_eq] at this
  exact this.symm
/-- An operand that is neither in parentheses nor an aggregate, a count, a name: a constant. -/
theorem unit_const {E : PS → Syn × PS} (h1 : hitW t w_lpar = false) (h2 : t.text ≠ w_tmin ∧ t.text ≠ w_tmax ∧ t.text ≠ w_tfirst ∧ t.text ≠ w_tlast ∧ t.text ≠ w_tsum ∧ t.text ≠ w_tcount ∨ t.kind = 2)
    (h3 : ((t.kind == 0) && (((0 : Int) != 0) || !(keyS t.text))) = false) : unitP E (Cur pre (t :: post) d) = constP (Cur pre (t :: post) d) := by
  have k : ∀ w : Str, (t.text ≠ w ∨ t.kind = 2) → isP w (Cur pre (t :: post) d) = false := fun w hw => by
    rw [is_hit]
    rcases hw with hw | hw
    · cases hq : hitW t w with
      | false => rfl
      | true => exact absurd (hit_text hq).symm hw
    · exact kind_hit (.inr hw) w
  have a : (t.text ≠ w_tmin ∨ t.kind = 2) ∧ (t.text ≠ w_tmax ∨ t.kind = 2) ∧ (t.text ≠ w_tfirst ∨ t.kind = 2) ∧ (t.text ≠ w_tlast ∨ t.kind = 2) ∧ (t.text ≠ w_tsum ∨ t.kind = 2) ∧ (t.text ≠ w_tcount ∨ t.kind = 2) := by
    rcases h2 with ⟨a, b, c, d, e, f⟩ | h
    · exact ⟨.inl a, .inl b, .inl c, .inl d, .inl e, .inl f⟩
    · exact ⟨.inr h, .inr h, .inr h, .inr h, .inr h, .inr h⟩
  unfold unitP
  rw [is_hit (w := w_lpar), h1]
  have ef : totL.find? (fun s => isP s.1 (Cur pre (t :: post) d)) = none := by
    unfold totL
    rw [List.find?_cons, List.find?_cons, List.find?_cons, List.find?_cons, List.find?_nil, k _ a.1, k _ a.2.1, k _ a.2.2.1, k _ a.2.2.2.1]
  rw [ef, k _ a.2.2.2.2.1, k _ a.2.2.2.2.2, show nxtP 0 (Cur pre (t :: post) d) = false by rw [nxt_cur]; exact h3]
  simp only [Bool.false_eq_true, ↓reduceIte]
theorem const_num {n : Nat} (hn : n ≤ 1099511627776) (hp : Era pre) (hq : Era post) : constP (Cur pre (⟨1, Lib.decDigits n, 0⟩ :: post) d) = (⟨13, [], w_tint, (n : Int), [], 0⟩, Cur (pre ++ [⟨1, Lib.decDigits n, 0⟩]) post d) := by
  have eo : offS (Cur pre (⟨1, Lib.decDigits n, 0⟩ :: post) d) = 0 := cur_off hp (era_cons rfl hq)
  have en : nxtP 1 (Cur pre (⟨1, Lib.decDigits n, 0⟩ :: post) d) = true := by rw [nxt_cur]; rfl
  unfold constP
  rw [is_hit, kind_hit (.inl rfl), en, eo]
  simp only [Bool.false_eq_true, ↓reduceIte]
  have e1 : tokP 1 (Cur pre (⟨1, Lib.decDigits n, 0⟩ :: post) d) = Cur (pre ++ [⟨1, Lib.decDigits n, 0⟩]) post d := (tok_cur (by rfl)).1
  have e2 : numP (Cur pre (⟨1, Lib.decDigits n, 0⟩ :: post) d) = (n : Int) := by unfold numP; rw [en, cur_tk]; show (numS (Lib.decDigits n)).1 = _; rw [numS_dec hn]
  rw [e1, e2]
theorem const_neg {n : Nat} (hn : n ≤ 1099511627776) (hp : Era pre) (hq : Era post) : constP (Cur pre (tg w_sub :: ⟨1, Lib.decDigits n, 0⟩ :: post) d) = (⟨13, [], w_tint, 0 - (n : Int), [], 0⟩, Cur (pre ++ [tg w_sub, ⟨1, Lib.decDigits n, 0⟩]) post d) := by
  have eo : offS (Cur pre (tg w_sub :: ⟨1, Lib.decDigits n, 0⟩ :: post) d) = 0 := cur_off hp (era_cons rfl (era_cons rfl hq))
  unfold constP
  rw [is_hit, show hitW (tg w_sub) w_sub = true by decide, eo, adv_cur]
  simp only [↓reduceIte]
  have e1 : tokP 1 (Cur (pre ++ [tg w_sub]) (⟨1, Lib.decDigits n, 0⟩ :: post) d) = Cur (pre ++ [tg w_sub] ++ [⟨1, Lib.decDigits n, 0⟩]) post d := (tok_cur (by rfl)).1
  have e2 : numP (Cur (pre ++ [tg w_sub]) (⟨1, Lib.decDigits n, 0⟩ :: post) d) = (n : Int) := by unfold numP; rw [nxt_cur, cur_tk]; show (numS (Lib.decDigits n)).1 = _; rw [numS_dec hn]
  rw [e1, e2, List.append_assoc]; rfl
/-- The form of a constant. -/
theorem lit_read {a : Syn} {p : Pl} (h : checkC a p = 0) (hk : a.kind = 13) (hp : Era pre) (hq : Era post) : constP (Cur pre (toksC a ++ post) d) = (erS a, Cur (pre ++ toksC a) post d) ∧ ∀ E : PS → Syn × PS, unitP E (Cur pre (toksC a ++ post) d) = constP (Cur pre (toksC a ++ post) d) := by
  obtain ⟨_, hs, _, hf⟩ := own_at (ok_own h).1
  have e2 : toksC a = litK a := by rw [toksC_eq]; unfold nodeK; rw [hk]; rfl
  unfold shapeC at hs
  rw [hk] at hs
  replace hs : ((a.kids.length : Int) == 0) = true := hs
  have hkid : a.kids = [] := by
    cases hq : a.kids with
    | nil => rfl
    | cons x r => rw [hq] at hs; simp at hs; omega
  unfold fieldsC at hf
  rw [hk] at hf
  replace hf : constC a = 0 := hf
  have er : erS a = ⟨13, a.text, a.name, a.num, [], 0⟩ := by rw [erS_eq, hkid, hk]; rfl
  rw [e2, er]
  unfold constC at hf
  unfold litK
  split at hf
  · rename_i h1
    rw [if_pos h1]
    have hn : a.name = w_tint := by simpa using h1
    split at hf
    · cases hf
    · rename_i h2
      simp only [Bool.or_eq_true, decide_eq_true_eq, not_or] at h2
      split at hf
      · cases hf
      · rename_i h3
        have ht : a.text = [] := by simpa using h3
        rw [hn, ht]
        unfold numK
        by_cases hneg : a.num < 0
        · rw [if_pos hneg]
          refine ⟨?_, fun E => unit_const (by decide) (.inl (by decide)) (by decide)⟩
          rw [List.cons_append, List.cons_append, List.nil_append, const_neg (by omega) hp hq]
          have : 0 - ((a.num.natAbs : Nat) : Int) = a.num := by omega
          rw [this]
        · rw [if_neg hneg]
          refine ⟨?_, fun E => ?_⟩
          · rw [List.cons_append, List.nil_append, const_num (by omega) hp hq]
            have : ((a.num.toNat : Nat) : Int) = a.num := by omega
            rw [this]
          · have hd := dec_digits a.num.toNat
            have key : ∀ w : Str, letterS (bt w 0) = true → Lib.decDigits a.num.toNat ≠ w := fun w hw e => by
              rw [e] at hd
              cases w with
              | nil => cases hd.2
              | cons c r =>
                have h4 := digit_nsep c
                have h5 : digitS c = true := by have := hd.1; rw [List.all_cons, Bool.and_eq_true] at this; exact this.1
                have h6 : letterS c = true := hw
                rw [h5, h6] at h4
                simp at h4
            exact unit_const (kind_hit (.inl rfl) _) (.inl ⟨key _ (by decide), key _ (by decide), key _ (by decide), key _ (by decide), key _ (by decide), key _ (by decide)⟩) (by rfl)
  · rename_i h1
    rw [if_neg h1]
    split at hf
    · rename_i h2
      have hn : a.name = w_tbool := by simpa using h2
      rw [if_pos h2]
      split at hf
      · cases hf
      · rename_i h3
        simp only [Bool.or_eq_true, decide_eq_true_eq, not_or] at h3
        split at hf
        · cases hf
        · rename_i h4
          have ht : a.text = [] := by simpa using h4
          rw [hn, ht]
          by_cases hb : a.num = 1
          · rw [if_pos (by simpa using hb)]
            refine ⟨?_, fun E => unit_const (by decide) (.inl (by decide)) (by decide)⟩
            rw [List.cons_append, List.nil_append]
            unfold constP
            rw [is_hit, is_hit, show hitW (tw w_ttrue) w_sub = false by decide, show hitW (tw w_ttrue) w_ttrue = true by decide, nxt_cur, cur_off hp (era_cons rfl hq), adv_cur, hb]; rfl
          · rw [if_neg (by simpa using hb)]
            have h0 : a.num = 0 := by omega
            refine ⟨?_, fun E => unit_const (by decide) (.inl (by decide)) (by decide)⟩
            rw [List.cons_append, List.nil_append]
            unfold constP
            rw [is_hit, is_hit, is_hit, show hitW (tw w_tfalse) w_sub = false by decide, show hitW (tw w_tfalse) w_ttrue = false by decide, show hitW (tw w_tfalse) w_tfalse = true by decide, nxt_cur, cur_off hp (era_cons rfl hq), adv_cur, h0]; rfl
    · rename_i h2
      rw [if_neg h2]
      split at hf
      · rename_i h3
        have hn : a.name = w_tstring := by simpa using h3
        split at hf
        · cases hf
        · split at hf
          · cases hf
          · rename_i h4 h5
            have h0 : a.num = 0 := by simpa using h5
            rw [hn, h0]
            refine ⟨?_, fun E => unit_const (kind_hit (.inr rfl) _) (.inr rfl) (by rfl)⟩
            rw [List.cons_append, List.nil_append]
            have kh := fun w => kind_hit (t := ⟨2, a.text, 0⟩) (.inr rfl) w
            unfold constP
            rw [is_hit, is_hit, is_hit, kh, kh, kh, show nxtP 1 (Cur pre (⟨2, a.text, 0⟩ :: post) d) = false by rw [nxt_cur]; rfl, cur_off hp (era_cons rfl hq)]
            simp only [Bool.false_eq_true, ↓reduceIte]
            have := tok_cur (pre := pre) (post := post) (d := d) (t := ⟨2, a.text, 0⟩) (k := 2) (by rfl)
            rw [this.1, this.2]
      · cases hf
end Go.Proofs.YtabkeeedkhgodaaGreatDoor

namespace Go.Proofs.YtabkeeedkhgodaaGreatDoor
open Go Go.Aw
set_option linter.unusedVariables false
set_option linter.unusedSimpArgs false
set_option maxRecDepth 100000
variable {pre post rest : List Tok} {d : Int} {t : Tok}

theorem nxt_name {s : Str} (h : keyS s = false) : nxtP 0 (Cur pre (tw s :: post) d) = true := by
  rw [nxt_cur]
  show ((0 : Int) == 0 && ((0 : Int) != 0 || !(keyS s))) = true
  rw [h]; rfl
theorem tok_name {s : Str} (h : keyS s = false) : tokP 0 (Cur pre (tw s :: post) d) = Cur (pre ++ [tw s]) post d ∧ txtP 0 (Cur pre (tw s :: post) d) = s := by
  refine tok_cur ?_
  show ((0 : Int) == 0 && ((0 : Int) != 0 || !(keyS s))) = true
  rw [h]; rfl
theorem exp_hit {w : Str} (h : hitW t w = true) : expP w (Cur pre (t :: post) d) = Cur (pre ++ [t]) post d := exp_cur h
theorem name_key {s : Str} (h : nmS s = true) : keyS s = false := (name_is h).2.2.2.2
theorem erS_leaf {a : Syn} (h : a.kids = []) : erS a = ⟨a.kind, a.text, a.name, a.num, [], 0⟩ := by rw [erS_eq, h]; rfl
theorem no_kids {a : Syn} (h : (a.kids.length : Int) = 0) : a.kids = [] := by
  cases hq : a.kids with
  | nil => rfl
  | cons x r => rw [hq] at h; simp at h; omega
theorem app1 (a b : Tok) : (pre ++ [a]) ++ [b] = pre ++ [a, b] := by simp
/-- A name ahead: the field of a variable. -/
theorem ref_read {a : Syn} {p : Pl} {E : PS → Syn × PS} (h : checkC a p = 0) (hk : a.kind = 14) (hp : Era pre) (hq : Era post) : unitP E (Cur pre (toksC a ++ post) d) = (erS a, Cur (pre ++ toksC a) post d) := by
  obtain ⟨_, hs, hn, hf⟩ := own_at (ok_own h).1
  have e2 : toksC a = [tw a.text, tg w_dot, tw a.name] := by rw [toksC_eq]; unfold nodeK; rw [hk]; rfl
  unfold shapeC at hs
  rw [hk] at hs
  replace hs : ((a.kids.length : Int) == 0) = true := hs
  have hkid := no_kids (by simpa using hs)
  have hnum := zero_num hf ⟨by omega, by omega, by omega, by omega, by omega⟩
  have er : erS a = ⟨14, a.text, a.name, 0, [], 0⟩ := by rw [erS_leaf hkid, hk, hnum]
  have k1 := name_key (name_of hn (by rw [hk]; rfl) (by omega))
  have nh := name_hit k1
  rw [e2, er]
  show unitP E (Cur pre (tw a.text :: tg w_dot :: tw a.name :: post) d) = _
  have e3 : totL.find? (fun s => isP s.1 (Cur pre (tw a.text :: tg w_dot :: tw a.name :: post) d)) = none := by
    rw [List.find?_eq_none]; intro x _; rw [is_hit, nh]; decide
  unfold unitP
  rw [is_hit, nh, e3, is_hit, nh, is_hit, nh, nxt_name k1]
  simp only [Bool.false_eq_true, ↓reduceIte]
  rw [(tok_name k1).1, (tok_name k1).2, exp_hit (t := tg w_dot) (by decide), cur_off hp (era_cons rfl (era_cons rfl (era_cons rfl hq))), is_hit, app1]
  have e5 : (pre ++ [tw a.text, tg w_dot]) ++ [tw a.name] = pre ++ [tw a.text, tg w_dot, tw a.name] := by simp
  rcases name2_ref hn hk with h1 | h1
  · have k2 := name_key h1
    rw [name_hit k2, (tok_name k2).1, (tok_name k2).2, e5]; rfl
  · rw [h1] at e5 ⊢
    rw [show hitW (tw w_ttime) w_ttime = true by decide, if_pos rfl, adv_cur, e5]
theorem count_read {a : Syn} {p : Pl} {E : PS → Syn × PS} (h : checkC a p = 0) (hk : a.kind = 15) (hp : Era pre) (hq : Era post) : unitP E (Cur pre (toksC a ++ post) d) = (erS a, Cur (pre ++ toksC a) post d) := by
  obtain ⟨_, hs, hn, hf⟩ := own_at (ok_own h).1
  have e2 : toksC a = [tw w_tcount, tlp, tw a.text, trp] := by rw [toksC_eq]; unfold nodeK; rw [hk]; rfl
  unfold shapeC at hs
  rw [hk] at hs
  replace hs : ((a.kids.length : Int) == 0) = true := hs
  have hkid := no_kids (by simpa using hs)
  have hnum := zero_num hf ⟨by omega, by omega, by omega, by omega, by omega⟩
  have hname : a.name = [] := by
    unfold fieldsC at hf
    rw [hk] at hf
    replace hf : (if (numC a != 0) = true then numC a else if ((!true && !(a.text == [])) || (!false && !(a.name == []))) = true then 3 else 0) = 0 := hf
    split at hf
    · rename_i h1; rw [hf] at h1; cases h1
    · split at hf
      · cases hf
      · rename_i h2; simpa using h2
  have er : erS a = ⟨15, a.text, [], 0, [], 0⟩ := by rw [erS_leaf hkid, hk, hnum, hname]
  have k1 := name_key (name_of hn (by rw [hk]; rfl) (by omega))
  rw [e2, er]
  show unitP E (Cur pre (tw w_tcount :: tlp :: tw a.text :: trp :: post) d) = _
  have e3 : totL.find? (fun s => isP s.1 (Cur pre (tw w_tcount :: tlp :: tw a.text :: trp :: post) d)) = none := by
    rw [List.find?_eq_none]; intro x hx; rw [is_hit]; revert x; decide
  unfold unitP
  rw [is_hit, show hitW (tw w_tcount) w_lpar = false by decide, e3, is_hit, show hitW (tw w_tcount) w_tsum = false by decide, is_hit, show hitW (tw w_tcount) w_tcount = true by decide]
  simp only [Bool.false_eq_true, ↓reduceIte]
  rw [adv_cur, exp_hit (t := tlp) (by decide), (tok_name k1).1, (tok_name k1).2, exp_hit (t := trp) (by decide), cur_off hp (era_cons rfl (era_cons rfl (era_cons rfl (era_cons rfl hq))))]
  simp
theorem cm_hit : hitW tcm w_comma = true := by decide
/-- The variable and the field of an aggregate. -/
theorem ins_read {x y : Str} (h1 : keyS x = false) (h2 : keyS y = false) : insP (Cur pre (tlp :: tw x :: tg w_dot :: tw y :: post) d) = ((x, y), Cur (pre ++ [tlp, tw x, tg w_dot, tw y]) post d) := by
  unfold insP
  simp only
  rw [exp_hit (t := tlp) (by decide), (tok_name h1).1, (tok_name h1).2, exp_hit (t := tg w_dot) (by decide), (tok_name h2).1, (tok_name h2).2]
  simp
theorem total_read {a : Syn} {p : Pl} {E : PS → Syn × PS} (h : checkC a p = 0) (hk : a.kind = 16) (hp : Era pre) (hq : Era post) : unitP E (Cur pre (toksC a ++ post) d) = (erS a, Cur (pre ++ toksC a) post d) := by
  obtain ⟨_, hs, hn, hf⟩ := own_at (ok_own h).1
  have hi := total_num hf hk
  have k1 := name_key (name_of hn (by rw [hk]; rfl) (by omega))
  have k2 := name_key (name2_of hn (by rw [hk]; rfl) (by omega))
  have e0 : toksC a = [tw (aggT a.num)] ++ [tlp] ++ [tw a.text] ++ [tg w_dot] ++ [tw a.name] ++ (if (a.kids.map toksC == []) = true then [] else [tcm] ++ (a.kids.map toksC).getD 0 []) ++ [trp] := by rw [toksC_eq]; unfold nodeK; rw [hk]; rfl
  unfold shapeC at hs
  rw [hk] at hs
  replace hs : (if (a.num == 1) = true then ((a.kids.length : Int) == 0) else ((a.kids.length : Int) == 1)) = true := hs
  by_cases h1 : a.num = 1
  · rw [h1] at hs
    replace hs : ((a.kids.length : Int) == 0) = true := hs
    have hkid := no_kids (by simpa using hs)
    have e2 : toksC a = [tw w_tsum, tlp, tw a.text, tg w_dot, tw a.name, trp] := by rw [e0, hkid, h1]; rfl
    have er : erS a = ⟨16, a.text, a.name, 1, [], 0⟩ := by rw [erS_leaf hkid, hk, h1]
    rw [e2, er]
    show unitP E (Cur pre (tw w_tsum :: tlp :: tw a.text :: tg w_dot :: tw a.name :: trp :: post) d) = _
    have e3 : totL.find? (fun s => isP s.1 (Cur pre (tw w_tsum :: tlp :: tw a.text :: tg w_dot :: tw a.name :: trp :: post) d)) = none := by
      rw [List.find?_eq_none]; intro x hx; rw [is_hit]; revert x; decide
    unfold unitP
    rw [is_hit, show hitW (tw w_tsum) w_lpar = false by decide, e3, is_hit, show hitW (tw w_tsum) w_tsum = true by decide]
    simp only [Bool.false_eq_true, ↓reduceIte]
    rw [adv_cur, ins_read k1 k2, exp_hit (t := trp) (by decide), cur_off hp (era_cons rfl (era_cons rfl (era_cons rfl (era_cons rfl (era_cons rfl (era_cons rfl hq))))))]
    simp
  · rw [if_neg (by simpa using h1)] at hs
    obtain ⟨x, hkid⟩ := kids_one (t := a) (by simpa using hs)
    have hx := kid_ok h (j := 0) (a := x) (by rw [hkid]; rfl)
    have hx13 : x.kind = 13 := only_at (n := 13) (by
      have e : kidC a 0 = .only 13 := by unfold kidC; rw [hk]; rfl
      rw [← e]; exact hx.2)
    have e2 : toksC a = tw (aggT a.num) :: tlp :: tw a.text :: tg w_dot :: tw a.name :: tcm :: (toksC x ++ [trp]) := by rw [e0, hkid]; simp
    have er : erS a = ⟨16, a.text, a.name, a.num, [erS x], 0⟩ := by rw [erS_eq, hk, hkid]; rfl
    rw [e2, er]
    show unitP E (Cur pre (tw (aggT a.num) :: tlp :: tw a.text :: tg w_dot :: tw a.name :: tcm :: ((toksC x ++ [trp]) ++ post)) d) = _
    have hn2 : a.num = 2 ∨ a.num = 3 ∨ a.num = 4 ∨ a.num = 5 := by omega
    have eL : hitW (tw (aggT a.num)) w_lpar = false := by rcases hn2 with h | h | h | h <;> rw [h] <;> decide
    have e3 : ∀ R : List Tok, totL.find? (fun s => isP s.1 (Cur pre (tw (aggT a.num) :: R) d)) = some (aggT a.num, a.num) := fun R => by
      unfold totL
      rw [List.find?_cons, List.find?_cons, List.find?_cons, List.find?_cons, is_hit, is_hit, is_hit, is_hit]
      rcases hn2 with h | h | h | h <;> rw [h] <;> rfl
    unfold unitP
    rw [is_hit, eL, e3]
    simp only [Bool.false_eq_true, ↓reduceIte]
    have eR : Era ((toksC x ++ [trp]) ++ post) := ((era_toks x).app (show Era [trp] from rfl)).app hq
    have hlit := (lit_read (d := d) (pre := pre ++ [tw (aggT a.num)] ++ [tlp, tw a.text, tg w_dot, tw a.name] ++ [tcm]) (post := trp :: post) hx.1 hx13 (((hp.app (era_one _ rfl)).app (show Era [tlp, tw a.text, tg w_dot, tw a.name] from rfl)).app (era_one _ rfl)) (era_cons rfl hq)).1
    rw [adv_cur, ins_read k1 k2, exp_hit cm_hit, List.append_assoc (toksC x), show [trp] ++ post = trp :: post from rfl, hlit, exp_hit (t := trp) (by decide), cur_off hp (era_cons rfl (era_cons rfl (era_cons rfl (era_cons rfl (era_cons rfl (era_cons rfl ((era_toks x).app (era_cons rfl hq))))))))]
    simp
/-- An operand that is a single unit. -/
theorem unit_read {a : Syn} {p : Pl} (E : PS → Syn × PS) (h : checkC a p = 0) (hk : 13 ≤ a.kind ∧ a.kind ≤ 16) (hp : Era pre) (hq : Era post) : unitP E (Cur pre (toksC a ++ post) d) = (erS a, Cur (pre ++ toksC a) post d) := by
  by_cases h3 : a.kind = 13
  · have := lit_read (d := d) h h3 hp hq
    rw [this.2 E, this.1]
  by_cases h4 : a.kind = 14
  · exact ref_read h h4 hp hq
  by_cases h5 : a.kind = 15
  · exact count_read h h5 hp hq
  exact total_read h (by omega) hp hq

/-! Expressions. -/
def lowN : Nat → (PS → Syn × PS) × (PS → Syn × PS)
  | 0 => (dullP, dullP)
  | n + 1 => negN n
theorem neg_low : ∀ n, negN n = (notP (lowN n).2 (lowN n).1, orP (lowN n).2 (lowN n).1)
  | 0 => rfl
  | _ + 1 => rfl
/-- An expression is read, at each level of nesting that is deep enough. -/
def RE (a : Syn) : Prop := ∀ (n : Nat) (d : Int) (pre post : List Tok), 0 ≤ d → d + (depthC a : Int) ≤ 64 → 64 ≤ (n : Int) + d → Era pre → Era post → Bq post →
  (negN n).2 (Cur pre (toksC a ++ post) d) = (erS a, Cur (pre ++ toksC a) post d) ∧ (a.kind ≠ 17 → (negN n).1 (Cur pre (toksC a ++ post) d) = (erS a, Cur (pre ++ toksC a) post d))
/-- An operand: in parentheses, or a unit. -/
theorem opnd {q a : Syn} (ha : checkC a .exps = 0) (hr : RE a) (hc : closedC q.kind a.kind = false → a.kind ≤ 16) {n : Nat} (h0 : 0 ≤ d) (hd : d + ((depthC a + (if closedC q.kind a.kind then 1 else 0) : Nat) : Int) ≤ 64) (hn : 64 ≤ (n : Int) + d) (hp : Era pre) (hq : Era post) :
    unitP (lowN n).2 (Cur pre (wrapK q a (toksC a) ++ post) d) = (erS a, Cur (pre ++ wrapK q a (toksC a)) post d) := by
  have hk := exp_at (own_at (ok_own ha).1).1
  unfold wrapK
  cases hcl : closedC q.kind a.kind with
  | false =>
    simp only [Bool.false_eq_true, ↓reduceIte]
    exact unit_read _ ha ⟨hk.1, hc hcl⟩ hp hq
  | true =>
    rw [hcl] at hd
    simp only [↓reduceIte] at hd ⊢
    obtain ⟨m, rfl⟩ : ∃ m, n = m + 1 := ⟨n - 1, by omega⟩
    have h1 := (hr m (d + 1) (pre ++ [tlp]) (trp :: post) (by omega) (by omega) (by omega) (hp.app (show Era [tlp] from rfl)) (era_cons rfl hq) (.rp _)).1
    have h2 := unit_paren_good (E := (negN m).2) (d := d) (pre := pre) (post := post) h0 (by omega) h1
    have e : ([tlp] ++ toksC a ++ [trp]) ++ post = tlp :: (toksC a ++ trp :: post) := by simp
    rw [e]
    show unitP (negN m).2 _ = _
    rw [h2]
    simp
theorem wrap_first {q a : Syn} (ha : checkC a .exps = 0) (hc : closedC q.kind a.kind = false → a.kind ≤ 16) : ∃ c r, wrapK q a (toksC a) = c :: r ∧ hitW c w_tnot = false := by
  have hk := exp_at (own_at (ok_own ha).1).1
  obtain ⟨_, _, hn, hf⟩ := own_at (ok_own ha).1
  unfold wrapK
  cases hcl : closedC q.kind a.kind with
  | true => exact ⟨tlp, _, rfl, by decide⟩
  | false =>
    have hk2 := hc hcl
    simp only [Bool.false_eq_true, ↓reduceIte]
    by_cases h3 : a.kind = 13
    · have e2 : toksC a = litK a := by rw [toksC_eq]; unfold nodeK; rw [h3]; rfl
      rw [e2]
      unfold litK numK
      split
      · split
        · exact ⟨_, _, rfl, by decide⟩
        · exact ⟨_, _, rfl, kind_hit (.inl rfl) _⟩
      · split
        · split
          · exact ⟨_, _, rfl, by decide⟩
          · exact ⟨_, _, rfl, by decide⟩
        · exact ⟨_, _, rfl, kind_hit (.inr rfl) _⟩
    by_cases h4 : a.kind = 14
    · have e2 : toksC a = [tw a.text, tg w_dot, tw a.name] := by rw [toksC_eq]; unfold nodeK; rw [h4]; rfl
      exact ⟨_, _, e2, name_hit (name_key (name_of hn (by rw [h4]; rfl) (by omega))) _⟩
    by_cases h5 : a.kind = 15
    · have e2 : toksC a = [tw w_tcount, tlp, tw a.text, trp] := by rw [toksC_eq]; unfold nodeK; rw [h5]; rfl
      exact ⟨_, _, e2, by decide⟩
    have h6 : a.kind = 16 := by omega
    have e2 : toksC a = [tw (aggT a.num)] ++ [tlp] ++ [tw a.text] ++ [tg w_dot] ++ [tw a.name] ++ (if (a.kids.map toksC == []) = true then [] else [tcm] ++ (a.kids.map toksC).getD 0 []) ++ [trp] := by rw [toksC_eq]; unfold nodeK; rw [h6]; rfl
    have hi := total_num hf h6
    refine ⟨tw (aggT a.num), _, by rw [e2]; simp only [List.append_assoc]; rfl, ?_⟩
    have : a.num = 1 ∨ a.num = 2 ∨ a.num = 3 ∨ a.num = 4 ∨ a.num = 5 := by omega
    rcases this with h | h | h | h | h <;> rw [h] <;> decide
end Go.Proofs.YtabkeeedkhgodaaGreatDoor

namespace Go.Proofs.YtabkeeedkhgodaaGreatDoor
open Go Go.Aw
set_option linter.unusedVariables false
set_option linter.unusedSimpArgs false
set_option maxRecDepth 100000
variable {pre post rest : List Tok} {d : Int} {t : Tok}

theorem chain_two {F : PS → Syn × PS} {sg : List (Str × Int)} {s : PS} {a b : Syn} {M : List Tok} {o : Str × Int}
    (h1 : F s = (a, Cur pre (t :: rest) d)) (h2 : sg.find? (fun x => isP x.1 (Cur pre (t :: rest) d)) = some o) (h3 : F (Cur (pre ++ [t]) rest d) = (b, Cur M post d)) (h4 : sg.find? (fun x => isP x.1 (Cur M post d)) = none) : chainP F sg s = (binS o.2 a b a.pos, Cur M post d) := by
  have hn : ∀ (n : Nat) (c : Syn), chainGo F sg n (Cur M post d) c = (c, Cur M post d) := fun n c => by
    cases n with
    | zero => rfl
    | succ n => unfold chainGo; rw [h4]
  unfold chainP fuel
  rw [h1]
  unfold chainGo
  simp only [h2, adv_cur, h3, hn]
theorem fnone' {sg : List (Str × Int)} {s : PS} (h : ∀ x, x ∈ sg → isP x.1 s = false) : sg.find? (fun x => isP x.1 s) = none := by
  rw [List.find?_eq_none]; intro x hx; rw [h x hx]; decide
theorem q_sum (hb : Bq post) : sumL.find? (fun x => isP x.1 (Cur pre post d)) = none := fnone' fun x hx => by
  have h := NoOp.q (pre := pre) (d := d) hb
  simp only [sumL, List.mem_cons, List.not_mem_nil, or_false] at hx
  rcases hx with rfl | rfl
  · exact h.1.2.2.1
  · exact h.1.2.2.2
theorem q_and (hb : Bq post) : andL.find? (fun x => isP x.1 (Cur pre post d)) = none := fnone' fun x hx => by
  simp only [andL, List.mem_cons, List.not_mem_nil, or_false] at hx
  subst hx; exact (NoOp.q hb).1.2.1
theorem q_or (hb : Bq post) : orL.find? (fun x => isP x.1 (Cur pre post d)) = none := fnone' fun x hx => by
  simp only [orL, List.mem_cons, List.not_mem_nil, or_false] at hx
  subst hx; exact (NoOp.q hb).1.1
/-- A level that finds nothing. -/
theorem not_of {E N : PS → Syn × PS} {s : PS} {r : Syn × PS} (hn : isP w_tnot s = false) (h : cmpP E s = r) : notP E N s = r := by unfold notP; rw [hn]; exact h
theorem and_of {E N : PS → Syn × PS} {s : PS} {r : Syn × PS} (h : notP E N s = r) (hs : andL.find? (fun x => isP x.1 r.2) = none) : andP E N s = r := by
  have : chainP (notP E N) andL s = notP E N s := chain_none (by rw [h]; exact hs)
  unfold andP; rw [this, h]
theorem or_of {E N : PS → Syn × PS} {s : PS} {r : Syn × PS} (h : andP E N s = r) (hs : orL.find? (fun x => isP x.1 r.2) = none) : orP E N s = r := by
  have : chainP (andP E N) orL s = andP E N s := chain_none (by rw [h]; exact hs)
  unfold orP; rw [this, h]
theorem sum_of {E : PS → Syn × PS} {s : PS} {r : Syn × PS} (h : unitP E s = r) (hs : sumL.find? (fun x => isP x.1 r.2) = none) : sumP E s = r := by
  have : chainP (unitP E) sumL s = unitP E s := chain_none (by rw [h]; exact hs)
  unfold sumP; rw [this, h]
theorem cmp_of {E : PS → Syn × PS} {s : PS} {r : Syn × PS} (h : sumP E s = r) (hs : isP w_lt r.2 = false ∧ isP w_le r.2 = false ∧ isP w_gt r.2 = false ∧ isP w_ge r.2 = false ∧ isP w_eqq r.2 = false ∧ isP w_neq r.2 = false) : cmpP E s = r := by
  obtain ⟨h1, h2, h3, h4, h5, h6⟩ := hs
  rw [cmpP_K, h]
  unfold cmpK
  rw [h1, h2, h3, h4, h5, h6]; rfl
/-- Two operands with the operation between them. -/
theorem bin_read {E N : PS → Syn × PS} {n : Int} {A B : Syn} {L R : List Tok} (hn : n = 5 ∨ n = 6 ∨ n = 7 ∨ n = 8 ∨ n = 9 ∨ n = 10 ∨ n = 11) (hA : A.pos = 0) (hb : Bq post)
    (u1 : unitP E (Cur pre (L ++ operK n :: (R ++ post)) d) = (A, Cur (pre ++ L) (operK n :: (R ++ post)) d)) (h2 : unitP E (Cur (pre ++ L ++ [operK n]) (R ++ post) d) = (B, Cur (pre ++ L ++ [operK n] ++ R) post d))
    (n1 : ∀ q, isP w_tnot (Cur pre (L ++ q) d) = false) (n2 : ∀ p q, isP w_tnot (Cur p (R ++ q) d) = false) :
    orP E N (Cur pre (L ++ operK n :: (R ++ post)) d) = (binS n A B 0, Cur (pre ++ L ++ [operK n] ++ R) post d) := by
  have hq := NoOp.q (pre := pre ++ L ++ [operK n] ++ R) (d := d) hb
  have s2 : sumP E (Cur (pre ++ L ++ [operK n]) (R ++ post) d) = _ := sum_of h2 (q_sum hb)
  have c2 : cmpP E (Cur (pre ++ L ++ [operK n]) (R ++ post) d) = _ := cmp_of s2 hq.2
  have t2 : notP E N (Cur (pre ++ L ++ [operK n]) (R ++ post) d) = _ := not_of (n2 _ _) c2
  have a2 : andP E N (Cur (pre ++ L ++ [operK n]) (R ++ post) d) = _ := and_of t2 (q_and hb)
  have hitS : ∀ w, isP w (Cur (pre ++ L) (operK n :: (R ++ post)) d) = hitW (operK n) w := fun w => is_hit
  have noS : n ≠ 5 → n ≠ 6 → sumL.find? (fun x => isP x.1 (Cur (pre ++ L) (operK n :: (R ++ post)) d)) = none := fun h5 h6 => fnone' fun x hx => by
    rw [hitS]
    rcases hn with h | h | h | h | h | h | h
    · exact absurd h h5
    · exact absurd h h6
    all_goals (subst h; revert x; decide)
  have noC : n ≠ 7 → n ≠ 8 → n ≠ 9 → hitW (operK n) w_lt = false ∧ hitW (operK n) w_le = false ∧ hitW (operK n) w_gt = false ∧ hitW (operK n) w_ge = false ∧ hitW (operK n) w_eqq = false ∧ hitW (operK n) w_neq = false := fun h7 h8 h9 => by
    rcases hn with h | h | h | h | h | h | h
    · subst h; decide
    · subst h; decide
    · exact absurd h h7
    · exact absurd h h8
    · exact absurd h h9
    · subst h; decide
    · subst h; decide
  by_cases hs : n = 5 ∨ n = 6
  · have c : sumP E (Cur pre (L ++ operK n :: (R ++ post)) d) = (binS n A B A.pos, Cur (pre ++ L ++ [operK n] ++ R) post d) :=
      chain_two (o := (operT n, n)) u1 (by unfold sumL; rw [List.find?_cons, List.find?_cons, hitS, hitS]; rcases hs with h | h <;> subst h <;> rfl) h2 (q_sum hb)
    rw [hA] at c
    exact or_of (and_of (not_of (n1 _) (cmp_of c hq.2)) (q_and hb)) (q_or hb)
  · have s1 : sumP E (Cur pre (L ++ operK n :: (R ++ post)) d) = _ := sum_of u1 (noS (fun h => hs (.inl h)) (fun h => hs (.inr h)))
    by_cases hc : n = 7 ∨ n = 8 ∨ n = 9
    · have c : cmpP E (Cur pre (L ++ operK n :: (R ++ post)) d) = (binS n A B 0, Cur (pre ++ L ++ [operK n] ++ R) post d) := by
        rw [cmpP_K, s1]
        unfold cmpK
        rw [hitS, hitS, hitS, hitS, hitS, hitS]
        simp only [adv_cur, s2, hA]
        rcases hc with h | h | h <;> subst h <;> rfl
      exact or_of (and_of (not_of (n1 _) c) (q_and hb)) (q_or hb)
    · have c1 : cmpP E (Cur pre (L ++ operK n :: (R ++ post)) d) = _ := cmp_of s1 (by
        have := noC (fun h => hc (.inl h)) (fun h => hc (.inr (.inl h))) (fun h => hc (.inr (.inr h)))
        simp only [hitS]; exact this)
      have t1 : notP E N (Cur pre (L ++ operK n :: (R ++ post)) d) = _ := not_of (n1 _) c1
      by_cases ha : n = 10
      · have c : andP E N (Cur pre (L ++ operK n :: (R ++ post)) d) = (binS n A B A.pos, Cur (pre ++ L ++ [operK n] ++ R) post d) :=
          chain_two (o := (w_tand, 10)) t1 (by unfold andL; rw [List.find?_cons, hitS]; subst ha; rfl) t2 (q_and hb) |>.trans (by subst ha; rfl)
        rw [hA] at c
        exact or_of c (q_or hb)
      · have hn11 : n = 11 := by omega
        have a1 : andP E N (Cur pre (L ++ operK n :: (R ++ post)) d) = _ := and_of t1 (fnone' fun x hx => by
          rw [hitS]; subst hn11; revert x; decide)
        have c : orP E N (Cur pre (L ++ operK n :: (R ++ post)) d) = (binS n A B A.pos, Cur (pre ++ L ++ [operK n] ++ R) post d) :=
          chain_two (o := (w_tor, 11)) a1 (by unfold orL; rw [List.find?_cons, hitS]; subst hn11; rfl) a2 (q_or hb) |>.trans (by subst hn11; rfl)
        rw [hA] at c
        exact c
/-- An operand followed by nothing that goes on. -/
theorem one_unit {E N : PS → Syn × PS} {A : Syn} {s : PS} {M : List Tok} (hb : Bq post) (h : unitP E s = (A, Cur M post d)) (hn : isP w_tnot s = false) : notP E N s = (A, Cur M post d) ∧ orP E N s = (A, Cur M post d) := by
  have t := not_of (N := N) hn (cmp_of (sum_of h (q_sum hb)) (NoOp.q hb).2)
  exact ⟨t, or_of (and_of t (q_and hb)) (q_or hb)⟩
theorem first_not {L : List Tok} (h : ∃ c r, L = c :: r ∧ hitW c w_tnot = false) (p q : List Tok) : isP w_tnot (Cur p (L ++ q) d) = false := by
  obtain ⟨c, r, rfl, h⟩ := h
  rw [List.cons_append, is_hit, h]
/-- Every well-formed expression is read. -/
theorem expr_read (a : Syn) : checkC a .exps = 0 → RE a := by
  refine Syn.ind (P := fun a => checkC a .exps = 0 → RE a) (fun a ih h => ?_) a
  have hk := exp_at (own_at (ok_own h).1).1
  obtain ⟨_, hs, hn, hf⟩ := own_at (ok_own h).1
  intro n d pre post h0 hd hnn hp hq hb
  rw [neg_low n]
  have hde := depthC_eq a
  by_cases h17 : a.kind = 17
  · refine ⟨?_, fun h => absurd h17 h⟩
    unfold shapeC at hs
    rw [h17] at hs
    replace hs : ((a.kids.length : Int) == 2) = true := hs
    obtain ⟨x, y, hkid⟩ := kids_two (t := a) (by simpa using hs)
    have cx : checkC x .exps = 0 := by
      have := (kid_ok h (j := 0) (a := x) (by rw [hkid]; rfl)).1
      have e : kidC a 0 = .exps := by unfold kidC; rw [h17]; rfl
      rwa [e] at this
    have cy : checkC y .exps = 0 := by
      have := (kid_ok h (j := 1) (a := y) (by rw [hkid]; rfl)).1
      have e : kidC a 1 = .exps := by unfold kidC; rw [h17]; rfl
      rwa [e] at this
    have rx := ih x (by rw [hkid]; simp) cx
    have ry := ih y (by rw [hkid]; simp) cy
    have kx := exp_at (own_at (ok_own cx).1).1
    have ky := exp_at (own_at (ok_own cy).1).1
    have clx : closedC a.kind x.kind = false → x.kind ≤ 16 := fun hc => by
      rw [h17] at hc
      replace hc : ((x.kind == 17) || (x.kind == 18)) = false := hc
      simp only [Bool.or_eq_false_iff, beq_eq_false_iff_ne] at hc
      omega
    have cly : closedC a.kind y.kind = false → y.kind ≤ 16 := fun hc => by
      rw [h17] at hc
      replace hc : ((y.kind == 17) || (y.kind == 18)) = false := hc
      simp only [Bool.or_eq_false_iff, beq_eq_false_iff_ne] at hc
      omega
    have hdl : depthL a.kind a.kids = max (depthC x + (if closedC a.kind x.kind then 1 else 0)) (max (depthC y + (if closedC a.kind y.kind then 1 else 0)) 0) := by rw [hkid, depthL, depthL, depthL]
    have hi := bin_num hf h17
    have e2 : toksC a = wrapK a x (toksC x) ++ operK a.num :: wrapK a y (toksC y) := by
      have k0 : kidN a 0 = x := by unfold kidN; rw [hkid]; rfl
      have k1 : kidN a 1 = y := by unfold kidN; rw [hkid]; rfl
      rw [toksC_eq]; unfold nodeK; rw [h17]
      show wrapK a (kidN a 0) ((a.kids.map toksC).getD 0 []) ++ [] ++ [operK a.num] ++ [] ++ wrapK a (kidN a 1) ((a.kids.map toksC).getD 1 []) = _
      rw [k0, k1, hkid]; simp
    have hnm : a.text = [] ∧ a.name = [] := by
      unfold fieldsC at hf
      rw [h17] at hf
      replace hf : (if (numC a != 0) = true then numC a else if ((!false && !(a.text == [])) || (!false && !(a.name == []))) = true then 3 else 0) = 0 := hf
      split at hf
      · rename_i h1; rw [hf] at h1; cases h1
      · split at hf
        · cases hf
        · rename_i h2
          have h3 : (!(a.text == []) || !(a.name == [])) = false := by simpa using h2
          simp only [Bool.or_eq_false_iff, Bool.not_eq_false'] at h3
          exact ⟨by simpa using h3.1, by simpa using h3.2⟩
    have er : erS a = binS a.num (erS x) (erS y) 0 := by rw [erS_eq, h17, hkid, hnm.1, hnm.2]; rfl
    have eW : ∀ (z : Syn), Era (wrapK a z (toksC z)) := fun z => era_wrap (era_toks z)
    have eO : Era [operK a.num] := era_one _ (by unfold operK; split <;> rfl)
    rw [e2, er]
    have key := bin_read (E := (lowN n).2) (N := (lowN n).1) (pre := pre) (post := post) (d := d) (n := a.num) (A := erS x) (B := erS y) (L := wrapK a x (toksC x)) (R := wrapK a y (toksC y)) hi (erS_pos x) hb
      (opnd cx rx clx h0 (by omega) hnn hp (era_cons (by unfold operK; split <;> rfl) ((eW y).app hq))) (opnd cy ry cly h0 (by omega) hnn ((hp.app (eW x)).app eO) hq) (fun q => first_not (wrap_first cx clx) _ _) (fun p q => first_not (wrap_first cy cly) _ _)
    rw [List.append_assoc, List.cons_append]
    show orP (lowN n).2 (lowN n).1 _ = _
    rw [key]
    simp
  · by_cases h18 : a.kind = 18
    · unfold shapeC at hs
      rw [h18] at hs
      replace hs : ((a.kids.length : Int) == 1) = true := hs
      obtain ⟨x, hkid⟩ := kids_one (t := a) (by simpa using hs)
      have cx : checkC x .exps = 0 := by
        have := (kid_ok h (j := 0) (a := x) (by rw [hkid]; rfl)).1
        have e : kidC a 0 = .exps := by unfold kidC; rw [h18]; rfl
        rwa [e] at this
      have rx := ih x (by rw [hkid]; simp) cx
      have kx := exp_at (own_at (ok_own cx).1).1
      have hdl : depthL a.kind a.kids = max (depthC x + (if closedC a.kind x.kind then 1 else 0)) 0 := by rw [hkid, depthL, depthL]
      have hcl : closedC a.kind x.kind = (x.kind == 17) := by rw [h18]; rfl
      rw [h18] at hde
      replace hde : depthC a = depthL 18 a.kids + 1 := hde
      rw [h18] at hdl
      obtain ⟨m, rfl⟩ : ∃ m, n = m + 1 := ⟨n - 1, by omega⟩
      have e2 : toksC a = tw w_tnot :: wrapK a x (toksC x) := by
        have k0 : kidN a 0 = x := by unfold kidN; rw [hkid]; rfl
        rw [toksC_eq]; unfold nodeK; rw [h18]
        show [tw w_tnot] ++ [] ++ wrapK a (kidN a 0) ((a.kids.map toksC).getD 0 []) = _
        rw [k0, hkid]; rfl
      have hnum := zero_num hf ⟨by omega, by omega, by omega, by omega, by omega⟩
      have hnm : a.text = [] ∧ a.name = [] := by
        unfold fieldsC at hf
        rw [h18] at hf
        replace hf : (if (numC a != 0) = true then numC a else if ((!false && !(a.text == [])) || (!false && !(a.name == []))) = true then 3 else 0) = 0 := hf
        split at hf
        · rename_i h1; rw [hf] at h1; cases h1
        · split at hf
          · cases hf
          · rename_i h2
            have h3 : (!(a.text == []) || !(a.name == [])) = false := by simpa using h2
            simp only [Bool.or_eq_false_iff, Bool.not_eq_false'] at h3
            exact ⟨by simpa using h3.1, by simpa using h3.2⟩
      have er : erS a = ⟨18, [], [], 0, [erS x], 0⟩ := by rw [erS_eq, h18, hkid, hnm.1, hnm.2, hnum]; rfl
      have inner : (negN m).1 (Cur (pre ++ [tw w_tnot]) (wrapK a x (toksC x) ++ post) (d + 1)) = (erS x, Cur (pre ++ [tw w_tnot] ++ wrapK a x (toksC x)) post (d + 1)) := by
        have hp1 : Era (pre ++ [tw w_tnot]) := hp.app (era_one _ rfl)
        by_cases hx : x.kind = 17
        · have hc1 : closedC a.kind x.kind = true := by rw [hcl, hx]; rfl
          have hc18 : closedC 18 x.kind = true := by rw [← h18]; exact hc1
          rw [hc18] at hdl
          have u := opnd (q := a) (a := x) (d := d + 1) (n := m) (pre := pre ++ [tw w_tnot]) (post := post) cx rx (fun hc => by rw [hc1] at hc; cases hc) (by omega) (by rw [hc1]; simp only [↓reduceIte] at hdl ⊢; omega) (by omega) hp1 hq
          rw [neg_low m]
          exact (one_unit (N := (lowN m).1) hb u (first_not (wrap_first cx (fun hc => by rw [hc1] at hc; cases hc)) _ _)).1
        · have hc1 : closedC a.kind x.kind = false := by rw [hcl]; simpa using hx
          have hc18 : closedC 18 x.kind = false := by rw [← h18]; exact hc1
          rw [hc18] at hdl
          simp only [Bool.false_eq_true, ↓reduceIte] at hdl
          have ew : wrapK a x (toksC x) = toksC x := by unfold wrapK; rw [hc1]; rfl
          rw [ew]
          exact (rx m (d + 1) (pre ++ [tw w_tnot]) post (by omega) (by omega) (by omega) hp1 hq hb).2 hx
      have ti : isP w_tnot (Cur pre (tw w_tnot :: (wrapK a x (toksC x) ++ post)) d) = true := by rw [is_hit]; decide
      have eo : offS (Cur pre (tw w_tnot :: (wrapK a x (toksC x) ++ post)) d) = 0 := cur_off hp (era_cons rfl ((era_wrap (era_toks x)).app hq))
      have key : notP (negN m).2 (negN m).1 (Cur pre (tw w_tnot :: (wrapK a x (toksC x) ++ post)) d) = (erS a, Cur (pre ++ tw w_tnot :: wrapK a x (toksC x)) post d) := by
        unfold notP
        rw [ti, eo]
        rw [if_neg (by decide)]
        rw [nest_cur h0 (by omega)]
        simp only [inner]
        rw [shallow_cur h0 (by omega), er]
        simp
      rw [e2]
      exact ⟨or_of (and_of key (q_and hb)) (q_or hb), fun _ => key⟩
    · have hc0 : closedC a.kind a.kind = false := by
        unfold closedC
        rw [if_neg (by simpa using h17), if_neg (by simpa using h18)]
      have ew : wrapK a a (toksC a) = toksC a := by unfold wrapK; rw [hc0]; rfl
      have hf1 := wrap_first (q := a) h (fun _ => by omega)
      rw [ew] at hf1
      have u := unit_read (d := d) (pre := pre) (post := post) (lowN n).2 h ⟨hk.1, by omega⟩ hp hq
      have := one_unit (N := (lowN n).1) hb u (first_not hf1 _ _)
      exact ⟨this.2, fun _ => this.1⟩
end Go.Proofs.YtabkeeedkhgodaaGreatDoor

namespace Go.Proofs.YtabkeeedkhgodaaGreatDoor
open Go Go.Aw
set_option linter.unusedVariables false
set_option linter.unusedSimpArgs false
set_option maxRecDepth 100000
variable {pre post rest : List Tok} {d : Int} {t : Tok}

def tailK (l : List Syn) : List Tok := l.flatMap fun a => tcm :: toksC a
/-! Events. -/
theorem EE_neg : EE = (negN 64).2 := rfl
/-! Patterns. -/
def lowT : Nat → PS → Syn × PS
  | 0 => dullP
  | n + 1 => patN EE n
def RT (a : Syn) : Prop := ∀ (n : Nat) (d : Int) (pre post : List Tok), 0 ≤ d → d + (depthC a : Int) ≤ 64 → 64 ≤ (n : Int) + d → Era pre → Era post → Bq post →
  patN EE n (Cur pre (toksC a ++ post) d) = (erS a, Cur (pre ++ toksC a) post d)
end Go.Proofs.YtabkeeedkhgodaaGreatDoor

namespace Go.Proofs.YtabkeeedkhgodaaGreatDoor
open Go Go.Aw
set_option linter.unusedVariables false
set_option linter.unusedSimpArgs false
set_option maxRecDepth 100000
variable {pre post rest : List Tok} {d : Int} {t : Tok}

theorem TT_64 : TT = patN EE 64 := rfl
/-! Programs. -/
theorem expr_back {a : Syn} (h : checkC a .exps = 0) (hd : depthC a ≤ 64) (hl : (writeC a).length ≤ 65536) : (parseP EE (writeC a)).2 = (0, 0) ∧ erS (parseP EE (writeC a)).1 = erS a := by
  have hk := exp_at (own_at (ok_own h).1).1
  have hpe : Pe (writeC a) (toksC a) [] := (pe_all a _ h (by omega) (by omega) (by omega)).1 _ .nil
  have r := (expr_read a h 64 0 [] [] (Int.le_refl _) (by omega) (by omega) rfl rfl .nil).1
  rw [List.append_nil, List.nil_append] at r
  have w := (whole er_EE (hpe.scan hl)).1 _ _ r
  refine ⟨?_, w.2⟩
  obtain ⟨_, _, _, h4⟩ := parse_good w.1
  rw [h4]
end Go.Proofs.YtabkeeedkhgodaaGreatDoor
