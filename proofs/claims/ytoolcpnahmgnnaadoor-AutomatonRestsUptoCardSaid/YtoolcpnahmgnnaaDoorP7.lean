/-
  The text of an automaton, and how long it can be. No program in sight. No condition.
-/
import Derived.Test.YtoolcpnahmgnnaaDoorP6
import Derived.Lib.ItoaLen
import Derived.Lib.Join
namespace Go.Proofs.YtoolcpnahmgnnaaDoor
open Go Go.Aw
set_option linter.unusedVariables false
set_option linter.unusedSimpArgs false

abbrev Str := List UInt8
def sState : Str := [115, 116, 97, 116, 101]
def sGuard : Str := [103, 117, 97, 114, 100]
def sEdge : Str := [101, 100, 103, 101]
def sTo : Str := [116, 111]
def sOpens : Str := [111, 112, 101, 110, 115]
def sCloses : Str := [99, 108, 111, 115, 101, 115]
def sInside : Str := [105, 110, 115, 105, 100, 101]
def sLimits : Str := [108, 105, 109, 105, 116, 115]
def sChecks : Str := [99, 104, 101, 99, 107, 115]
def numT (l : List Int) : Str := l.flatMap fun x => 32 :: Lib.itoa x
def numbersT (w : Str) (l : List Int) : Str := if (l.length : Int) == 0 then [] else (32 :: w) ++ numT l
def wordsT (ws : List Str) : Str := ws.flatMap fun v => 32 :: v
def addW (w : Str) (ns : List Int) : List Str := w :: ns.map Lib.itoa
def listW (w : Str) (ns : List Int) : List Str := if decide (0 < (ns.length : Int)) then addW w ns else []
def limI (l : List Li) : List Int := l.flatMap fun x => [x.scope, x.span]
def chkW (n : Nat) : List Str := if decide (0 < (n : Int)) then addW sChecks [(n : Int)] else []
def edgeW (x : Ed) : List Str := addW sEdge [x.var, x.type] ++ addW sTo [x.dst] ++ listW sOpens x.opens ++ listW sCloses x.closes ++ listW sInside x.inside ++ listW sLimits (limI x.limits) ++ chkW x.checks.length
def guardsW (l : List Gu) : List Str := l.flatMap fun g => addW sGuard [g.scope, g.type, g.var]
def stateW (i : Nat) (l : List Gu) : List Str := addW sState [(i : Int)] ++ guardsW l
def lineT (ws : List Str) : Str := Lib.join ws [32] ++ [10]
def stateT (i : Nat) (l : List Gu) : Str := lineT (stateW i l)
def edgeT (x : Ed) : Str := lineT (edgeW x)
def chunkT (a : Au) (i : Nat) (l : List Gu) : Str := stateT i l ++ (fromS a.edges (i : Int)).flatMap edgeT
def fmtGo (a : Au) : Nat → List (List Gu) → Str
  | _, [] => []
  | i, s :: r => chunkT a i s ++ fmtGo a (i + 1) r
def formatS (a : Au) : Str × Int := if checkA a != 0 then ([], checkA a) else (fmtGo a 0 a.states, 0)

theorem join_words (w : Str) (r : List Str) : Lib.join (w :: r) [32] = w ++ wordsT r := by
  rw [Lib.join_cons]; congr 1
theorem wordsT_app (a b : List Str) : wordsT (a ++ b) = wordsT a ++ wordsT b := by simp [wordsT]
theorem wordsT_map (l : List Int) : wordsT (l.map Lib.itoa) = numT l := by simp [wordsT, numT, List.flatMap_map]
theorem wordsT_add (w : Str) (ns : List Int) : wordsT (addW w ns) = (32 :: w) ++ numT ns := by
  unfold addW
  rw [show w :: ns.map Lib.itoa = [w] ++ ns.map Lib.itoa from rfl, wordsT_app, wordsT_map]
  simp [wordsT]
theorem wordsT_list (w : Str) (ns : List Int) : wordsT (listW w ns) = numbersT w ns := by
  unfold listW numbersT
  cases ns with
  | nil => rfl
  | cons a r =>
    rw [if_pos (decide_eq_true (by simp only [List.length_cons]; omega)), if_neg (by simp only [List.length_cons, beq_iff_eq]; omega), wordsT_add]
theorem numT_cons (x : Int) (l : List Int) : numT (x :: l) = (32 :: Lib.itoa x) ++ numT l := rfl
theorem guardsW_text (l : List Gu) : wordsT (guardsW l) = l.flatMap fun g => numbersT sGuard [g.scope, g.type, g.var] := by
  induction l with
  | nil => rfl
  | cons g r ih =>
    show wordsT (addW sGuard [g.scope, g.type, g.var] ++ guardsW r) = _
    rw [wordsT_app, ih, wordsT_add]
    rfl
/-- As the reference writes it. -/
theorem stateT_eq (i : Nat) (l : List Gu) : stateT i l = (sState ++ 32 :: Lib.itoa (i : Int)) ++ (l.flatMap fun g => numbersT sGuard [g.scope, g.type, g.var]) ++ [10] := by
  unfold stateT lineT stateW
  rw [show addW sState [(i : Int)] ++ guardsW l = sState :: ([Lib.itoa (i : Int)] ++ guardsW l) from rfl, join_words, wordsT_app, guardsW_text]
  simp [wordsT]
def chkT (n : Nat) : Str := if decide (0 < (n : Int)) then (32 :: sChecks ++ [32]) ++ Lib.itoa (n : Int) else []
theorem chk_words (n : Nat) : wordsT (chkW n) = chkT n := by
  unfold chkW chkT
  split
  · rw [wordsT_add]; simp [numT]
  · rfl
theorem edgeT_eq (x : Ed) : edgeT x = (sEdge ++ numT [x.var, x.type] ++ (32 :: sTo) ++ numT [x.dst]) ++ (numbersT sOpens x.opens ++ numbersT sCloses x.closes ++ numbersT sInside x.inside ++ numbersT sLimits (limI x.limits)) ++ chkT x.checks.length ++ [10] := by
  unfold edgeT lineT edgeW
  rw [show addW sEdge [x.var, x.type] ++ addW sTo [x.dst] ++ listW sOpens x.opens ++ listW sCloses x.closes ++ listW sInside x.inside ++ listW sLimits (limI x.limits) ++ chkW x.checks.length =
    sEdge :: ([x.var, x.type].map Lib.itoa ++ addW sTo [x.dst] ++ listW sOpens x.opens ++ listW sCloses x.closes ++ listW sInside x.inside ++ listW sLimits (limI x.limits) ++ chkW x.checks.length) from rfl, join_words]
  simp only [wordsT_app, wordsT_map, wordsT_add, wordsT_list, chk_words, List.append_assoc]

/-! Lengths. -/
def I64 (x : Int) : Prop := -9223372036854775808 ≤ x ∧ x ≤ 9223372036854775807
theorem itoa_le {x : Int} (h : I64 x) : (Lib.itoa x).length ≤ 21 := Lib.itoa_length_le x h.1 h.2
theorem numT_len : ∀ {l : List Int}, (∀ x ∈ l, I64 x) → (numT l).length ≤ 22 * l.length
  | [], _ => Nat.le_refl _
  | x :: l, h => by
    have h1 := itoa_le (h x (List.mem_cons_self ..))
    have h2 := numT_len fun y hy => h y (List.mem_cons_of_mem _ hy)
    rw [numT_cons]
    simp only [List.length_append, List.length_cons]
    omega
theorem numbersT_len {w : Str} {l : List Int} (hw : w.length ≤ 6) (h : ∀ x ∈ l, I64 x) : (numbersT w l).length ≤ 7 + 22 * l.length := by
  have := numT_len h
  unfold numbersT
  split
  · simp
  · simp only [List.length_append, List.length_cons]; omega
theorem limI_len (l : List Li) : (limI l).length = 2 * l.length := by
  unfold limI
  induction l with
  | nil => rfl
  | cons a r ih => simp only [List.flatMap_cons, List.length_append, List.length_cons, List.length_nil, ih]; omega
structure EdI (x : Ed) : Prop where
  var : I64 x.var
  type : I64 x.type
  dst : I64 x.dst
  o : ∀ v ∈ x.opens, I64 v
  c : ∀ v ∈ x.closes, I64 v
  i : ∀ v ∈ x.inside, I64 v
  l : ∀ v ∈ limI x.limits, I64 v
def GuI (g : Gu) : Prop := I64 g.scope ∧ I64 g.type ∧ I64 g.var
theorem flat_len {α : Type} {f : α → Str} {n : Nat} : ∀ {l : List α}, (∀ x ∈ l, (f x).length ≤ n) → (l.flatMap f).length ≤ n * l.length
  | [], _ => Nat.zero_le _
  | a :: r, h => by
    have h1 := h a (List.mem_cons_self ..)
    have h2 := flat_len fun x hx => h x (List.mem_cons_of_mem _ hx)
    simp only [List.flatMap_cons, List.length_append, List.length_cons]
    rw [Nat.mul_succ]; omega
theorem guard_len {g : Gu} (h : GuI g) : (numbersT sGuard [g.scope, g.type, g.var]).length ≤ 73 := by
  have := numbersT_len (w := sGuard) (l := [g.scope, g.type, g.var]) (by decide) (fun x hx => by
    simp only [List.mem_cons, List.not_mem_nil, or_false] at hx
    rcases hx with rfl | rfl | rfl
    · exact h.1
    · exact h.2.1
    · exact h.2.2)
  simpa using this
end Go.Proofs.YtoolcpnahmgnnaaDoor
