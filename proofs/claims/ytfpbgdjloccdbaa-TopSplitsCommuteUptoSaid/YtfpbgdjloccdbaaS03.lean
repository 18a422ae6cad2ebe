/-
  What the functions of TopSplitsCommute compute, as plain functions. No condition.
-/
import Derived.Test.YtfpbgdjloccdbaaM03
namespace Go.Proofs.Ytfpbgdjloccdbaa
open Go Go.Aw
set_option linter.unusedVariables false
set_option linter.unusedSimpArgs false

/-! ### Events -/
def numbersE (e : Ev) : Int :=
  if decide (e.source < 0) || decide (8 ≤ e.source) then 32
  else if decide (e.seq < 0) || decide (1099511627776 < e.seq) || decide (e.time < 0) || decide (1099511627776 < e.time) then 2 else 0
def valE (v : Vl) (f : Fi) : Int := if vcheckS v != 0 then vcheckS v else if v.kind != f.kind then 9 else 0
def valsS : List Vl → List Fi → Int
  | v :: r, f :: s => if valE v f != 0 then valE v f else valsS r s
  | _, _ => 0
def fieldsOf (types : List Sc) (e : Ev) : List Fi := ((types[e.type.toNat]?).getD sc0).fields
def validE (types : List Sc) (e : Ev) : Int :=
  if numbersE e != 0 then numbersE e
  else if decide (e.type < 0) || decide ((types.length : Int) ≤ e.type) then 6
  else if (e.values.length : Int) != ((fieldsOf types e).length : Int) then 15
  else valsS e.values (fieldsOf types e)
def evCheckE (types : List Sc) (e : Ev) : Int := if allTS types != 0 then allTS types else validE types e
def keyE (k : Int) (s : Sc) : Int := if decide (k < -1) || decide ((s.fields.length : Int) ≤ k) then 16 else 0
def keysS : List Int → List Sc → Int
  | k :: r, s :: t => if keyE k s != 0 then keyE k s else keysS r t
  | _, _ => 0
def ckeyE (types : List Sc) (key : List Int) : Int :=
  if (key.length : Int) == 0 then 0 else if (key.length : Int) != (types.length : Int) then 15 else keysS key types
/-- the key's place for an event -/
def kOf (key : List Int) (e : Ev) : Int := (key[e.type.toNat]?).getD 0
def vAt (e : Ev) (k : Int) : Vl := (e.values[k.toNat]?).getD v0
def evKey (types : List Sc) (key : List Int) (e : Ev) : Vl × Bool × Int :=
  if evCheckE types e != 0 then (v0, false, evCheckE types e)
  else if (key.length : Int) == 0 then (v0, true, 0)
  else if (key.length : Int) != (types.length : Int) then (v0, false, 15)
  else if keysS key types != 0 then (v0, false, keysS key types)
  else if decide (0 ≤ kOf key e) then (vAt e (kOf key e), true, 0) else (v0, false, 0)
def few1 (l : List Vl) : Bool := !((l.take 40).any fun v => decide (128 < v.text.length)) && decide (l.length < 40)
def fewS (l : List Ev) : Bool := !((l.take 20).any fun e => decide (12 < e.values.length) || !few1 e.values) && decide (l.length ≤ 12)

/-! ### Order and equality -/
def cmpI (a b : Int) : Int := if decide (a < b) then -1 else if decide (b < a) then 1 else 0
def orS : List Int → Int
  | [] => 0
  | a :: r => if a != 0 then a else orS r
def sameRef (a b : Ev) : Bool := a.time == b.time && (a.source == b.source && a.seq == b.seq)
def evCmp (a b : Ev) : Int := if sameRef a b then 0 else orS [cmpI a.time b.time, cmpI a.source b.source, cmpI a.seq b.seq]
def cmpT (a b : List UInt8) : Int := Extern.BytealgCompare.cmp ⟨a.toArray⟩ ⟨b.toArray⟩
def vCmp (v w : Vl) : Int := if cmpI v.kind w.kind != 0 then cmpI v.kind w.kind else if cmpI v.num w.num != 0 then cmpI v.num w.num else cmpT v.text w.text
def allTwo {α : Type} (f : α → α → Bool) : List α → List α → Bool
  | [], [] => true
  | x :: r, y :: s => f x y && allTwo f r s
  | _, _ => false
def sameId (a b : Ev) : Bool := a.source == b.source && a.seq == b.seq
def sameVs (a b : List Vl) : Bool := allTwo eqV a b
def equalS (a b : Ev) : Bool := sameId a b && a.type == b.type && a.time == b.time && sameVs a.values b.values
def equalR (a b : Ev) : Bool := sameRef a b && a.type == b.type && sameVs a.values b.values
def sameEs (a b : List Ev) : Bool := allTwo equalR a b

/-! ### Sorting in place -/
section
variable {α : Type} (d : α) (lt : α → α → Bool)
def swS (l : List α) (j : Nat) : List α := (l.set j ((l[j - 1]?).getD d)).set (j - 1) ((l[j]?).getD d)
def innerS : Nat → List α → List α
  | 0, l => l
  | j + 1, l => if lt ((l[j + 1]?).getD d) ((l[j]?).getD d) then innerS j (swS d l (j + 1)) else l
def outerS : Nat → Nat → List α → List α
  | 0, _, l => l
  | n + 1, i, l => outerS n (i + 1) (innerS d lt i l)
def sortS (l : List α) : List α := outerS d lt (l.length - 1) 1 l
end

/-! ### Streams -/
def placedS (e : Ev) : Bool := decide (0 ≤ e.time) && decide (e.time ≤ 1099511627776) && decide (0 ≤ e.source) && decide (e.source < 8) && decide (0 ≤ e.seq) && decide (e.seq ≤ 1099511627776)
def allS (l : List Ev) : Int := if decide (4096 < (l.length : Int)) then 5 else if l.any fun e => !placedS e then 2 else 0
/-- one step of the check of a stream: what was seen before, in order -/
def prevBad (seen : List Ev) (e : Ev) : Bool := match seen.getLast? with | some b => decide (0 ≤ evCmp b e) | none => false
def stepE (seen : List Ev) (e : Ev) : Int :=
  if !placedS e then 2
  else if prevBad seen e then 14
  else if seen.any (sameId e) then 7 else 0
def streamGo : List Ev → List Ev → Int
  | _, [] => 0
  | seen, e :: r => if stepE seen e != 0 then stepE seen e else streamGo (seen ++ [e]) r
def streamS (l : List Ev) : Int := if decide (4096 < (l.length : Int)) then 5 else streamGo [] l
/-- the events once each, as they come; none if two with the same identity differ -/
def onceS : List Ev → List Ev → Option (List Ev)
  | out, [] => some out
  | out, e :: r =>
    match out.find? (sameId e) with
    | some f => if equalS f e then onceS out r else none
    | none => onceS (out ++ [e]) r
def evLt (a b : Ev) : Bool := decide (evCmp a b < 0)
def vLt (a b : Vl) : Bool := decide (vCmp a b < 0)
def sortedS (l : List Ev) : Option (List Ev) := (onceS [] l).map (sortS ev0 evLt)
def sortE (l : List Ev) : List Ev × Int :=
  if allS l != 0 then ([], allS l) else match sortedS l with | some s => (s, 0) | none => ([], 22)
def mergeE (a b : List Ev) : List Ev × Int :=
  if streamS a != 0 then ([], streamS a) else if streamS b != 0 then ([], streamS b) else
  match sortedS (a ++ b) with | some s => if decide (4096 < (s.length : Int)) then ([], 5) else (s, 0) | none => ([], 22)
def keyed (e : Ev) (key : List Int) : Vl × Bool × Int :=
  if (key.length : Int) == 0 then (v0, true, 0)
  else if decide (e.type < 0) || decide ((key.length : Int) ≤ e.type) then (v0, false, 1)
  else if decide (kOf key e < -1) || decide ((e.values.length : Int) ≤ kOf key e) then (v0, false, 2)
  else if kOf key e == -1 then (v0, false, 0) else (vAt e (kOf key e), true, 0)
/-- the parts so far: in the order of the keys' first events -/
def putS (v : Vl) (e : Ev) : List (Vl × List Ev) → List (Vl × List Ev)
  | [] => [(v, [e])]
  | p :: r => if eqV v p.1 then (p.1, p.2 ++ [e]) :: r else p :: putS v e r
def splitGo (key : List Int) : List (Vl × List Ev) → List Ev → List (Vl × List Ev) × Int
  | ps, [] => (ps, 0)
  | ps, e :: r =>
    if (keyed e key).2.2 != 0 then ([], (keyed e key).2.2)
    else if !(keyed e key).2.1 then splitGo key ps r else splitGo key (putS (keyed e key).1 e ps) r
def partOf (ps : List (Vl × List Ev)) (v : Vl) : List Ev := ((ps.find? fun p => eqV v p.1).map (·.2)).getD []
def splitS (l : List Ev) (key : List Int) : List Vl × List (List Ev) × Int :=
  if streamS l != 0 then ([], [], streamS l)
  else if (splitGo key [] l).2 != 0 then ([], [], (splitGo key [] l).2)
  else (sortS v0 vLt ((splitGo key [] l).1.map (·.1)), (sortS v0 vLt ((splitGo key [] l).1.map (·.1))).map (partOf (splitGo key [] l).1), 0)
def invS (l : List Ev) : Int × Int := if allS l != 0 then (0, allS l) else ((((List.range l.length).map fun i => ((l.take i).filter fun b => match l[i]? with | some e => decide (0 < evCmp b e) | none => false).length).sum : Nat), 0)

/-! ### The law -/
def caseKeyedS (types : List Sc) (key : List Int) (l : List Ev) (w : Vl) : List Ev × Bool :=
  if l.any fun e => (evKey types key e).2.2 != 0 then ([], false) else (l.filter fun e => (evKey types key e).2.1 && eqV (evKey types key e).1 w, true)
end Go.Proofs.Ytfpbgdjloccdbaa
