/-
  AUTOMATA AS PLAIN TYPES, how they lie in cells, and what the functions of layer 23 and of its reference compute. No condition.
-/
import Derived.Test.YtoolcpnahmgnnaaDoorM5
namespace Go.Proofs.YtoolcpnahmgnnaaDoor
open Go Go.Aw
set_option linter.unusedVariables false
set_option linter.unusedSimpArgs false

structure Gu where
  scope : Int
  type : Int
  var : Int
  cond : Ex
structure Li where
  scope : Int
  span : Int
deriving DecidableEq
structure Ed where
  src : Int
  dst : Int
  var : Int
  type : Int
  cond : Ex
  opens : List Int
  closes : List Int
  checks : List Ex
  limits : List Li
  inside : List Int
structure Au where
  vars : Int
  scopes : Int
  states : List (List Gu)
  edges : List Ed
def au0 : Au := ⟨0, 0, [], []⟩

@[reducible] def cI (n : Int) : List AV := [.int .i64 n]
@[reducible] def cB (b : Bool) : List AV := [.bool b]
@[reducible] def cLi (l : Li) : List AV := [.int .i64 l.scope, .int .i64 l.span]
@[reducible] def cGu (g : Gu) : List AV := [.int .i64 g.scope, .int .i64 g.type, .int .i64 g.var, .int .i64 g.cond.op, .sl 8 (g.cond.args.map encE), .int .i64 g.cond.var, .int .i64 g.cond.field, .int .i64 g.cond.kind, .int .i64 g.cond.val.kind, .int .i64 g.cond.val.num, .str g.cond.val.text]
@[reducible] def cEd (x : Ed) : List AV := [.int .i64 x.src, .int .i64 x.dst, .int .i64 x.var, .int .i64 x.type, .int .i64 x.cond.op, .sl 8 (x.cond.args.map encE), .int .i64 x.cond.var, .int .i64 x.cond.field, .int .i64 x.cond.kind, .int .i64 x.cond.val.kind, .int .i64 x.cond.val.num, .str x.cond.val.text,
  .sl 1 (x.opens.map cI), .sl 1 (x.closes.map cI), .sl 8 (x.checks.map encE), .sl 2 (x.limits.map cLi), .sl 1 (x.inside.map cI)]
@[reducible] def cSt (s : List Gu) : List AV := [.sl 11 (s.map cGu)]
@[reducible] def cAu (a : Au) : List AV := [.int .i64 a.vars, .int .i64 a.scopes, .sl 1 (a.states.map cSt), .sl 17 (a.edges.map cEd)]

/-! Checks. -/
@[reducible] def inS (i n : Int) : Bool := decide (0 ≤ i) && decide (i < n)
def guardE (vars scopes : Int) (seen : List Gu) (g : Gu) : Int :=
  if (!(inS g.scope scopes) || !(inS g.type 16)) || !(inS g.var vars) then 2 else if seen.any (fun h => h.scope == g.scope) then 7 else checkS g.cond
def guardsGo (vars scopes : Int) : List Gu → List Gu → Int
  | _, [] => 0
  | seen, g :: r => if guardE vars scopes seen g != 0 then guardE vars scopes seen g else guardsGo vars scopes (seen ++ [g]) r
def guardsS (vars scopes : Int) (l : List Gu) : Int := if decide (64 < (l.length : Int)) then 5 else guardsGo vars scopes [] l
def scopeE (n : Int) (seen : List Int) (s : Int) : Int := if !(inS s n) then 2 else if seen.any (fun h => h == s) then 7 else 0
def scopeGo (n : Int) : List Int → List Int → Int
  | _, [] => 0
  | seen, s :: r => if scopeE n seen s != 0 then scopeE n seen s else scopeGo n (seen ++ [s]) r
def scopesS (n : Int) (ls : List (List Int)) : Int := firstS (scopeGo n []) ls
@[reducible] def spanBad (l : Li) : Bool := decide (l.span < 0) || decide (1099511627776 < l.span)
def listsE (scopes : Int) (x : Ed) : Int :=
  if scopesS scopes [x.opens, x.closes, x.inside, x.limits.map Li.scope] != 0 then scopesS scopes [x.opens, x.closes, x.inside, x.limits.map Li.scope]
  else if x.limits.any spanBad then 2 else 0
def edgeE (vars scopes n : Int) (x : Ed) (before : Int) : Int :=
  if (((!(inS x.src n) || decide (x.dst < -1)) || decide (n ≤ x.dst)) || !(inS x.var vars)) || !(inS x.type 16) then 2
  else if decide (x.src < before) then 14
  else if checkS x.cond != 0 then checkS x.cond
  else if decide (64 < (x.checks.length : Int)) then 5
  else if firstS checkS x.checks != 0 then firstS checkS x.checks
  else listsE scopes x
def edgesGo (vars scopes n : Int) : Int → List Ed → Int
  | _, [] => 0
  | before, x :: r => if edgeE vars scopes n x before != 0 then edgeE vars scopes n x before else edgesGo vars scopes n x.src r
def checkA (a : Au) : Int :=
  if ((decide (a.vars < 0) || decide (16 < a.vars)) || decide (a.scopes < 0)) || decide (64 < a.scopes) then 2
  else if (decide ((a.states.length : Int) < 1) || decide (256 < (a.states.length : Int))) || decide (2048 < (a.edges.length : Int)) then 5
  else if firstS (guardsS a.vars a.scopes) a.states != 0 then firstS (guardsS a.vars a.scopes) a.states
  else edgesGo a.vars a.scopes a.states.length 0 a.edges

/-! Edges of a state. -/
def leaveGo (s : Int) : Nat → List Ed → List Int
  | _, [] => []
  | k, x :: r => if x.src == s then (k : Int) :: leaveGo s (k + 1) r else leaveGo s (k + 1) r
def leaveS (l : List Ed) (s : Int) : List Int := leaveGo s 0 l
def fromS (l : List Ed) (s : Int) : List Ed := l.filter (fun x => x.src == s)
def edgesS (a : Au) (s : Int) : List Ed × Int := if checkA a != 0 then ([], checkA a) else if !(inS s a.states.length) then ([], 6) else (fromS a.edges s, 0)

/-! Searching. -/
def markS (l : List Bool) (s : Int) : List Bool := l.set s.toNat true
def seenS (l : List Bool) (s : Int) : Bool := l.getD s.toNat false
def visitD (nx : Int → List Int) : Nat → List Bool → Int → List Bool
  | 0, seen, _ => seen
  | n + 1, seen, s => if seenS seen s then seen else (nx s).foldl (visitD nx n) (markS seen s)
def foundS (n : Nat) (start : List Int) (nx : Int → List Int) : List Bool := start.foldl (visitD nx (n + 1)) (List.replicate n false)
def nextF (l : List Ed) (s : Int) : List Int := (l.filter (fun x => (x.src == s) && decide (0 ≤ x.dst))).map Ed.dst
def nextB (l : List Ed) (s : Int) : List Int := (l.filter (fun x => x.dst == s)).map Ed.src
def endsS (l : List Ed) : List Int := (l.filter (fun x => decide (x.dst < 0))).map Ed.src
def reachA (a : Au) : List Bool := foundS a.states.length [0] (nextF a.edges)
def usefulA (a : Au) : List Bool := foundS a.states.length (endsS a.edges) (nextB a.edges)
def numsGo : Nat → List Bool → List Int
  | _, [] => []
  | k, b :: r => if b then (k : Int) :: numsGo (k + 1) r else numsGo (k + 1) r
def numsS (l : List Bool) : List Int := numsGo 0 l
def reachableS (a : Au) : List Int × Int := if checkA a != 0 then ([], checkA a) else (numsS (reachA a), 0)
def usefulS (a : Au) : List Int × Int := if checkA a != 0 then ([], checkA a) else (numsS (usefulA a), 0)
/-- .. in the reference: rounds over all edges. -/
def stepF (seen : List Bool) (x : Ed) : List Bool := if seenS seen x.src && decide (0 ≤ x.dst) then markS seen x.dst else seen
def stepB (seen : List Bool) (x : Ed) : List Bool := if decide (x.dst < 0) || seenS seen x.dst then markS seen x.src else seen
def rounds (f : List Bool → List Bool) : Nat → List Bool → List Bool
  | 0, s => s
  | n + 1, s => rounds f n (f s)
def reachR (a : Au) : List Bool := rounds (fun s => a.edges.foldl stepF s) a.states.length (markS (List.replicate a.states.length false) 0)
def usefulR (a : Au) : List Bool := rounds (fun s => a.edges.foldl stepB s) a.states.length (List.replicate a.states.length false)

/-! Trimming. -/
def keptS (r u : List Bool) : List Bool := markS (List.zipWith (· && ·) r u) 0
/-- How many are kept ahead of an index. -/
def numberS (kept : List Bool) (s : Int) : Int := ((kept.take s.toNat).countP id : Nat)
def keepStates : List Bool → List (List Gu) → List (List Gu)
  | b :: r, s :: l => if b then s :: keepStates r l else keepStates r l
  | _, _ => []
def keepEdge (kept : List Bool) (x : Ed) : Bool := seenS kept x.src && (decide (x.dst < 0) || seenS kept x.dst)
def moveEdge (kept : List Bool) (x : Ed) : Ed := { x with src := numberS kept x.src, dst := if decide (0 ≤ x.dst) then numberS kept x.dst else x.dst }
def trimBy (kept : List Bool) (a : Au) : Au := ⟨a.vars, a.scopes, keepStates kept a.states, (a.edges.filter (keepEdge kept)).map (moveEdge kept)⟩
def keptA (a : Au) : List Bool := keptS (reachA a) (usefulA a)
def trimS (a : Au) : Au × Int := if checkA a != 0 then (au0, checkA a) else (trimBy (keptA a) a, 0)

/-! Equality. -/
def sameGu (x y : Gu) : Bool := (((x.scope == y.scope) && (x.type == y.type)) && (x.var == y.var)) && sameS x.cond y.cond
def allTwo {α : Type} (f : α → α → Bool) : List α → List α → Bool
  | [], [] => true
  | x :: r, y :: s => f x y && allTwo f r s
  | _, _ => false
def sameGs (l m : List Gu) : Bool := allTwo sameGu l m
def sameEd (x y : Ed) : Bool := (((((((x.var == y.var) && (x.type == y.type)) && sameS x.cond y.cond) && allTwo sameS x.checks y.checks) && (x.opens == y.opens)) && (x.closes == y.closes)) && (x.inside == y.inside)) && (x.limits == y.limits)
def sameEdf (x y : Ed) : Bool := ((x.src == y.src) && (x.dst == y.dst)) && sameEd x y
def sameAu (a b : Au) : Bool := (((a.vars == b.vars) && (a.scopes == b.scopes)) && allTwo sameGs a.states b.states) && allTwo sameEdf a.edges b.edges

/-! Isomorphism. -/
abbrev Pg := List Int × List Int
def toS (l : List Int) (s : Int) : Int := l.getD s.toNat 0
def putS' (l : List Int) (s v : Int) : List Int := l.set s.toNat v
def stS (a : Au) (s : Int) : List Gu := a.states.getD s.toNat []
def pairL (pr : Pg → Int → Int → Bool × Pg) : List Ed → List Ed → Pg → Bool × Pg
  | x :: r, y :: s, p => if !(sameEd x y) then (false, p) else if !((pr p x.dst y.dst).1) then (false, (pr p x.dst y.dst).2) else pairL pr r s (pr p x.dst y.dst).2
  | _, _, p => (true, p)
def pairD (a b : Au) : Nat → Pg → Int → Int → Bool × Pg
  | 0, p, _, _ => (false, p)
  | n + 1, p, s, t =>
    if decide (s < 0) != decide (t < 0) then (false, p)
    else if decide (s < 0) || ((toS p.1 s == t) && (toS p.2 t == s)) then (true, p)
    else if (decide (0 ≤ toS p.1 s) || decide (0 ≤ toS p.2 t)) || !(sameGs (stS a s) (stS b t)) then (false, p)
    else if ((fromS a.edges s).length : Int) != ((fromS b.edges t).length : Int) then (false, (putS' p.1 s t, putS' p.2 t s))
    else pairL (pairD a b n) (fromS a.edges s) (fromS b.edges t) (putS' p.1 s t, putS' p.2 t s)
def none1 (n : Nat) : List Int := List.replicate n (-1)
def isoS (a b : Au) : List Int × Bool × Int :=
  if checkA a != 0 then ([], false, checkA a) else if checkA b != 0 then ([], false, checkA b)
  else if ((a.vars != b.vars) || (a.scopes != b.scopes)) || !((pairD a b (a.states.length + 1) (none1 a.states.length, none1 b.states.length) 0 0).1) then ([], false, 0)
  else ((pairD a b (a.states.length + 1) (none1 a.states.length, none1 b.states.length) 0 0).2.1, true, 0)
/-- .. in the reference. -/
def pairedR (p : Pg) (i k : Int) : Bool × Pg :=
  let q : Pg := if decide (toS p.1 i < 0) && decide (toS p.2 k < 0) then (putS' p.1 i k, putS' p.2 k i) else p
  ((toS q.1 i == k) && (toS q.2 k == i), q)
def matchL : List Ed → List Ed → Pg → Bool × Pg
  | x :: r, y :: s, p =>
    if !(sameEd x y) || (decide (x.dst < 0) != decide (y.dst < 0)) then (false, p)
    else if decide (0 ≤ x.dst) then (if !((pairedR p x.dst y.dst).1) then (false, (pairedR p x.dst y.dst).2) else matchL r s (pairedR p x.dst y.dst).2)
    else matchL r s p
  | _, _, p => (true, p)
def matchR (a b : Au) (p : Pg) (i : Int) : Bool × Pg :=
  if !(sameGs (stS a i) (stS b (toS p.1 i))) then (false, p)
  else if ((fromS a.edges i).length : Int) != ((fromS b.edges (toS p.1 i)).length : Int) then (false, p)
  else matchL (fromS a.edges i) (fromS b.edges (toS p.1 i)) p
/-- One round from a state on: what is left to do, or nothing. -/
def roundR (a b : Au) : Nat → Int → Pg × List Bool → Bool × Pg × List Bool
  | 0, _, s => (true, s)
  | n + 1, i, s =>
    if decide (0 ≤ toS s.1.1 i) && !(seenS s.2 i) then
      if !((matchR a b s.1 i).1) then (false, s) else roundR a b n (i + 1) ((matchR a b s.1 i).2, markS s.2 i)
    else roundR a b n (i + 1) s
def roundsR (a b : Au) : Nat → Pg × List Bool → Bool × Pg × List Bool
  | 0, s => (true, s)
  | n + 1, s => if !((roundR a b a.states.length 0 s).1) then (false, s) else roundsR a b n (roundR a b a.states.length 0 s).2
def isoR (a b : Au) : List Int × Bool × Int :=
  if checkA a != 0 then ([], false, checkA a) else if checkA b != 0 then ([], false, checkA b)
  else if (a.vars != b.vars) || (a.scopes != b.scopes) then ([], false, 0)
  else
    let r := roundsR a b a.states.length ((putS' (none1 a.states.length) 0 0, putS' (none1 b.states.length) 0 0), List.replicate a.states.length false)
    if !(r.1) then ([], false, 0) else (r.2.1.1, true, 0)
end Go.Proofs.YtoolcpnahmgnnaaDoor
