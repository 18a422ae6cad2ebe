/-
  WHAT THE FUNCTIONS OF THE PARSER AND OF ITS REFERENCE COMPUTE, in plain Lean. No condition.
-/
import Derived.Test.YtabkeeedkhgodaaGreatDoorM
namespace Go.Proofs.YtabkeeedkhgodaaGreatDoor
open Go Go.Aw

abbrev w_colon : Str := [58]
abbrev w_tint : Str := [105, 110, 116]
abbrev w_tbool : Str := [98, 111, 111, 108]
abbrev w_tstring : Str := [115, 116, 114, 105, 110, 103]
abbrev w_ttype : Str := [116, 121, 112, 101]
abbrev w_lbrace : Str := [123]
abbrev w_rbrace : Str := [125]
abbrev w_tquery : Str := [113, 117, 101, 114, 121]
abbrev w_by : Str := [98, 121]
abbrev w_tmatch : Str := [109, 97, 116, 99, 104]
abbrev w_treturn : Str := [114, 101, 116, 117, 114, 110]
abbrev w_semi : Str := [59]
abbrev w_comma : Str := [44]
abbrev w_tif : Str := [105, 102]
abbrev w_lpar : Str := [40]
abbrev w_rpar : Str := [41]
abbrev w_seq : Str := [115, 101, 113]
abbrev w_alt : Str := [97, 108, 116]
abbrev w_all : Str := [97, 108, 108]
abbrev w_plus : Str := [112, 108, 117, 115]
abbrev w_lacks : Str := [108, 97, 99, 107, 115]
abbrev w_within : Str := [119, 105, 116, 104, 105, 110]
abbrev w_twhere : Str := [119, 104, 101, 114, 101]
abbrev w_tor : Str := [111, 114]
abbrev w_tand : Str := [97, 110, 100]
abbrev w_add : Str := [43]
abbrev w_sub : Str := [45]
abbrev w_tnot : Str := [110, 111, 116]
abbrev w_lt : Str := [60]
abbrev w_le : Str := [60, 61]
abbrev w_gt : Str := [62]
abbrev w_ge : Str := [62, 61]
abbrev w_eqq : Str := [61, 61]
abbrev w_neq : Str := [33, 61]
abbrev w_tmin : Str := [109, 105, 110]
abbrev w_tmax : Str := [109, 97, 120]
abbrev w_tfirst : Str := [102, 105, 114, 115, 116]
abbrev w_tlast : Str := [108, 97, 115, 116]
abbrev w_dot : Str := [46]
abbrev w_tsum : Str := [115, 117, 109]
abbrev w_tcount : Str := [99, 111, 117, 110, 116]
abbrev w_ttime : Str := [116, 105, 109, 101]
abbrev w_ttrue : Str := [116, 114, 117, 101]
abbrev w_tfalse : Str := [102, 97, 108, 115, 101]

/-- Trees. -/
structure Syn where
  kind : Int
  text : Str
  name : Str
  num : Int
  kids : List Syn
  pos : Int
def synZ : Syn := ⟨0, [], [], 0, [], 0⟩

/-- The state of the parser (and of the reference's reader). -/
structure PS where
  toks : List Tok
  pos : Nat
  fin : Int
  depth : Int
  bad : Int
  whr : Int

def tkS (st : PS) : Tok := st.toks.getD st.pos tokZ
def offS (st : PS) : Int := if decide ((st.pos : Int) < (st.toks.length : Int)) then (tkS st).pos else st.fin
def failP (e : Int) (st : PS) : PS := if (st.bad == 0) then { st with bad := e, whr := offS st } else st
def adv (st : PS) : PS := { st with pos := st.pos + 1 }
def deep (st : PS) : PS := { st with depth := IntKind.i64.wrap (st.depth + 1) }
def shallow (st : PS) : PS := { st with depth := IntKind.i64.wrap (st.depth - 1) }
@[reducible] def endP (st : PS) : Bool := (st.bad != 0) || decide ((st.toks.length : Int) ≤ (st.pos : Int))

/-! The program. -/
def isP (w : Str) (st : PS) : Bool := if endP st then false else ((tkS st).text == w) && (((tkS st).kind == 3) || (((tkS st).kind == 0) && keyS w))
def accP (w : Str) (st : PS) : PS := if isP w st then adv st else st
def expP (w : Str) (st : PS) : PS := if (st.bad == 0) && !(isP w st) then failP 4 st else accP w st
def nxtP (k : Int) (st : PS) : Bool := if endP st then false else ((tkS st).kind == k) && ((k != 0) || !(keyS (tkS st).text))
def tokP (k : Int) (st : PS) : PS := if nxtP k st then adv st else failP 4 st
def txtP (k : Int) (st : PS) : Str := if nxtP k st then (tkS st).text else []
def numP (st : PS) : Int := if nxtP 1 st then (numS (tkS st).text).1 else 0

/-- One level deeper. -/
def nestP (read : Syn → PS → Syn × PS) (z : Syn) (st : PS) : Syn × PS :=
  if ((if decide (64 ≤ st.depth) then failP 12 st else st).bad != 0) then (z, if decide (64 ≤ st.depth) then failP 12 st else st)
  else ((read z (adv (deep st))).1, shallow (read z (adv (deep st))).2)

/-- Elements with commas between: the rest. -/
def listGo (F : PS → Syn × PS) : Nat → PS → List Syn → List Syn × PS
  | 0, st, out => (out, st)
  | n + 1, st, out => if isP w_comma st then listGo F n (F (adv st)).2 (out ++ [(F (adv st)).1]) else (out, st)
def fuel (st : PS) : Nat := st.toks.length - st.pos + 1
def listP (F : PS → Syn × PS) (st : PS) : List Syn × PS := listGo F (fuel (F st).2) (F st).2 [(F st).1]

def fieldP (st : PS) : Syn × PS :=
  if isP w_tint (expP w_colon (tokP 0 st)) then (⟨2, txtP 0 st, [], 0, [], offS st⟩, adv (expP w_colon (tokP 0 st)))
  else if isP w_tbool (expP w_colon (tokP 0 st)) then (⟨2, txtP 0 st, [], 1, [], offS st⟩, adv (expP w_colon (tokP 0 st)))
  else if isP w_tstring (expP w_colon (tokP 0 st)) then (⟨2, txtP 0 st, [], 2, [], offS st⟩, adv (expP w_colon (tokP 0 st)))
  else (⟨2, txtP 0 st, [], 0, [], offS st⟩, failP 4 (expP w_colon (tokP 0 st)))

def kindP (st : PS) : Syn × PS :=
  let s1 := expP w_ttype st
  let s2 := expP w_lbrace (tokP 0 s1)
  if (s2.bad == 0) && !(isP w_rbrace s2) then (⟨1, txtP 0 s1, [], 0, (listP fieldP s2).1, offS st⟩, expP w_rbrace (listP fieldP s2).2)
  else (⟨1, txtP 0 s1, [], 0, [], offS st⟩, expP w_rbrace s2)

def binS (op : Int) (a b : Syn) (at' : Int) : Syn := ⟨17, [], [], op, [a, b], at'⟩

def constP (st : PS) : Syn × PS :=
  if isP w_sub st then (⟨13, [], w_tint, 0 - numP (adv st), [], offS st⟩, tokP 1 (adv st))
  else if nxtP 1 st then (⟨13, [], w_tint, numP st, [], offS st⟩, tokP 1 st)
  else if isP w_ttrue st then (⟨13, [], w_tbool, 1, [], offS st⟩, adv st)
  else if isP w_tfalse st then (⟨13, [], w_tbool, 0, [], offS st⟩, adv st)
  else (⟨13, txtP 2 st, w_tstring, 0, [], offS st⟩, tokP 2 st)

/-- Behind the word of an aggregate: its variable and its field. -/
def insP (st : PS) : (Str × Str) × PS :=
  let s1 := expP w_lpar st
  let s2 := expP w_dot (tokP 0 s1)
  ((txtP 0 s1, txtP 0 s2), tokP 0 s2)

def totL : List (Str × Int) := [(w_tmin, 2), (w_tmax, 3), (w_tfirst, 4), (w_tlast, 5)]
def unitP (E : PS → Syn × PS) (st : PS) : Syn × PS :=
  if isP w_lpar st then nestP (fun _ s => ((E s).1, expP w_rpar (E s).2)) synZ st
  else match totL.find? (fun s => isP s.1 st) with
    | some s =>
      let i := insP (adv st)
      let s1 := expP w_comma i.2
      (⟨16, i.1.1, i.1.2, s.2, [(constP s1).1], offS st⟩, expP w_rpar (constP s1).2)
    | none =>
      if isP w_tsum st then
        let i := insP (adv st)
        (⟨16, i.1.1, i.1.2, 1, [], offS st⟩, expP w_rpar i.2)
      else if isP w_tcount st then
        let s1 := expP w_lpar (adv st)
        (⟨15, txtP 0 s1, [], 0, [], offS st⟩, expP w_rpar (tokP 0 s1))
      else if nxtP 0 st then
        let s1 := expP w_dot (tokP 0 st)
        if isP w_ttime s1 then (⟨14, txtP 0 st, w_ttime, 0, [], offS st⟩, adv s1)
        else (⟨14, txtP 0 st, txtP 0 s1, 0, [], offS st⟩, tokP 0 s1)
      else constP st

/-- Operands of the next level with operations between: the rest. -/
def chainGo (F : PS → Syn × PS) (sg : List (Str × Int)) : Nat → PS → Syn → Syn × PS
  | 0, st, out => (out, st)
  | n + 1, st, out => match sg.find? (fun s => isP s.1 st) with
    | some s => chainGo F sg n (F (adv st)).2 (binS s.2 out (F (adv st)).1 out.pos)
    | none => (out, st)
def chainP (F : PS → Syn × PS) (sg : List (Str × Int)) (st : PS) : Syn × PS := chainGo F sg (fuel (F st).2) (F st).2 (F st).1
def orL : List (Str × Int) := [(w_tor, 11)]
def andL : List (Str × Int) := [(w_tand, 10)]
def sumL : List (Str × Int) := [(w_add, 5), (w_sub, 6)]
def sumP (E : PS → Syn × PS) (st : PS) : Syn × PS := chainP (unitP E) sumL st

def cmpP (E : PS → Syn × PS) (st : PS) : Syn × PS :=
  let a := (sumP E st).1
  let s := (sumP E st).2
  let b := (sumP E (adv s)).1
  let s' := (sumP E (adv s)).2
  if isP w_lt s then (binS 7 a b a.pos, s')
  else if isP w_le s then (binS 8 a b a.pos, s')
  else if isP w_gt s then (binS 7 b a a.pos, s')
  else if isP w_ge s then (binS 8 b a a.pos, s')
  else if isP w_eqq s then (binS 9 a b a.pos, s')
  else if isP w_neq s then (⟨18, [], [], 0, [binS 9 a b a.pos], a.pos⟩, s')
  else (a, s)
def notP (E N : PS → Syn × PS) (st : PS) : Syn × PS :=
  if !(isP w_tnot st) then cmpP E st
  else nestP (fun z s => ({ z with kids := [(N s).1] }, (N s).2)) ⟨18, [], [], 0, [], offS st⟩ st
def andP (E N : PS → Syn × PS) (st : PS) : Syn × PS := chainP (notP E N) andL st
def orP (E N : PS → Syn × PS) (st : PS) : Syn × PS := chainP (andP E N) orL st
def dullP (st : PS) : Syn × PS := (synZ, st)
/-- Negations and expressions, by levels of nesting. -/
def negN : Nat → (PS → Syn × PS) × (PS → Syn × PS)
  | 0 => (notP dullP dullP, orP dullP dullP)
  | n + 1 => (notP (negN n).2 (negN n).1, orP (negN n).2 (negN n).1)
def exprN (n : Nat) : PS → Syn × PS := (negN n).2

def eventP (E : PS → Syn × PS) (st : PS) : Syn × PS :=
  let s2 := tokP 0 (tokP 0 st)
  if isP w_tif s2 then (⟨5, txtP 0 st, txtP 0 (tokP 0 st), 0, [(E (adv s2)).1], offS st⟩, (E (adv s2)).2)
  else (⟨5, txtP 0 st, txtP 0 (tokP 0 st), 0, [], offS st⟩, s2)

def formL : List (Str × Int) := [(w_seq, 6), (w_alt, 7), (w_all, 8), (w_plus, 9), (w_lacks, 10), (w_within, 11), (w_twhere, 12)]
/-- What follows the first pattern in parentheses. -/
def sevP (T : PS → Syn × PS) (z : Syn) (st : PS) : Syn × PS :=
  let r := T (expP w_comma st)
  let l := listGo T (fuel r.2) r.2 (z.kids ++ [r.1])
  ({ z with kids := l.1 }, l.2)
def restP (E T : PS → Syn × PS) (k : Int) (z : Syn) (st : PS) : Syn × PS :=
  if decide (k ≤ 8) then sevP T z st
  else if (k == 9) then (z, st)
  else if (k == 10) then ({ z with kids := z.kids ++ [(eventP E (expP w_comma st)).1] }, (eventP E (expP w_comma st)).2)
  else if (k == 11) then ({ z with num := numP (expP w_comma st) }, tokP 1 (expP w_comma st))
  else ({ z with kids := z.kids ++ [(E (expP w_comma st)).1] }, (E (expP w_comma st)).2)
def patP (E T : PS → Syn × PS) (st : PS) : Syn × PS :=
  match formL.find? (fun f => isP f.1 st) with
  | some f => nestP (fun z s =>
      let r := T (expP w_lpar s)
      let q := restP E T f.2 { z with kids := [r.1] } r.2
      (q.1, expP w_rpar q.2)) ⟨f.2, [], [], 0, [], offS st⟩ st
  | none => eventP E st
def patN (E : PS → Syn × PS) : Nat → PS → Syn × PS
  | 0 => patP E dullP
  | n + 1 => patP E (patN E n)

def keyP (st : PS) (at' : Int) : Syn × PS :=
  if isP w_by st then (⟨4, txtP 0 (adv st), [], 0, [], offS (adv st)⟩, tokP 0 (adv st)) else (⟨4, [], [], 0, [], at'⟩, st)
def queryP (E T : PS → Syn × PS) (st : PS) : Syn × PS :=
  let s1 := expP w_tquery st
  let k := keyP (tokP 0 s1) (offS st)
  let p := T (expP w_tmatch k.2)
  let l := listP E (expP w_treturn p.2)
  (⟨3, txtP 0 s1, [], 0, [k.1, p.1] ++ l.1, offS st⟩, expP w_semi l.2)

def progGo (w : Str) (F : PS → Syn × PS) : Nat → PS → List Syn → List Syn × PS
  | 0, st, out => (out, st)
  | n + 1, st, out => if isP w st then progGo w F n (F st).2 (out ++ [(F st).1]) else (out, st)
def progP (E T : PS → Syn × PS) (st : PS) : Syn × PS :=
  let t := progGo w_ttype kindP (fuel st) st []
  let q := progGo w_tquery (queryP E T) (fuel t.2) t.2 t.1
  (⟨0, [], [], 0, q.1, 0⟩, q.2)

/-- A whole text. -/
def beginS (l : List Tok) (n : Int) : PS := ⟨l, 0, n, 0, 0, 0⟩
def doneP (r : Syn × PS) : Syn × Int × Int :=
  let s := if decide ((r.2.pos : Int) < (r.2.toks.length : Int)) then failP 4 r.2 else r.2
  if (s.bad != 0) then (synZ, s.whr, s.bad) else (r.1, 0, 0)
def parseP (F : PS → Syn × PS) (s : Str) : Syn × Int × Int :=
  if ((scanS s).2.2 != 0) then (synZ, (scanS s).2.1, (scanS s).2.2) else doneP (F (beginS (scanS s).1 s.length))
def EE : PS → Syn × PS := exprN 64
def TT : PS → Syn × PS := patN EE 64
def pExpr (s : Str) : Syn × Int × Int := parseP EE s
def pPat (s : Str) : Syn × Int × Int := parseP TT s
def pQuery (s : Str) : Syn × Int × Int := parseP (queryP EE TT) s
def pProg (s : Str) : Syn × Int × Int := parseP (progP EE TT) s

/-! The reference. -/
def isR (w : Str) (st : PS) : Bool := if endP st then false else ((tkS st).text == w) && (((tkS st).kind == 3) || ((tkS st).kind == 0))
def accR (w : Str) (st : PS) : PS := if isR w st then adv st else st
def expR (w : Str) (st : PS) : PS := if isR w st then adv st else failP 4 st
def nxtR (k : Int) (st : PS) : Bool := if endP st then false else ((tkS st).kind == k) && ((k != 0) || !(keyR (tkS st).text))
def tokR (k : Int) (st : PS) : PS := if nxtR k st then adv st else failP 4 st
def txtR (k : Int) (st : PS) : Str := if nxtR k st then (tkS st).text else []
def numRR (st : PS) : Int := (numR (txtR 1 st)).1
def openR (st : PS) : PS := deep (if decide (64 ≤ st.depth) then failP 12 st else st)

def fieldR (st : PS) : Syn × PS :=
  let s1 := expR w_colon (tokR 0 st)
  if isR w_tbool s1 then (⟨2, txtR 0 st, [], 1, [], offS st⟩, adv s1)
  else if isR w_tstring s1 then (⟨2, txtR 0 st, [], 2, [], offS st⟩, adv s1)
  else (⟨2, txtR 0 st, [], 0, [], offS st⟩, expR w_tint s1)
def listGoR (F : PS → Syn × PS) : Nat → PS → List Syn → List Syn × PS
  | 0, st, out => (out, st)
  | n + 1, st, out => if isR w_comma st then listGoR F n (F (adv st)).2 (out ++ [(F (adv st)).1]) else (out, st)
def typedR (st : PS) : Syn × PS :=
  let s1 := expR w_ttype st
  let s2 := expR w_lbrace (tokR 0 s1)
  if isR w_rbrace s2 then (⟨1, txtR 0 s1, [], 0, [], offS st⟩, adv s2)
  else
    let r := fieldR s2
    let l := listGoR fieldR (fuel r.2) r.2 [r.1]
    (⟨1, txtR 0 s1, [], 0, l.1, offS st⟩, expR w_rbrace l.2)
def constR (st : PS) : Syn × PS :=
  if isR w_sub st then (⟨13, [], w_tint, 0 - numRR (adv st), [], offS st⟩, tokR 1 (adv st))
  else if isR w_ttrue st then (⟨13, [], w_tbool, 1, [], offS st⟩, adv st)
  else if isR w_tfalse st then (⟨13, [], w_tbool, 0, [], offS st⟩, adv st)
  else if nxtR 2 st then (⟨13, txtR 2 st, w_tstring, 0, [], offS st⟩, tokR 2 st)
  else (⟨13, [], w_tint, numRR st, [], offS st⟩, tokR 1 st)
def aggR (st : PS) : Int :=
  if isR w_tsum st then 1 else if isR w_tmin st then 2 else if isR w_tmax st then 3 else if isR w_tfirst st then 4 else if isR w_tlast st then 5 else 0
def totR (k : Int) (st : PS) : Syn × PS :=
  let s1 := expR w_lpar (adv st)
  let s2 := expR w_dot (tokR 0 s1)
  let s3 := tokR 0 s2
  if (k != 1) then
    let c := constR (expR w_comma s3)
    (⟨16, txtR 0 s1, txtR 0 s2, k, [c.1], offS st⟩, expR w_rpar c.2)
  else (⟨16, txtR 0 s1, txtR 0 s2, k, [], offS st⟩, expR w_rpar s3)
def unitR (E : PS → Syn × PS) (st : PS) : Syn × PS :=
  if isR w_lpar st then
    let e := E (expR w_lpar (openR st))
    (e.1, shallow (expR w_rpar e.2))
  else if isR w_tcount st then
    let s1 := expR w_lpar (adv st)
    (⟨15, txtR 0 s1, [], 0, [], offS st⟩, expR w_rpar (tokR 0 s1))
  else if (aggR st != 0) then totR (aggR st) st
  else if !(nxtR 0 st) then constR st
  else
    let s1 := expR w_dot (tokR 0 st)
    if isR w_ttime s1 then (⟨14, txtR 0 st, w_ttime, 0, [], offS st⟩, adv s1)
    else (⟨14, txtR 0 st, txtR 0 s1, 0, [], offS st⟩, tokR 0 s1)
def sumGoR (F : PS → Syn × PS) : Nat → PS → Syn → Syn × PS
  | 0, st, out => (out, st)
  | n + 1, st, out => if isR w_add st || isR w_sub st then sumGoR F n (F (adv st)).2 (binS (if isR w_sub st then 6 else 5) out (F (adv st)).1 out.pos) else (out, st)
def sumR (E : PS → Syn × PS) (st : PS) : Syn × PS := sumGoR (unitR E) (fuel (unitR E st).2) (unitR E st).2 (unitR E st).1
def cmpR (E : PS → Syn × PS) (st : PS) : Syn × PS :=
  let a := (sumR E st).1
  let s := (sumR E st).2
  let b := (sumR E (adv s)).1
  let s' := (sumR E (adv s)).2
  if isR w_lt s then (binS 7 a b a.pos, s')
  else if isR w_le s then (binS 8 a b a.pos, s')
  else if isR w_gt s then (binS 7 b a a.pos, s')
  else if isR w_ge s then (binS 8 b a a.pos, s')
  else if isR w_eqq s then (binS 9 a b a.pos, s')
  else if isR w_neq s then (⟨18, [], [], 0, [binS 9 a b a.pos], a.pos⟩, s')
  else (a, s)
def notR (E N : PS → Syn × PS) (st : PS) : Syn × PS :=
  if !(isR w_tnot st) then cmpR E st
  else
    let r := N (expR w_tnot (openR st))
    (⟨18, [], [], 0, [r.1], offS st⟩, shallow r.2)
def chainGoR (w : Str) (op : Int) (F : PS → Syn × PS) : Nat → PS → Syn → Syn × PS
  | 0, st, out => (out, st)
  | n + 1, st, out => if isR w st then chainGoR w op F n (F (adv st)).2 (binS op out (F (adv st)).1 out.pos) else (out, st)
def andR (E N : PS → Syn × PS) (st : PS) : Syn × PS := chainGoR w_tand 10 (notR E N) (fuel (notR E N st).2) (notR E N st).2 (notR E N st).1
def orR (E N : PS → Syn × PS) (st : PS) : Syn × PS := chainGoR w_tor 11 (andR E N) (fuel (andR E N st).2) (andR E N st).2 (andR E N st).1
def negNR : Nat → (PS → Syn × PS) × (PS → Syn × PS)
  | 0 => (notR dullP dullP, orR dullP dullP)
  | n + 1 => (notR (negNR n).2 (negNR n).1, orR (negNR n).2 (negNR n).1)
def exprNR (n : Nat) : PS → Syn × PS := (negNR n).2
def eventR (E : PS → Syn × PS) (st : PS) : Syn × PS :=
  let s2 := tokR 0 (tokR 0 st)
  if isR w_tif s2 then (⟨5, txtR 0 st, txtR 0 (tokR 0 st), 0, [(E (adv s2)).1], offS st⟩, (E (adv s2)).2)
  else (⟨5, txtR 0 st, txtR 0 (tokR 0 st), 0, [], offS st⟩, s2)
def operR (st : PS) : Int :=
  if isR w_seq st then 6 else if isR w_alt st then 7 else if isR w_all st then 8 else if isR w_plus st then 9 else if isR w_lacks st then 10 else if isR w_within st then 11 else if isR w_twhere st then 12 else 5
def restR (E T : PS → Syn × PS) (k : Int) (z : Syn) (st : PS) : Syn × PS :=
  if ((k == 6) || (k == 7)) || (k == 8) then
    let r := T (expR w_comma st)
    let l := listGoR T (fuel r.2) r.2 (z.kids ++ [r.1])
    ({ z with kids := l.1 }, l.2)
  else if (k == 10) then ({ z with kids := z.kids ++ [(eventR E (expR w_comma st)).1] }, (eventR E (expR w_comma st)).2)
  else if (k == 11) then ({ z with num := numRR (expR w_comma st) }, tokR 1 (expR w_comma st))
  else if (k == 12) then ({ z with kids := z.kids ++ [(E (expR w_comma st)).1] }, (E (expR w_comma st)).2)
  else (z, st)
def patR (E T : PS → Syn × PS) (st : PS) : Syn × PS :=
  if (operR st == 5) then eventR E st
  else
    let r := T (expR w_lpar (adv (openR st)))
    let q := restR E T (operR st) ⟨operR st, [], [], 0, [r.1], offS st⟩ r.2
    (q.1, shallow (expR w_rpar q.2))
def patNR (E : PS → Syn × PS) : Nat → PS → Syn × PS
  | 0 => patR E dullP
  | n + 1 => patR E (patNR E n)
def keyRR (st : PS) (at' : Int) : Syn × PS :=
  if isR w_by st then (⟨4, txtR 0 (adv st), [], 0, [], offS (adv st)⟩, tokR 0 (adv st)) else (⟨4, [], [], 0, [], at'⟩, st)
def queryR (E T : PS → Syn × PS) (st : PS) : Syn × PS :=
  let s1 := expR w_tquery st
  let k := keyRR (tokR 0 s1) (offS st)
  let p := T (expR w_tmatch k.2)
  let e := E (expR w_treturn p.2)
  let l := listGoR E (fuel e.2) e.2 [k.1, p.1, e.1]
  (⟨3, txtR 0 s1, [], 0, l.1, offS st⟩, expR w_semi l.2)
def progGoR (w : Str) (F : PS → Syn × PS) : Nat → PS → List Syn → List Syn × PS
  | 0, st, out => (out, st)
  | n + 1, st, out => if isR w st then progGoR w F n (F st).2 (out ++ [(F st).1]) else (out, st)
def progR (E T : PS → Syn × PS) (st : PS) : Syn × PS :=
  let t := progGoR w_ttype typedR (fuel st) st []
  let q := progGoR w_tquery (queryR E T) (fuel t.2) t.2 t.1
  (⟨0, [], [], 0, q.1, 0⟩, q.2)
def doneR (r : Syn × PS) : Syn × Int × Int :=
  let s := if (r.2.bad == 0) && decide ((r.2.pos : Int) < (r.2.toks.length : Int)) then failP 4 r.2 else r.2
  if (s.bad != 0) then (synZ, s.whr, s.bad) else (r.1, 0, 0)
def parseR (F : PS → Syn × PS) (s : Str) : Syn × Int × Int :=
  if ((scanR s).2.2 != 0) then (synZ, (scanR s).2.1, (scanR s).2.2) else doneR (F (beginS (scanR s).1 s.length))
def EER : PS → Syn × PS := exprNR 65
def TTR : PS → Syn × PS := patNR EER 65

/-! How they lie in memory. -/
mutual
def encS : Syn → List AV
  | ⟨kind, text, name, num, kids, pos⟩ => [.int .i64 kind, .str text, .str name, .int .i64 num, .sl 6 (encSs kids), .int .i64 pos]
def encSs : List Syn → List (List AV)
  | [] => []
  | e :: r => encS e :: encSs r
end
theorem encSs_map : ∀ l : List Syn, encSs l = l.map encS
  | [] => by simp [encSs]
  | e :: r => by simp [encSs, encSs_map r]
@[reducible] def cSyn (e : Syn) : List AV := [.int .i64 e.kind, .str e.text, .str e.name, .int .i64 e.num, .sl 6 (e.kids.map encS), .int .i64 e.pos]
theorem encS_eq (e : Syn) : encS e = cSyn e := by
  cases e
  simp [encS, cSyn, encSs_map]
theorem encS_at {l : List Syn} {k : Nat} {a : Syn} (h : l[k]? = some a) : (l.map encS)[k]? = some (cSyn a) := by
  simp [h, encS_eq]
@[reducible] def cP (st : PS) : List AV := [.sl 3 (st.toks.map mTok), .int .i64 (st.pos : Int), .int .i64 st.fin, .int .i64 st.depth, .int .i64 st.bad, .int .i64 st.whr]
theorem Syn.ind {P : Syn → Prop} (h : ∀ e, (∀ a ∈ e.kids, P a) → P e) : ∀ e, P e := by
  intro e
  exact Syn.rec (motive_1 := P) (motive_2 := fun l => ∀ a ∈ l, P a) (fun k t n m kids p ih => h _ ih) (by simp) (fun a l ha hl => by simp only [List.mem_cons, forall_eq_or_imp]; exact ⟨ha, hl⟩) e

end Go.Proofs.YtabkeeedkhgodaaGreatDoor
