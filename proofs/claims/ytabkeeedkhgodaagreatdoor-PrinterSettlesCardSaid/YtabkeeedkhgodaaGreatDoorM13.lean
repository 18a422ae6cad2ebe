/-
  WHAT THE FUNCTIONS OF THE PRINTER AND OF ITS REFERENCE COMPUTE, in plain Lean. No condition.
-/
import Derived.Test.YtabkeeedkhgodaaGreatDoorM12
import Derived.Lib.ItoaLen
namespace Go.Proofs.YtabkeeedkhgodaaGreatDoor
open Go Go.Aw
set_option linter.unusedVariables false
set_option linter.unusedSimpArgs false

/-- What may stand at a place. -/
inductive Pl where
  | only (k : Int)
  | pats
  | exps
@[reducible] def isPat (k : Int) : Bool := decide (5 ≤ k) && decide (k ≤ 12)
@[reducible] def isExp (k : Int) : Bool := decide (13 ≤ k) && decide (k ≤ 18)
def Pl.at : Pl → Int → Bool
  | .only k, x => x == k
  | .pats, x => isPat x
  | .exps, x => isExp x
/-- The role of the reference. -/
def Pl.role : Pl → Int
  | .only k => if k ≤ 4 then k else if k == 5 then 6 else 8
  | .pats => 5
  | .exps => 7
/-- The places that the printer uses. -/
def Pl.ok : Pl → Prop
  | .only k => k = 0 ∨ k = 1 ∨ k = 2 ∨ k = 3 ∨ k = 4 ∨ k = 5 ∨ k = 13
  | _ => True

def kidN (t : Syn) (i : Nat) : Syn := t.kids.getD i synZ
def kidC (t : Syn) (i : Nat) : Pl :=
  if (t.kind == 0) then if ((kidN t i).kind == 1) && (((i : Int) == 0) || ((kidN t (i - 1)).kind == 1)) then .only 1 else .only 3
  else if (t.kind == 1) then .only 2
  else if (t.kind == 3) then if ((i : Int) == 0) then .only 4 else if ((i : Int) == 1) then .pats else .exps
  else if (t.kind == 10) then if ((i : Int) == 1) then .only 5 else .pats
  else if (t.kind == 12) then if ((i : Int) == 1) then .exps else .pats
  else if (t.kind == 16) then .only 13
  else if ((t.kind == 5) || (t.kind == 17)) || (t.kind == 18) then .exps
  else .pats
def shapeC (t : Syn) : Bool :=
  if (t.kind == 0) || (t.kind == 1) then true
  else if (t.kind == 3) then decide (3 ≤ (t.kids.length : Int))
  else if (t.kind == 5) then decide ((t.kids.length : Int) ≤ 1)
  else if ((t.kind == 6) || (t.kind == 7)) || (t.kind == 8) then decide (2 ≤ (t.kids.length : Int))
  else if ((t.kind == 9) || (t.kind == 11)) || (t.kind == 18) then ((t.kids.length : Int) == 1)
  else if ((t.kind == 10) || (t.kind == 12)) || (t.kind == 17) then ((t.kids.length : Int) == 2)
  else if (t.kind == 16) then if (t.num == 1) then ((t.kids.length : Int) == 0) else ((t.kids.length : Int) == 1)
  else ((t.kids.length : Int) == 0)
def usesC (k : Int) : Bool × Bool :=
  if ((k == 5) || (k == 14)) || (k == 16) then (true, true)
  else if ((((k == 1) || (k == 2)) || (k == 3)) || (k == 4)) || (k == 15) then (true, false)
  else (false, false)
def nmS (s : Str) : Bool := nameS s == 0
def namedC (t : Syn) : Bool :=
  if ((usesC t.kind).1 && !nmS t.text) && ((t.kind != 4) || !(t.text == [])) then false
  else (!(usesC t.kind).2 || nmS t.name) || ((t.kind == 14) && (t.name == w_ttime))
def constC (t : Syn) : Int :=
  if (t.name == w_tint) then if (decide (t.num < -1099511627776) || decide (1099511627776 < t.num)) then 2 else if !(t.text == []) then 3 else 0
  else if (t.name == w_tbool) then if (decide (t.num < 0) || decide (1 < t.num)) then 2 else if !(t.text == []) then 3 else 0
  else if (t.name == w_tstring) then if decide (64 < (t.text.length : Int)) then 13 else if (t.num != 0) then 3 else 0
  else 1
def numC (t : Syn) : Int :=
  if (t.kind == 2) then if (decide (t.num < 0) || decide (2 < t.num)) then 1 else 0
  else if (t.kind == 16) then if (decide (t.num < 1) || decide (5 < t.num)) then 1 else 0
  else if (t.kind == 17) then if (decide (t.num < 5) || decide (11 < t.num)) then 1 else 0
  else if (t.kind == 11) then if (decide (t.num < 0) || decide (1099511627776 < t.num)) then 2 else 0
  else if (decide (t.num < 0) || decide (0 < t.num)) then 3 else 0
def fieldsC (t : Syn) : Int :=
  if (t.kind == 13) then constC t
  else if (numC t != 0) then numC t
  else if (!(usesC t.kind).1 && !(t.text == [])) || (!(usesC t.kind).2 && !(t.name == [])) then 3 else 0
/-- The error of a node, but for its kids. -/
def ownC (p : Pl) (t : Syn) : Int :=
  if !(p.at t.kind) then 1 else if !(shapeC t) then 15 else if !(namedC t) then 8 else fieldsC t
/-- The first error of a list. -/
def firstE : List Int → Int
  | [] => 0
  | x :: r => if (x != 0) then x else firstE r
mutual
def checkC : Syn → Pl → Int
  | ⟨k, x, n, m, kids, p⟩, at' => if (ownC at' ⟨k, x, n, m, kids, p⟩ != 0) then ownC at' ⟨k, x, n, m, kids, p⟩ else firstE (checkM kids ((List.range kids.length).map (kidC ⟨k, x, n, m, kids, p⟩)))
def checkM : List Syn → List Pl → List Int
  | [], _ => []
  | x :: r, [] => []
  | x :: r, p :: q => checkC x p :: checkM r q
end

def closedC (p k : Int) : Bool := if (p == 17) then (k == 17) || (k == 18) else if (p == 18) then (k == 17) else false
mutual
def depthC : Syn → Nat
  | ⟨k, _, _, _, kids, _⟩ => depthL k kids + (if (k == 18) || (isPat k && (k != 5)) then 1 else 0)
def depthL (k : Int) : List Syn → Nat
  | [] => 0
  | x :: r => max (depthC x + (if closedC k x.kind then 1 else 0)) (depthL k r)
end

/-! The text. -/
def joinC : List Str → Str
  | [] => []
  | [x] => x
  | x :: y :: r => x ++ [44, 32] ++ joinC (y :: r)
def kindT (n : Int) : Str := if (n == 1) then w_tbool else if (n == 2) then w_tstring else w_tint
def aggT (n : Int) : Str := if (n == 1) then w_tsum else if (n == 2) then w_tmin else if (n == 3) then w_tmax else if (n == 4) then w_tfirst else w_tlast
def operT (n : Int) : Str :=
  if (n == 5) then w_add else if (n == 6) then w_sub else if (n == 7) then w_lt else if (n == 8) then w_le else if (n == 9) then w_eqq else if (n == 10) then w_tand else w_tor
def callT (k : Int) : Str :=
  if (k == 6) then w_seq else if (k == 7) then w_alt else if (k == 8) then w_all else if (k == 9) then w_plus else if (k == 10) then w_lacks else if (k == 11) then w_within else w_twhere
def litT (t : Syn) : Str :=
  if (t.name == w_tint) then Lib.itoa t.num
  else if (t.name == w_tbool) then if (t.num == 1) then w_ttrue else w_tfalse
  else (quoteS t.text).1
def wrapT (p : Syn) (k : Syn) (s : Str) : Str := if closedC p.kind k.kind then [40] ++ s ++ [41] else s
/-- The text of a node from those of its kids. -/
def nodeT (t : Syn) (ws : List Str) : Str :=
  if (t.kind == 0) then ws.flatten
  else if (t.kind == 1) then w_ttype ++ [32] ++ t.text ++ [32, 123] ++ (if ws == [] then [] else [32] ++ joinC ws ++ [32]) ++ [125, 10]
  else if (t.kind == 2) then t.text ++ [58, 32] ++ kindT t.num
  else if (t.kind == 3) then w_tquery ++ [32] ++ t.text ++ (if (kidN t 0).text == [] then [] else [32] ++ w_by ++ [32] ++ (kidN t 0).text) ++ [10] ++ w_tmatch ++ [32] ++ ws.getD 1 [] ++ [10] ++ w_treturn ++ [32] ++ joinC (ws.drop 2) ++ [59, 10]
  else if (t.kind == 5) then t.text ++ [32] ++ t.name ++ (if ws == [] then [] else [32] ++ w_tif ++ [32] ++ ws.getD 0 [])
  else if (t.kind == 13) then litT t
  else if (t.kind == 14) then t.text ++ [46] ++ t.name
  else if (t.kind == 15) then w_tcount ++ [40] ++ t.text ++ [41]
  else if (t.kind == 16) then aggT t.num ++ [40] ++ t.text ++ [46] ++ t.name ++ (if ws == [] then [] else [44, 32] ++ ws.getD 0 []) ++ [41]
  else if (t.kind == 17) then wrapT t (kidN t 0) (ws.getD 0 []) ++ [32] ++ operT t.num ++ [32] ++ wrapT t (kidN t 1) (ws.getD 1 [])
  else if (t.kind == 18) then w_tnot ++ [32] ++ wrapT t (kidN t 0) (ws.getD 0 [])
  else callT t.kind ++ [40] ++ joinC ws ++ (if (t.kind == 11) then [44, 32] ++ Lib.itoa t.num else []) ++ [41]
mutual
def writeC : Syn → Str
  | ⟨k, x, n, m, kids, p⟩ => nodeT ⟨k, x, n, m, kids, p⟩ (writeM kids)
def writeM : List Syn → List Str
  | [] => []
  | x :: r => writeC x :: writeM r
end
def writtenC (t : Syn) (p : Pl) : Str × Int :=
  if (checkC t p != 0) then ([], checkC t p)
  else if decide (64 < (depthC t : Int)) then ([], 12)
  else if decide (65536 < ((writeC t).length : Int)) then ([], 13)
  else (writeC t, 0)

/-! The guard. -/
mutual
def totalC : Syn → Int
  | ⟨_, _, _, _, kids, _⟩ => totalL kids 1
def totalL : List Syn → Int → Int
  | [], n => n
  | x :: r, n => if decide (n ≤ 200) then totalL r (IntKind.i64.wrap (n + totalC x)) else n
end
mutual
def deepC : Syn → Int
  | ⟨_, _, _, _, kids, _⟩ => IntKind.i64.wrap (deepL kids 0 + 1)
def deepL : List Syn → Int → Int
  | [], d => d
  | x :: r, d => deepL r (max d (deepC x))
end
mutual
def fewC : Syn → Bool
  | ⟨k, x, n, m, kids, p⟩ => if (((decide (80 < (x.length : Int)) || decide (80 < (n.length : Int))) || decide (200 < totalC ⟨k, x, n, m, kids, p⟩)) || decide (90 < deepC ⟨k, x, n, m, kids, p⟩)) then false else fewL kids
def fewL : List Syn → Bool
  | [] => true
  | x :: r => if !(fewC x) then false else fewL r
end

theorem writeM_map : ∀ l : List Syn, writeM l = l.map writeC
  | [] => by rw [writeM, List.map_nil]
  | x :: r => by rw [writeM, writeM_map r, List.map_cons]
theorem writeC_eq (t : Syn) : writeC t = nodeT t (t.kids.map writeC) := by cases t; rw [writeC, writeM_map]
theorem depthC_eq (t : Syn) : depthC t = depthL t.kind t.kids + (if (t.kind == 18) || (isPat t.kind && (t.kind != 5)) then 1 else 0) := by cases t; rw [depthC]
theorem totalC_eq (t : Syn) : totalC t = totalL t.kids 1 := by cases t; rw [totalC]
theorem fewC_eq (t : Syn) : fewC t = if (((decide (80 < (t.text.length : Int)) || decide (80 < (t.name.length : Int))) || decide (200 < totalC t)) || decide (90 < deepC t)) then false else fewL t.kids := by cases t; rw [fewC]

/-- The errors of the kids from an index on. -/
def kidsE (t : Syn) : Nat → List Syn → Int
  | _, [] => 0
  | i, x :: r => if (checkC x (kidC t i) != 0) then checkC x (kidC t i) else kidsE t (i + 1) r
theorem checkC_eq (t : Syn) (p : Pl) : checkC t p = if (ownC p t != 0) then ownC p t else kidsE t 0 t.kids := by
  have h : ∀ (l : List Syn) (i : Nat), firstE (checkM l ((List.range' i l.length).map (kidC t))) = kidsE t i l := by
    intro l
    induction l with
    | nil => intro i; rw [checkM, kidsE]; rfl
    | cons x r ih => intro i; rw [List.length_cons, List.range'_succ, List.map_cons, checkM, firstE, kidsE, ih]
  rw [← h t.kids 0, ← List.range_eq_range']
  cases t; rw [checkC]
end Go.Proofs.YtabkeeedkhgodaaGreatDoor
