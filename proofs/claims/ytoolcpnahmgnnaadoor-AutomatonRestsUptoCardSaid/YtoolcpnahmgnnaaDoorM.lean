/-
  The data of layers 1 to 8 as plain types, how they lie in cells, and what the functions compute. No condition.
-/
import Derived.Test.YtoolcpnahmgnnaaDoorAw
namespace Go.Proofs.YtoolcpnahmgnnaaDoor
open Go Go.Aw
set_option linter.unusedVariables false
set_option linter.unusedSimpArgs false

theorem str0 : ({ data := #[] } : ByteArray).data.toList = ([] : List UInt8) := rfl

structure Vl where
  kind : Int
  num : Int
  text : List UInt8
deriving DecidableEq

structure Ex where
  op : Int
  args : List Ex
  var : Int
  field : Int
  kind : Int
  val : Vl

structure Ev where
  source : Int
  seq : Int
  type : Int
  time : Int
  values : List Vl

structure Ac where
  kind : Int
  count : Int
  val : Vl

def v0 : Vl := ⟨0, 0, []⟩
def ev0 : Ev := ⟨0, 0, 0, 0, []⟩
def ex0 : Ex := ⟨0, [], 0, 0, 0, v0⟩
def ac0 : Ac := ⟨0, 0, v0⟩

/-- == on values, as the model counts it out -/
@[reducible] def eqV (v w : Vl) : Bool := v.kind == w.kind && (v.num == w.num && v.text == w.text)
@[reducible] def isV0 (v : Vl) : Bool := v.kind == 0 && (v.num == 0 && v.text == [])
def cV (v : Vl) : List AV := [.int .i64 v.kind, .int .i64 v.num, .str v.text]

mutual
def encE : Ex → List AV
  | ⟨op, args, var, field, kind, val⟩ => [.int .i64 op, .sl 8 (encEs args), .int .i64 var, .int .i64 field, .int .i64 kind, .int .i64 val.kind, .int .i64 val.num, .str val.text]
def encEs : List Ex → List (List AV)
  | [] => []
  | e :: r => encE e :: encEs r
end

theorem encEs_map : ∀ l : List Ex, encEs l = l.map encE
  | [] => by simp [encEs]
  | e :: r => by simp [encEs, encEs_map r]

def cE (e : Ex) : List AV := [.int .i64 e.op, .sl 8 (e.args.map encE), .int .i64 e.var, .int .i64 e.field, .int .i64 e.kind, .int .i64 e.val.kind, .int .i64 e.val.num, .str e.val.text]
def cEv (e : Ev) : List AV := [.int .i64 e.source, .int .i64 e.seq, .int .i64 e.type, .int .i64 e.time, .sl 3 (e.values.map cV)]
def cAc (a : Ac) : List AV := [.int .i64 a.kind, .int .i64 a.count, .int .i64 a.val.kind, .int .i64 a.val.num, .str a.val.text]
def cEvs (l : List Ev) : List AV := [.sl 5 (l.map cEv)]
def cEnv (l : List (List Ev)) : List AV := [.sl 1 (l.map cEvs)]

theorem encE_eq (e : Ex) : encE e = cE e := by
  cases e
  simp [encE, cE, encEs_map]

theorem Ex.ind {P : Ex → Prop} (h : ∀ e, (∀ a ∈ e.args, P a) → P e) : ∀ e, P e := by
  intro e
  exact Ex.rec (motive_1 := P) (motive_2 := fun l => ∀ a ∈ l, P a) (fun op args v f k val ih => h _ ih) (by simp) (fun a l ha hl => by simp only [List.mem_cons, forall_eq_or_imp]; exact ⟨ha, hl⟩) e

theorem encE_at {l : List Ex} {k : Nat} {a : Ex} (h : l[k]? = some a) : (l.map encE)[k]? = some (cE a) := by
  simp [h, encE_eq]
theorem map_at {α : Type} {f : α → List AV} {l : List α} {k : Nat} {a : α} (h : l[k]? = some a) : (l.map f)[k]? = some (f a) := by simp [h]

theorem get_lt {α : Type} {l : List α} {k : Nat} (h : decide ((k : Int) < (l.length : Int)) = true) : ∃ a, l[k]? = some a := by
  have : k < l.length := by simpa using h
  exact ⟨_, List.getElem?_eq_getElem this⟩
theorem get_lt' {α : Type} {l : List α} {k : Nat} {a : α} (h : l[k]? = some a) : k < l.length := (List.getElem?_eq_some_iff.1 h).1
theorem drop_cons {α : Type} {l : List α} {k : Nat} {a : α} (h : l[k]? = some a) : l.drop k = a :: l.drop (k + 1) := by
  obtain ⟨h1, h2⟩ := List.getElem?_eq_some_iff.1 h
  rw [← h2]; exact List.drop_eq_getElem_cons h1
theorem take_get {α : Type} {l : List α} {k : Nat} {a : α} (h : l[k]? = some a) : l.take (k + 1) = l.take k ++ [a] := by
  rw [List.take_add_one, h]; rfl
theorem get_end {α : Type} {l : List α} {k : Nat} (h : decide ((k : Int) < (l.length : Int)) = false) : l.drop k = [] := by
  have : ¬ k < l.length := by simpa using h
  exact List.drop_eq_nil_of_le (by omega)

/-! ### Layer 1 -/

def flagS (b : Bool) : Vl := if b then ⟨1, 1, []⟩ else ⟨1, 0, []⟩

def vsizeS (v : Vl) : Int :=
  if v.kind == 0 && (decide (v.num < -1099511627776) || decide (1099511627776 < v.num)) then 2
  else if v.kind == 1 && v.num != 0 && v.num != 1 then 2
  else if decide (64 < (v.text.length : Int)) then 13 else 0

def vcheckS (v : Vl) : Int :=
  if v.kind == 0 || v.kind == 1 then (if !(v.text == []) then 3 else vsizeS v)
  else if v.kind == 2 then (if v.num != 0 then 3 else vsizeS v)
  else 1

/-- the same in the order of the reference -/
def rvcheckS (v : Vl) : Int :=
  if decide (v.kind < 0) || decide (2 < v.kind) then 1
  else if v.kind == 2 then (if v.num != 0 then 3 else if decide (64 < (v.text.length : Int)) then 13 else 0)
  else if !(v.text == []) then 3
  else if v.kind == 1 && (decide (v.num < 0) || decide (1 < v.num)) || decide (v.num < -1099511627776) || decide (1099511627776 < v.num) then 2 else 0
/-! ### Layer 7 -/

def knownS (k : Int) : Bool := decide (0 ≤ k) && decide (k ≤ 5)
def asuitsS (k : Int) (v : Vl) : Bool := v.kind == 0 || (k != 1 && k != 2 && k != 3)
def rsuitsS (k : Int) (v : Vl) : Bool := v.kind == 0 || k == 0 || k == 4 || k == 5

def combS (k : Int) (a b : Vl) : Vl :=
  if k == 1 then ⟨0, IntKind.i64.wrap (a.num + b.num), []⟩ else if k == 2 then ⟨0, min a.num b.num, []⟩ else if k == 3 then ⟨0, max a.num b.num, []⟩ else if k == 4 then a else if k == 5 then b else v0
def singleS (k : Int) (v : Vl) : Vl := if k == 0 then v0 else v
def mergedS (a b : Ac) : Ac := if a.count == 0 then b else if b.count == 0 then a else ⟨a.kind, IntKind.i64.wrap (a.count + b.count), combS a.kind a.val b.val⟩

def acheckS (a : Ac) : Int :=
  if !knownS a.kind then 1
  else if decide (a.count < 0) || decide (4096 < a.count) then 2
  else if (if a.count == 0 || a.kind == 0 then isV0 a.val
    else if a.kind == 1 then a.val.kind == 0 && a.val.text == [] && decide (0 - a.count * 1099511627776 ≤ a.val.num) && decide (a.val.num ≤ a.count * 1099511627776)
    else vcheckS a.val == 0 && asuitsS a.kind a.val) then 0 else 3

def racheckS (a : Ac) : Int :=
  if !knownS a.kind then 1
  else if decide (a.count < 0) || decide (4096 < a.count) then 2
  else if a.count == 0 || a.kind == 0 then (if !isV0 a.val then 3 else 0)
  else if a.kind == 1 then (if a.val.kind != 0 || !(a.val.text == []) || decide (a.val.num < 0 - a.count * 1099511627776) || decide (a.count * 1099511627776 < a.val.num) then 3 else 0)
  else if vcheckS a.val != 0 || !rsuitsS a.kind a.val then 3 else 0
def wrongS (k : Int) (v : Vl) : Int := if vcheckS v != 0 then vcheckS v else if !asuitsS k v then 9 else 0

def resultS (a : Ac) (o : Vl) : Vl × Int :=
  if acheckS a != 0 then (v0, acheckS a)
  else if wrongS a.kind o != 0 then (v0, wrongS a.kind o)
  else if a.kind == 0 then (⟨0, a.count, []⟩, 0)
  else if a.count == 0 && a.kind != 1 then (o, 0)
  else (a.val, 0)

def stepS (k : Int) (a : Ac) (v : Vl) : Ac := mergedS a ⟨k, 1, singleS k v⟩
def foldS (k : Int) (l : List Vl) : Ac := l.foldl (stepS k) ⟨k, 0, v0⟩

/-- the first error of a list -/
def firstS {α : Type} (f : α → Int) : List α → Int
  | [] => 0
  | a :: r => if f a != 0 then f a else firstS f r

def ofS (k : Int) (l : List Vl) (o : Vl) : Vl × Int :=
  if !knownS k then (v0, 1)
  else if decide (4096 < (l.length : Int)) then (v0, 5)
  else if firstS (wrongS k) l != 0 then (v0, firstS (wrongS k) l)
  else resultS (foldS k l) o

/-! ### Layer 8: nodes -/

def usesS (op : Int) : Bool × Bool := if op = 1 ∨ op = 4 then (true, true) else if op = 2 ∨ op = 3 then (true, false) else (false, false)
def arityS (op : Int) : Int := if op < 0 ∨ 12 < op then 0 else if op < 5 then 0 else if op = 12 then 1 else 2
def esuitsS (k : Int) (v : Vl) : Bool := v.kind == 0 || k == 4 || k == 5

def constS (e : Ex) : Int :=
  if vcheckS e.val != 0 then vcheckS e.val
  else if e.op == 4 && (!esuitsS e.kind e.val || (e.kind == 1 && !isV0 e.val)) then 9 else 0

def formS (e : Ex) : Int :=
  if !(usesS e.op).1 && e.var != 0 || (!(usesS e.op).2 && e.field != 0) || (!(e.op == 4) && e.kind != 0) || (!(e.op == 4 || e.op == 0) && !isV0 e.val) then 3 else 0

def nodeS (e : Ex) : Int :=
  if !decide (0 ≤ e.op ∧ e.op ≤ 12) then 1
  else if (e.args.length : Int) != arityS e.op then 15
  else if ((usesS e.op).1 && (decide (e.var < 0) || decide (16 ≤ e.var))) || ((usesS e.op).2 && (decide (e.field < 0) || decide (8 ≤ e.field))) then 2
  else if e.op == 4 && (decide (e.kind < 1) || decide (5 < e.kind)) then 1
  else if e.op == 4 || e.op == 0 then (if constS e != 0 then constS e else formS e)
  else formS e

mutual
def visitS (f : Ex → Int) : Ex → Int
  | ⟨op, args, var, field, kind, val⟩ => if f ⟨op, args, var, field, kind, val⟩ != 0 then f ⟨op, args, var, field, kind, val⟩ else visitL f args
def visitL (f : Ex → Int) : List Ex → Int
  | [] => 0
  | e :: r => if visitS f e != 0 then visitS f e else visitL f r
end
theorem visitL_first (f : Ex → Int) : ∀ l, visitL f l = firstS (visitS f) l
  | [] => by simp [visitL, firstS]
  | e :: r => by simp [visitL, firstS, visitL_first f r]
theorem visitS_eq (f : Ex → Int) (e : Ex) : visitS f e = if f e != 0 then f e else firstS (visitS f) e.args := by
  cases e; rw [visitS, visitL_first]
abbrev nodesS : Ex → Int := visitS nodeS
mutual
def sizeN : Ex → Nat
  | ⟨_, args, _, _, _, _⟩ => 1 + sizeNs args
def sizeNs : List Ex → Nat
  | [] => 0
  | e :: r => sizeN e + sizeNs r
end
mutual
def depthN : Ex → Nat
  | ⟨_, args, _, _, _, _⟩ => depthNs args + 1
def depthNs : List Ex → Nat
  | [] => 0
  | e :: r => max (depthN e) (depthNs r)
end
theorem sizeNs_sum : ∀ l, sizeNs l = (l.map sizeN).sum
  | [] => by simp [sizeNs]
  | e :: r => by simp [sizeNs, sizeNs_sum r]
theorem sizeN_eq (e : Ex) : sizeN e = 1 + (e.args.map sizeN).sum := by cases e; rw [sizeN, sizeNs_sum]
theorem depthNs_fold : ∀ l, depthNs l = (l.map depthN).foldr max 0
  | [] => by simp [depthNs]
  | e :: r => by simp [depthNs, depthNs_fold r]
theorem depthN_eq (e : Ex) : depthN e = (e.args.map depthN).foldr max 0 + 1 := by cases e; rw [depthN, depthNs_fold]

theorem mem_sum_le {l : List Ex} {a : Ex} (f : Ex → Nat) (h : a ∈ l) : f a ≤ (l.map f).sum := by
  induction l with
  | nil => cases h
  | cons x r ih =>
    simp only [List.map_cons, List.sum_cons]
    rcases List.mem_cons.1 h with rfl | h
    · omega
    · have := ih h; omega
theorem size_arg {e a : Ex} (h : a ∈ e.args) : sizeN a < sizeN e := by
  have := mem_sum_le sizeN h; have := sizeN_eq e; omega
theorem depth_le_size (e : Ex) : depthN e ≤ sizeN e := by
  refine Ex.ind (P := fun e => depthN e ≤ sizeN e) (fun e ih => ?_) e
  rw [depthN_eq, sizeN_eq]
  have : ∀ l : List Ex, (∀ a ∈ l, depthN a ≤ sizeN a) → (l.map depthN).foldr max 0 ≤ (l.map sizeN).sum := by
    intro l
    induction l with
    | nil => intro _; exact Nat.le_refl _
    | cons x r ihr =>
      intro h
      simp only [List.map_cons, List.foldr_cons, List.sum_cons]
      have h1 := h x (by simp)
      have h2 := ihr fun a ha => h a (by simp [ha])
      omega
  have := this e.args ih
  omega

mutual
def countN (L : Nat) : Ex → Nat
  | ⟨_, args, _, _, _, _⟩ => countNs L args 1
def countNs (L : Nat) : List Ex → Nat → Nat
  | [], n => n
  | e :: r, n => if n ≤ L then countNs L r (n + countN L e) else n
end
theorem countN_eq (L : Nat) (e : Ex) : countN L e = countNs L e.args 1 := by cases e; rw [countN]
theorem count_spec (L : Nat) (e : Ex) : countN L e = sizeN e ∨ (L < countN L e ∧ countN L e ≤ sizeN e) := by
  refine Ex.ind (P := fun e => countN L e = sizeN e ∨ (L < countN L e ∧ countN L e ≤ sizeN e)) (fun e ih => ?_) e
  rw [countN_eq, sizeN_eq]
  have : ∀ (l : List Ex) (n : Nat), (∀ a ∈ l, countN L a = sizeN a ∨ (L < countN L a ∧ countN L a ≤ sizeN a)) → countNs L l n = n + (l.map sizeN).sum ∨ (L < countNs L l n ∧ countNs L l n ≤ n + (l.map sizeN).sum) := by
    intro l
    induction l with
    | nil => intro n _; simp [countNs]
    | cons x r ihr =>
      intro n h
      simp only [countNs, List.map_cons, List.sum_cons]
      have h1 := h x (by simp)
      have h2 := ihr (n + countN L x) fun a ha => h a (by simp [ha])
      split
      · have hmono : n + countN L x ≤ countNs L r (n + countN L x) := by
          have : ∀ (l : List Ex) (m : Nat), m ≤ countNs L l m := by
            intro l
            induction l with
            | nil => intro m; simp [countNs]
            | cons y s ihs => intro m; simp only [countNs]; split
                              · exact Nat.le_trans (Nat.le_add_right _ _) (ihs _)
                              · exact Nat.le_refl _
          exact this r _
        omega
      · omega
  have := this e.args 1 ih
  omega
theorem count_gt (L : Nat) (e : Ex) : L < countN L e ↔ L < sizeN e := by
  rcases count_spec L e with h | h
  · rw [h]
  · omega

def checkS (e : Ex) : Int := if decide (64 < (sizeN e : Int)) then 5 else if decide (12 < (depthN e : Int)) then 12 else nodesS e

def okS (op k k0 : Int) : Bool := if op == 5 || op == 6 || op == 7 || op == 8 then k == 0 else if op == 10 || op == 11 || op == 12 then k == 1 else if op == 9 then k == k0 else true
def operandsS (op : Int) (kinds : List Int) : Int := firstS (fun k => if okS op k (kinds.headD 0) then 0 else 9) kinds
def demandS (op : Int) : Int := if op == 5 || op == 6 || op == 7 || op == 8 then 0 else if op == 10 || op == 11 || op == 12 then 1 else -1
/-! ### Values of expressions -/

structure Evr where
  vars : List (List Ev)
  own : Int
  event : Ev

def OPS : List (Int × AV) := [(5, .fn (.func 63) [] [.ptr [.fn (.func 62) [] []]]), (6, .fn (.func 64) [] [.ptr [.fn (.func 62) [] []]]), (7, .fn (.func 65) [] []), (8, .fn (.func 66) [] []), (10, .fn (.func 67) [] []), (11, .fn (.func 68) [] []), (12, .fn (.func 69) [] [])]
def cX (x : Evr) : List AV := [.sl 1 (x.vars.map cEvs), .int .i64 x.own, .int .i64 x.event.source, .int .i64 x.event.seq, .int .i64 x.event.type, .int .i64 x.event.time, .sl 3 (x.event.values.map cV), .mapv OPS]
/-- No list of events is longer than data can be. -/
def Evr.ok (x : Evr) : Prop := ∀ l ∈ x.vars, l.length ≤ 1048576

def eventsS (vars : List (List Ev)) (v : Int) : List Ev := if decide (v < 0) || decide ((vars.length : Int) ≤ v) then [] else (vars[v.toNat]?).getD []

def fieldS (e : Ev) (k : Int) : Vl × Int := if decide ((e.values.length : Int) ≤ k) then (v0, 6) else ((e.values[k.toNat]?).getD v0, 0)

def totalS (x : Evr) (e : Ex) : Vl × Int :=
  let l := eventsS x.vars e.var
  if firstS (fun v => (fieldS v e.field).2) l != 0 then (v0, firstS (fun v => (fieldS v e.field).2) l) else ofS e.kind (l.map fun v => (fieldS v e.field).1) e.val

def readS (last : Ev) (e : Ex) : Vl × Int :=
  if e.op == 2 then (⟨0, last.time, []⟩, 0)
  else if (fieldS last e.field).2 == 0 then (if vcheckS (fieldS last e.field).1 != 0 then (v0, vcheckS (fieldS last e.field).1) else ((fieldS last e.field).1, 0))
  else (v0, (fieldS last e.field).2)

def leafS (x : Evr) (e : Ex) : Vl × Int :=
  if e.op == 0 then (e.val, 0)
  else if e.op == 3 then (⟨0, (eventsS x.vars e.var).length, []⟩, 0)
  else if e.op == 4 then totalS x e
  else if e.var != x.own then (if ((eventsS x.vars e.var).length : Int) == 0 then (v0, 10) else readS ((eventsS x.vars e.var).getLast?.getD ev0) e)
  else readS x.event e

def lastS (vars : List (List Ev)) (v own : Int) (ev : Ev) : Ev × Bool :=
  if v == own then (ev, true) else if ((eventsS vars v).length : Int) == 0 then (ev0, false) else ((eventsS vars v).getLast?.getD ev0, true)
def applyS (op : Int) (a b : Int) : Vl :=
  if op == 5 then ⟨0, IntKind.i64.wrap (a + b), []⟩ else if op == 6 then ⟨0, IntKind.i64.wrap (a - b), []⟩
  else if op == 7 then flagS (decide (a < b)) else if op == 8 then flagS (decide (a ≤ b))
  else if op == 10 then flagS (a == 1 && b == 1) else if op == 11 then flagS (a == 1 || b == 1) else flagS (a != 1)

def twoS (op : Int) (v w : Vl) : Vl := if op == 9 then flagS (eqV v w) else applyS op v.num w.num

/-- what an operation gives for values -/
def nodeV (op : Int) (l : List Vl) : Vl × Int :=
  if operandsS op (l.map (·.kind)) != 0 then (v0, operandsS op (l.map (·.kind)))
  else if op == 9 then (flagS (eqV (l.headD v0) ((l[1]?).getD v0)), 0)
  else (applyS op (l.headD v0).num (l.getLastD v0).num, 0)

mutual
def evalS (x : Evr) : Ex → Vl × Int
  | ⟨op, args, var, field, kind, val⟩ =>
    if args.isEmpty then leafS x ⟨op, args, var, field, kind, val⟩
    else if (evalL x args).2 != 0 then (v0, (evalL x args).2) else nodeV op (evalL x args).1
def evalL (x : Evr) : List Ex → List Vl × Int
  | [] => ([], 0)
  | e :: r => if (evalS x e).2 != 0 then ([], (evalS x e).2) else if (evalL x r).2 != 0 then ([], (evalL x r).2) else ((evalS x e).1 :: (evalL x r).1, 0)
end

def EvalS (x : Evr) (e : Ex) : Vl × Int := if checkS e != 0 then (v0, checkS e) else evalS x e
def TruthS (x : Evr) (e : Ex) : Bool := (EvalS x e).2 == 0 && eqV (EvalS x e).1 (flagS true)

end Go.Proofs.YtoolcpnahmgnnaaDoor
