/-
  Values, events, event types as plain types, how they lie in cells. No condition.
-/
import Derived.Test.YtfpbgdjloccdbaaAx
namespace Go.Proofs.Ytfpbgdjloccdbaa
open Go Go.Aw
set_option linter.unusedVariables false
set_option linter.unusedSimpArgs false

theorem str0 : ({ data := #[] } : ByteArray).data.toList = ([] : List UInt8) := rfl

structure Vl where
  kind : Int
  num : Int
  text : List UInt8
deriving DecidableEq

structure Ex where
  op : Int
  args : List Ex
  var : Int
  field : Int
  kind : Int
  val : Vl

structure Ev where
  source : Int
  seq : Int
  type : Int
  time : Int
  values : List Vl

structure Ac where
  kind : Int
  count : Int
  val : Vl

def v0 : Vl := ⟨0, 0, []⟩
def ev0 : Ev := ⟨0, 0, 0, 0, []⟩
def ex0 : Ex := ⟨0, [], 0, 0, 0, v0⟩
def ac0 : Ac := ⟨0, 0, v0⟩

/-- == on values, as the model counts it out -/
@[reducible] def eqV (v w : Vl) : Bool := v.kind == w.kind && (v.num == w.num && v.text == w.text)
@[reducible] def isV0 (v : Vl) : Bool := v.kind == 0 && (v.num == 0 && v.text == [])
theorem eqV_iff (v w : Vl) : eqV v w = true ↔ v = w := by
  cases v; cases w; simp [eqV]
theorem isV0_iff (v : Vl) : isV0 v = true ↔ v = v0 := by
  cases v; simp [isV0, v0]

def cV (v : Vl) : List AV := [.int .i64 v.kind, .int .i64 v.num, .str v.text]

mutual
def encE : Ex → List AV
  | ⟨op, args, var, field, kind, val⟩ => [.int .i64 op, .sl 8 (encEs args), .int .i64 var, .int .i64 field, .int .i64 kind, .int .i64 val.kind, .int .i64 val.num, .str val.text]
def encEs : List Ex → List (List AV)
  | [] => []
  | e :: r => encE e :: encEs r
end

theorem encEs_map : ∀ l : List Ex, encEs l = l.map encE
  | [] => by simp [encEs]
  | e :: r => by simp [encEs, encEs_map r]

def cE (e : Ex) : List AV := [.int .i64 e.op, .sl 8 (e.args.map encE), .int .i64 e.var, .int .i64 e.field, .int .i64 e.kind, .int .i64 e.val.kind, .int .i64 e.val.num, .str e.val.text]
def cEv (e : Ev) : List AV := [.int .i64 e.source, .int .i64 e.seq, .int .i64 e.type, .int .i64 e.time, .sl 3 (e.values.map cV)]
def cAc (a : Ac) : List AV := [.int .i64 a.kind, .int .i64 a.count, .int .i64 a.val.kind, .int .i64 a.val.num, .str a.val.text]
def cEvs (l : List Ev) : List AV := [.sl 5 (l.map cEv)]
def cEnv (l : List (List Ev)) : List AV := [.sl 1 (l.map cEvs)]

theorem encE_eq (e : Ex) : encE e = cE e := by
  cases e
  simp [encE, cE, encEs_map]

theorem Ex.ind {P : Ex → Prop} (h : ∀ e, (∀ a ∈ e.args, P a) → P e) : ∀ e, P e := by
  intro e
  exact Ex.rec (motive_1 := P) (motive_2 := fun l => ∀ a ∈ l, P a) (fun op args v f k val ih => h _ ih) (by simp) (fun a l ha hl => by simp only [List.mem_cons, forall_eq_or_imp]; exact ⟨ha, hl⟩) e

theorem encE_at {l : List Ex} {k : Nat} {a : Ex} (h : l[k]? = some a) : (l.map encE)[k]? = some (cE a) := by
  simp [h, encE_eq]
theorem map_at {α : Type} {f : α → List AV} {l : List α} {k : Nat} {a : α} (h : l[k]? = some a) : (l.map f)[k]? = some (f a) := by simp [h]

theorem get_lt {α : Type} {l : List α} {k : Nat} (h : decide ((k : Int) < (l.length : Int)) = true) : ∃ a, l[k]? = some a := by
  have : k < l.length := by simpa using h
  exact ⟨_, List.getElem?_eq_getElem this⟩
theorem get_lt' {α : Type} {l : List α} {k : Nat} {a : α} (h : l[k]? = some a) : k < l.length := (List.getElem?_eq_some_iff.1 h).1
theorem drop_cons {α : Type} {l : List α} {k : Nat} {a : α} (h : l[k]? = some a) : l.drop k = a :: l.drop (k + 1) := by
  obtain ⟨h1, h2⟩ := List.getElem?_eq_some_iff.1 h
  rw [← h2]; exact List.drop_eq_getElem_cons h1
theorem take_get {α : Type} {l : List α} {k : Nat} {a : α} (h : l[k]? = some a) : l.take (k + 1) = l.take k ++ [a] := by
  rw [List.take_add_one, h]; rfl
theorem take_end {α : Type} {l : List α} {k : Nat} (h : decide ((k : Int) < (l.length : Int)) = false) : l.take k = l := by
  have : ¬ k < l.length := by simpa using h
  exact List.take_of_length_le (by omega)
theorem get_int {α : Type} {l : List α} {v : Int} (h0 : 0 ≤ v) (h : v < (l.length : Int)) : ∃ a, l[v.toNat]? = some a := ⟨_, List.getElem?_eq_getElem (by omega)⟩
theorem get_end {α : Type} {l : List α} {k : Nat} (h : decide ((k : Int) < (l.length : Int)) = false) : l.drop k = [] := by
  have : ¬ k < l.length := by simpa using h
  exact List.drop_eq_nil_of_le (by omega)

/-! ### Layer 1 -/

def flagS (b : Bool) : Vl := if b then ⟨1, 1, []⟩ else ⟨1, 0, []⟩

def vsizeS (v : Vl) : Int :=
  if v.kind == 0 && (decide (v.num < -1099511627776) || decide (1099511627776 < v.num)) then 2
  else if v.kind == 1 && v.num != 0 && v.num != 1 then 2
  else if decide (64 < (v.text.length : Int)) then 13 else 0

def vcheckS (v : Vl) : Int :=
  if v.kind == 0 || v.kind == 1 then (if !(v.text == []) then 3 else vsizeS v)
  else if v.kind == 2 then (if v.num != 0 then 3 else vsizeS v)
  else 1

/-- the same in the order of the reference -/
def rvcheckS (v : Vl) : Int :=
  if decide (v.kind < 0) || decide (2 < v.kind) then 1
  else if v.kind == 2 then (if v.num != 0 then 3 else if decide (64 < (v.text.length : Int)) then 13 else 0)
  else if !(v.text == []) then 3
  else if v.kind == 1 && (decide (v.num < 0) || decide (1 < v.num)) || decide (v.num < -1099511627776) || decide (1099511627776 < v.num) then 2 else 0
theorem rvcheck_eq (v : Vl) : rvcheckS v = vcheckS v := by
  unfold rvcheckS vcheckS vsizeS
  obtain ⟨k, n, t⟩ := v
  by_cases ht : t = []
  · subst ht
    simp only [Bool.or_eq_true, Bool.and_eq_true, decide_eq_true_eq, beq_iff_eq, bne_iff_ne, ne_eq, not_true, if_false, List.length_nil, BEq.rfl, Bool.not_true, Bool.false_eq_true, Bool.not_true, Bool.false_eq_true]
    repeat' split
    all_goals first | rfl | omega
  · simp only [Bool.or_eq_true, Bool.and_eq_true, decide_eq_true_eq, beq_iff_eq, bne_iff_ne, ne_eq, ht, not_false_eq_true, if_true, Bool.not_eq_true', beq_eq_false_iff_ne]
    repeat' split
    all_goals first | rfl | omega

/-! ### Event types -/
structure Fi where
  name : List UInt8
  kind : Int
structure Sc where
  name : List UInt8
  fields : List Fi
structure Va where
  name : List UInt8
  type : Int
def cFi (f : Fi) : List AV := [.str f.name, .int .i64 f.kind]
def cSc (s : Sc) : List AV := [.str s.name, .sl 2 (s.fields.map cFi)]
def cVa (v : Va) : List AV := [.str v.name, .int .i64 v.type]
def sc0 : Sc := ⟨[], []⟩
def fi0 : Fi := ⟨[], 0⟩
def va0 : Va := ⟨[], 0⟩

def letS (n : Int) : Bool := n == 95 || (decide (97 ≤ n) && decide (n ≤ 122)) || (decide (65 ≤ n) && decide (n ≤ 90))
def digS (n : Int) : Bool := decide (48 ≤ n) && decide (n ≤ 57)
def chS (b : UInt8) : Bool := letS b.toNat || digS b.toNat
def nameS (s : List UInt8) : Bool := !(s.length == 0) && decide (s.length ≤ 24) && !digS ((s.headD 0).toNat) && s.all chS
def timeB : List UInt8 := [116, 105, 109, 101]
def fnameS (s : List UInt8) : Bool := nameS s && !(s == timeB)

def fieldE (seen : List (List UInt8)) (f : Fi) : Int :=
  if !fnameS f.name then 8 else if seen.contains f.name then 7 else if decide (f.kind < 0) || decide (3 ≤ f.kind) then 1 else 0
def fieldsS : List (List UInt8) → List Fi → Int
  | _, [] => 0
  | seen, f :: r => if fieldE seen f != 0 then fieldE seen f else fieldsS (seen ++ [f.name]) r
def schS (s : Sc) : Int := if !nameS s.name then 8 else if decide (8 < (s.fields.length : Int)) then 5 else fieldsS [] s.fields
def typeE (seen : List (List UInt8)) (s : Sc) : Int := if schS s != 0 then schS s else if seen.contains s.name then 7 else 0
def typesS : List (List UInt8) → List Sc → Int
  | _, [] => 0
  | seen, s :: r => if typeE seen s != 0 then typeE seen s else typesS (seen ++ [s.name]) r
def allTS (l : List Sc) : Int := if decide (16 < (l.length : Int)) then 5 else typesS [] l

/-- the first place of a name -/
def placeS (ns : List (List UInt8)) (n : List UInt8) : Int := if ns.contains n then ((ns.idxOf n : Nat) : Int) else -1
theorem place_lt {ns : List (List UInt8)} {k : Nat} {n : List UInt8} (h : ns[k]? = some n) : decide (placeS ns n < (k : Int)) = (ns.take k).contains n := by
  have hm : n ∈ ns := List.mem_of_getElem? h
  have hc : ns.contains n = true := by simpa using hm
  unfold placeS
  rw [if_pos hc]
  have key : ns.idxOf n < k ↔ n ∈ ns.take k := by
    constructor
    · intro hlt
      have h1 : ns.idxOf n < ns.length := List.idxOf_lt_length_of_mem hm
      have h2 : ns[ns.idxOf n] = n := List.getElem_idxOf h1
      rw [List.mem_take_iff_getElem]
      exact ⟨ns.idxOf n, by omega, h2⟩
    · intro hmem
      obtain ⟨i, hi, he⟩ := List.mem_take_iff_getElem.1 hmem
      have : ns.idxOf n ≤ i := by
        refine Nat.le_of_not_lt fun hlt => ?_
        have h4 := List.not_of_lt_findIdx (p := fun x => x == n) (xs := ns) (i := i) hlt
        simp only [he] at h4
        simp at h4
      omega
  by_cases hk : ns.idxOf n < k
  · have h2 := key.1 hk
    have e1 : decide (((ns.idxOf n : Nat) : Int) < (k : Int)) = true := by simp; omega
    rw [e1]; symm; simpa using h2
  · have h2 : ¬ n ∈ ns.take k := fun h => hk (key.2 h)
    have e1 : decide (((ns.idxOf n : Nat) : Int) < (k : Int)) = false := by simp; omega
    rw [e1]; symm; simpa using h2
theorem place_cons_eq (n : List UInt8) (r : List (List UInt8)) : placeS (n :: r) n = 0 := by simp [placeS]


end Go.Proofs.Ytfpbgdjloccdbaa
