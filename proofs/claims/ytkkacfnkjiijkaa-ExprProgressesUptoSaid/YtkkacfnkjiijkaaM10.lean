/-
  Names, event types and kinds as plain functions. No condition.
-/
import Derived.Test.YtkkacfnkjiijkaaM6
namespace Go.Proofs.Ytkkacfnkjiijkaa
open Go Go.Aw
set_option linter.unusedVariables false
set_option linter.unusedSimpArgs false

structure Fi where
  name : List UInt8
  kind : Int
structure Sc where
  name : List UInt8
  fields : List Fi
structure Va where
  name : List UInt8
  type : Int
def cFi (f : Fi) : List AV := [.str f.name, .int .i64 f.kind]
def cSc (s : Sc) : List AV := [.str s.name, .sl 2 (s.fields.map cFi)]
def cVa (v : Va) : List AV := [.str v.name, .int .i64 v.type]
def sc0 : Sc := ⟨[], []⟩
def fi0 : Fi := ⟨[], 0⟩
def va0 : Va := ⟨[], 0⟩

def letS (n : Int) : Bool := n == 95 || (decide (97 ≤ n) && decide (n ≤ 122)) || (decide (65 ≤ n) && decide (n ≤ 90))
def digS (n : Int) : Bool := decide (48 ≤ n) && decide (n ≤ 57)
def chS (b : UInt8) : Bool := letS b.toNat || digS b.toNat
def nameS (s : List UInt8) : Bool := !(s.length == 0) && decide (s.length ≤ 24) && !digS ((s.headD 0).toNat) && s.all chS
def timeB : List UInt8 := [116, 105, 109, 101]
def fnameS (s : List UInt8) : Bool := nameS s && !(s == timeB)

def fieldE (seen : List (List UInt8)) (f : Fi) : Int :=
  if !fnameS f.name then 8 else if seen.contains f.name then 7 else if decide (f.kind < 0) || decide (3 ≤ f.kind) then 1 else 0
def fieldsS : List (List UInt8) → List Fi → Int
  | _, [] => 0
  | seen, f :: r => if fieldE seen f != 0 then fieldE seen f else fieldsS (seen ++ [f.name]) r
def schS (s : Sc) : Int := if !nameS s.name then 8 else if decide (8 < (s.fields.length : Int)) then 5 else fieldsS [] s.fields
def typeE (seen : List (List UInt8)) (s : Sc) : Int := if schS s != 0 then schS s else if seen.contains s.name then 7 else 0
def typesS : List (List UInt8) → List Sc → Int
  | _, [] => 0
  | seen, s :: r => if typeE seen s != 0 then typeE seen s else typesS (seen ++ [s.name]) r
def allTS (l : List Sc) : Int := if decide (16 < (l.length : Int)) then 5 else typesS [] l

/-- the first place of a name -/
def placeS (ns : List (List UInt8)) (n : List UInt8) : Int := if ns.contains n then ((ns.idxOf n : Nat) : Int) else -1
theorem place_lt {ns : List (List UInt8)} {k : Nat} {n : List UInt8} (h : ns[k]? = some n) : decide (placeS ns n < (k : Int)) = (ns.take k).contains n := by
  have hm : n ∈ ns := List.mem_of_getElem? h
  have hc : ns.contains n = true := by simpa using hm
  unfold placeS
  rw [if_pos hc]
  have key : ns.idxOf n < k ↔ n ∈ ns.take k := by
    constructor
    · intro hlt
      have h1 : ns.idxOf n < ns.length := List.idxOf_lt_length_of_mem hm
      have h2 : ns[ns.idxOf n] = n := List.getElem_idxOf h1
      rw [List.mem_take_iff_getElem]
      exact ⟨ns.idxOf n, by omega, h2⟩
    · intro hmem
      obtain ⟨i, hi, he⟩ := List.mem_take_iff_getElem.1 hmem
      have : ns.idxOf n ≤ i := by
        refine Nat.le_of_not_lt fun hlt => ?_
        have h4 := List.not_of_lt_findIdx (p := fun x => x == n) (xs := ns) (i := i) hlt
        simp only [he] at h4
        simp at h4
      omega
  by_cases hk : ns.idxOf n < k
  · have h2 := key.1 hk
    have e1 : decide (((ns.idxOf n : Nat) : Int) < (k : Int)) = true := by simp; omega
    rw [e1]; symm; simpa using h2
  · have h2 : ¬ n ∈ ns.take k := fun h => hk (key.2 h)
    have e1 : decide (((ns.idxOf n : Nat) : Int) < (k : Int)) = false := by simp; omega
    rw [e1]; symm; simpa using h2
theorem place_cons_eq (n : List UInt8) (r : List (List UInt8)) : placeS (n :: r) n = 0 := by simp [placeS]

/-! ### Kinds -/
def varE (n : Int) (v : Va) : Int := if decide (v.type < 0) || decide (n ≤ v.type) then 6 else 0
def varsE (types : List Sc) (vars : List Va) : Int := if decide (16 < (vars.length : Int)) then 5 else firstS (varE types.length) vars

def fldsS (types : List Sc) (vars : List Va) (v : Int) : List Fi := ((types[((vars[v.toNat]?).getD va0).type.toNat]?).getD sc0).fields
def kindAt (l : List Fi) (k : Int) : Int := ((l[k.toNat]?).getD fi0).kind
def leafK (types : List Sc) (vars : List Va) (e : Ex) : Int × Int :=
  if e.op == 0 then (e.val.kind, 0)
  else if decide ((vars.length : Int) ≤ e.var) then (0, 6)
  else if e.op == 2 || e.op == 3 then (0, 0)
  else if decide (((fldsS types vars e.var).length : Int) ≤ e.field) then (0, 6)
  else if e.op == 4 && (kindAt (fldsS types vars e.var) e.field != e.val.kind || !esuitsS e.kind ⟨kindAt (fldsS types vars e.var) e.field, 0, []⟩) then (0, 9)
  else (kindAt (fldsS types vars e.var) e.field, 0)
def resK (op : Int) : Int := if op == 5 || op == 6 then 0 else 1

mutual
def kindS (types : List Sc) (vars : List Va) : Ex → Int × Int
  | ⟨op, args, var, field, kind, val⟩ =>
    if args.isEmpty then leafK types vars ⟨op, args, var, field, kind, val⟩
    else if (kindL types vars args).2 != 0 then (0, (kindL types vars args).2)
    else if operandsS op (kindL types vars args).1 != 0 then (0, operandsS op (kindL types vars args).1) else (resK op, 0)
def kindL (types : List Sc) (vars : List Va) : List Ex → List Int × Int
  | [] => ([], 0)
  | e :: r => if (kindS types vars e).2 != 0 then ([], (kindS types vars e).2) else if (kindL types vars r).2 != 0 then ([], (kindL types vars r).2) else ((kindS types vars e).1 :: (kindL types vars r).1, 0)
end
theorem kindL_err (types : List Sc) (vars : List Va) : ∀ l, (kindL types vars l).2 = firstS (fun a => (kindS types vars a).2) l
  | [] => by simp [kindL, firstS]
  | e :: r => by
    have := kindL_err types vars r
    by_cases h : ((kindS types vars e).2 != 0) = true
    · rw [kindL, firstS, if_pos h, if_pos h]
    · rw [kindL, firstS, if_neg h, if_neg h, ← this]
      by_cases h2 : ((kindL types vars r).2 != 0) = true
      · rw [if_pos h2]
      · rw [if_neg h2]
        have h3 : (kindL types vars r).2 = 0 := by simpa using h2
        exact h3.symm
theorem kindL_ok (types : List Sc) (vars : List Va) : ∀ l, firstS (fun a => (kindS types vars a).2) l = 0 → (kindL types vars l).1 = l.map fun a => (kindS types vars a).1
  | [], _ => by simp [kindL]
  | e :: r, h => by
    simp only [firstS] at h
    by_cases h1 : ((kindS types vars e).2 != 0) = true
    · rw [if_pos h1] at h; simp [h] at h1
    · rw [if_neg h1] at h
      have h2 : ¬ ((kindL types vars r).2 != 0) = true := by rw [kindL_err, h]; simp
      rw [kindL, if_neg h1, if_neg h2]
      simp [kindL_ok types vars r h]
theorem kindS_eq (types : List Sc) (vars : List Va) (e : Ex) : kindS types vars e = if e.args.isEmpty then leafK types vars e else if firstS (fun a => (kindS types vars a).2) e.args != 0 then (0, firstS (fun a => (kindS types vars a).2) e.args)
    else if operandsS e.op (e.args.map fun a => (kindS types vars a).1) != 0 then (0, operandsS e.op (e.args.map fun a => (kindS types vars a).1)) else (resK e.op, 0) := by
  cases e with | mk op args var field kind val =>
  rw [kindS]
  simp only [kindL_err]
  by_cases h : firstS (fun a => (kindS types vars a).2) args = 0
  · simp [h, kindL_ok types vars args h]
  · simp [h]
def KindS (types : List Sc) (vars : List Va) (e : Ex) : Int × Int :=
  if allTS types != 0 then (0, allTS types) else if varsE types vars != 0 then (0, varsE types vars) else if checkS e != 0 then (0, checkS e) else kindS types vars e

/-- what the bound of the law says -/
def shortS (types : List Sc) (vars : List Va) : Bool := !((types.take 30).any fun s => decide (12 < (s.fields.length : Int))) && (decide ((types.length : Int) ≤ 20) && decide ((vars.length : Int) ≤ 20))

end Go.Proofs.Ytkkacfnkjiijkaa
