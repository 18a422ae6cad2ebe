/-
  Folding, renaming and likeness of expressions as plain functions, and their laws. No condition.
-/
import Derived.Test.YtoolcpnahmgnnaaDoorM4
namespace Go.Proofs.YtoolcpnahmgnnaaDoor
open Go Go.Aw
set_option linter.unusedVariables false
set_option linter.unusedSimpArgs false

mutual
def rebS (f : Ex → Ex) : Ex → Ex
  | ⟨op, args, var, field, kind, val⟩ => f ⟨op, rebL f args, var, field, kind, val⟩
def rebL (f : Ex → Ex) : List Ex → List Ex
  | [] => []
  | e :: r => rebS f e :: rebL f r
end
/-- the node with its arguments rebuilt -/
def outS (f : Ex → Ex) (e : Ex) : Ex := ⟨e.op, e.args.map (rebS f), e.var, e.field, e.kind, e.val⟩
def arg0 (e : Ex) : Ex := e.args.headD ex0
def arg1 (e : Ex) : Ex := (e.args[1]?).getD ex0
def constE (v : Vl) : Ex := ⟨0, [], 0, 0, 0, v⟩
def isC (a : Ex) (b : Bool) : Bool := a.op == 0 && eqV a.val (flagS b)

def knownS' (x : Evr) (e : Ex) : Vl × Bool :=
  if e.args.any (fun a => a.op != 0) then (v0, false) else if (e.args.length : Int) == 0 then (v0, false) else ((evalS x e).1, (evalS x e).2 == 0 && vcheckS (evalS x e).1 == 0)

/-- what replaces a node whose arguments are folded -/
def fnodeS (x : Evr) (e : Ex) : Ex :=
  if (knownS' x e).2 then constE (knownS' x e).1
  else if e.op == 12 && (arg0 e).op == 12 then arg0 (arg0 e)
  else if e.op != 10 && e.op != 11 then e
  else if isC (arg0 e) (e.op == 10) then arg1 e
  else if isC (arg1 e) (e.op == 10) then arg0 e
  else if isC (arg0 e) (!(e.op == 10)) || isC (arg1 e) (!(e.op == 10)) then constE (flagS (!(e.op == 10)))
  else e

/-- the evaluator of folding -/
def xz : Evr := ⟨[], -1, ev0⟩
def FoldS (e : Ex) : Ex × Int := if checkS e != 0 then (ex0, checkS e) else (rebS (fnodeS xz) e, 0)

/-! ### Likeness -/
def headS (a b : Ex) : Bool := a.op != b.op || a.var != b.var || a.field != b.field || a.kind != b.kind || !eqV a.val b.val || (a.args.length : Int) != (b.args.length : Int)

mutual
def sameS : Ex → Ex → Bool
  | ⟨op, args, var, field, kind, val⟩, b => if headS ⟨op, args, var, field, kind, val⟩ b then false else sameL args b.args
def sameL : List Ex → List Ex → Bool
  | [], _ => true
  | a :: r, l => if !sameS a (l.headD ex0) then false else sameL r l.tail
end
theorem sameS_eq (a b : Ex) : sameS a b = if headS a b then false else sameL a.args b.args := by cases a; rw [sameS]

theorem sameS_iff (a b : Ex) : sameS a b = true ↔ a = b := by
  induction a using Ex.ind generalizing b with
  | h a ih =>
    have hL : ∀ (l m : List Ex), (∀ x ∈ l, ∀ y, sameS x y = true ↔ x = y) → l.length = m.length → (sameL l m = true ↔ l = m) := by
      intro l
      induction l with
      | nil => intro m _ hl; cases m with | nil => simp [sameL] | cons _ _ => simp at hl
      | cons x r ihl =>
        intro m hx hl
        cases m with
        | nil => simp at hl
        | cons y s =>
          have h1 := hx x (by simp) y
          have h2 := ihl s (fun z hz => hx z (by simp [hz])) (by simpa using hl)
          rw [List.cons.injEq]
          show (if (!sameS x y) = true then false else sameL r s) = true ↔ x = y ∧ r = s
          by_cases hs : sameS x y = true
          · rw [if_neg (by simp [hs]), h2]; simp [h1.1 hs]
          · rw [if_pos (by simp [hs])]
            have : ¬ x = y := fun e => hs (h1.2 e)
            simp [this]
    rw [sameS_eq]
    by_cases hh : headS a b = true
    · rw [if_pos hh]
      constructor
      · intro h; cases h
      · intro e; subst e
        simp [headS] at hh
    · rw [if_neg hh]
      have hh' := hh
      simp [headS] at hh
      obtain ⟨⟨⟨⟨⟨h1, h2⟩, h3⟩, h4⟩, h5⟩, h6⟩ := hh
      rw [hL _ _ (fun x hx y => ih x hx y) (by omega)]
      cases a with | mk _ _ _ _ _ av => cases b with | mk _ _ _ _ _ bv =>
        cases av; cases bv
        simp_all
end Go.Proofs.YtoolcpnahmgnnaaDoor
