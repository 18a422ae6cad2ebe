/-
  Folding, renaming and likeness of expressions as plain functions, and their laws. No condition.
-/
import Derived.Test.YtkkacfnkjiijkaaM4
namespace Go.Proofs.Ytkkacfnkjiijkaa
open Go Go.Aw
set_option linter.unusedVariables false
set_option linter.unusedSimpArgs false

mutual
def rebS (f : Ex → Ex) : Ex → Ex
  | ⟨op, args, var, field, kind, val⟩ => f ⟨op, rebL f args, var, field, kind, val⟩
def rebL (f : Ex → Ex) : List Ex → List Ex
  | [] => []
  | e :: r => rebS f e :: rebL f r
end
theorem rebL_map (f : Ex → Ex) : ∀ l, rebL f l = l.map (rebS f)
  | [] => by simp [rebL]
  | e :: r => by simp [rebL, rebL_map f r]
/-- the node with its arguments rebuilt -/
def outS (f : Ex → Ex) (e : Ex) : Ex := ⟨e.op, e.args.map (rebS f), e.var, e.field, e.kind, e.val⟩
theorem rebS_eq (f : Ex → Ex) (e : Ex) : rebS f e = f (outS f e) := by cases e; rw [rebS, rebL_map]; rfl

def arg0 (e : Ex) : Ex := e.args.headD ex0
def arg1 (e : Ex) : Ex := (e.args[1]?).getD ex0
def constE (v : Vl) : Ex := ⟨0, [], 0, 0, 0, v⟩
def isC (a : Ex) (b : Bool) : Bool := a.op == 0 && eqV a.val (flagS b)

theorem get0 {e : Ex} (h : 0 < e.args.length) : e.args[(0 : Int).toNat]? = some (arg0 e) := by
  unfold arg0
  cases e with | mk op args a b c d =>
  cases args with
  | nil => simp at h
  | cons x r => rfl
theorem get1 {e : Ex} (h : 1 < e.args.length) : e.args[(1 : Int).toNat]? = some (arg1 e) := by
  unfold arg1
  have : e.args[1]? = some e.args[1] := List.getElem?_eq_getElem h
  show e.args[1]? = _
  rw [this]; rfl
theorem arg0_at {e : Ex} (h : 0 < e.args.length) : (e.args.map encE)[(0 : Int).toNat]? = some (cE (arg0 e)) := encE_at (get0 h)
theorem arg1_at {e : Ex} (h : 1 < e.args.length) : (e.args.map encE)[(1 : Int).toNat]? = some (cE (arg1 e)) := encE_at (get1 h)
theorem arg0_mem {e : Ex} (h : 0 < e.args.length) : arg0 e ∈ e.args := List.mem_of_getElem? (get0 h)
theorem arg1_mem {e : Ex} (h : 1 < e.args.length) : arg1 e ∈ e.args := List.mem_of_getElem? (get1 h)

theorem len_not {e : Ex} (h : nodeS e = 0) (ho : e.op = 12) : 0 < e.args.length := by
  obtain ⟨_, _, h3⟩ := node_shape h
  rw [ho] at h3
  have : arityS 12 = 1 := by decide
  omega
theorem len_two {e : Ex} (h : nodeS e = 0) (ho : e.op = 10 ∨ e.op = 11) : 1 < e.args.length := by
  obtain ⟨_, _, h3⟩ := node_shape h
  have : arityS e.op = 2 := by rcases ho with h | h <;> rw [h] <;> decide
  omega

def knownS' (x : Evr) (e : Ex) : Vl × Bool :=
  if e.args.any (fun a => a.op != 0) then (v0, false) else if (e.args.length : Int) == 0 then (v0, false) else ((evalS x e).1, (evalS x e).2 == 0 && vcheckS (evalS x e).1 == 0)

/-- what replaces a node whose arguments are folded -/
def fnodeS (x : Evr) (e : Ex) : Ex :=
  if (knownS' x e).2 then constE (knownS' x e).1
  else if e.op == 12 && (arg0 e).op == 12 then arg0 (arg0 e)
  else if e.op != 10 && e.op != 11 then e
  else if isC (arg0 e) (e.op == 10) then arg1 e
  else if isC (arg1 e) (e.op == 10) then arg0 e
  else if isC (arg0 e) (!(e.op == 10)) || isC (arg1 e) (!(e.op == 10)) then constE (flagS (!(e.op == 10)))
  else e

/-- the evaluator of folding -/
def xz : Evr := ⟨[], -1, ev0⟩
theorem xz_ok : xz.ok := by intro l hl; cases hl

theorem const_ok {v : Vl} (h : vcheckS v = 0) : nodesS (constE v) = 0 ∧ sizeN (constE v) = 1 := by
  refine ⟨?_, by rw [sizeN_eq]; rfl⟩
  rw [nodesS_eq]
  have h1 : nodeS (constE v) = 0 := by
    have hc : constS (constE v) = 0 := by simp [constS, constE, h]
    have hf : formS (constE v) = 0 := by simp [formS, constE, usesS]
    have ha : arityS 0 = 0 := by decide
    unfold nodeS
    have hc' : constS ⟨0, [], 0, 0, 0, v⟩ = 0 := hc
    have hf' : formS ⟨0, [], 0, 0, 0, v⟩ = 0 := hf
    simp [hc', hf', ha, constE, usesS]
  rw [h1]; rfl

theorem flag_ok (b : Bool) : vcheckS (flagS b) = 0 := by cases b <;> decide

theorem valid_of {e : Ex} (h : nodeS e = 0) (ha : ∀ a ∈ e.args, nodesS a = 0) : nodesS e = 0 := by
  rw [nodesS_eq, h]
  have : ∀ l : List Ex, (∀ a ∈ l, nodesS a = 0) → firstS nodesS l = 0 := by
    intro l
    induction l with
    | nil => intro _; rfl
    | cons x r ih =>
      intro h
      rw [firstS, if_neg (by simp [h x (by simp)])]
      exact ih fun a ha => h a (by simp [ha])
  exact this _ ha

theorem node_same {e e' : Ex} (h1 : e'.op = e.op) (h2 : e'.args.length = e.args.length) (h3 : e'.var = e.var) (h4 : e'.field = e.field) (h5 : e'.kind = e.kind) (h6 : e'.val = e.val) : nodeS e' = nodeS e := by
  unfold nodeS formS constS
  rw [h1, h2, h3, h4, h5, h6]

theorem fnode_ok (x : Evr) {e : Ex} (h : nodesS e = 0) : nodesS (fnodeS x e) = 0 ∧ sizeN (fnodeS x e) ≤ sizeN e := by
  have hz := nodes_zero h
  have hp := size_pos e
  unfold fnodeS
  split
  · rename_i hk
    have hv : vcheckS (knownS' x e).1 = 0 := by
      unfold knownS' at hk ⊢
      split
      · rename_i h1; rw [if_pos h1] at hk; cases hk
      · rename_i h1
        rw [if_neg h1] at hk
        split
        · rename_i h2; rw [if_pos h2] at hk; cases hk
        · rename_i h2; rw [if_neg h2] at hk
          simp only [Bool.and_eq_true, beq_iff_eq] at hk
          exact hk.2
    have := const_ok hv
    exact ⟨this.1, by omega⟩
  · split
    · rename_i _ hc
      simp only [Bool.and_eq_true, beq_iff_eq] at hc
      have h0 := arg0_mem (len_not hz.1 hc.1)
      have hz0 := nodes_zero (hz.2 _ h0)
      have h1 := arg0_mem (len_not hz0.1 hc.2)
      have := size_arg h0
      have := size_arg h1
      exact ⟨hz0.2 _ h1, by omega⟩
    · split
      · exact ⟨h, Nat.le_refl _⟩
      · rename_i hn
        have ho : e.op = 10 ∨ e.op = 11 := by
          simp only [Bool.and_eq_true, bne_iff_ne, ne_eq, not_and, Decidable.not_not] at hn
          omega
        have hl := len_two hz.1 ho
        have m0 := arg0_mem (e := e) (by omega)
        have m1 := arg1_mem hl
        have s0 := size_arg m0
        have s1 := size_arg m1
        split
        · exact ⟨hz.2 _ m1, by omega⟩
        · split
          · exact ⟨hz.2 _ m0, by omega⟩
          · split
            · have := const_ok (flag_ok (!(e.op == 10)))
              exact ⟨this.1, by omega⟩
            · exact ⟨h, Nat.le_refl _⟩

theorem sum_map_le {l : List Ex} {f : Ex → Ex} (h : ∀ a ∈ l, sizeN (f a) ≤ sizeN a) : ((l.map f).map sizeN).sum ≤ (l.map sizeN).sum := by
  induction l with
  | nil => exact Nat.le_refl _
  | cons x r ih =>
    simp only [List.map_cons, List.sum_cons]
    have h1 := h x (by simp)
    have h2 := ih fun a ha => h a (by simp [ha])
    omega

/-- What keeps nodes well-formed and no greater keeps expressions so. -/
theorem reb_ok {f : Ex → Ex} (hf : ∀ e, nodesS e = 0 → nodesS (f e) = 0 ∧ sizeN (f e) ≤ sizeN e) (e : Ex) (h : nodesS e = 0) :
    (nodesS (outS f e) = 0 ∧ sizeN (outS f e) ≤ sizeN e) ∧ nodesS (rebS f e) = 0 ∧ sizeN (rebS f e) ≤ sizeN e := by
  induction e using Ex.ind with
  | h e ih =>
    have hz := nodes_zero h
    have ho : nodesS (outS f e) = 0 := valid_of (by rw [node_same (e := e)] <;> first | exact hz.1 | rfl | simp [outS]) (fun a ha => by
      obtain ⟨b, hb, rfl⟩ := List.mem_map.1 ha
      exact (ih b hb (hz.2 b hb)).2.1)
    have hs : sizeN (outS f e) ≤ sizeN e := by
      rw [sizeN_eq, sizeN_eq e]
      have := sum_map_le (l := e.args) (f := rebS f) fun a ha => (ih a ha (hz.2 a ha)).2.2
      show 1 + ((e.args.map (rebS f)).map sizeN).sum ≤ _
      omega
    refine ⟨⟨ho, hs⟩, ?_⟩
    rw [rebS_eq]
    have := hf _ ho
    exact ⟨this.1, by omega⟩

def FoldS (e : Ex) : Ex × Int := if checkS e != 0 then (ex0, checkS e) else (rebS (fnodeS xz) e, 0)

/-! ### Likeness -/
def headS (a b : Ex) : Bool := a.op != b.op || a.var != b.var || a.field != b.field || a.kind != b.kind || !eqV a.val b.val || (a.args.length : Int) != (b.args.length : Int)

mutual
def sameS : Ex → Ex → Bool
  | ⟨op, args, var, field, kind, val⟩, b => if headS ⟨op, args, var, field, kind, val⟩ b then false else sameL args b.args
def sameL : List Ex → List Ex → Bool
  | [], _ => true
  | a :: r, l => if !sameS a (l.headD ex0) then false else sameL r l.tail
end
theorem sameS_eq (a b : Ex) : sameS a b = if headS a b then false else sameL a.args b.args := by cases a; rw [sameS]

theorem sameS_iff (a b : Ex) : sameS a b = true ↔ a = b := by
  induction a using Ex.ind generalizing b with
  | h a ih =>
    have hL : ∀ (l m : List Ex), (∀ x ∈ l, ∀ y, sameS x y = true ↔ x = y) → l.length = m.length → (sameL l m = true ↔ l = m) := by
      intro l
      induction l with
      | nil => intro m _ hl; cases m with | nil => simp [sameL] | cons _ _ => simp at hl
      | cons x r ihl =>
        intro m hx hl
        cases m with
        | nil => simp at hl
        | cons y s =>
          have h1 := hx x (by simp) y
          have h2 := ihl s (fun z hz => hx z (by simp [hz])) (by simpa using hl)
          rw [List.cons.injEq]
          show (if (!sameS x y) = true then false else sameL r s) = true ↔ x = y ∧ r = s
          by_cases hs : sameS x y = true
          · rw [if_neg (by simp [hs]), h2]; simp [h1.1 hs]
          · rw [if_pos (by simp [hs])]
            have : ¬ x = y := fun e => hs (h1.2 e)
            simp [this]
    rw [sameS_eq]
    by_cases hh : headS a b = true
    · rw [if_pos hh]
      constructor
      · intro h; cases h
      · intro e; subst e
        simp [headS] at hh
    · rw [if_neg hh]
      have hh' := hh
      simp [headS] at hh
      obtain ⟨⟨⟨⟨⟨h1, h2⟩, h3⟩, h4⟩, h5⟩, h6⟩ := hh
      rw [hL _ _ (fun x hx y => ih x hx y) (by omega)]
      cases a with | mk _ _ _ _ _ av => cases b with | mk _ _ _ _ _ bv =>
        cases av; cases bv
        simp_all
theorem sameS_refl (a : Ex) : sameS a a = true := (sameS_iff a a).2 rfl

end Go.Proofs.Ytkkacfnkjiijkaa
