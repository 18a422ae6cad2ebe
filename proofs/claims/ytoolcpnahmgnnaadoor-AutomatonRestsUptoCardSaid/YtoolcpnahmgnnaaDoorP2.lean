/-
  What a checked automaton is. No program in sight. No condition.
-/
import Derived.Test.YtoolcpnahmgnnaaDoorP1
namespace Go.Proofs.YtoolcpnahmgnnaaDoor
open Go Go.Aw
set_option linter.unusedVariables false
set_option linter.unusedSimpArgs false

/-- What of an edge does not hang on its states. -/
def restE (vars scopes : Int) (x : Ed) : Int :=
  if checkS x.cond != 0 then checkS x.cond
  else if decide (64 < (x.checks.length : Int)) then 5
  else if firstS checkS x.checks != 0 then firstS checkS x.checks
  else listsE scopes x
def DstOk (n : Int) (x : Ed) : Prop := -1 ≤ x.dst ∧ x.dst < n
structure EdOk (vars scopes n : Int) (x : Ed) : Prop where
  src : 0 ≤ x.src ∧ x.src < n
  dst : -1 ≤ x.dst ∧ x.dst < n
  var : inS x.var vars = true
  type : inS x.type 16 = true
  rest : restE vars scopes x = 0
def AscE : Int → List Ed → Prop
  | _, [] => True
  | b, x :: r => b ≤ x.src ∧ AscE x.src r
theorem inS_iff {i n : Int} : inS i n = true ↔ 0 ≤ i ∧ i < n := by simp
theorem edge_zero {vars scopes n b : Int} {x : Ed} : edgeE vars scopes n x b = 0 ↔ EdOk vars scopes n x ∧ b ≤ x.src := by
  unfold edgeE
  by_cases h1 : ((((!(inS x.src n) || decide (x.dst < -1)) || decide (n ≤ x.dst)) || !(inS x.var vars)) || !(inS x.type 16)) = true
  · rw [if_pos h1]
    refine ⟨fun h => absurd h (by decide), fun ⟨h, _⟩ => ?_⟩
    have e1 := inS_iff.2 h.src
    simp only [e1, h.var, h.type, Bool.not_true, Bool.false_or, Bool.or_false, Bool.or_eq_true, decide_eq_true_eq] at h1
    have := h.dst
    omega
  · rw [if_neg h1]
    have h2 : (((inS x.src n = true ∧ ¬ x.dst < -1) ∧ ¬ n ≤ x.dst) ∧ inS x.var vars = true) ∧ inS x.type 16 = true := by
      revert h1
      cases inS x.src n <;> cases inS x.var vars <;> cases inS x.type 16 <;> simp
    by_cases h3 : x.src < b
    · rw [if_pos (decide_eq_true h3)]
      exact ⟨fun h => absurd h (by decide), fun ⟨_, h⟩ => by omega⟩
    · rw [if_neg (by simpa using h3)]
      constructor
      · intro h
        exact ⟨⟨inS_iff.1 h2.1.1.1.1, ⟨by omega, by omega⟩, h2.1.2, h2.2, h⟩, by omega⟩
      · intro h; exact h.1.rest
theorem edgesGo_zero {vars scopes n : Int} : ∀ (l : List Ed) (b : Int), edgesGo vars scopes n b l = 0 ↔ (∀ x ∈ l, EdOk vars scopes n x) ∧ AscE b l
  | [], b => by simp [edgesGo, AscE]
  | x :: r, b => by
    unfold edgesGo AscE
    by_cases h : edgeE vars scopes n x b = 0
    · rw [if_neg (by rw [h]; decide), edgesGo_zero r x.src]
      obtain ⟨h1, h2⟩ := edge_zero.1 h
      constructor
      · rintro ⟨k1, k2⟩
        exact ⟨fun y hy => by rcases List.mem_cons.1 hy with rfl | hy; exact h1; exact k1 y hy, h2, k2⟩
      · rintro ⟨k1, _, k2⟩
        exact ⟨fun y hy => k1 y (List.mem_cons_of_mem _ hy), k2⟩
    · rw [if_pos (by simpa using h)]
      refine ⟨fun e => absurd e h, fun ⟨k1, k2, _⟩ => absurd (edge_zero.2 ⟨k1 x (List.mem_cons_self ..), k2⟩) h⟩
theorem firstZ {α : Type} {f : α → Int} : ∀ l : List α, firstS f l = 0 ↔ ∀ x ∈ l, f x = 0
  | [] => by simp [firstS]
  | x :: r => by
    unfold firstS
    by_cases h : f x = 0
    · rw [if_neg (by rw [h]; decide), firstZ r]
      simp [h]
    · rw [if_pos (by simpa using h)]
      exact ⟨fun e => absurd e h, fun k => absurd (k x (List.mem_cons_self ..)) h⟩
/-- Well-formed. -/
structure Wf (a : Au) : Prop where
  vars : 0 ≤ a.vars ∧ a.vars ≤ 16
  scopes : 0 ≤ a.scopes ∧ a.scopes ≤ 64
  pos : 0 < a.states.length
  most : a.states.length ≤ 256
  many : a.edges.length ≤ 2048
  gs : ∀ s ∈ a.states, guardsS a.vars a.scopes s = 0
  ed : ∀ x ∈ a.edges, EdOk a.vars a.scopes a.states.length x
  asc : AscE 0 a.edges
theorem check_wf {a : Au} : checkA a = 0 ↔ Wf a := by
  unfold checkA
  by_cases h1 : (((decide (a.vars < 0) || decide (16 < a.vars)) || decide (a.scopes < 0)) || decide (64 < a.scopes)) = true
  · rw [if_pos h1]
    refine ⟨fun h => absurd h (by decide), fun h => ?_⟩
    simp only [Bool.or_eq_true, decide_eq_true_eq] at h1
    have := h.vars; have := h.scopes
    omega
  · rw [if_neg h1]
    simp only [Bool.or_eq_true, decide_eq_true_eq, not_or] at h1
    by_cases h2 : ((decide ((a.states.length : Int) < 1) || decide (256 < (a.states.length : Int))) || decide (2048 < (a.edges.length : Int))) = true
    · rw [if_pos h2]
      refine ⟨fun h => absurd h (by decide), fun h => ?_⟩
      simp only [Bool.or_eq_true, decide_eq_true_eq] at h2
      have := h.pos; have := h.most; have := h.many
      omega
    · rw [if_neg h2]
      simp only [Bool.or_eq_true, decide_eq_true_eq, not_or] at h2
      by_cases h3 : firstS (guardsS a.vars a.scopes) a.states = 0
      · rw [if_neg (by rw [h3]; decide), edgesGo_zero]
        constructor
        · intro h
          exact ⟨by omega, by omega, by omega, by omega, by omega, (firstZ _).1 h3, h.1, h.2⟩
        · intro h; exact ⟨h.ed, h.asc⟩
      · rw [if_pos (by simpa using h3)]
        refine ⟨fun e => absurd e h3, fun h => absurd ((firstZ _).2 h.gs) h3⟩
theorem Wf.edr {a : Au} (h : Wf a) : EdR a.states.length a.edges := fun x hx => by
  have k := h.ed x hx
  refine ⟨⟨k.src.1, by have := k.src; omega⟩, fun h0 => ⟨h0, by have := k.dst; omega⟩⟩
theorem AscE.mono {b c : Int} (h : b ≤ c) : ∀ {l : List Ed}, AscE c l → AscE b l
  | [], _ => trivial
  | x :: r, k => ⟨Int.le_trans h k.1, k.2⟩
theorem AscE.all : ∀ {l : List Ed} {b : Int}, AscE b l → ∀ x ∈ l, b ≤ x.src
  | [], _, _, x, h => (List.not_mem_nil h).elim
  | y :: r, b, k, x, h => by
    rcases List.mem_cons.1 h with rfl | h
    · exact k.1
    · exact Int.le_trans k.1 (k.2.all x h)
theorem AscE.filter {p : Ed → Bool} : ∀ {l : List Ed} {b : Int}, AscE b l → AscE b (l.filter p)
  | [], _, _ => trivial
  | x :: r, b, k => by
    rw [List.filter_cons]
    split
    · exact ⟨k.1, AscE.filter k.2⟩
    · exact AscE.mono k.1 (AscE.filter k.2)
theorem AscE.map {f : Ed → Ed} (hf : ∀ x y : Ed, x.src ≤ y.src → (f x).src ≤ (f y).src) {c : Int} : ∀ {l : List Ed} {b : Int}, AscE b l → (∀ x ∈ l, c ≤ (f x).src) → AscE c (l.map f)
  | [], _, _, _ => trivial
  | x :: r, b, k, h => ⟨h x (List.mem_cons_self ..), AscE.map (c := (f x).src) hf k.2 fun y hy => hf x y (k.2.all y hy)⟩
end Go.Proofs.YtoolcpnahmgnnaaDoor
