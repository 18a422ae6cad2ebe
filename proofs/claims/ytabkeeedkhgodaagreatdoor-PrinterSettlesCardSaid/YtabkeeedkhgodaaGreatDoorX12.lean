/-
  Calls with one or two variables brought to the front. No condition.
-/
import Derived.Test.YtabkeeedkhgodaaGreatDoorF12
set_option linter.unusedVariables false
set_option linter.unusedSimpArgs false
namespace Go.Proofs.YtabkeeedkhgodaaGreatDoor
open Go Go.Aw


theorem GS.refl (s : St) : GS s s := fun g a w h => ⟨g, h, Ext.refl g w⟩
/-- A step in thought at the end. -/
theorem AW.ghostPost {P : Program} {c : Code} {Q : Exit → St → Prop} {s : St} (h : AW P c (fun e s => ∃ s', GS s s' ∧ Q e s') s) : AW P c Q s := by
  intro Q' g a w hG hQ
  refine h Q' g a w hG fun e g' s' a' w' h1 h2 ⟨s2, h3, h4⟩ => ?_
  obtain ⟨g2, k1, k2⟩ := h3 g' a' w' h1
  exact hQ e g2 s2 a' w' k1 (h2.trans k2) h4

section
variable {P : Program} {T : List (Nat × TD)} {d : Option Nat} {ty : TypeId} {pos : String} {aft : Array Edge} {gd : Option (Nat × Bool)} {ρ : Operand → AV} {K : List HO → Prop}
/-- A slice of one constant struct. -/
theorem P_buildSliceC {t e z : Nat} {td te : TD} {vs : Array Value} {es : List (List AV)} (hT : TOK P T) (ht : tget T t = some td) (hk : td.kind = .slice e) (hte : tget T e = some te) (hz : te.size = z)
    (hb : Nat.ble (1 * z) 16777216 = true) (hl : Nat.beq vs.toList.length z = true) (hs : scalars (vs.toList.map AV.val) = true) (hp : Nat.blt 0 z = true) (hes : [vs.toList.map AV.val] = es) : OpP P ⟨d, .buildSlice t 1 #[(0, .const (.agg vs))], ty, pos, aft, gd⟩ ρ K (.sl z es) := by
  have h := P_buildSlice (d := d) (ty := ty) (pos := pos) (aft := aft) (gd := gd) (K := K) (ρ := fun _ => .agg (vs.toList.map AV.val)) (parts := #[(0, .const (.agg vs))]) (n := 1) (es := es) hT ht hk hte hz rfl hb
    (by simp only [litOK, cellsA, List.length_map, Nat.beq_refl, Bool.true_and, Bool.and_true, hs, hl]) hp (by subst hes; rfl)
  intro g w a H next Q hr hH hK hn
  refine h g w a H next Q (fun y hy => ?_) hH hK hn
  simp only [Op.operands, List.map_toArray, List.map_cons, List.map_nil, List.mem_toArray, List.mem_singleton] at hy
  subst hy
  refine .agg vs _ (by simp) (fun i x hi => ?_)
  rw [List.getElem?_map] at hi
  cases hv : vs.toList[i]? with
  | none => rw [hv] at hi; cases hi
  | some u =>
    rw [hv] at hi
    cases hi
    have : vs.getD i undef = u := by
      rw [Array.getD_eq_getD_getElem?]
      have : vs[i]? = some u := by simpa using hv
      rw [this]; rfl
    rw [this]; exact .val _
end
end Go.Proofs.YtabkeeedkhgodaaGreatDoor
