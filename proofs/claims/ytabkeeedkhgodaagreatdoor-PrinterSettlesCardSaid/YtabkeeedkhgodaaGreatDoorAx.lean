/-
  The abstract layer: abstract values, what represents them, states, operations, code, calls. No condition.
-/
import Derived.Test.YtabkeeedkhgodaaGreatDoorAw
set_option linter.unusedVariables false
set_option linter.unusedSimpArgs false
namespace Go.Aw

section
variable {P : Program} {T : List (Nat × TD)} {d : Option Nat} {ty : TypeId} {pos : String} {aft : Array Edge} {gd : Option (Nat × Bool)} {ρ : Operand → AV} {K : List HO → Prop}

/-- To unsafe.Pointer and back, by the table of types. -/
theorem P_toUnsafeT {x : Operand} {s t' e k b o TT : Nat} {te : TD} {cs : List AV} (hT : TOK P T) (hs : P.underlying s = some (.pointer e)) (hd : P.underlying t' = some .unsafePointer) (hte : tget T e = some te) (hz : Nat.beq te.size 0 = false)
    (hx : ρ x = .val (.pointer (some ⟨b, o, none⟩))) (ho : Nat.blt o cs.length = true) :
    OpP P ⟨d, .convert s t' x, ty, pos, aft, gd⟩ ρ (fun H => H[k]? = some (.box b TT cs)) (.val (.pointer (some ⟨b, o, none⟩))) := by
  obtain ⟨it, hit, his, _⟩ := (hT e te hte).info
  exact P_toUnsafe hs hd hit (by rw [his]; exact hz) hx ho
theorem P_fromUnsafeT {x : Operand} {s t' e k b o TT n : Nat} {te : TD} {cs : List AV} (hT : TOK P T) (hs : P.underlying s = some .unsafePointer) (hd : P.underlying t' = some (.pointer e)) (hte : tget T e = some te) (hn' : cs.length = n)
    (hl : liesAt P P.depth TT (n / P.cellsOf TT) o e 1 = true) (hx : ρ x = .val (.pointer (some ⟨b, o, none⟩))) :
    OpP P ⟨d, .convert s t' x, ty, pos, aft, gd⟩ ρ (fun H => H[k]? = some (.box b TT cs)) (.val (.pointer (some ⟨b, o, none⟩))) := by
  obtain ⟨it, hit, _⟩ := (hT e te hte).info
  exact P_fromUnsafe hs hd hit hn' hl hx

end

end Go.Aw
