/-
  Walks: all tokens of the reference; equality of lists of tokens. No condition.
-/
import Derived.Test.YtabkeeedkhgodaaGreatDoorW8
import Derived.KernelRfl
namespace Go.Proofs.YtabkeeedkhgodaaGreatDoor
open Go Go.Aw
set_option linter.unusedVariables false
set_option linter.unusedSimpArgs false

theorem get_ex {α : Type} {l : List α} {k : Nat} (h : k < l.length) : ∃ x, l[k]? = some x := ⟨_, List.getElem?_eq_getElem h⟩
def sameS (a b : List Tok) : Bool := decide (a = b)


end Go.Proofs.YtabkeeedkhgodaaGreatDoor
