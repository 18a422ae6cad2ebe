/-
  How this seat's arguments read: numbers, strings, trees. No condition.
-/
import Derived.Test.YtabkeeedkhgodaaGreatDoorRows
import Derived.Test.YtabkeeedkhgodaaGreatDoorM13
import Derived.Test.YtabkeeedkhgodaaGreatDoorAx
import Derived.Test.YtabkeeedkhgodaaGreatDoorTab
import Derived.JoinedCond
import Derived.ProofKit
namespace Go.Proofs.YtabkeeedkhgodaaGreatDoor
open Go Go.Aw
set_option linter.unusedVariables false
set_option linter.unusedSimpArgs false
set_option maxRecDepth 20000

def I64 (n : Int) : Prop := -9223372036854775808 ≤ n ∧ n ≤ 9223372036854775807
/-- The size of a tree in words. -/
def bkS : Syn → Nat := fun _ => 1
section
variable {H : Type} {enc : TypeId × Value → H} {w : World} {sp : Nat → Bool} {hd : Bool}
abbrev R (enc : TypeId × Value → H) (w : World) (sp : Nat → Bool) (hd : Bool) {α : Type} (fuel : Nat) (t : TypeId) (f : α → List AV) (ok : α → Prop) (bk : α → Nat) : Prop := Rd enc Tryz.prog w sp hd Rows.uptoBulk fuel t f ok bk
end
end Go.Proofs.YtabkeeedkhgodaaGreatDoor
