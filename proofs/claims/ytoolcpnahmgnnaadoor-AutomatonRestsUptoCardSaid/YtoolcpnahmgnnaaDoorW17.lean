/-
  Walks of layer 23: numbers as texts. No condition.
-/
import Derived.Test.YtoolcpnahmgnnaaDoorW16
import Derived.Test.YtoolcpnahmgnnaaDoorP8
import Derived.KernelRfl
namespace Go.Proofs.YtoolcpnahmgnnaaDoor
open Go Go.Aw
set_option linter.unusedVariables false
set_option linter.unusedSimpArgs false

def digs : Str := [48, 49, 50, 51, 52, 53, 54, 55, 56, 57]
end Go.Proofs.YtoolcpnahmgnnaaDoor
