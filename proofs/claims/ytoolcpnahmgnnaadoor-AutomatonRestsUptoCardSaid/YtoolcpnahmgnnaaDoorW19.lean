/-
  Walks of layer 23: the text of an automaton in the reference. No condition.
-/
import Derived.Test.YtoolcpnahmgnnaaDoorW18
import Derived.KernelRfl
namespace Go.Proofs.YtoolcpnahmgnnaaDoor
open Go Go.Aw
set_option linter.unusedVariables false
set_option linter.unusedSimpArgs false

end Go.Proofs.YtoolcpnahmgnnaaDoor
