/-
  Walks of layer 23: isomorphism in the reference. No condition.
-/
import Derived.Test.YtoolcpnahmgnnaaDoorW14
import Derived.Test.YtoolcpnahmgnnaaDoorW8
import Derived.KernelRfl
namespace Go.Proofs.YtoolcpnahmgnnaaDoor
open Go Go.Aw
set_option linter.unusedVariables false
set_option linter.unusedSimpArgs false

end Go.Proofs.YtoolcpnahmgnnaaDoor
