/-
  Walks of layer 23: isomorphism in the reference. No condition.
-/
import Derived.Test.YtoolcpnahmgnnaaGreatDoorW14
import Derived.Test.YtoolcpnahmgnnaaGreatDoorW8
import Derived.KernelRfl
namespace Go.Proofs.YtoolcpnahmgnnaaGreatDoor
open Go Go.Aw
set_option linter.unusedVariables false
set_option linter.unusedSimpArgs false

end Go.Proofs.YtoolcpnahmgnnaaGreatDoor
