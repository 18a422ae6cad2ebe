/-
  Small laws for the walk of eval. No condition.
-/
import Derived.Test.YtoolcpnahmgnnaaGreatDoorM3
namespace Go.Proofs.YtoolcpnahmgnnaaGreatDoor
open Go Go.Aw
set_option linter.unusedVariables false
set_option linter.unusedSimpArgs false

end Go.Proofs.YtoolcpnahmgnnaaGreatDoor
