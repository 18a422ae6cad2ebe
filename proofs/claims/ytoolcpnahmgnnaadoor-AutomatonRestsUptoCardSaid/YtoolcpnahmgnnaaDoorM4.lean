/-
  Small laws for the walk of eval. No condition.
-/
import Derived.Test.YtoolcpnahmgnnaaDoorM3
namespace Go.Proofs.YtoolcpnahmgnnaaDoor
open Go Go.Aw
set_option linter.unusedVariables false
set_option linter.unusedSimpArgs false

end Go.Proofs.YtoolcpnahmgnnaaDoor
