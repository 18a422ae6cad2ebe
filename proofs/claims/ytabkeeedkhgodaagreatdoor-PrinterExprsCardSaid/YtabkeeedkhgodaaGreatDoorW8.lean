/-
  Walks: the next token of the reference. No condition.
-/
import Derived.Test.YtabkeeedkhgodaaGreatDoorW7
import Derived.KernelRfl
namespace Go.Proofs.YtabkeeedkhgodaaGreatDoor
open Go Go.Aw
set_option linter.unusedVariables false
set_option linter.unusedSimpArgs false

def cTokR (r : Tok × Int × Int) : AV := .tuple [.agg (cTok r.1), .int .i64 r.2.1, .int .i64 r.2.2]


end Go.Proofs.YtabkeeedkhgodaaGreatDoor
