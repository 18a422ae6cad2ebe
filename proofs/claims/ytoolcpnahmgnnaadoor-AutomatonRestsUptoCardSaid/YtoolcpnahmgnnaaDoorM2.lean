/-
  Plain laws of layer 7: the reference's way to fold values is the program's. No condition.
-/
import Derived.Test.YtoolcpnahmgnnaaDoorM
import Derived.IntWalk
namespace Go.Proofs.YtoolcpnahmgnnaaDoor
open Go Go.Aw
set_option linter.unusedVariables false
set_option linter.unusedSimpArgs false

def rwrongS (k : Int) (v : Vl) : Int := if vcheckS v != 0 then vcheckS v else if !rsuitsS k v then 9 else 0
def rresultS (a : Ac) (o : Vl) : Vl × Int :=
  if acheckS a != 0 then (v0, acheckS a)
  else if rwrongS a.kind o != 0 then (v0, rwrongS a.kind o)
  else if a.kind == 0 then (⟨0, a.count, []⟩, 0)
  else if a.count == 0 && a.kind != 1 then (o, 0)
  else (a.val, 0)
def addS (a : Ac) (v : Vl) : Ac × Int :=
  if acheckS a != 0 then (ac0, acheckS a)
  else if rwrongS a.kind v != 0 then (ac0, rwrongS a.kind v)
  else if a.count == 4096 then (ac0, 5)
  else if a.kind == 0 then (⟨a.kind, IntKind.i64.wrap (a.count + 1), v0⟩, 0)
  else if decide (0 < a.count) then (⟨a.kind, IntKind.i64.wrap (a.count + 1), combS a.kind a.val v⟩, 0)
  else (⟨a.kind, IntKind.i64.wrap (a.count + 1), v⟩, 0)

end Go.Proofs.YtoolcpnahmgnnaaDoor
