/-
  Walks: the next token of the reference. No condition.
-/
import Derived.Test.YtabkeeedkhgodaaGreatDoorW7
import Derived.KernelRfl
namespace Go.Proofs.YtabkeeedkhgodaaGreatDoor
open Go Go.Aw
set_option linter.unusedVariables false
set_option linter.unusedSimpArgs false

theorem span_pos {p : UInt8 → Bool} {s : Str} {k : Nat} (hk : k < s.length) (h : p (bt s k) = true) : 0 < spanS p (s.drop k) := by rw [drop_bt hk, spanS, if_pos h]; omega
def cTokR (r : Tok × Int × Int) : AV := .tuple [.agg (cTok r.1), .int .i64 r.2.1, .int .i64 r.2.2]


end Go.Proofs.YtabkeeedkhgodaaGreatDoor
