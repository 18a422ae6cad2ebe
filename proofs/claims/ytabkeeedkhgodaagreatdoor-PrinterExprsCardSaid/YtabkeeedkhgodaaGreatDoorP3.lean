/-
  The plain law, its third part: all tokens. No program in sight. No condition.
-/
import Derived.Test.YtabkeeedkhgodaaGreatDoorP2
namespace Go.Proofs.YtabkeeedkhgodaaGreatDoor
open Go Go.Aw
set_option linter.unusedVariables false
set_option linter.unusedSimpArgs false

theorem scanGo_succ {s : Str} {n i : Nat} {out : List Tok} : scanGo s (n + 1) i out =
    if decide ((i : Int) < (s.length : Int)) then
      if decide (0 < sepS (s.drop i)) then scanGo s n (i + (sepS (s.drop i)).toNat) out
      else if ((nextF (s.drop i)).err != 0) then (([], (i : Int) + (nextF (s.drop i)).pos, (nextF (s.drop i)).err) : List Tok × Int × Int)
      else scanGo s n (i + (nextF (s.drop i)).bytes.toNat) (out ++ [⟨(nextF (s.drop i)).tok.kind, (nextF (s.drop i)).tok.text, i⟩])
    else (out, 0, 0) := rfl
theorem scanGoR_succ {s : Str} {n i : Nat} {c : Bool} {out : List Tok} : scanGoR s (n + 1) i c out =
    if decide ((i : Int) < (s.length : Int)) then
      if ((c || spaceR (bt s i)) || (((bt s i).toNat : Int) == 35)) then scanGoR s n (i + 1) ((c || (((bt s i).toNat : Int) == 35)) && (((bt s i).toNat : Int) != 10)) out
      else if ((tokenR s i).2.2 != 0) then (([], (tokenR s i).2.1, (tokenR s i).2.2) : List Tok × Int × Int)
      else scanGoR s n (tokenR s i).2.1.toNat false (out ++ [(tokenR s i).1])
    else (out, 0, 0) := rfl
end Go.Proofs.YtabkeeedkhgodaaGreatDoor
