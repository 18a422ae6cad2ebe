/-
  The plain law, its second part: signs, the next token, all tokens. No program in sight. No condition.
-/
import Derived.Test.YtabkeeedkhgodaaGreatDoorP1
namespace Go.Proofs.YtabkeeedkhgodaaGreatDoor
open Go Go.Aw
set_option linter.unusedVariables false
set_option linter.unusedSimpArgs false

/-! Signs. -/
def okSign : Str → Bool
  | [_] => true
  | [_, b] => b == 61
  | _ => false
def signHit (c : UInt8) (two : Bool) : Str → Bool
  | [a] => a == c
  | [a, _] => a == c && two
  | _ => false
def signV (c : UInt8) (two : Bool) : Option Str := signL.find? (signHit c two)
def signN (c : UInt8) (two : Bool) : Int := if sign2 c && two then 2 else if sign1 c then 1 else 0
/-! Numbers. -/
/-! The next token. -/
def TRel (i : Nat) (f : Fo) (r : Tok × Int × Int) : Prop :=
  (f.err = 0 ∧ 0 < f.bytes ∧ r = (⟨f.tok.kind, f.tok.text, i⟩, (i : Int) + f.bytes, 0)) ∨ (f.err ≠ 0 ∧ r.2 = ((i : Int) + f.pos, f.err))
end Go.Proofs.YtabkeeedkhgodaaGreatDoor
