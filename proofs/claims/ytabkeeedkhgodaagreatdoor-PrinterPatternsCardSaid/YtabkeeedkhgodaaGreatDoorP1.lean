/-
  The plain law: the lexer and its reference find the same tokens. No program in sight. No condition.
-/
import Derived.Test.YtabkeeedkhgodaaGreatDoorW9
import Derived.KernelRfl
namespace Go.Proofs.YtabkeeedkhgodaaGreatDoor
open Go Go.Aw
set_option linter.unusedVariables false
set_option linter.unusedSimpArgs false

theorem u8_all {p : UInt8 → Bool} (h : (List.range 256).all (fun n => p (UInt8.ofNat n)) = true) (c : UInt8) : p c = true := by
  rw [List.all_eq_true] at h
  have := h c.toNat (List.mem_range.2 c.toNat_lt)
  rwa [UInt8.ofNat_toNat] at this
/-- What the two literals say. -/
def LRel (i : Nat) (f : Fo) (r : Str × Int × Int) : Prop :=
  if f.err = 0 then f.tok.kind = 2 ∧ 0 < f.bytes ∧ r = (f.tok.text, (i : Int) + f.bytes, 0) else r.2 = ((i : Int) + f.pos, f.err)
theorem litGoR_succ {s : Str} {k n i : Nat} {b : Str} : litGoR s k (n + 1) i b =
    if decide ((s.length : Int) ≤ (i : Int)) then (([], (s.length : Int), 4) : Str × Int × Int)
    else if (((bt s i).toNat : Int) == 34) then if decide (64 < (b.length : Int)) then ([], (k : Int), 13) else (b, (i : Int) + 1, 0)
    else if plainR (bt s i) then litGoR s k n (i + 1) (b ++ [bt s i])
    else if (((bt s i).toNat : Int) != 92) || ((escR s i).2 == 0) then ([], (i : Int), 4)
    else litGoR s k n (escR s i).2.toNat (b ++ [(escR s i).1]) := rfl
theorem litGo_succ {s : Str} {n i : Nat} {b : Str} : litGo s (n + 1) i b =
    if decide ((i : Int) < (s.length : Int)) then
      if (((bt s i).toNat : Int) == 34) then
        if decide (64 < (b.length : Int)) then foE 0 13 else foT 2 b ((i : Int) + 1)
      else if (((bt s i).toNat : Int) == 92) then
        if ((escS (s.drop i)).2 == 0) then foE i 4 else litGo s n (i + (escS (s.drop i)).2.toNat) (b ++ [(escS (s.drop i)).1])
      else if (decide (((bt s i).toNat : Int) < 32) || decide (126 < ((bt s i).toNat : Int))) then foE i 4
      else litGo s n (i + 1) (b ++ [bt s i])
    else foE s.length 4 := rfl
end Go.Proofs.YtabkeeedkhgodaaGreatDoor
