/-
  The library's contracts, brought over the abstract layer. No condition.
-/
import Derived.Test.YtabkeeedkhgodaaGreatDoorM
import Derived.Test.YtabkeeedkhgodaaGreatDoorTab
import Derived.Test.YtabkeeedkhgodaaGreatDoorShelf
namespace Go.Proofs.YtabkeeedkhgodaaGreatDoor
open Go Go.Aw

theorem ba_size (s : Str) : (⟨s.toArray⟩ : ByteArray).size = s.length := by simp [ByteArray.size]

theorem k53 (s : Str) (c : UInt8) : APure Tryz.prog 132 [.str s, .int .u8 (c.toNat : Int)] (.int .i64 (Lib.indexByte s c)) :=
  .of_same fun g w vs _ ha => by
    obtain ⟨u, v, rfl, h1, h2⟩ := ha.inv2
    have e1 := h1.inv_str.1
    have e2 := h2.inv_int
    subst e1 e2
    refine ⟨.int .i64 (Lib.indexByte s c), fun _ _ => .int _ _, ?_⟩
    have := Tryz.strings_IndexByte ⟨s.toArray⟩ (c.toNat : Int) w
    simpa using this

theorem k29 (s p : Str) (hs : s.length < 4294967281) : APure Tryz.prog 28 [.str s, .str p] (.bool (Lib.contains s p)) :=
  .of_same fun g w vs hg ha => by
    obtain ⟨u, v, rfl, h1, h2⟩ := ha.inv2
    have e1 := h1.inv_str.1
    have e2 := h2.inv_str.1
    subst e1 e2
    refine ⟨.bool (Lib.contains s p), fun _ _ => .bool _, ?_⟩
    obtain ⟨m, hm⟩ := hg.int (gl := 2) (k := .i64) (by simp [globals])
    exact Tryz.strings_Contains ⟨s.toArray⟩ ⟨p.toArray⟩ m w (by rw [ba_size]; exact hs) hm

theorem k28 (s p : Str) : APure Tryz.prog 29 [.str s, .str p] (.bool (Lib.hasPrefix s p)) :=
  .of_same fun g w vs hg ha => by
    obtain ⟨u, v, rfl, h1, h2⟩ := ha.inv2
    have e1 := h1.inv_str.1
    have e2 := h2.inv_str.1
    subst e1 e2
    exact ⟨.bool (Lib.hasPrefix s p), fun _ _ => .bool _, Tryz.strings_HasPrefix ⟨s.toArray⟩ ⟨p.toArray⟩ w⟩

end Go.Proofs.YtabkeeedkhgodaaGreatDoor
