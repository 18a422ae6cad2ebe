/-
  The types of this seat's translation, as the abstract layer wants them. No condition.
-/
import Derived.Test.YtepnadmoflalnaaDoorChecked
import Derived.Test.YtepnadmoflalnaaDoorAw
import Derived.KernelRfl
namespace Go.Proofs.YtepnadmoflalnaaDoor
open Go Go.Aw

def TL : List (Nat × TD) :=
  [(2, ⟨1, 8, false, [.int .i64 0], .int .i64⟩),
   (3, ⟨1, 8, false, [.int .i64 0], .int .i64⟩),
   (4, ⟨1, 1, false, [.bool false], .bool⟩),
   (5, ⟨1, 1, false, [.int .u8 0], .int .u8⟩),
   (9, ⟨1, 16, false, [.str []], .str⟩),
   (24, ⟨1, 24, false, [.sl 3 []], .slice 47⟩),
   (25, ⟨1, 8, false, [.int .i64 0], .int .i64⟩),
   (47, ⟨3, 32, true, [.int .i64 0, .str [], .int .i64 0], .struct [(0, 1, true, 3), (1, 1, true, 9), (2, 1, true, 3)]⟩),
   (48, ⟨1, 24, false, [.sl 1 []], .slice 9⟩),
   (56, ⟨6, 56, true, [.int .i64 0, .str [], .int .i64 0, .int .i64 0, .int .i64 0, .int .i64 0], .struct [(0, 3, true, 47), (3, 1, true, 3), (4, 1, true, 3), (5, 1, true, 25)]⟩),
   (57, ⟨1, 8, false, [.val .nilFunc], .other⟩),
   (58, ⟨1, 8, false, [.val .nilFunc], .other⟩),
   (63, ⟨1, 24, false, [.sl 1 []], .slice 5⟩),
   (76, ⟨1, 24, false, [.sl 1 []], .slice 57⟩),
   (83, ⟨17, 272, true, [.str [], .str [], .str [], .str [], .str [], .str [], .str [], .str [], .str [], .str [], .str [], .str [], .str [], .str [], .str [], .str [], .str []], .array 17 9⟩)]

theorem tok : TOK Tryd.prog TL := TOK.of_tab (by kernel_rfl)
theorem mixed : Tryd.prog.follows .mixedOrders = true := Tryd.checked.mixed

end Go.Proofs.YtepnadmoflalnaaDoor
