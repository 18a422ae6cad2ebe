/-
  The library's contracts of numerals, brought over the abstract layer. No condition.
-/
import Derived.Test.YtabkeeedkhgodaaGreatDoorC
import Derived.Test.YtabkeeedkhgodaaGreatDoorTab
import Derived.Test.YtabkeeedkhgodaaGreatDoorShelf
import Derived.Test.YtabkeeedkhgodaaGreatDoorAx
import Derived.Lib.ItoaLen
namespace Go.Proofs.YtabkeeedkhgodaaGreatDoor
open Go Go.Aw Go.Sort Go.Lib
set_option linter.unusedVariables false
set_option linter.unusedSimpArgs false

theorem below_grow (w : World) (k : Nat) (os : Array Obj) : Go.RowKit.Below w.heap.size w (grow (w.drewN k) os) :=
  ⟨rfl, rfl, rfl, by first | (simp [grow]; done) | (simp [grow]; omega), fun i hi => by
    show ((w.drewN k).heap ++ os)[i]? = _
    rw [Array.getElem?_append_left (by show i < w.heap.size; omega)]
    rfl⟩
theorem pow10_is {g : Gh} {w : World} (h : GlobOK g w) : Lib.TabIs Tryz.prog w "internal/strconv.uint64pow10" .u64 Lib.pow10Tab := by
  obtain ⟨_, T, fr, h2⟩ := h.tabs _ (List.mem_singleton.2 rfl)
  have e : Tryz.prog.globalNamed "internal/strconv.uint64pow10" = some 7 := by kernel_rfl
  unfold Lib.TabIs World.var?
  rw [e]
  show (match w.heap[7]? with | some (.cells cs _ _) => some cs | _ => none) = _
  rw [h2]
  rfl
theorem kItoa (n : Int) (h0 : -9223372036854775808 ≤ n) (h1 : n ≤ 9223372036854775807) : APure Tryz.prog 123 [.int .i64 n] (.str (Go.Lib.itoa n)) :=
  .of_calls fun g w vs hg ha => by
    obtain ⟨v, rfl, h2⟩ := ha.inv1
    have e1 := h2.inv_int
    subst e1
    have hl := Go.Lib.itoa_length_le n h0 h1
    refine ⟨.string ⟨(Go.Lib.itoa n).toArray⟩, fun _ _ _ => rep_string (by unfold maxLen; omega), (Tryz.strconv_Itoa n h0 h1 w (pow10_is hg)).mono ?_⟩
    rintro e w' ⟨rfl, k, os, rfl⟩
    exact ⟨rfl, below_grow w k os⟩
end Go.Proofs.YtabkeeedkhgodaaGreatDoor
