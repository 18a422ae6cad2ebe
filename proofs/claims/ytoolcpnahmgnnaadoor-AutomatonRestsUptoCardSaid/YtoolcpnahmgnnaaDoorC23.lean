/-
  The library's contracts, brought over the abstract layer. No condition.
-/
import Derived.Test.YtoolcpnahmgnnaaDoorM
import Derived.Test.YtoolcpnahmgnnaaDoorTab
import Derived.Test.YtoolcpnahmgnnaaDoorShelf
import Derived.Test.YtoolcpnahmgnnaaDoorAx
import Derived.Lib.ItoaLen
namespace Go.Proofs.YtoolcpnahmgnnaaDoor
open Go Go.Aw Go.Sort Go.Lib
set_option linter.unusedVariables false
set_option linter.unusedSimpArgs false

theorem below_grow (w : World) (k : Nat) (os : Array Obj) : Go.RowKit.Below w.heap.size w (grow (w.drewN k) os) :=
  ⟨rfl, rfl, rfl, by first | (simp [grow]; done) | (simp [grow]; omega), fun i hi => by
    show ((w.drewN k).heap ++ os)[i]? = _
    rw [Array.getElem?_append_left (by show i < w.heap.size; omega)]
    rfl⟩
theorem pow10_is {g : Gh} {w : World} (h : GlobOK g w) : Lib.TabIs Tryd.prog w "internal/strconv.uint64pow10" .u64 Lib.pow10Tab := by
  obtain ⟨_, T, fr, h2⟩ := h.tabs _ (List.mem_singleton.2 rfl)
  have e : Tryd.prog.globalNamed "internal/strconv.uint64pow10" = some 0 := by kernel_rfl
  unfold Lib.TabIs World.var?
  rw [e]
  show (match w.heap[0]? with | some (.cells cs _ _) => some cs | _ => none) = _
  rw [h2]
  rfl
theorem kItoa (n : Int) (h0 : -9223372036854775808 ≤ n) (h1 : n ≤ 9223372036854775807) : APure Tryd.prog 62 [.int .i64 n] (.str (Go.Lib.itoa n)) :=
  .of_calls fun g w vs hg ha => by
    obtain ⟨v, rfl, h2⟩ := ha.inv1
    have e1 := h2.inv_int
    subst e1
    have hl := Go.Lib.itoa_length_le n h0 h1
    refine ⟨.string ⟨(Go.Lib.itoa n).toArray⟩, fun _ _ _ => rep_string (by unfold maxLen; omega), (Tryd.strconv_Itoa n h0 h1 w (pow10_is hg)).mono ?_⟩
    rintro e w' ⟨rfl, k, os, rfl⟩
    exact ⟨rfl, below_grow w k os⟩
theorem kMul (x y : Nat) (hx : x < 18446744073709551616) (hy : y < 18446744073709551616) : APure Tryd.prog 66 [.int .u64 (x : Int), .int .u64 (y : Int)] (.tuple [.int .u64 ((x * y / 18446744073709551616 : Nat) : Int), .int .u64 ((x * y % 18446744073709551616 : Nat) : Int)]) :=
  .of_same fun g w vs hg ha => by
    obtain ⟨u, v, rfl, h1, h2⟩ := ha.inv2
    have e1 := h1.inv_int
    have e2 := h2.inv_int
    subst e1 e2
    exact ⟨_, fun g' w' => .tuple _ _ rfl (fun i c hc => by
      match i, hc with
      | 0, hc => cases hc; exact .int _ _
      | 1, hc => cases hc; exact .int _ _
      | i + 2, hc => simp at hc), Tryd.bits_Mul x y hx hy w⟩
theorem kJoin (xs : List (List UInt8)) (p : List UInt8) (hn : xs.length ≤ 140737488355328) (hl : (Lib.join xs p).length ≤ 140737488355328) :
    APure Tryd.prog 64 [.sl 1 (xs.map fun s => [.str s]), .str p] (.str (Lib.join xs p)) :=
  .of_calls fun g w vs hg ha => by
    obtain ⟨u, v, rfl, h1, h2⟩ := ha.inv2
    have e2 := h2.inv_str.1
    subst e2
    refine ⟨.string ⟨(Lib.join xs p).toArray⟩, fun _ _ _ => rep_string (Nat.le_trans hl (by decide)), ?_⟩
    obtain ⟨a, n, cap, rfl, h3, h4, h5, h6⟩ := h1.inv_sl
    rcases h6 with h6 | ⟨b, o, rfl, _, f, h7, h8⟩
    · have hx : xs = [] := by simpa using h6
      subst hx
      have hn0 : n = 0 := by simpa using h3
      subst hn0
      refine (Tryd.strings_Join_none a cap ⟨p.toArray⟩ w).mono ?_
      rintro e w' ⟨rfl, rfl⟩
      exact ⟨rfl, RowKit.Below.refl _ _⟩
    · have hn' : n = xs.length := by simpa using h3
      subst hn'
      cases xs with
      | nil =>
        refine (Tryd.strings_Join_none _ cap ⟨p.toArray⟩ w).mono ?_
        rintro e w' ⟨rfl, rfl⟩
        exact ⟨rfl, RowKit.Below.refl _ _⟩
      | cons x r =>
        have hc : ∀ (j : Nat) (y : List UInt8), (x :: r)[j]? = some y → w.cell? ⟨b, o + j, none⟩ = some (.string ⟨y.toArray⟩) := fun j y hj => by
          have hj' : ((x :: r).map fun s => [AV.str s])[j]? = some [AV.str y] := by rw [List.getElem?_map, hj]; rfl
          have k1 := (h7 j _ hj' 0 _ rfl).2
          have k2 := (h8 j _ hj' 0 _ rfl).inv_str.1
          rw [← k2, ← k1]; simp
        have hm : ((x :: r).map fun s => (⟨s.toArray⟩ : ByteArray)).map (·.data.toList) = x :: r := by simp [Function.comp_def]
        have key := Tryd.strings_Join b o cap ((x :: r).map fun s => ⟨s.toArray⟩) ⟨p.toArray⟩ w (fun j y hj => by
            rw [List.getElem?_map] at hj
            cases hq : (x :: r)[j]? with
            | none => rw [hq] at hj; cases hj
            | some z => rw [hq] at hj; simp only [Option.map_some, Option.some.injEq] at hj; subst hj; exact hc j z hq)
          (World.block_lt_of_cell? _ _ (hc 0 x rfl)) (by rw [List.length_map]; exact hn) (by rw [List.length_map]; exact h4) (by rw [hm]; exact hl)
        rw [hm, List.length_map] at key
        exact key
end Go.Proofs.YtoolcpnahmgnnaaDoor
