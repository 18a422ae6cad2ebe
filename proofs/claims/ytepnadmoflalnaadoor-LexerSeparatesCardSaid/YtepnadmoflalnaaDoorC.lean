/-
  The library's contracts, brought over the abstract layer. No condition.
-/
import Derived.Test.YtepnadmoflalnaaDoorM
import Derived.Test.YtepnadmoflalnaaDoorTab
import Derived.Test.YtepnadmoflalnaaDoorShelf
namespace Go.Proofs.YtepnadmoflalnaaDoor
open Go Go.Aw

theorem ba_size (s : Str) : (⟨s.toArray⟩ : ByteArray).size = s.length := by simp [ByteArray.size]

theorem k53 (s : Str) (c : UInt8) : APure Tryd.prog 53 [.str s, .int .u8 (c.toNat : Int)] (.int .i64 (Lib.indexByte s c)) :=
  .of_same fun g w vs _ ha => by
    obtain ⟨u, v, rfl, h1, h2⟩ := ha.inv2
    have e1 := h1.inv_str.1
    have e2 := h2.inv_int
    subst e1 e2
    refine ⟨.int .i64 (Lib.indexByte s c), fun _ _ => .int _ _, ?_⟩
    have := Tryd.strings_IndexByte ⟨s.toArray⟩ (c.toNat : Int) w
    simpa using this

theorem k29 (s p : Str) (hs : s.length < 4294967281) : APure Tryd.prog 29 [.str s, .str p] (.bool (Lib.contains s p)) :=
  .of_same fun g w vs hg ha => by
    obtain ⟨u, v, rfl, h1, h2⟩ := ha.inv2
    have e1 := h1.inv_str.1
    have e2 := h2.inv_str.1
    subst e1 e2
    refine ⟨.bool (Lib.contains s p), fun _ _ => .bool _, ?_⟩
    obtain ⟨m, hm⟩ := hg.int (gl := 1) (k := .i64) (by simp [globals])
    exact Tryd.strings_Contains ⟨s.toArray⟩ ⟨p.toArray⟩ m w (by rw [ba_size]; exact hs) hm

theorem k36 (s : Str) : APure Tryd.prog 36 [.str s, .str [10]] (.int .i64 (Lib.countByte s 10 : Int)) :=
  .of_same fun g w vs hg ha => by
    obtain ⟨u, v, rfl, h1, h2⟩ := ha.inv2
    have e1 := h1.inv_str.1
    have e2 := h2.inv_str.1
    subst e1 e2
    exact ⟨.int .i64 (Lib.countByte s 10 : Int), fun _ _ => .int _ _, Tryd.strings_Count_one ⟨s.toArray⟩ 10 w⟩

theorem k37 (s p : Str) (hs : s.length < 4611686018427387904) : APure Tryd.prog 37 [.str s, .str p] (.int .i64 (Lib.lastIndex s p)) :=
  .of_same fun g w vs hg ha => by
    obtain ⟨u, v, rfl, h1, h2⟩ := ha.inv2
    have e1 := h1.inv_str.1
    have e2 := h2.inv_str.1
    subst e1 e2
    exact ⟨.int .i64 (Lib.lastIndex s p), fun _ _ => .int _ _, Tryd.strings_LastIndex ⟨s.toArray⟩ ⟨p.toArray⟩ (by rw [ba_size]; exact hs) w⟩

theorem k28 (s p : Str) : APure Tryd.prog 28 [.str s, .str p] (.bool (Lib.hasPrefix s p)) :=
  .of_same fun g w vs hg ha => by
    obtain ⟨u, v, rfl, h1, h2⟩ := ha.inv2
    have e1 := h1.inv_str.1
    have e2 := h2.inv_str.1
    subst e1 e2
    exact ⟨.bool (Lib.hasPrefix s p), fun _ _ => .bool _, Tryd.strings_HasPrefix ⟨s.toArray⟩ ⟨p.toArray⟩ w⟩

theorem k27 (xs : List Str) (p : Str) (hn : xs.length ≤ 140737488355328) (hl : (Lib.join xs p).length ≤ 140737488355328) :
    APure Tryd.prog 27 [.sl 1 (xs.map fun s => [.str s]), .str p] (.str (Lib.join xs p)) :=
  .of_calls fun g w vs hg ha => by
    obtain ⟨u, v, rfl, h1, h2⟩ := ha.inv2
    have e2 := h2.inv_str.1
    subst e2
    refine ⟨.string ⟨(Lib.join xs p).toArray⟩, fun _ _ _ => rep_string (Nat.le_trans hl (by decide)), ?_⟩
    obtain ⟨a, n, cap, rfl, h3, h4, h5, h6⟩ := h1.inv_sl
    rcases h6 with h6 | ⟨b, o, rfl, _, f, h7, h8⟩
    · have hx : xs = [] := by simpa using h6
      subst hx
      have hn0 : n = 0 := by simpa using h3
      subst hn0
      refine (Tryd.strings_Join_none a cap ⟨p.toArray⟩ w).mono ?_
      rintro e w' ⟨rfl, rfl⟩
      exact ⟨rfl, RowKit.Below.refl _ _⟩
    · have hn' : n = xs.length := by simpa using h3
      subst hn'
      cases xs with
      | nil =>
        refine (Tryd.strings_Join_none _ cap ⟨p.toArray⟩ w).mono ?_
        rintro e w' ⟨rfl, rfl⟩
        exact ⟨rfl, RowKit.Below.refl _ _⟩
      | cons x r =>
        have hc : ∀ (j : Nat) (y : Str), (x :: r)[j]? = some y → w.cell? ⟨b, o + j, none⟩ = some (.string ⟨y.toArray⟩) := fun j y hj => by
          have hj' : ((x :: r).map fun s => [AV.str s])[j]? = some [AV.str y] := by rw [List.getElem?_map, hj]; rfl
          have k1 := (h7 j _ hj' 0 _ rfl).2
          have k2 := (h8 j _ hj' 0 _ rfl).inv_str.1
          rw [← k2, ← k1]; simp
        have hm : ((x :: r).map fun s => (⟨s.toArray⟩ : ByteArray)).map (·.data.toList) = x :: r := by simp [Function.comp_def]
        have key := Tryd.strings_Join b o cap ((x :: r).map fun s => ⟨s.toArray⟩) ⟨p.toArray⟩ w (fun j y hj => by
            rw [List.getElem?_map] at hj
            cases hq : (x :: r)[j]? with
            | none => rw [hq] at hj; cases hj
            | some z => rw [hq] at hj; simp only [Option.map_some, Option.some.injEq] at hj; subst hj; exact hc j z hq)
          (World.block_lt_of_cell? _ _ (hc 0 x rfl)) (by rw [List.length_map]; exact hn) (by rw [List.length_map]; exact h4) (by rw [hm]; exact hl)
        rw [hm, List.length_map] at key
        exact key
end Go.Proofs.YtepnadmoflalnaaDoor
