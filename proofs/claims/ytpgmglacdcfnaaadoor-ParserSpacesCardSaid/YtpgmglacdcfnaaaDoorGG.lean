/-
  What the rows' lists give: the lexer's signs, the parser's tables and the search's length lie where the walks look for them. Condition: the row's own.
-/
import Derived.Test.YtpgmglacdcfnaaaDoorM
import Derived.Test.YtpgmglacdcfnaaaDoorCards
import Derived.Test.YtpgmglacdcfnaaaDoorTie
import Derived.Test.YtpgmglacdcfnaaaDoorC
import Derived.Deep.DeepHandedRow
import Derived.Lib.LaidTab
namespace Go.Proofs.YtpgmglacdcfnaaaDoor
open Go Go.Aw Go.ChangeShapes Go.WideShapes Go.ChangeAt Go.RowKit
set_option maxRecDepth 100000

theorem laid : laidOutB Tryd.prog = true := by kernel_rfl
theorem own : ownKnob Tryd.prog.godebug = none := by kernel_rfl
/-- The value that a cell holds. -/
def valOf : AV → Value
  | .str s => .string ⟨s.toArray⟩
  | .int k n => .int k n
  | _ => .int .i64 0
/-- A cell's datum. -/
def datOf {H : Type} : AV → DataW H
  | .str s => .lit (.string s)
  | .int k n => .lit (.int k n)
  | _ => .lit (.int .i64 0)
/-- Two a piece. -/
def opsOf (l : List (Str × Int)) : List AV := l.flatMap fun x => [.str x.1, .int .i64 x.2]
/-- The pairs of a table. -/
def opL : List AV → List (Str × Int)
  | .str s :: .int _ n :: r => (s, n) :: opL r
  | _ => []
/-- A variable's cells lie as the list says. -/
def GlobAt (W : World) (gl : Nat) (l : List AV) : Prop := Rep g0 W (.pointer (some ⟨gl, 0, none⟩)) (.ptr l)
def plainAV : AV → Bool
  | .str s => decide (s.length ≤ maxLen)
  | .int _ _ => true
  | _ => false
theorem rep_valOf {g : Gh} {w : World} {x : AV} (h : plainAV x = true) : Rep g w (valOf x) x := by
  cases x <;> simp only [plainAV, Bool.false_eq_true, decide_eq_true_eq] at h
  · exact .int _ _
  · exact rep_string h
theorem globAt {W : World} {n : String} {gl : Nat} {cs : Array Value} {l : List AV} (hn : Tryd.prog.globalNamed n = some gl) (hv : W.var? Tryd.prog n = some cs) (hc : cs.toList = l.map valOf) (hp : l.all plainAV = true) : GlobAt W gl l := by
  have hcell : ∀ j, W.cell? ⟨gl, j, none⟩ = cs[j]? := fun j => World.var?_cell hn hv j
  refine .ptr gl 0 _ (fun j => (l[j]?.map valOf).getD default) (fun j x hj => ?_) (fun j x hj => ?_)
  · refine ⟨trivial, ?_⟩
    rw [Nat.zero_add, hcell j, ← Array.getElem?_toList, hc, List.getElem?_map, hj]
    simp
  · simp only [hj, Option.map_some, Option.getD_some]
    exact rep_valOf (List.all_eq_true.1 hp _ (List.mem_of_getElem? hj))
theorem cells_of_strs {H : Type} {enc : TypeId × Value → H} {P : Program} {w : World} {base : Nat} {sp : Nat → Bool} {held : Bool} {fuel : Nat} {t e : TypeId} {n : Nat} {cs : List Value} {ss : List Str} {p : List MemPlace}
    (ht : P.underlying t = some (.array n e)) (he : P.underlying e = some .string) (hce : P.cellsOf e = 1) (hct : P.cellsOf t = n)
    (h : DataW.trod enc P w base sp held fuel t cs = some (.agg (ss.map fun s => .lit (.string s)), p)) : cs = ss.map fun s => Value.string ⟨s.toArray⟩ := by
  cases fuel with
  | zero => simp [DataW.trod] at h
  | succ fuel =>
    simp only [DataW.trod, ht, hce, hct, Nat.mul_one] at h
    split at h
    · rename_i hl
      obtain ⟨xs, hm, hx⟩ := Option.map_eq_some_iff.1 h
      have hxs : xs.map (·.1) = ss.map fun s => (DataW.lit (.string s) : DataW H) := by
        have := congrArg Prod.fst hx
        simpa using this
      have hxl : xs.length = n := by simpa using Lib.mapM_length hm
      have hzl : ss.length = n := by
        have := congrArg List.length hxs
        simp at this
        omega
      apply List.ext_getElem?
      intro i
      by_cases hi : i < n
      · obtain ⟨b, hb, hf⟩ := Lib.mapM_at hm i i (by simp [hi])
        obtain ⟨z, hc, rfl, _⟩ := DataW.trod_string he hf
        have h1 : cs[i]? = some (.string z) := by
          have := congrArg (·[0]?) hc
          simpa [List.getElem?_take, List.getElem?_drop] using this
        have h2 : (xs.map (·.1))[i]? = some (DataW.lit (.string z.data.toList) : DataW H) := by simp [hb]
        rw [hxs] at h2
        simp only [List.getElem?_map, Option.map_eq_some_iff, DataW.lit.injEq, Lit.string.injEq] at h2
        obtain ⟨z', hz', rfl⟩ := h2
        simp [h1, hz']
      · rw [List.getElem?_eq_none (by omega), List.getElem?_eq_none (by simp; omega)]
    · cases h
theorem chunk2 {α β : Type} (f g : α → β) : ∀ (ss : List α) (cs : List β), cs.length = 2 * ss.length → (∀ i x, ss[i]? = some x → (cs.drop (i * 2)).take 2 = [f x, g x]) → cs = ss.flatMap fun x => [f x, g x]
  | [], cs, hl, _ => by simpa using hl
  | x :: ss, cs, hl, h => by
    have h0 := h 0 x rfl
    match cs, hl with
    | a :: b :: r, hl =>
      simp at h0
      obtain ⟨rfl, rfl⟩ := h0
      have := chunk2 f g ss r (by simp at hl; omega) (fun i y hy => by
        have := h (i + 1) y (by simpa using hy)
        rwa [show (i + 1) * 2 = i * 2 + 1 + 1 by omega, List.drop_succ_cons, List.drop_succ_cons] at this)
      simp [← this]
    | [], hl => simp at hl
    | [_], hl => simp at hl; omega
theorem cells_of_ops {H : Type} {enc : TypeId × Value → H} {P : Program} {w : World} {base : Nat} {sp : Nat → Bool} {held : Bool} {fuel : Nat} {t e : TypeId} {n : Nat} {cs : List Value} {ss : List (Str × Int)} {p : List MemPlace} {f0 f1 : Field}
    (ht : P.underlying t = some (.array n e)) (he : P.underlying e = some (.struct #[f0, f1])) (o0 : f0.offset = 0) (o1 : f1.offset = 1) (t0 : P.underlying f0.type = some .string) (t1 : P.underlying f1.type = some (.int .i64)) (c0 : P.cellsOf f0.type = 1) (c1 : P.cellsOf f1.type = 1) (hce : P.cellsOf e = 2) (hct : P.cellsOf t = n * 2)
    (h : DataW.trod enc P w base sp held fuel t cs = some (.agg (ss.map fun s => .agg [.lit (.string s.1), .lit (.int .i64 s.2)]), p)) : cs = ss.flatMap fun s => [Value.string ⟨s.1.toArray⟩, .int .i64 s.2] := by
  cases fuel with
  | zero => simp [DataW.trod] at h
  | succ fuel =>
    simp only [DataW.trod, ht, hce, hct] at h
    split at h
    · rename_i hl
      obtain ⟨xs, hm, hx⟩ := Option.map_eq_some_iff.1 h
      have hxs : xs.map (·.1) = ss.map fun s => (DataW.agg [.lit (.string s.1), .lit (.int .i64 s.2)] : DataW H) := by
        have := congrArg Prod.fst hx
        simpa using this
      have hxl : xs.length = n := by simpa using Lib.mapM_length hm
      have hzl : ss.length = n := by
        have := congrArg List.length hxs
        simp at this
        omega
      apply chunk2
      · omega
      intro i x hi
      have hin : i < n := by have := (List.getElem?_eq_some_iff.1 hi).1; omega
      obtain ⟨b, hb, hf⟩ := Lib.mapM_at hm i i (by simp [hin])
      obtain ⟨y0, y1, m, rfl, hlen, h0, h1⟩ := trod_struct2 he hf
      obtain ⟨z, hz, rfl, _⟩ := DataW.trod_string t0 h0
      obtain ⟨k, hk, rfl, _⟩ := DataW.trod_int t1 h1
      have h2 : (xs.map (·.1))[i]? = some (DataW.agg [.lit (.string z.data.toList), .lit (.int .i64 k)] : DataW H) := by simp [hb]
      rw [hxs] at h2
      simp [hi] at h2
      obtain ⟨e1, e2⟩ := h2
      rw [o0, c0] at hz
      rw [o1, c1] at hk
      have hl2 : ((cs.drop (i * 2)).take 2).length = 2 := by rw [hlen, hce]
      match hq : (cs.drop (i * 2)).take 2, hl2 with
      | [a, b], _ =>
        rw [hq] at hz hk
        simp at hz hk
        subst hz hk
        simp [e1, e2]
    · cases h

theorem signs_of {W : World} {r : List (String × DataW Unit)} {ps : List MemPlace} (h : DataW.LaidVars Tryd.prog W (("tidegate/lexer.signs", Rows.laid_tidegate_lexer_signs) :: r) ps) : GlobAt W 4 signCells ∧ ∃ q, DataW.LaidVars Tryd.prog W r q := by
  obtain ⟨g', t', cs, fuel, p, q, hg', ht', hvar, hd, hr, _⟩ := h
  obtain rfl := Option.some.inj ((show Tryd.prog.globalNamed "tidegate/lexer.signs" = some 4 by kernel_rfl).symm.trans hg')
  obtain rfl := Option.some.inj ((show (Tryd.prog.globals[4]?).map (·.type) = some 106 by kernel_rfl).symm.trans ht')
  have := cells_of_strs (ss := signCells.filterMap fun | .str s => some s | _ => none) (n := 17) (e := 9) (by kernel_rfl) (by kernel_rfl) (by kernel_rfl) (by kernel_rfl) hd
  exact ⟨globAt (n := "tidegate/lexer.signs") (by kernel_rfl) hvar (by rw [this]; rfl) (by decide), q, hr⟩
theorem kinds_of {W : World} {r : List (String × DataW Unit)} {ps : List MemPlace} (h : DataW.LaidVars Tryd.prog W (("tidegate/parser.kinds", Rows.laid_tidegate_parser_kinds) :: r) ps) : GlobAt W 3 kindsCells ∧ ∃ q, DataW.LaidVars Tryd.prog W r q := by
  obtain ⟨g', t', cs, fuel, p, q, hg', ht', hvar, hd, hr, _⟩ := h
  obtain rfl := Option.some.inj ((show Tryd.prog.globalNamed "tidegate/parser.kinds" = some 3 by kernel_rfl).symm.trans hg')
  obtain rfl := Option.some.inj ((show (Tryd.prog.globals[3]?).map (·.type) = some 103 by kernel_rfl).symm.trans ht')
  have := cells_of_strs (ss := kindsCells.filterMap fun | .str s => some s | _ => none) (n := 3) (e := 9) (by kernel_rfl) (by kernel_rfl) (by kernel_rfl) (by kernel_rfl) hd
  exact ⟨globAt (n := "tidegate/parser.kinds") (by kernel_rfl) hvar (by rw [this]; rfl) (by decide), q, hr⟩
theorem ors_of {W : World} {r : List (String × DataW Unit)} {ps : List MemPlace} (h : DataW.LaidVars Tryd.prog W (("tidegate/parser.ors", Rows.laid_tidegate_parser_ors) :: r) ps) : GlobAt W 0 orsCells ∧ ∃ q, DataW.LaidVars Tryd.prog W r q := by
  obtain ⟨g', t', cs, fuel, p, q, hg', ht', hvar, hd, hr, _⟩ := h
  obtain rfl := Option.some.inj ((show Tryd.prog.globalNamed "tidegate/parser.ors" = some 0 by kernel_rfl).symm.trans hg')
  obtain rfl := Option.some.inj ((show (Tryd.prog.globals[0]?).map (·.type) = some 74 by kernel_rfl).symm.trans ht')
  have := cells_of_ops (ss := opL orsCells) (n := 1) (e := 73) (by kernel_rfl) (show Tryd.prog.underlying 73 = some (.struct #[⟨ "text", 9, 0, false, "", "tidegate/parser", 0⟩, ⟨ "op", 3, 1, false, "", "tidegate/parser", 16⟩]) by kernel_rfl) rfl rfl (by kernel_rfl) (by kernel_rfl) (by kernel_rfl) (by kernel_rfl) (by kernel_rfl) (by kernel_rfl) hd
  exact ⟨globAt (n := "tidegate/parser.ors") (by kernel_rfl) hvar (by rw [this]; rfl) (by decide), q, hr⟩
theorem ands_of {W : World} {r : List (String × DataW Unit)} {ps : List MemPlace} (h : DataW.LaidVars Tryd.prog W (("tidegate/parser.ands", Rows.laid_tidegate_parser_ands) :: r) ps) : GlobAt W 2 andsCells ∧ ∃ q, DataW.LaidVars Tryd.prog W r q := by
  obtain ⟨g', t', cs, fuel, p, q, hg', ht', hvar, hd, hr, _⟩ := h
  obtain rfl := Option.some.inj ((show Tryd.prog.globalNamed "tidegate/parser.ands" = some 2 by kernel_rfl).symm.trans hg')
  obtain rfl := Option.some.inj ((show (Tryd.prog.globals[2]?).map (·.type) = some 74 by kernel_rfl).symm.trans ht')
  have := cells_of_ops (ss := opL andsCells) (n := 1) (e := 73) (by kernel_rfl) (show Tryd.prog.underlying 73 = some (.struct #[⟨ "text", 9, 0, false, "", "tidegate/parser", 0⟩, ⟨ "op", 3, 1, false, "", "tidegate/parser", 16⟩]) by kernel_rfl) rfl rfl (by kernel_rfl) (by kernel_rfl) (by kernel_rfl) (by kernel_rfl) (by kernel_rfl) (by kernel_rfl) hd
  exact ⟨globAt (n := "tidegate/parser.ands") (by kernel_rfl) hvar (by rw [this]; rfl) (by decide), q, hr⟩
theorem sums_of {W : World} {r : List (String × DataW Unit)} {ps : List MemPlace} (h : DataW.LaidVars Tryd.prog W (("tidegate/parser.sums", Rows.laid_tidegate_parser_sums) :: r) ps) : GlobAt W 5 sumsCells ∧ ∃ q, DataW.LaidVars Tryd.prog W r q := by
  obtain ⟨g', t', cs, fuel, p, q, hg', ht', hvar, hd, hr, _⟩ := h
  obtain rfl := Option.some.inj ((show Tryd.prog.globalNamed "tidegate/parser.sums" = some 5 by kernel_rfl).symm.trans hg')
  obtain rfl := Option.some.inj ((show (Tryd.prog.globals[5]?).map (·.type) = some 107 by kernel_rfl).symm.trans ht')
  have := cells_of_ops (ss := opL sumsCells) (n := 2) (e := 73) (by kernel_rfl) (show Tryd.prog.underlying 73 = some (.struct #[⟨ "text", 9, 0, false, "", "tidegate/parser", 0⟩, ⟨ "op", 3, 1, false, "", "tidegate/parser", 16⟩]) by kernel_rfl) rfl rfl (by kernel_rfl) (by kernel_rfl) (by kernel_rfl) (by kernel_rfl) (by kernel_rfl) (by kernel_rfl) hd
  exact ⟨globAt (n := "tidegate/parser.sums") (by kernel_rfl) hvar (by rw [this]; rfl) (by decide), q, hr⟩
theorem totals_of {W : World} {r : List (String × DataW Unit)} {ps : List MemPlace} (h : DataW.LaidVars Tryd.prog W (("tidegate/parser.totals", Rows.laid_tidegate_parser_totals) :: r) ps) : GlobAt W 6 totalsCells ∧ ∃ q, DataW.LaidVars Tryd.prog W r q := by
  obtain ⟨g', t', cs, fuel, p, q, hg', ht', hvar, hd, hr, _⟩ := h
  obtain rfl := Option.some.inj ((show Tryd.prog.globalNamed "tidegate/parser.totals" = some 6 by kernel_rfl).symm.trans hg')
  obtain rfl := Option.some.inj ((show (Tryd.prog.globals[6]?).map (·.type) = some 108 by kernel_rfl).symm.trans ht')
  have := cells_of_ops (ss := opL totalsCells) (n := 4) (e := 73) (by kernel_rfl) (show Tryd.prog.underlying 73 = some (.struct #[⟨ "text", 9, 0, false, "", "tidegate/parser", 0⟩, ⟨ "op", 3, 1, false, "", "tidegate/parser", 16⟩]) by kernel_rfl) rfl rfl (by kernel_rfl) (by kernel_rfl) (by kernel_rfl) (by kernel_rfl) (by kernel_rfl) (by kernel_rfl) hd
  exact ⟨globAt (n := "tidegate/parser.totals") (by kernel_rfl) hvar (by rw [this]; rfl) (by decide), q, hr⟩
theorem globOK {W : World} (h : laidMet Tryd.prog Rows.parserNestsRow.laid W) (hS : W.ShapedOpen Tryd.prog) : GlobOK g0 W := by
  obtain ⟨ps, h, _⟩ := h
  obtain ⟨hsigns, ps, h⟩ := signs_of h
  obtain ⟨hkinds, ps, h⟩ := kinds_of h
  obtain ⟨hors, ps, h⟩ := ors_of h
  obtain ⟨hands, ps, h⟩ := ands_of h
  obtain ⟨hsums, ps, h⟩ := sums_of h
  obtain ⟨htotals, ps, h⟩ := totals_of h
  intro p hp
  simp only [globals, List.mem_cons, List.not_mem_nil, or_false] at hp
  rcases hp with rfl | rfl | rfl | rfl | rfl | rfl | rfl
  · exact ⟨_, rfl, hsigns⟩
  · exact ⟨_, rfl, hors⟩
  · exact ⟨_, rfl, hands⟩
  · exact ⟨_, rfl, hsums⟩
  · exact ⟨_, rfl, hkinds⟩
  · exact ⟨_, rfl, htotals⟩
  · obtain ⟨m, hm⟩ := Tryd.laysM144.s1_3 W hS
    refine ⟨[.int .i64 m], ⟨m, rfl⟩, .ptr 1 0 _ (fun _ => .int .i64 m) (fun j x hj => ?_) (fun j x hj => ?_)⟩
    · have hj0 : j = 0 := by have := (List.getElem?_eq_some_iff.1 hj).1; simp at this; omega
      subst hj0
      exact ⟨trivial, hm⟩
    · have hj0 : j = 0 := by have := (List.getElem?_eq_some_iff.1 hj).1; simp at this; omega
      subst hj0
      simp only [List.getElem?_cons_zero, Option.some.injEq] at hj
      subst hj
      exact .int _ _
/-- A variable's cells set. -/
def setCells (l : List AV) : Obj → Obj
  | .cells _ t frozen => .cells (l.map valOf).toArray t frozen
  | o => o
/-- A world for the witness: the settled one, with the tables as the program's text lays them. -/
noncomputable def laidWorld (os : Os) : World :=
  { World.holding Tryd.prog os ⟨#[], #[], []⟩ with heap := (((((((World.holding Tryd.prog os ⟨#[], #[], []⟩).heap.modify 4 (setCells signCells)).modify 3 (setCells kindsCells)).modify 0 (setCells orsCells)).modify 2 (setCells andsCells)).modify 5 (setCells sumsCells)).modify 6 (setCells totalsCells)) }
end Go.Proofs.YtpgmglacdcfnaaaDoor
