/-
  DERIVED. GIVEN WITH THE SEED: THE PROGRAM's TIES (one call each: nine closed facts by the kernel) AND EACH ROW's TIE, after the 31st guide's Derived/Test/Toyas{Tie, Card}.lean. No idea stands in it: it is a product of the set-up. Laid BY PROGRAM, IN A SANDBOX (cutbox-door.mjs). By AI agents, Wed Nov 11 2026. No macro, syntax, notation, axiom, sorry.
-/
import Derived.Test.YtibcelnfkhdjaaaGreatDoorRows
import Derived.LaidByTextLater
import Derived.SevenTiedAt
import Derived.LaidSub
import Derived.LaidOnce
namespace Go.Proofs.YtibcelnfkhdjaaaGreatDoor
open Go
set_option maxRecDepth 100000
theorem seatTie1 : Tryz.prog.laidByTextLater [("math/bits.deBruijn32tab", Rows.laid_math_bits_deBruijn32tab), ("math/bits.deBruijn64tab", Rows.laid_math_bits_deBruijn64tab), ("internal/strconv.uint64pow10", Rows.laid_internal_strconv_uint64pow10), ("unicode/utf8.acceptRanges", Rows.laid_unicode_utf8_acceptRanges), ("tidegate/lexer.signs", Rows.laid_tidegate_lexer_signs), ("tidegate/parser.kinds", Rows.laid_tidegate_parser_kinds), ("tidegate/parser.ors", Rows.laid_tidegate_parser_ors), ("tidegate/parser.ands", Rows.laid_tidegate_parser_ands), ("tidegate/parser.sums", Rows.laid_tidegate_parser_sums), ("tidegate/parser.totals", Rows.laid_tidegate_parser_totals), ("tidegate/schema.words", Rows.laid_tidegate_schema_words), ("tidegate/pattern.shapes", Rows.laid_tidegate_pattern_shapes)] [.data, .data, .data, .data, .data, .data, .widerDeep, .widerDeep, .widerDeep, .data, .data, .data] true :=
  Program.laidByTextLater_by_one 93 8 67 (by kernel_rfl) (by kernel_rfl) (by kernel_rfl) (by kernel_rfl) (by kernel_rfl) (by kernel_rfl) (fun _ _ => by kernel_rfl)
theorem pin_laid_unicode_utf8_first : Tryz.pinned.checked.prog.pinnedFits "unicode/utf8.first" = true := by kernel_rfl
theorem noOwnUnsafe : Tryz.pinned.checked.prog.headLifts.contains "ownunsafe" = false := by kernel_rfl
theorem tie : Tryz.prog.laidByTextLater [("math/bits.deBruijn32tab", Rows.laid_math_bits_deBruijn32tab), ("math/bits.deBruijn64tab", Rows.laid_math_bits_deBruijn64tab), ("internal/strconv.uint64pow10", Rows.laid_internal_strconv_uint64pow10), ("tidegate/lexer.signs", Rows.laid_tidegate_lexer_signs), ("tidegate/parser.kinds", Rows.laid_tidegate_parser_kinds), ("tidegate/parser.ors", Rows.laid_tidegate_parser_ors), ("tidegate/parser.ands", Rows.laid_tidegate_parser_ands), ("tidegate/parser.sums", Rows.laid_tidegate_parser_sums), ("tidegate/parser.totals", Rows.laid_tidegate_parser_totals), ("tidegate/pattern.shapes", Rows.laid_tidegate_pattern_shapes)] [.data, .data, .data, .data, .data, .widerDeep, .widerDeep, .widerDeep, .data, .data] true :=
  Program.laidByTextLater.sub seatTie1 ["math/bits.deBruijn32tab", "math/bits.deBruijn64tab", "internal/strconv.uint64pow10", "tidegate/lexer.signs", "tidegate/parser.kinds", "tidegate/parser.ors", "tidegate/parser.ands", "tidegate/parser.sums", "tidegate/parser.totals", "tidegate/pattern.shapes"] (by kernel_rfl) (by kernel_rfl)
theorem topProgramsReturn_row_tie : Rows.topProgramsReturnRow.laidByTextAt .later Tryz.pinned [.data, .data, .data, .data, .data, .widerDeep, .widerDeep, .widerDeep, .data, .data] true :=
  OpenClaim.laidByTextAt_later rfl rfl tie noOwnUnsafe
theorem fits2 : Tryz.pinned.checked.prog.listedFits [("math/bits.deBruijn32tab", Rows.laid_math_bits_deBruijn32tab), ("math/bits.deBruijn64tab", Rows.laid_math_bits_deBruijn64tab), ("internal/strconv.uint64pow10", Rows.laid_internal_strconv_uint64pow10), ("unicode/utf8.acceptRanges", Rows.laid_unicode_utf8_acceptRanges), ("tidegate/lexer.signs", Rows.laid_tidegate_lexer_signs), ("tidegate/parser.kinds", Rows.laid_tidegate_parser_kinds), ("tidegate/parser.ors", Rows.laid_tidegate_parser_ors), ("tidegate/parser.ands", Rows.laid_tidegate_parser_ands), ("tidegate/parser.sums", Rows.laid_tidegate_parser_sums), ("tidegate/parser.totals", Rows.laid_tidegate_parser_totals), ("tidegate/schema.words", Rows.laid_tidegate_schema_words), ("tidegate/pattern.shapes", Rows.laid_tidegate_pattern_shapes), ("unicode/utf8.first", Rows.laid_unicode_utf8_first)] = true := by
  unfold Program.listedFits
  rw [noOwnUnsafe]
  kernel_rfl
theorem tie2 : Tryz.prog.laidByTextLater [("math/bits.deBruijn32tab", Rows.laid_math_bits_deBruijn32tab), ("math/bits.deBruijn64tab", Rows.laid_math_bits_deBruijn64tab), ("internal/strconv.uint64pow10", Rows.laid_internal_strconv_uint64pow10), ("unicode/utf8.acceptRanges", Rows.laid_unicode_utf8_acceptRanges), ("tidegate/lexer.signs", Rows.laid_tidegate_lexer_signs), ("tidegate/parser.kinds", Rows.laid_tidegate_parser_kinds), ("tidegate/parser.ors", Rows.laid_tidegate_parser_ors), ("tidegate/parser.ands", Rows.laid_tidegate_parser_ands), ("tidegate/parser.sums", Rows.laid_tidegate_parser_sums), ("tidegate/parser.totals", Rows.laid_tidegate_parser_totals), ("tidegate/schema.words", Rows.laid_tidegate_schema_words), ("tidegate/pattern.shapes", Rows.laid_tidegate_pattern_shapes)] [.data, .data, .data, .data, .data, .data, .widerDeep, .widerDeep, .widerDeep, .data, .data, .data] true :=
  Program.laidByTextLater.sub seatTie1 ["math/bits.deBruijn32tab", "math/bits.deBruijn64tab", "internal/strconv.uint64pow10", "unicode/utf8.acceptRanges", "tidegate/lexer.signs", "tidegate/parser.kinds", "tidegate/parser.ors", "tidegate/parser.ands", "tidegate/parser.sums", "tidegate/parser.totals", "tidegate/schema.words", "tidegate/pattern.shapes"] (by kernel_rfl) (by kernel_rfl)
theorem topNamesResolve_row_tie : Rows.topNamesResolveRow.laidByTextAt .later Tryz.pinned [.data, .data, .data, .data, .data, .data, .widerDeep, .widerDeep, .widerDeep, .data, .data, .data, .pinned] true :=
  OpenClaim.laidByTextAt_pinned rfl rfl tie2 rfl rfl rfl rfl (fun y hy _e => by
    simp only [Rows.topNamesResolveRow, List.zip_cons_cons, List.zip_nil_right, List.mem_cons, List.mem_nil_iff, or_false] at hy
    rcases hy with rfl | rfl | rfl | rfl | rfl | rfl | rfl | rfl | rfl | rfl | rfl | rfl | rfl
    · cases _e
    · cases _e
    · cases _e
    · cases _e
    · cases _e
    · cases _e
    · cases _e
    · cases _e
    · cases _e
    · cases _e
    · cases _e
    · cases _e
    · exact ⟨pin_laid_unicode_utf8_first, by kernel_rfl⟩) fits2
theorem topProgramsReturnUpto_row_tie : Rows.topProgramsReturnUptoRow.laidByTextAt .later Tryz.pinned [.data, .data, .data, .data, .data, .widerDeep, .widerDeep, .widerDeep, .data, .data] true :=
  OpenClaim.laidByTextAt_later rfl rfl tie noOwnUnsafe
theorem topNamesResolveUpto_row_tie : Rows.topNamesResolveUptoRow.laidByTextAt .later Tryz.pinned [.data, .data, .data, .data, .data, .data, .widerDeep, .widerDeep, .widerDeep, .data, .data, .data, .pinned] true :=
  OpenClaim.laidByTextAt_pinned rfl rfl tie2 rfl rfl rfl rfl (fun y hy _e => by
    simp only [Rows.topNamesResolveUptoRow, List.zip_cons_cons, List.zip_nil_right, List.mem_cons, List.mem_nil_iff, or_false] at hy
    rcases hy with rfl | rfl | rfl | rfl | rfl | rfl | rfl | rfl | rfl | rfl | rfl | rfl | rfl
    · cases _e
    · cases _e
    · cases _e
    · cases _e
    · cases _e
    · cases _e
    · cases _e
    · cases _e
    · cases _e
    · cases _e
    · cases _e
    · cases _e
    · exact ⟨pin_laid_unicode_utf8_first, by kernel_rfl⟩) fits2
end Go.Proofs.YtibcelnfkhdjaaaGreatDoor
