/-
  DERIVED. GIVEN WITH THE SEED: THE PROGRAM's TIES (one call each: nine closed facts by the kernel) AND EACH ROW's TIE, after the 31st guide's Derived/Test/Toyas{Tie, Card}.lean. No idea stands in it: it is a product of the set-up. Laid BY PROGRAM, IN A SANDBOX (cutbox-door.mjs). By AI agents, Wed Nov 11 2026. No macro, syntax, notation, axiom, sorry.
-/
import Derived.Test.YtckhoadldibflaaGreatDoorRows
import Derived.LaidByTextLater
import Derived.SevenTiedAt
import Derived.LaidSub
import Derived.LaidOnce
namespace Go.Proofs.YtckhoadldibflaaGreatDoor
open Go
set_option maxRecDepth 100000
theorem seatTie1 : Tryz.prog.laidByTextLater [("math/bits.deBruijn32tab", Rows.laid_math_bits_deBruijn32tab), ("math/bits.deBruijn64tab", Rows.laid_math_bits_deBruijn64tab), ("internal/strconv.uint64pow10", Rows.laid_internal_strconv_uint64pow10), ("tidegate/lexer.signs", Rows.laid_tidegate_lexer_signs), ("tidegate/parser.kinds", Rows.laid_tidegate_parser_kinds), ("tidegate/parser.ors", Rows.laid_tidegate_parser_ors), ("tidegate/parser.ands", Rows.laid_tidegate_parser_ands), ("tidegate/parser.sums", Rows.laid_tidegate_parser_sums), ("tidegate/parser.totals", Rows.laid_tidegate_parser_totals), ("tidegate/pattern.shapes", Rows.laid_tidegate_pattern_shapes)] [.data, .data, .data, .data, .data, .widerDeep, .widerDeep, .widerDeep, .data, .data] true :=
  Program.laidByTextLater_by_one 78 8 67 (by kernel_rfl) (by kernel_rfl) (by kernel_rfl) (by kernel_rfl) (by kernel_rfl) (by kernel_rfl) (fun _ _ => by kernel_rfl)
theorem noOwnUnsafe : Tryz.pinned.checked.prog.headLifts.contains "ownunsafe" = false := by kernel_rfl
theorem tie : Tryz.prog.laidByTextLater [("math/bits.deBruijn32tab", Rows.laid_math_bits_deBruijn32tab), ("math/bits.deBruijn64tab", Rows.laid_math_bits_deBruijn64tab), ("internal/strconv.uint64pow10", Rows.laid_internal_strconv_uint64pow10), ("tidegate/lexer.signs", Rows.laid_tidegate_lexer_signs), ("tidegate/parser.ors", Rows.laid_tidegate_parser_ors), ("tidegate/parser.ands", Rows.laid_tidegate_parser_ands), ("tidegate/parser.sums", Rows.laid_tidegate_parser_sums), ("tidegate/parser.totals", Rows.laid_tidegate_parser_totals), ("tidegate/pattern.shapes", Rows.laid_tidegate_pattern_shapes)] [.data, .data, .data, .data, .widerDeep, .widerDeep, .widerDeep, .data, .data] true :=
  Program.laidByTextLater.sub seatTie1 ["math/bits.deBruijn32tab", "math/bits.deBruijn64tab", "internal/strconv.uint64pow10", "tidegate/lexer.signs", "tidegate/parser.ors", "tidegate/parser.ands", "tidegate/parser.sums", "tidegate/parser.totals", "tidegate/pattern.shapes"] (by kernel_rfl) (by kernel_rfl)
theorem resolveQueries_row_tie : Rows.resolveQueriesRow.laidByTextAt .later Tryz.pinned [.data, .data, .data, .data, .widerDeep, .widerDeep, .widerDeep, .data, .data] true :=
  OpenClaim.laidByTextAt_later rfl rfl tie noOwnUnsafe
theorem resolveRenames_row_tie : Rows.resolveRenamesRow.laidByTextAt .later Tryz.pinned [.data, .data, .data, .data, .widerDeep, .widerDeep, .widerDeep, .data, .data] true :=
  OpenClaim.laidByTextAt_later rfl rfl tie noOwnUnsafe
theorem resolveTypes_row_tie : Rows.resolveTypesRow.laidByTextAt .later Tryz.pinned [.data, .data, .data, .data, .widerDeep, .widerDeep, .widerDeep, .data, .data] true :=
  OpenClaim.laidByTextAt_later rfl rfl tie noOwnUnsafe
theorem resolvePrograms_row_tie : Rows.resolveProgramsRow.laidByTextAt .later Tryz.pinned [.data, .data, .data, .data, .widerDeep, .widerDeep, .widerDeep, .data, .data] true :=
  OpenClaim.laidByTextAt_later rfl rfl tie noOwnUnsafe
theorem resolveExists_row_tie : Rows.resolveExistsRow.laidByTextAt .later Tryz.pinned [.data, .data, .data, .data, .widerDeep, .widerDeep, .widerDeep, .data, .data] true :=
  OpenClaim.laidByTextAt_later rfl rfl tie noOwnUnsafe
theorem resolveShows_row_tie : Rows.resolveShowsRow.laidByTextAt .later Tryz.pinned [.data, .data, .data, .data, .widerDeep, .widerDeep, .widerDeep, .data, .data] true :=
  OpenClaim.laidByTextAt_later rfl rfl tie noOwnUnsafe
theorem resolveSources_row_tie : Rows.resolveSourcesRow.laidByTextAt .later Tryz.pinned [.data, .data, .data, .data, .widerDeep, .widerDeep, .widerDeep, .data, .data] true :=
  OpenClaim.laidByTextAt_later rfl rfl tie noOwnUnsafe
theorem tie2 : Tryz.prog.laidByTextLater [("math/bits.deBruijn32tab", Rows.laid_math_bits_deBruijn32tab), ("math/bits.deBruijn64tab", Rows.laid_math_bits_deBruijn64tab), ("internal/strconv.uint64pow10", Rows.laid_internal_strconv_uint64pow10), ("tidegate/lexer.signs", Rows.laid_tidegate_lexer_signs), ("tidegate/parser.kinds", Rows.laid_tidegate_parser_kinds), ("tidegate/parser.ors", Rows.laid_tidegate_parser_ors), ("tidegate/parser.ands", Rows.laid_tidegate_parser_ands), ("tidegate/parser.sums", Rows.laid_tidegate_parser_sums), ("tidegate/parser.totals", Rows.laid_tidegate_parser_totals), ("tidegate/pattern.shapes", Rows.laid_tidegate_pattern_shapes)] [.data, .data, .data, .data, .data, .widerDeep, .widerDeep, .widerDeep, .data, .data] true :=
  Program.laidByTextLater.sub seatTie1 ["math/bits.deBruijn32tab", "math/bits.deBruijn64tab", "internal/strconv.uint64pow10", "tidegate/lexer.signs", "tidegate/parser.kinds", "tidegate/parser.ors", "tidegate/parser.ands", "tidegate/parser.sums", "tidegate/parser.totals", "tidegate/pattern.shapes"] (by kernel_rfl) (by kernel_rfl)
theorem resolveReturns_row_tie : Rows.resolveReturnsRow.laidByTextAt .later Tryz.pinned [.data, .data, .data, .data, .data, .widerDeep, .widerDeep, .widerDeep, .data, .data] true :=
  OpenClaim.laidByTextAt_later rfl rfl tie2 noOwnUnsafe
theorem resolveQueriesUpto_row_tie : Rows.resolveQueriesUptoRow.laidByTextAt .later Tryz.pinned [.data, .data, .data, .data, .widerDeep, .widerDeep, .widerDeep, .data, .data] true :=
  OpenClaim.laidByTextAt_later rfl rfl tie noOwnUnsafe
theorem resolveRenamesUpto_row_tie : Rows.resolveRenamesUptoRow.laidByTextAt .later Tryz.pinned [.data, .data, .data, .data, .widerDeep, .widerDeep, .widerDeep, .data, .data] true :=
  OpenClaim.laidByTextAt_later rfl rfl tie noOwnUnsafe
theorem resolveTypesUpto_row_tie : Rows.resolveTypesUptoRow.laidByTextAt .later Tryz.pinned [.data, .data, .data, .data, .widerDeep, .widerDeep, .widerDeep, .data, .data] true :=
  OpenClaim.laidByTextAt_later rfl rfl tie noOwnUnsafe
theorem resolveProgramsUpto_row_tie : Rows.resolveProgramsUptoRow.laidByTextAt .later Tryz.pinned [.data, .data, .data, .data, .widerDeep, .widerDeep, .widerDeep, .data, .data] true :=
  OpenClaim.laidByTextAt_later rfl rfl tie noOwnUnsafe
theorem resolveExistsUpto_row_tie : Rows.resolveExistsUptoRow.laidByTextAt .later Tryz.pinned [.data, .data, .data, .data, .widerDeep, .widerDeep, .widerDeep, .data, .data] true :=
  OpenClaim.laidByTextAt_later rfl rfl tie noOwnUnsafe
theorem resolveShowsUpto_row_tie : Rows.resolveShowsUptoRow.laidByTextAt .later Tryz.pinned [.data, .data, .data, .data, .widerDeep, .widerDeep, .widerDeep, .data, .data] true :=
  OpenClaim.laidByTextAt_later rfl rfl tie noOwnUnsafe
theorem resolveSourcesUpto_row_tie : Rows.resolveSourcesUptoRow.laidByTextAt .later Tryz.pinned [.data, .data, .data, .data, .widerDeep, .widerDeep, .widerDeep, .data, .data] true :=
  OpenClaim.laidByTextAt_later rfl rfl tie noOwnUnsafe
theorem resolveReturnsUpto_row_tie : Rows.resolveReturnsUptoRow.laidByTextAt .later Tryz.pinned [.data, .data, .data, .data, .data, .widerDeep, .widerDeep, .widerDeep, .data, .data] true :=
  OpenClaim.laidByTextAt_later rfl rfl tie2 noOwnUnsafe
end Go.Proofs.YtckhoadldibflaaGreatDoor
