/-
  DERIVED. GIVEN WITH THE SEED: THE PROGRAM's TIES (one call each: nine closed facts by the kernel) AND EACH ROW's TIE, after the 31st guide's Derived/Test/Toyas{Tie, Card}.lean. No idea stands in it: it is a product of the set-up. Laid BY PROGRAM, IN A SANDBOX (cutbox-door.mjs). By AI agents, Wed Nov 11 2026. No macro, syntax, notation, axiom, sorry.
-/
import Derived.Test.YtpgmglacdcfnaaaGreatDoorRows
import Derived.LaidByTextLater
import Derived.SevenTiedAt
import Derived.LaidSub
import Derived.LaidOnce
namespace Go.Proofs.YtpgmglacdcfnaaaGreatDoor
open Go
set_option maxRecDepth 100000
theorem seatTie1 : Tryz.prog.laidByTextLater [("tidegate/lexer.signs", Rows.laid_tidegate_lexer_signs), ("tidegate/parser.kinds", Rows.laid_tidegate_parser_kinds), ("tidegate/parser.ors", Rows.laid_tidegate_parser_ors), ("tidegate/parser.ands", Rows.laid_tidegate_parser_ands), ("tidegate/parser.sums", Rows.laid_tidegate_parser_sums), ("tidegate/parser.totals", Rows.laid_tidegate_parser_totals)] [.data, .data, .widerDeep, .widerDeep, .widerDeep, .data] true :=
  Program.laidByTextLater_by_one 47 8 18 (by kernel_rfl) (by kernel_rfl) (by kernel_rfl) (by kernel_rfl) (by kernel_rfl) (by kernel_rfl) (fun _ _ => by kernel_rfl)
theorem noOwnUnsafe : Tryz.pinned.checked.prog.headLifts.contains "ownunsafe" = false := by kernel_rfl
theorem tie : Tryz.prog.laidByTextLater [("tidegate/lexer.signs", Rows.laid_tidegate_lexer_signs), ("tidegate/parser.ors", Rows.laid_tidegate_parser_ors), ("tidegate/parser.ands", Rows.laid_tidegate_parser_ands), ("tidegate/parser.sums", Rows.laid_tidegate_parser_sums), ("tidegate/parser.totals", Rows.laid_tidegate_parser_totals)] [.data, .widerDeep, .widerDeep, .widerDeep, .data] true :=
  Program.laidByTextLater.sub seatTie1 ["tidegate/lexer.signs", "tidegate/parser.ors", "tidegate/parser.ands", "tidegate/parser.sums", "tidegate/parser.totals"] (by kernel_rfl) (by kernel_rfl)
theorem parserQueries_row_tie : Rows.parserQueriesRow.laidByTextAt .later Tryz.pinned [.data, .widerDeep, .widerDeep, .widerDeep, .data] true :=
  OpenClaim.laidByTextAt_later rfl rfl tie noOwnUnsafe
theorem parserPatterns_row_tie : Rows.parserPatternsRow.laidByTextAt .later Tryz.pinned [.data, .widerDeep, .widerDeep, .widerDeep, .data] true :=
  OpenClaim.laidByTextAt_later rfl rfl tie noOwnUnsafe
theorem parserExprs_row_tie : Rows.parserExprsRow.laidByTextAt .later Tryz.pinned [.data, .widerDeep, .widerDeep, .widerDeep, .data] true :=
  OpenClaim.laidByTextAt_later rfl rfl tie noOwnUnsafe
theorem tie2 : Tryz.prog.laidByTextLater [("tidegate/lexer.signs", Rows.laid_tidegate_lexer_signs), ("tidegate/parser.kinds", Rows.laid_tidegate_parser_kinds), ("tidegate/parser.ors", Rows.laid_tidegate_parser_ors), ("tidegate/parser.ands", Rows.laid_tidegate_parser_ands), ("tidegate/parser.sums", Rows.laid_tidegate_parser_sums), ("tidegate/parser.totals", Rows.laid_tidegate_parser_totals)] [.data, .data, .widerDeep, .widerDeep, .widerDeep, .data] true :=
  Program.laidByTextLater.sub seatTie1 ["tidegate/lexer.signs", "tidegate/parser.kinds", "tidegate/parser.ors", "tidegate/parser.ands", "tidegate/parser.sums", "tidegate/parser.totals"] (by kernel_rfl) (by kernel_rfl)
theorem parserParses_row_tie : Rows.parserParsesRow.laidByTextAt .later Tryz.pinned [.data, .data, .widerDeep, .widerDeep, .widerDeep, .data] true :=
  OpenClaim.laidByTextAt_later rfl rfl tie2 noOwnUnsafe
theorem parserQueriesUpto_row_tie : Rows.parserQueriesUptoRow.laidByTextAt .later Tryz.pinned [.data, .widerDeep, .widerDeep, .widerDeep, .data] true :=
  OpenClaim.laidByTextAt_later rfl rfl tie noOwnUnsafe
theorem parserPatternsUpto_row_tie : Rows.parserPatternsUptoRow.laidByTextAt .later Tryz.pinned [.data, .widerDeep, .widerDeep, .widerDeep, .data] true :=
  OpenClaim.laidByTextAt_later rfl rfl tie noOwnUnsafe
theorem parserExprsUpto_row_tie : Rows.parserExprsUptoRow.laidByTextAt .later Tryz.pinned [.data, .widerDeep, .widerDeep, .widerDeep, .data] true :=
  OpenClaim.laidByTextAt_later rfl rfl tie noOwnUnsafe
theorem parserParsesUpto_row_tie : Rows.parserParsesUptoRow.laidByTextAt .later Tryz.pinned [.data, .data, .widerDeep, .widerDeep, .widerDeep, .data] true :=
  OpenClaim.laidByTextAt_later rfl rfl tie2 noOwnUnsafe
end Go.Proofs.YtpgmglacdcfnaaaGreatDoor
