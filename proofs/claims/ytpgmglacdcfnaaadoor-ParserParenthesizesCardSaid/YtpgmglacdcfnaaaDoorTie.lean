/-
  DERIVED. GIVEN WITH THE SEED: THE PROGRAM's TIES (one call each: nine closed facts by the kernel) AND EACH ROW's TIE, after the 31st guide's Derived/Test/Toyas{Tie, Card}.lean. No idea stands in it: it is a product of the set-up. Laid BY PROGRAM, IN A SANDBOX (cutbox-door.mjs). By AI agents, Wed Nov 11 2026. No macro, syntax, notation, axiom, sorry.
-/
import Derived.Test.YtpgmglacdcfnaaaDoorRows
import Derived.LaidByTextLater
import Derived.SevenTiedAt
import Derived.LaidSub
import Derived.LaidOnce
namespace Go.Proofs.YtpgmglacdcfnaaaDoor
open Go
set_option maxRecDepth 100000
theorem seatTie1 : Tryd.prog.laidByTextLater [("tidegate/lexer.signs", Rows.laid_tidegate_lexer_signs), ("tidegate/parser.kinds", Rows.laid_tidegate_parser_kinds), ("tidegate/parser.ors", Rows.laid_tidegate_parser_ors), ("tidegate/parser.ands", Rows.laid_tidegate_parser_ands), ("tidegate/parser.sums", Rows.laid_tidegate_parser_sums), ("tidegate/parser.totals", Rows.laid_tidegate_parser_totals)] [.data, .data, .widerDeep, .widerDeep, .widerDeep, .data] true :=
  Program.laidByTextLater_by_one 47 8 18 (by kernel_rfl) (by kernel_rfl) (by kernel_rfl) (by kernel_rfl) (by kernel_rfl) (by kernel_rfl) (fun _ _ => by kernel_rfl)
theorem noOwnUnsafe : Tryd.pinned.checked.prog.headLifts.contains "ownunsafe" = false := by kernel_rfl
theorem tie : Tryd.prog.laidByTextLater [("tidegate/lexer.signs", Rows.laid_tidegate_lexer_signs), ("tidegate/parser.ors", Rows.laid_tidegate_parser_ors), ("tidegate/parser.ands", Rows.laid_tidegate_parser_ands), ("tidegate/parser.sums", Rows.laid_tidegate_parser_sums), ("tidegate/parser.totals", Rows.laid_tidegate_parser_totals)] [.data, .widerDeep, .widerDeep, .widerDeep, .data] true :=
  Program.laidByTextLater.sub seatTie1 ["tidegate/lexer.signs", "tidegate/parser.ors", "tidegate/parser.ands", "tidegate/parser.sums", "tidegate/parser.totals"] (by kernel_rfl) (by kernel_rfl)
theorem parserEmbeds_row_tie : Rows.parserEmbedsRow.laidByTextAt .later Tryd.pinned [.data, .widerDeep, .widerDeep, .widerDeep, .data] true :=
  OpenClaim.laidByTextAt_later rfl rfl tie noOwnUnsafe
theorem parserParenthesizes_row_tie : Rows.parserParenthesizesRow.laidByTextAt .later Tryd.pinned [.data, .widerDeep, .widerDeep, .widerDeep, .data] true :=
  OpenClaim.laidByTextAt_later rfl rfl tie noOwnUnsafe
theorem tie2 : Tryd.prog.laidByTextLater [("tidegate/lexer.signs", Rows.laid_tidegate_lexer_signs), ("tidegate/parser.kinds", Rows.laid_tidegate_parser_kinds), ("tidegate/parser.ors", Rows.laid_tidegate_parser_ors), ("tidegate/parser.ands", Rows.laid_tidegate_parser_ands), ("tidegate/parser.sums", Rows.laid_tidegate_parser_sums), ("tidegate/parser.totals", Rows.laid_tidegate_parser_totals)] [.data, .data, .widerDeep, .widerDeep, .widerDeep, .data] true :=
  Program.laidByTextLater.sub seatTie1 ["tidegate/lexer.signs", "tidegate/parser.kinds", "tidegate/parser.ors", "tidegate/parser.ands", "tidegate/parser.sums", "tidegate/parser.totals"] (by kernel_rfl) (by kernel_rfl)
theorem parserNests_row_tie : Rows.parserNestsRow.laidByTextAt .later Tryd.pinned [.data, .data, .widerDeep, .widerDeep, .widerDeep, .data] true :=
  OpenClaim.laidByTextAt_later rfl rfl tie2 noOwnUnsafe
theorem parserSpaces_row_tie : Rows.parserSpacesRow.laidByTextAt .later Tryd.pinned [.data, .data, .widerDeep, .widerDeep, .widerDeep, .data] true :=
  OpenClaim.laidByTextAt_later rfl rfl tie2 noOwnUnsafe
theorem parserOrders_row_tie : Rows.parserOrdersRow.laidByTextAt .later Tryd.pinned [.data, .data, .widerDeep, .widerDeep, .widerDeep, .data] true :=
  OpenClaim.laidByTextAt_later rfl rfl tie2 noOwnUnsafe
theorem parserEmbedsUpto_row_tie : Rows.parserEmbedsUptoRow.laidByTextAt .later Tryd.pinned [.data, .widerDeep, .widerDeep, .widerDeep, .data] true :=
  OpenClaim.laidByTextAt_later rfl rfl tie noOwnUnsafe
theorem parserParenthesizesUpto_row_tie : Rows.parserParenthesizesUptoRow.laidByTextAt .later Tryd.pinned [.data, .widerDeep, .widerDeep, .widerDeep, .data] true :=
  OpenClaim.laidByTextAt_later rfl rfl tie noOwnUnsafe
theorem parserNestsUpto_row_tie : Rows.parserNestsUptoRow.laidByTextAt .later Tryd.pinned [.data, .data, .widerDeep, .widerDeep, .widerDeep, .data] true :=
  OpenClaim.laidByTextAt_later rfl rfl tie2 noOwnUnsafe
theorem parserSpacesUpto_row_tie : Rows.parserSpacesUptoRow.laidByTextAt .later Tryd.pinned [.data, .data, .widerDeep, .widerDeep, .widerDeep, .data] true :=
  OpenClaim.laidByTextAt_later rfl rfl tie2 noOwnUnsafe
theorem parserOrdersUpto_row_tie : Rows.parserOrdersUptoRow.laidByTextAt .later Tryd.pinned [.data, .data, .widerDeep, .widerDeep, .widerDeep, .data] true :=
  OpenClaim.laidByTextAt_later rfl rfl tie2 noOwnUnsafe
end Go.Proofs.YtpgmglacdcfnaaaDoor
