/-
  DERIVED. GIVEN WITH THE SEED: THE CARDS: each row of YtabkeeedkhgodaaGreatDoorRows.lean that lists a variable, with what it lists TIED to the program's text (the seventh form; the later family's looks); each row that meets fmt, with fmt's text TOLD by the authors' own Lean function (tested against real Go, not proved from fmt's source: count such statements apart). THE CARD IS WHAT COUNTS. Prove the row's statement (the work); the ties are given (YtabkeeedkhgodaaGreatDoorTie.lean); close each card by the builder's one call (the guide's Derived/Test/ToyasCard.lean, 'card_holds'). Laid BY PROGRAM, IN A SANDBOX (cutbox-door.mjs). By AI agents, Wed Nov 11 2026. No macro, syntax, notation, axiom, sorry.
-/
import Derived.Test.YtabkeeedkhgodaaGreatDoorRows
import GoSem.ClaimSeven
namespace Go.Proofs.YtabkeeedkhgodaaGreatDoor
namespace Rows

/-- THE TIED CARD OF 'tidegatelaw13.PrinterPatterns'. -/
def printerPatternsCard : Claim7 := { stood := { row := printerPatternsRow, standIns := [], harness := (true, "b82978f1e1ea8859a6cb99dad04b3770e01c56b00f317a9ff17c694bd80d4ba7"), looks := false }, kinds := [], alts := [], laidByText := true, laidKinds := [.data, .data, .data, .data, .data, .widerDeep, .widerDeep, .widerDeep, .data], laidTests := true, laidLooks := .later }
def PrinterPatternsCardSaid : Prop := Claim7.holds Tryz.pinned (.plain (OpenSpec.ofChange printerPatternsSpec)) printerPatternsCard

/-- THE TIED CARD OF 'tidegatelaw13.PrinterExprs'. -/
def printerExprsCard : Claim7 := { stood := { row := printerExprsRow, standIns := [], harness := (true, "b82978f1e1ea8859a6cb99dad04b3770e01c56b00f317a9ff17c694bd80d4ba7"), looks := false }, kinds := [], alts := [], laidByText := true, laidKinds := [.data, .data, .data, .data, .data, .widerDeep, .widerDeep, .widerDeep, .data], laidTests := true, laidLooks := .later }
def PrinterExprsCardSaid : Prop := Claim7.holds Tryz.pinned (.plain (OpenSpec.ofChange printerExprsSpec)) printerExprsCard

/-- THE TIED CARD OF 'tidegatelaw13.PrinterSettles'. -/
def printerSettlesCard : Claim7 := { stood := { row := printerSettlesRow, standIns := [], harness := (true, "b82978f1e1ea8859a6cb99dad04b3770e01c56b00f317a9ff17c694bd80d4ba7"), looks := false }, kinds := [], alts := [], laidByText := true, laidKinds := [.data, .data, .data, .data, .data, .widerDeep, .widerDeep, .widerDeep, .data], laidTests := true, laidLooks := .later }
def PrinterSettlesCardSaid : Prop := Claim7.holds Tryz.pinned (.plain (OpenSpec.ofChange printerSettlesSpec)) printerSettlesCard

/-- THE TIED CARD OF 'tidegatelaw13.PrinterOperands'. -/
def printerOperandsCard : Claim7 := { stood := { row := printerOperandsRow, standIns := [], harness := (true, "b82978f1e1ea8859a6cb99dad04b3770e01c56b00f317a9ff17c694bd80d4ba7"), looks := false }, kinds := [], alts := [], laidByText := true, laidKinds := [.data, .data, .data, .data, .data, .widerDeep, .widerDeep, .widerDeep, .data], laidTests := true, laidLooks := .later }
def PrinterOperandsCardSaid : Prop := Claim7.holds Tryz.pinned (.plain (OpenSpec.ofChange printerOperandsSpec)) printerOperandsCard

/-- THE TIED CARD OF 'tidegatelaw13.PrinterQueries'. -/
def printerQueriesCard : Claim7 := { stood := { row := printerQueriesRow, standIns := [], harness := (true, "b82978f1e1ea8859a6cb99dad04b3770e01c56b00f317a9ff17c694bd80d4ba7"), looks := false }, kinds := [], alts := [], laidByText := true, laidKinds := [.data, .data, .data, .data, .data, .widerDeep, .widerDeep, .widerDeep, .data], laidTests := true, laidLooks := .later }
def PrinterQueriesCardSaid : Prop := Claim7.holds Tryz.pinned (.plain (OpenSpec.ofChange printerQueriesSpec)) printerQueriesCard

/-- THE TIED CARD OF 'tidegatelaw13.PrinterFormats'. -/
def printerFormatsCard : Claim7 := { stood := { row := printerFormatsRow, standIns := [], harness := (true, "b82978f1e1ea8859a6cb99dad04b3770e01c56b00f317a9ff17c694bd80d4ba7"), looks := false }, kinds := [], alts := [], laidByText := true, laidKinds := [.data, .data, .data, .data, .data, .widerDeep, .widerDeep, .widerDeep, .data], laidTests := true, laidLooks := .later }
def PrinterFormatsCardSaid : Prop := Claim7.holds Tryz.pinned (.plain (OpenSpec.ofChange printerFormatsSpec)) printerFormatsCard

/-- THE TIED CARD OF 'tidegatelaw13.PrinterReturns'. -/
def printerReturnsCard : Claim7 := { stood := { row := printerReturnsRow, standIns := [], harness := (true, "b82978f1e1ea8859a6cb99dad04b3770e01c56b00f317a9ff17c694bd80d4ba7"), looks := false }, kinds := [], alts := [], laidByText := true, laidKinds := [.data, .data, .data, .data, .data, .widerDeep, .widerDeep, .widerDeep, .data], laidTests := true, laidLooks := .later }
def PrinterReturnsCardSaid : Prop := Claim7.holds Tryz.pinned (.plain (OpenSpec.ofChange printerReturnsSpec)) printerReturnsCard

/-- THE TIED CARD OF 'tidegatelaw13.PrinterJoins'. -/
def printerJoinsCard : Claim7 := { stood := { row := printerJoinsRow, standIns := [], harness := (true, "b82978f1e1ea8859a6cb99dad04b3770e01c56b00f317a9ff17c694bd80d4ba7"), looks := false }, kinds := [], alts := [], laidByText := true, laidKinds := [.data, .data, .data, .data, .data, .widerDeep, .widerDeep, .widerDeep, .data], laidTests := true, laidLooks := .later }
def PrinterJoinsCardSaid : Prop := Claim7.holds Tryz.pinned (.plain (OpenSpec.ofChange printerJoinsSpec)) printerJoinsCard

/-- THE SECOND FORM's CARD OF 'tidegatelaw13.PrinterPatterns'. -/
def printerPatternsUptoCard : Claim7 := { stood := { row := printerPatternsUptoRow, standIns := [], harness := (true, "b82978f1e1ea8859a6cb99dad04b3770e01c56b00f317a9ff17c694bd80d4ba7"), looks := false }, kinds := [], alts := [], laidByText := true, laidKinds := [.data, .data, .data, .data, .data, .widerDeep, .widerDeep, .widerDeep, .data], laidTests := true, laidLooks := .later }
def PrinterPatternsUptoCardSaid : Prop := Claim7.holds Tryz.pinned (.plain (OpenSpec.upto printerPatternsSpec)) printerPatternsUptoCard

/-- THE SECOND FORM's CARD OF 'tidegatelaw13.PrinterExprs'. -/
def printerExprsUptoCard : Claim7 := { stood := { row := printerExprsUptoRow, standIns := [], harness := (true, "b82978f1e1ea8859a6cb99dad04b3770e01c56b00f317a9ff17c694bd80d4ba7"), looks := false }, kinds := [], alts := [], laidByText := true, laidKinds := [.data, .data, .data, .data, .data, .widerDeep, .widerDeep, .widerDeep, .data], laidTests := true, laidLooks := .later }
def PrinterExprsUptoCardSaid : Prop := Claim7.holds Tryz.pinned (.plain (OpenSpec.upto printerExprsSpec)) printerExprsUptoCard

/-- THE SECOND FORM's CARD OF 'tidegatelaw13.PrinterSettles'. -/
def printerSettlesUptoCard : Claim7 := { stood := { row := printerSettlesUptoRow, standIns := [], harness := (true, "b82978f1e1ea8859a6cb99dad04b3770e01c56b00f317a9ff17c694bd80d4ba7"), looks := false }, kinds := [], alts := [], laidByText := true, laidKinds := [.data, .data, .data, .data, .data, .widerDeep, .widerDeep, .widerDeep, .data], laidTests := true, laidLooks := .later }
def PrinterSettlesUptoCardSaid : Prop := Claim7.holds Tryz.pinned (.plain (OpenSpec.upto printerSettlesSpec)) printerSettlesUptoCard

/-- THE SECOND FORM's CARD OF 'tidegatelaw13.PrinterOperands'. -/
def printerOperandsUptoCard : Claim7 := { stood := { row := printerOperandsUptoRow, standIns := [], harness := (true, "b82978f1e1ea8859a6cb99dad04b3770e01c56b00f317a9ff17c694bd80d4ba7"), looks := false }, kinds := [], alts := [], laidByText := true, laidKinds := [.data, .data, .data, .data, .data, .widerDeep, .widerDeep, .widerDeep, .data], laidTests := true, laidLooks := .later }
def PrinterOperandsUptoCardSaid : Prop := Claim7.holds Tryz.pinned (.plain (OpenSpec.upto printerOperandsSpec)) printerOperandsUptoCard

/-- THE SECOND FORM's CARD OF 'tidegatelaw13.PrinterQueries'. -/
def printerQueriesUptoCard : Claim7 := { stood := { row := printerQueriesUptoRow, standIns := [], harness := (true, "b82978f1e1ea8859a6cb99dad04b3770e01c56b00f317a9ff17c694bd80d4ba7"), looks := false }, kinds := [], alts := [], laidByText := true, laidKinds := [.data, .data, .data, .data, .data, .widerDeep, .widerDeep, .widerDeep, .data], laidTests := true, laidLooks := .later }
def PrinterQueriesUptoCardSaid : Prop := Claim7.holds Tryz.pinned (.plain (OpenSpec.upto printerQueriesSpec)) printerQueriesUptoCard

/-- THE SECOND FORM's CARD OF 'tidegatelaw13.PrinterFormats'. -/
def printerFormatsUptoCard : Claim7 := { stood := { row := printerFormatsUptoRow, standIns := [], harness := (true, "b82978f1e1ea8859a6cb99dad04b3770e01c56b00f317a9ff17c694bd80d4ba7"), looks := false }, kinds := [], alts := [], laidByText := true, laidKinds := [.data, .data, .data, .data, .data, .widerDeep, .widerDeep, .widerDeep, .data], laidTests := true, laidLooks := .later }
def PrinterFormatsUptoCardSaid : Prop := Claim7.holds Tryz.pinned (.plain (OpenSpec.upto printerFormatsSpec)) printerFormatsUptoCard

/-- THE SECOND FORM's CARD OF 'tidegatelaw13.PrinterReturns'. -/
def printerReturnsUptoCard : Claim7 := { stood := { row := printerReturnsUptoRow, standIns := [], harness := (true, "b82978f1e1ea8859a6cb99dad04b3770e01c56b00f317a9ff17c694bd80d4ba7"), looks := false }, kinds := [], alts := [], laidByText := true, laidKinds := [.data, .data, .data, .data, .data, .widerDeep, .widerDeep, .widerDeep, .data], laidTests := true, laidLooks := .later }
def PrinterReturnsUptoCardSaid : Prop := Claim7.holds Tryz.pinned (.plain (OpenSpec.upto printerReturnsSpec)) printerReturnsUptoCard

/-- THE SECOND FORM's CARD OF 'tidegatelaw13.PrinterJoins'. -/
def printerJoinsUptoCard : Claim7 := { stood := { row := printerJoinsUptoRow, standIns := [], harness := (true, "b82978f1e1ea8859a6cb99dad04b3770e01c56b00f317a9ff17c694bd80d4ba7"), looks := false }, kinds := [], alts := [], laidByText := true, laidKinds := [.data, .data, .data, .data, .data, .widerDeep, .widerDeep, .widerDeep, .data], laidTests := true, laidLooks := .later }
def PrinterJoinsUptoCardSaid : Prop := Claim7.holds Tryz.pinned (.plain (OpenSpec.upto printerJoinsSpec)) printerJoinsUptoCard
end Rows
end Go.Proofs.YtabkeeedkhgodaaGreatDoor
