/-
  DERIVED. GIVEN WITH THE SEED: THE CARDS: each row of YtpgmglacdcfnaaaGreatDoorRows.lean that lists a variable, with what it lists TIED to the program's text (the seventh form; the later family's looks); each row that meets fmt, with fmt's text TOLD by the authors' own Lean function (tested against real Go, not proved from fmt's source: count such statements apart). THE CARD IS WHAT COUNTS. Prove the row's statement (the work); the ties are given (YtpgmglacdcfnaaaGreatDoorTie.lean); close each card by the builder's one call (the guide's Derived/Test/ToyasCard.lean, 'card_holds'). Laid BY PROGRAM, IN A SANDBOX (cutbox-door.mjs). By AI agents, Wed Nov 11 2026. No macro, syntax, notation, axiom, sorry.
-/
import Derived.Test.YtpgmglacdcfnaaaGreatDoorRows
import GoSem.ClaimSeven
namespace Go.Proofs.YtpgmglacdcfnaaaGreatDoor
namespace Rows

/-- THE TIED CARD OF 'tidegatelaw12.ParserQueries'. -/
def parserQueriesCard : Claim7 := { stood := { row := parserQueriesRow, standIns := [], harness := (true, "fae7f3ac288065e6b28f1b50f98a7dd14bd844ced2956a3d36c3f3b54bb3cc8c"), looks := false }, kinds := [], alts := [], laidByText := true, laidKinds := [.data, .widerDeep, .widerDeep, .widerDeep, .data], laidTests := true, laidLooks := .later }
def ParserQueriesCardSaid : Prop := Claim7.holds Tryz.pinned (.plain (OpenSpec.ofChange parserQueriesSpec)) parserQueriesCard

/-- THE TIED CARD OF 'tidegatelaw12.ParserPatterns'. -/
def parserPatternsCard : Claim7 := { stood := { row := parserPatternsRow, standIns := [], harness := (true, "fae7f3ac288065e6b28f1b50f98a7dd14bd844ced2956a3d36c3f3b54bb3cc8c"), looks := false }, kinds := [], alts := [], laidByText := true, laidKinds := [.data, .widerDeep, .widerDeep, .widerDeep, .data], laidTests := true, laidLooks := .later }
def ParserPatternsCardSaid : Prop := Claim7.holds Tryz.pinned (.plain (OpenSpec.ofChange parserPatternsSpec)) parserPatternsCard

/-- THE TIED CARD OF 'tidegatelaw12.ParserExprs'. -/
def parserExprsCard : Claim7 := { stood := { row := parserExprsRow, standIns := [], harness := (true, "fae7f3ac288065e6b28f1b50f98a7dd14bd844ced2956a3d36c3f3b54bb3cc8c"), looks := false }, kinds := [], alts := [], laidByText := true, laidKinds := [.data, .widerDeep, .widerDeep, .widerDeep, .data], laidTests := true, laidLooks := .later }
def ParserExprsCardSaid : Prop := Claim7.holds Tryz.pinned (.plain (OpenSpec.ofChange parserExprsSpec)) parserExprsCard

/-- THE TIED CARD OF 'tidegatelaw12.ParserParses'. -/
def parserParsesCard : Claim7 := { stood := { row := parserParsesRow, standIns := [], harness := (true, "fae7f3ac288065e6b28f1b50f98a7dd14bd844ced2956a3d36c3f3b54bb3cc8c"), looks := false }, kinds := [], alts := [], laidByText := true, laidKinds := [.data, .data, .widerDeep, .widerDeep, .widerDeep, .data], laidTests := true, laidLooks := .later }
def ParserParsesCardSaid : Prop := Claim7.holds Tryz.pinned (.plain (OpenSpec.ofChange parserParsesSpec)) parserParsesCard

/-- THE SECOND FORM's CARD OF 'tidegatelaw12.ParserQueries'. -/
def parserQueriesUptoCard : Claim7 := { stood := { row := parserQueriesUptoRow, standIns := [], harness := (true, "fae7f3ac288065e6b28f1b50f98a7dd14bd844ced2956a3d36c3f3b54bb3cc8c"), looks := false }, kinds := [], alts := [], laidByText := true, laidKinds := [.data, .widerDeep, .widerDeep, .widerDeep, .data], laidTests := true, laidLooks := .later }
def ParserQueriesUptoCardSaid : Prop := Claim7.holds Tryz.pinned (.plain (OpenSpec.upto parserQueriesSpec)) parserQueriesUptoCard

/-- THE SECOND FORM's CARD OF 'tidegatelaw12.ParserPatterns'. -/
def parserPatternsUptoCard : Claim7 := { stood := { row := parserPatternsUptoRow, standIns := [], harness := (true, "fae7f3ac288065e6b28f1b50f98a7dd14bd844ced2956a3d36c3f3b54bb3cc8c"), looks := false }, kinds := [], alts := [], laidByText := true, laidKinds := [.data, .widerDeep, .widerDeep, .widerDeep, .data], laidTests := true, laidLooks := .later }
def ParserPatternsUptoCardSaid : Prop := Claim7.holds Tryz.pinned (.plain (OpenSpec.upto parserPatternsSpec)) parserPatternsUptoCard

/-- THE SECOND FORM's CARD OF 'tidegatelaw12.ParserExprs'. -/
def parserExprsUptoCard : Claim7 := { stood := { row := parserExprsUptoRow, standIns := [], harness := (true, "fae7f3ac288065e6b28f1b50f98a7dd14bd844ced2956a3d36c3f3b54bb3cc8c"), looks := false }, kinds := [], alts := [], laidByText := true, laidKinds := [.data, .widerDeep, .widerDeep, .widerDeep, .data], laidTests := true, laidLooks := .later }
def ParserExprsUptoCardSaid : Prop := Claim7.holds Tryz.pinned (.plain (OpenSpec.upto parserExprsSpec)) parserExprsUptoCard

/-- THE SECOND FORM's CARD OF 'tidegatelaw12.ParserParses'. -/
def parserParsesUptoCard : Claim7 := { stood := { row := parserParsesUptoRow, standIns := [], harness := (true, "fae7f3ac288065e6b28f1b50f98a7dd14bd844ced2956a3d36c3f3b54bb3cc8c"), looks := false }, kinds := [], alts := [], laidByText := true, laidKinds := [.data, .data, .widerDeep, .widerDeep, .widerDeep, .data], laidTests := true, laidLooks := .later }
def ParserParsesUptoCardSaid : Prop := Claim7.holds Tryz.pinned (.plain (OpenSpec.upto parserParsesSpec)) parserParsesUptoCard
end Rows
end Go.Proofs.YtpgmglacdcfnaaaGreatDoor
