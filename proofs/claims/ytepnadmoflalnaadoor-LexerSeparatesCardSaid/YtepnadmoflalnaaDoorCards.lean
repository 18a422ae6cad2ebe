/-
  DERIVED. GIVEN WITH THE SEED: THE CARDS: each row of YtepnadmoflalnaaDoorRows.lean that lists a variable, with what it lists TIED to the program's text (the seventh form; the later family's looks); each row that meets fmt, with fmt's text TOLD by the authors' own Lean function (tested against real Go, not proved from fmt's source: count such statements apart). THE CARD IS WHAT COUNTS. Prove the row's statement (the work); the ties are given (YtepnadmoflalnaaDoorTie.lean); close each card by the builder's one call (the guide's Derived/Test/ToyasCard.lean, 'card_holds'). Laid BY PROGRAM, IN A SANDBOX (cutbox-door.mjs). By AI agents, Wed Nov 11 2026. No macro, syntax, notation, axiom, sorry.
-/
import Derived.Test.YtepnadmoflalnaaDoorRows
import GoSem.ClaimSeven
namespace Go.Proofs.YtepnadmoflalnaaDoor
namespace Rows

/-- THE TIED CARD OF 'tidegatelaw06.LexerScans'. -/
def lexerScansCard : Claim7 := { stood := { row := lexerScansRow, standIns := [], harness := (true, "97c13463047c67ef0b078a23e114d79cd985e4342689e31a56f4e233a835233e"), looks := false }, kinds := [], alts := [], laidByText := true, laidKinds := [.data], laidTests := true, laidLooks := .later }
def LexerScansCardSaid : Prop := Claim7.holds Tryd.pinned (.plain (OpenSpec.ofChange lexerScansSpec)) lexerScansCard

/-- THE TIED CARD OF 'tidegatelaw06.LexerPlaces'. -/
def lexerPlacesCard : Claim7 := { stood := { row := lexerPlacesRow, standIns := [], harness := (true, "97c13463047c67ef0b078a23e114d79cd985e4342689e31a56f4e233a835233e"), looks := false }, kinds := [], alts := [], laidByText := true, laidKinds := [.data], laidTests := true, laidLooks := .later }
def LexerPlacesCardSaid : Prop := Claim7.holds Tryd.pinned (.plain (OpenSpec.ofChange lexerPlacesSpec)) lexerPlacesCard

/-- THE TIED CARD OF 'tidegatelaw06.LexerNames'. -/
def lexerNamesCard : Claim7 := { stood := { row := lexerNamesRow, standIns := [], harness := (true, "97c13463047c67ef0b078a23e114d79cd985e4342689e31a56f4e233a835233e"), looks := false }, kinds := [], alts := [], laidByText := true, laidKinds := [.data], laidTests := true, laidLooks := .later }
def LexerNamesCardSaid : Prop := Claim7.holds Tryd.pinned (.plain (OpenSpec.ofChange lexerNamesSpec)) lexerNamesCard

/-- THE TIED CARD OF 'tidegatelaw06.LexerQuotes'. -/
def lexerQuotesCard : Claim7 := { stood := { row := lexerQuotesRow, standIns := [], harness := (true, "97c13463047c67ef0b078a23e114d79cd985e4342689e31a56f4e233a835233e"), looks := false }, kinds := [], alts := [], laidByText := true, laidKinds := [.data], laidTests := true, laidLooks := .later }
def LexerQuotesCardSaid : Prop := Claim7.holds Tryd.pinned (.plain (OpenSpec.ofChange lexerQuotesSpec)) lexerQuotesCard

/-- THE TIED CARD OF 'tidegatelaw06.LexerReturns'. -/
def lexerReturnsCard : Claim7 := { stood := { row := lexerReturnsRow, standIns := [], harness := (true, "97c13463047c67ef0b078a23e114d79cd985e4342689e31a56f4e233a835233e"), looks := false }, kinds := [], alts := [], laidByText := true, laidKinds := [.data], laidTests := true, laidLooks := .later }
def LexerReturnsCardSaid : Prop := Claim7.holds Tryd.pinned (.plain (OpenSpec.ofChange lexerReturnsSpec)) lexerReturnsCard

/-- THE TIED CARD OF 'tidegatelaw06.LexerStands'. -/
def lexerStandsCard : Claim7 := { stood := { row := lexerStandsRow, standIns := [], harness := (true, "97c13463047c67ef0b078a23e114d79cd985e4342689e31a56f4e233a835233e"), looks := false }, kinds := [], alts := [], laidByText := true, laidKinds := [.data], laidTests := true, laidLooks := .later }
def LexerStandsCardSaid : Prop := Claim7.holds Tryd.pinned (.plain (OpenSpec.ofChange lexerStandsSpec)) lexerStandsCard

/-- THE TIED CARD OF 'tidegatelaw06.LexerSeparates'. -/
def lexerSeparatesCard : Claim7 := { stood := { row := lexerSeparatesRow, standIns := [], harness := (true, "97c13463047c67ef0b078a23e114d79cd985e4342689e31a56f4e233a835233e"), looks := false }, kinds := [], alts := [], laidByText := true, laidKinds := [.data], laidTests := true, laidLooks := .later }
def LexerSeparatesCardSaid : Prop := Claim7.holds Tryd.pinned (.plain (OpenSpec.ofChange lexerSeparatesSpec)) lexerSeparatesCard

/-- THE TIED CARD OF 'tidegatelaw06.LexerGrows'. -/
def lexerGrowsCard : Claim7 := { stood := { row := lexerGrowsRow, standIns := [], harness := (true, "97c13463047c67ef0b078a23e114d79cd985e4342689e31a56f4e233a835233e"), looks := false }, kinds := [], alts := [], laidByText := true, laidKinds := [.data], laidTests := true, laidLooks := .later }
def LexerGrowsCardSaid : Prop := Claim7.holds Tryd.pinned (.plain (OpenSpec.ofChange lexerGrowsSpec)) lexerGrowsCard

/-- THE SECOND FORM's CARD OF 'tidegatelaw06.LexerScans'. -/
def lexerScansUptoCard : Claim7 := { stood := { row := lexerScansUptoRow, standIns := [], harness := (true, "97c13463047c67ef0b078a23e114d79cd985e4342689e31a56f4e233a835233e"), looks := false }, kinds := [], alts := [], laidByText := true, laidKinds := [.data], laidTests := true, laidLooks := .later }
def LexerScansUptoCardSaid : Prop := Claim7.holds Tryd.pinned (.plain (OpenSpec.upto lexerScansSpec)) lexerScansUptoCard

/-- THE SECOND FORM's CARD OF 'tidegatelaw06.LexerPlaces'. -/
def lexerPlacesUptoCard : Claim7 := { stood := { row := lexerPlacesUptoRow, standIns := [], harness := (true, "97c13463047c67ef0b078a23e114d79cd985e4342689e31a56f4e233a835233e"), looks := false }, kinds := [], alts := [], laidByText := true, laidKinds := [.data], laidTests := true, laidLooks := .later }
def LexerPlacesUptoCardSaid : Prop := Claim7.holds Tryd.pinned (.plain (OpenSpec.upto lexerPlacesSpec)) lexerPlacesUptoCard

/-- THE SECOND FORM's CARD OF 'tidegatelaw06.LexerNames'. -/
def lexerNamesUptoCard : Claim7 := { stood := { row := lexerNamesUptoRow, standIns := [], harness := (true, "97c13463047c67ef0b078a23e114d79cd985e4342689e31a56f4e233a835233e"), looks := false }, kinds := [], alts := [], laidByText := true, laidKinds := [.data], laidTests := true, laidLooks := .later }
def LexerNamesUptoCardSaid : Prop := Claim7.holds Tryd.pinned (.plain (OpenSpec.upto lexerNamesSpec)) lexerNamesUptoCard

/-- THE SECOND FORM's CARD OF 'tidegatelaw06.LexerQuotes'. -/
def lexerQuotesUptoCard : Claim7 := { stood := { row := lexerQuotesUptoRow, standIns := [], harness := (true, "97c13463047c67ef0b078a23e114d79cd985e4342689e31a56f4e233a835233e"), looks := false }, kinds := [], alts := [], laidByText := true, laidKinds := [.data], laidTests := true, laidLooks := .later }
def LexerQuotesUptoCardSaid : Prop := Claim7.holds Tryd.pinned (.plain (OpenSpec.upto lexerQuotesSpec)) lexerQuotesUptoCard

/-- THE SECOND FORM's CARD OF 'tidegatelaw06.LexerReturns'. -/
def lexerReturnsUptoCard : Claim7 := { stood := { row := lexerReturnsUptoRow, standIns := [], harness := (true, "97c13463047c67ef0b078a23e114d79cd985e4342689e31a56f4e233a835233e"), looks := false }, kinds := [], alts := [], laidByText := true, laidKinds := [.data], laidTests := true, laidLooks := .later }
def LexerReturnsUptoCardSaid : Prop := Claim7.holds Tryd.pinned (.plain (OpenSpec.upto lexerReturnsSpec)) lexerReturnsUptoCard

/-- THE SECOND FORM's CARD OF 'tidegatelaw06.LexerStands'. -/
def lexerStandsUptoCard : Claim7 := { stood := { row := lexerStandsUptoRow, standIns := [], harness := (true, "97c13463047c67ef0b078a23e114d79cd985e4342689e31a56f4e233a835233e"), looks := false }, kinds := [], alts := [], laidByText := true, laidKinds := [.data], laidTests := true, laidLooks := .later }
def LexerStandsUptoCardSaid : Prop := Claim7.holds Tryd.pinned (.plain (OpenSpec.upto lexerStandsSpec)) lexerStandsUptoCard

/-- THE SECOND FORM's CARD OF 'tidegatelaw06.LexerSeparates'. -/
def lexerSeparatesUptoCard : Claim7 := { stood := { row := lexerSeparatesUptoRow, standIns := [], harness := (true, "97c13463047c67ef0b078a23e114d79cd985e4342689e31a56f4e233a835233e"), looks := false }, kinds := [], alts := [], laidByText := true, laidKinds := [.data], laidTests := true, laidLooks := .later }
def LexerSeparatesUptoCardSaid : Prop := Claim7.holds Tryd.pinned (.plain (OpenSpec.upto lexerSeparatesSpec)) lexerSeparatesUptoCard

/-- THE SECOND FORM's CARD OF 'tidegatelaw06.LexerGrows'. -/
def lexerGrowsUptoCard : Claim7 := { stood := { row := lexerGrowsUptoRow, standIns := [], harness := (true, "97c13463047c67ef0b078a23e114d79cd985e4342689e31a56f4e233a835233e"), looks := false }, kinds := [], alts := [], laidByText := true, laidKinds := [.data], laidTests := true, laidLooks := .later }
def LexerGrowsUptoCardSaid : Prop := Claim7.holds Tryd.pinned (.plain (OpenSpec.upto lexerGrowsSpec)) lexerGrowsUptoCard
end Rows
end Go.Proofs.YtepnadmoflalnaaDoor
