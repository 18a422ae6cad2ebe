/-
  DERIVED. GIVEN WITH THE SEED: THE CARDS: each row of YtpgmglacdcfnaaaDoorRows.lean that lists a variable, with what it lists TIED to the program's text (the seventh form; the later family's looks); each row that meets fmt, with fmt's text TOLD by the authors' own Lean function (tested against real Go, not proved from fmt's source: count such statements apart). THE CARD IS WHAT COUNTS. Prove the row's statement (the work); the ties are given (YtpgmglacdcfnaaaDoorTie.lean); close each card by the builder's one call (the guide's Derived/Test/ToyasCard.lean, 'card_holds'). Laid BY PROGRAM, IN A SANDBOX (cutbox-door.mjs). By AI agents, Wed Nov 11 2026. No macro, syntax, notation, axiom, sorry.
-/
import Derived.Test.YtpgmglacdcfnaaaDoorRows
import GoSem.ClaimSeven
namespace Go.Proofs.YtpgmglacdcfnaaaDoor
namespace Rows

/-- THE TIED CARD OF 'tidegatelaw12.ParserEmbeds'. -/
def parserEmbedsCard : Claim7 := { stood := { row := parserEmbedsRow, standIns := [], harness := (true, "9164e8b16775c648ff883aa68ffb5efd92925e054dbcd343f43ce8bff93c29b2"), looks := false }, kinds := [], alts := [], laidByText := true, laidKinds := [.data, .widerDeep, .widerDeep, .widerDeep, .data], laidTests := true, laidLooks := .later }
def ParserEmbedsCardSaid : Prop := Claim7.holds Tryd.pinned (.plain (OpenSpec.ofChange parserEmbedsSpec)) parserEmbedsCard

/-- THE TIED CARD OF 'tidegatelaw12.ParserParenthesizes'. -/
def parserParenthesizesCard : Claim7 := { stood := { row := parserParenthesizesRow, standIns := [], harness := (true, "9164e8b16775c648ff883aa68ffb5efd92925e054dbcd343f43ce8bff93c29b2"), looks := false }, kinds := [], alts := [], laidByText := true, laidKinds := [.data, .widerDeep, .widerDeep, .widerDeep, .data], laidTests := true, laidLooks := .later }
def ParserParenthesizesCardSaid : Prop := Claim7.holds Tryd.pinned (.plain (OpenSpec.ofChange parserParenthesizesSpec)) parserParenthesizesCard

/-- THE TIED CARD OF 'tidegatelaw12.ParserNests'. -/
def parserNestsCard : Claim7 := { stood := { row := parserNestsRow, standIns := [], harness := (true, "9164e8b16775c648ff883aa68ffb5efd92925e054dbcd343f43ce8bff93c29b2"), looks := false }, kinds := [], alts := [], laidByText := true, laidKinds := [.data, .data, .widerDeep, .widerDeep, .widerDeep, .data], laidTests := true, laidLooks := .later }
def ParserNestsCardSaid : Prop := Claim7.holds Tryd.pinned (.plain (OpenSpec.ofChange parserNestsSpec)) parserNestsCard

/-- THE TIED CARD OF 'tidegatelaw12.ParserSpaces'. -/
def parserSpacesCard : Claim7 := { stood := { row := parserSpacesRow, standIns := [], harness := (true, "9164e8b16775c648ff883aa68ffb5efd92925e054dbcd343f43ce8bff93c29b2"), looks := false }, kinds := [], alts := [], laidByText := true, laidKinds := [.data, .data, .widerDeep, .widerDeep, .widerDeep, .data], laidTests := true, laidLooks := .later }
def ParserSpacesCardSaid : Prop := Claim7.holds Tryd.pinned (.plain (OpenSpec.ofChange parserSpacesSpec)) parserSpacesCard

/-- THE TIED CARD OF 'tidegatelaw12.ParserOrders'. -/
def parserOrdersCard : Claim7 := { stood := { row := parserOrdersRow, standIns := [], harness := (true, "9164e8b16775c648ff883aa68ffb5efd92925e054dbcd343f43ce8bff93c29b2"), looks := false }, kinds := [], alts := [], laidByText := true, laidKinds := [.data, .data, .widerDeep, .widerDeep, .widerDeep, .data], laidTests := true, laidLooks := .later }
def ParserOrdersCardSaid : Prop := Claim7.holds Tryd.pinned (.plain (OpenSpec.ofChange parserOrdersSpec)) parserOrdersCard

/-- THE SECOND FORM's CARD OF 'tidegatelaw12.ParserEmbeds'. -/
def parserEmbedsUptoCard : Claim7 := { stood := { row := parserEmbedsUptoRow, standIns := [], harness := (true, "9164e8b16775c648ff883aa68ffb5efd92925e054dbcd343f43ce8bff93c29b2"), looks := false }, kinds := [], alts := [], laidByText := true, laidKinds := [.data, .widerDeep, .widerDeep, .widerDeep, .data], laidTests := true, laidLooks := .later }
def ParserEmbedsUptoCardSaid : Prop := Claim7.holds Tryd.pinned (.plain (OpenSpec.upto parserEmbedsSpec)) parserEmbedsUptoCard

/-- THE SECOND FORM's CARD OF 'tidegatelaw12.ParserParenthesizes'. -/
def parserParenthesizesUptoCard : Claim7 := { stood := { row := parserParenthesizesUptoRow, standIns := [], harness := (true, "9164e8b16775c648ff883aa68ffb5efd92925e054dbcd343f43ce8bff93c29b2"), looks := false }, kinds := [], alts := [], laidByText := true, laidKinds := [.data, .widerDeep, .widerDeep, .widerDeep, .data], laidTests := true, laidLooks := .later }
def ParserParenthesizesUptoCardSaid : Prop := Claim7.holds Tryd.pinned (.plain (OpenSpec.upto parserParenthesizesSpec)) parserParenthesizesUptoCard

/-- THE SECOND FORM's CARD OF 'tidegatelaw12.ParserNests'. -/
def parserNestsUptoCard : Claim7 := { stood := { row := parserNestsUptoRow, standIns := [], harness := (true, "9164e8b16775c648ff883aa68ffb5efd92925e054dbcd343f43ce8bff93c29b2"), looks := false }, kinds := [], alts := [], laidByText := true, laidKinds := [.data, .data, .widerDeep, .widerDeep, .widerDeep, .data], laidTests := true, laidLooks := .later }
def ParserNestsUptoCardSaid : Prop := Claim7.holds Tryd.pinned (.plain (OpenSpec.upto parserNestsSpec)) parserNestsUptoCard

/-- THE SECOND FORM's CARD OF 'tidegatelaw12.ParserSpaces'. -/
def parserSpacesUptoCard : Claim7 := { stood := { row := parserSpacesUptoRow, standIns := [], harness := (true, "9164e8b16775c648ff883aa68ffb5efd92925e054dbcd343f43ce8bff93c29b2"), looks := false }, kinds := [], alts := [], laidByText := true, laidKinds := [.data, .data, .widerDeep, .widerDeep, .widerDeep, .data], laidTests := true, laidLooks := .later }
def ParserSpacesUptoCardSaid : Prop := Claim7.holds Tryd.pinned (.plain (OpenSpec.upto parserSpacesSpec)) parserSpacesUptoCard

/-- THE SECOND FORM's CARD OF 'tidegatelaw12.ParserOrders'. -/
def parserOrdersUptoCard : Claim7 := { stood := { row := parserOrdersUptoRow, standIns := [], harness := (true, "9164e8b16775c648ff883aa68ffb5efd92925e054dbcd343f43ce8bff93c29b2"), looks := false }, kinds := [], alts := [], laidByText := true, laidKinds := [.data, .data, .widerDeep, .widerDeep, .widerDeep, .data], laidTests := true, laidLooks := .later }
def ParserOrdersUptoCardSaid : Prop := Claim7.holds Tryd.pinned (.plain (OpenSpec.upto parserOrdersSpec)) parserOrdersUptoCard
end Rows
end Go.Proofs.YtpgmglacdcfnaaaDoor
