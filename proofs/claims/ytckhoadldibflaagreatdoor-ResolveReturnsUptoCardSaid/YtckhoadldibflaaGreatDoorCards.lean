/-
  DERIVED. GIVEN WITH THE SEED: THE CARDS: each row of YtckhoadldibflaaGreatDoorRows.lean that lists a variable, with what it lists TIED to the program's text (the seventh form; the later family's looks); each row that meets fmt, with fmt's text TOLD by the authors' own Lean function (tested against real Go, not proved from fmt's source: count such statements apart). THE CARD IS WHAT COUNTS. Prove the row's statement (the work); the ties are given (YtckhoadldibflaaGreatDoorTie.lean); close each card by the builder's one call (the guide's Derived/Test/ToyasCard.lean, 'card_holds'). Laid BY PROGRAM, IN A SANDBOX (cutbox-door.mjs). By AI agents, Wed Nov 11 2026. No macro, syntax, notation, axiom, sorry.
-/
import Derived.Test.YtckhoadldibflaaGreatDoorRows
import GoSem.ClaimSeven
namespace Go.Proofs.YtckhoadldibflaaGreatDoor
namespace Rows

/-- THE TIED CARD OF 'tidegatelaw14.ResolveQueries'. -/
def resolveQueriesCard : Claim7 := { stood := { row := resolveQueriesRow, standIns := [], harness := (true, "2b585b5605a1bcfbe7e0732756f16a46f4231c1cca7f253e70bf13adaf04cc39"), looks := false }, kinds := [], alts := [], laidByText := true, laidKinds := [.data, .data, .data, .data, .widerDeep, .widerDeep, .widerDeep, .data, .data], laidTests := true, laidLooks := .later }
def ResolveQueriesCardSaid : Prop := Claim7.holds Tryz.pinned (.plain (OpenSpec.ofChange resolveQueriesSpec)) resolveQueriesCard

/-- THE TIED CARD OF 'tidegatelaw14.ResolveRenames'. -/
def resolveRenamesCard : Claim7 := { stood := { row := resolveRenamesRow, standIns := [], harness := (true, "2b585b5605a1bcfbe7e0732756f16a46f4231c1cca7f253e70bf13adaf04cc39"), looks := false }, kinds := [], alts := [], laidByText := true, laidKinds := [.data, .data, .data, .data, .widerDeep, .widerDeep, .widerDeep, .data, .data], laidTests := true, laidLooks := .later }
def ResolveRenamesCardSaid : Prop := Claim7.holds Tryz.pinned (.plain (OpenSpec.ofChange resolveRenamesSpec)) resolveRenamesCard

/-- THE TIED CARD OF 'tidegatelaw14.ResolveTypes'. -/
def resolveTypesCard : Claim7 := { stood := { row := resolveTypesRow, standIns := [], harness := (true, "2b585b5605a1bcfbe7e0732756f16a46f4231c1cca7f253e70bf13adaf04cc39"), looks := false }, kinds := [], alts := [], laidByText := true, laidKinds := [.data, .data, .data, .data, .widerDeep, .widerDeep, .widerDeep, .data, .data], laidTests := true, laidLooks := .later }
def ResolveTypesCardSaid : Prop := Claim7.holds Tryz.pinned (.plain (OpenSpec.ofChange resolveTypesSpec)) resolveTypesCard

/-- THE TIED CARD OF 'tidegatelaw14.ResolvePrograms'. -/
def resolveProgramsCard : Claim7 := { stood := { row := resolveProgramsRow, standIns := [], harness := (true, "2b585b5605a1bcfbe7e0732756f16a46f4231c1cca7f253e70bf13adaf04cc39"), looks := false }, kinds := [], alts := [], laidByText := true, laidKinds := [.data, .data, .data, .data, .widerDeep, .widerDeep, .widerDeep, .data, .data], laidTests := true, laidLooks := .later }
def ResolveProgramsCardSaid : Prop := Claim7.holds Tryz.pinned (.plain (OpenSpec.ofChange resolveProgramsSpec)) resolveProgramsCard

/-- THE TIED CARD OF 'tidegatelaw14.ResolveExists'. -/
def resolveExistsCard : Claim7 := { stood := { row := resolveExistsRow, standIns := [], harness := (true, "2b585b5605a1bcfbe7e0732756f16a46f4231c1cca7f253e70bf13adaf04cc39"), looks := false }, kinds := [], alts := [], laidByText := true, laidKinds := [.data, .data, .data, .data, .widerDeep, .widerDeep, .widerDeep, .data, .data], laidTests := true, laidLooks := .later }
def ResolveExistsCardSaid : Prop := Claim7.holds Tryz.pinned (.plain (OpenSpec.ofChange resolveExistsSpec)) resolveExistsCard

/-- THE TIED CARD OF 'tidegatelaw14.ResolveShows'. -/
def resolveShowsCard : Claim7 := { stood := { row := resolveShowsRow, standIns := [], harness := (true, "2b585b5605a1bcfbe7e0732756f16a46f4231c1cca7f253e70bf13adaf04cc39"), looks := false }, kinds := [], alts := [], laidByText := true, laidKinds := [.data, .data, .data, .data, .widerDeep, .widerDeep, .widerDeep, .data, .data], laidTests := true, laidLooks := .later }
def ResolveShowsCardSaid : Prop := Claim7.holds Tryz.pinned (.plain (OpenSpec.ofChange resolveShowsSpec)) resolveShowsCard

/-- THE TIED CARD OF 'tidegatelaw14.ResolveSources'. -/
def resolveSourcesCard : Claim7 := { stood := { row := resolveSourcesRow, standIns := [], harness := (true, "2b585b5605a1bcfbe7e0732756f16a46f4231c1cca7f253e70bf13adaf04cc39"), looks := false }, kinds := [], alts := [], laidByText := true, laidKinds := [.data, .data, .data, .data, .widerDeep, .widerDeep, .widerDeep, .data, .data], laidTests := true, laidLooks := .later }
def ResolveSourcesCardSaid : Prop := Claim7.holds Tryz.pinned (.plain (OpenSpec.ofChange resolveSourcesSpec)) resolveSourcesCard

/-- THE TIED CARD OF 'tidegatelaw14.ResolveReturns'. -/
def resolveReturnsCard : Claim7 := { stood := { row := resolveReturnsRow, standIns := [], harness := (true, "2b585b5605a1bcfbe7e0732756f16a46f4231c1cca7f253e70bf13adaf04cc39"), looks := false }, kinds := [], alts := [], laidByText := true, laidKinds := [.data, .data, .data, .data, .data, .widerDeep, .widerDeep, .widerDeep, .data, .data], laidTests := true, laidLooks := .later }
def ResolveReturnsCardSaid : Prop := Claim7.holds Tryz.pinned (.plain (OpenSpec.ofChange resolveReturnsSpec)) resolveReturnsCard

/-- THE SECOND FORM's CARD OF 'tidegatelaw14.ResolveQueries'. -/
def resolveQueriesUptoCard : Claim7 := { stood := { row := resolveQueriesUptoRow, standIns := [], harness := (true, "2b585b5605a1bcfbe7e0732756f16a46f4231c1cca7f253e70bf13adaf04cc39"), looks := false }, kinds := [], alts := [], laidByText := true, laidKinds := [.data, .data, .data, .data, .widerDeep, .widerDeep, .widerDeep, .data, .data], laidTests := true, laidLooks := .later }
def ResolveQueriesUptoCardSaid : Prop := Claim7.holds Tryz.pinned (.plain (OpenSpec.upto resolveQueriesSpec)) resolveQueriesUptoCard

/-- THE SECOND FORM's CARD OF 'tidegatelaw14.ResolveRenames'. -/
def resolveRenamesUptoCard : Claim7 := { stood := { row := resolveRenamesUptoRow, standIns := [], harness := (true, "2b585b5605a1bcfbe7e0732756f16a46f4231c1cca7f253e70bf13adaf04cc39"), looks := false }, kinds := [], alts := [], laidByText := true, laidKinds := [.data, .data, .data, .data, .widerDeep, .widerDeep, .widerDeep, .data, .data], laidTests := true, laidLooks := .later }
def ResolveRenamesUptoCardSaid : Prop := Claim7.holds Tryz.pinned (.plain (OpenSpec.upto resolveRenamesSpec)) resolveRenamesUptoCard

/-- THE SECOND FORM's CARD OF 'tidegatelaw14.ResolveTypes'. -/
def resolveTypesUptoCard : Claim7 := { stood := { row := resolveTypesUptoRow, standIns := [], harness := (true, "2b585b5605a1bcfbe7e0732756f16a46f4231c1cca7f253e70bf13adaf04cc39"), looks := false }, kinds := [], alts := [], laidByText := true, laidKinds := [.data, .data, .data, .data, .widerDeep, .widerDeep, .widerDeep, .data, .data], laidTests := true, laidLooks := .later }
def ResolveTypesUptoCardSaid : Prop := Claim7.holds Tryz.pinned (.plain (OpenSpec.upto resolveTypesSpec)) resolveTypesUptoCard

/-- THE SECOND FORM's CARD OF 'tidegatelaw14.ResolvePrograms'. -/
def resolveProgramsUptoCard : Claim7 := { stood := { row := resolveProgramsUptoRow, standIns := [], harness := (true, "2b585b5605a1bcfbe7e0732756f16a46f4231c1cca7f253e70bf13adaf04cc39"), looks := false }, kinds := [], alts := [], laidByText := true, laidKinds := [.data, .data, .data, .data, .widerDeep, .widerDeep, .widerDeep, .data, .data], laidTests := true, laidLooks := .later }
def ResolveProgramsUptoCardSaid : Prop := Claim7.holds Tryz.pinned (.plain (OpenSpec.upto resolveProgramsSpec)) resolveProgramsUptoCard

/-- THE SECOND FORM's CARD OF 'tidegatelaw14.ResolveExists'. -/
def resolveExistsUptoCard : Claim7 := { stood := { row := resolveExistsUptoRow, standIns := [], harness := (true, "2b585b5605a1bcfbe7e0732756f16a46f4231c1cca7f253e70bf13adaf04cc39"), looks := false }, kinds := [], alts := [], laidByText := true, laidKinds := [.data, .data, .data, .data, .widerDeep, .widerDeep, .widerDeep, .data, .data], laidTests := true, laidLooks := .later }
def ResolveExistsUptoCardSaid : Prop := Claim7.holds Tryz.pinned (.plain (OpenSpec.upto resolveExistsSpec)) resolveExistsUptoCard

/-- THE SECOND FORM's CARD OF 'tidegatelaw14.ResolveShows'. -/
def resolveShowsUptoCard : Claim7 := { stood := { row := resolveShowsUptoRow, standIns := [], harness := (true, "2b585b5605a1bcfbe7e0732756f16a46f4231c1cca7f253e70bf13adaf04cc39"), looks := false }, kinds := [], alts := [], laidByText := true, laidKinds := [.data, .data, .data, .data, .widerDeep, .widerDeep, .widerDeep, .data, .data], laidTests := true, laidLooks := .later }
def ResolveShowsUptoCardSaid : Prop := Claim7.holds Tryz.pinned (.plain (OpenSpec.upto resolveShowsSpec)) resolveShowsUptoCard

/-- THE SECOND FORM's CARD OF 'tidegatelaw14.ResolveSources'. -/
def resolveSourcesUptoCard : Claim7 := { stood := { row := resolveSourcesUptoRow, standIns := [], harness := (true, "2b585b5605a1bcfbe7e0732756f16a46f4231c1cca7f253e70bf13adaf04cc39"), looks := false }, kinds := [], alts := [], laidByText := true, laidKinds := [.data, .data, .data, .data, .widerDeep, .widerDeep, .widerDeep, .data, .data], laidTests := true, laidLooks := .later }
def ResolveSourcesUptoCardSaid : Prop := Claim7.holds Tryz.pinned (.plain (OpenSpec.upto resolveSourcesSpec)) resolveSourcesUptoCard

/-- THE SECOND FORM's CARD OF 'tidegatelaw14.ResolveReturns'. -/
def resolveReturnsUptoCard : Claim7 := { stood := { row := resolveReturnsUptoRow, standIns := [], harness := (true, "2b585b5605a1bcfbe7e0732756f16a46f4231c1cca7f253e70bf13adaf04cc39"), looks := false }, kinds := [], alts := [], laidByText := true, laidKinds := [.data, .data, .data, .data, .data, .widerDeep, .widerDeep, .widerDeep, .data, .data], laidTests := true, laidLooks := .later }
def ResolveReturnsUptoCardSaid : Prop := Claim7.holds Tryz.pinned (.plain (OpenSpec.upto resolveReturnsSpec)) resolveReturnsUptoCard
end Rows
end Go.Proofs.YtckhoadldibflaaGreatDoor
