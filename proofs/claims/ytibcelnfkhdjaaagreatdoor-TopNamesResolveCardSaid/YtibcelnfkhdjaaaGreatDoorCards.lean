/-
  DERIVED. GIVEN WITH THE SEED: THE CARDS: each row of YtibcelnfkhdjaaaGreatDoorRows.lean that lists a variable, with what it lists TIED to the program's text (the seventh form; the later family's looks); each row that meets fmt, with fmt's text TOLD by the authors' own Lean function (tested against real Go, not proved from fmt's source: count such statements apart). THE CARD IS WHAT COUNTS. Prove the row's statement (the work); the ties are given (YtibcelnfkhdjaaaGreatDoorTie.lean); close each card by the builder's one call (the guide's Derived/Test/ToyasCard.lean, 'card_holds'). Laid BY PROGRAM, IN A SANDBOX (cutbox-door.mjs). By AI agents, Wed Nov 11 2026. No macro, syntax, notation, axiom, sorry.
-/
import Derived.Test.YtibcelnfkhdjaaaGreatDoorRows
import GoSem.ClaimSeven
namespace Go.Proofs.YtibcelnfkhdjaaaGreatDoor
namespace Rows

/-- THE TIED CARD OF 'tidegatetop.TopProgramsReturn'. -/
def topProgramsReturnCard : Claim7 := { stood := { row := topProgramsReturnRow, standIns := [], harness := (true, "48046069086b94ed69b231222cfc7e8820bd2738fbfef24e226227cffda65442"), looks := false }, kinds := [], alts := [], laidByText := true, laidKinds := [.data, .data, .data, .data, .data, .widerDeep, .widerDeep, .widerDeep, .data, .data], laidTests := true, laidLooks := .later }
def TopProgramsReturnCardSaid : Prop := Claim7.holds Tryz.pinned (.plain (OpenSpec.ofChange topProgramsReturnSpec)) topProgramsReturnCard

/-- THE TIED CARD OF 'tidegatetop.TopNamesResolve'. -/
def topNamesResolveCard : Claim7 := { stood := { row := topNamesResolveRow, standIns := [], harness := (true, "48046069086b94ed69b231222cfc7e8820bd2738fbfef24e226227cffda65442"), looks := false }, kinds := [], alts := [], laidByText := true, laidKinds := [.data, .data, .data, .data, .data, .data, .widerDeep, .widerDeep, .widerDeep, .data, .data, .data, .pinned], laidTests := true, laidLooks := .later }
def TopNamesResolveCardSaid : Prop := Claim7.holds Tryz.pinned (.plain (OpenSpec.ofChange topNamesResolveSpec)) topNamesResolveCard

/-- THE SECOND FORM's CARD OF 'tidegatetop.TopProgramsReturn'. -/
def topProgramsReturnUptoCard : Claim7 := { stood := { row := topProgramsReturnUptoRow, standIns := [], harness := (true, "48046069086b94ed69b231222cfc7e8820bd2738fbfef24e226227cffda65442"), looks := false }, kinds := [], alts := [], laidByText := true, laidKinds := [.data, .data, .data, .data, .data, .widerDeep, .widerDeep, .widerDeep, .data, .data], laidTests := true, laidLooks := .later }
def TopProgramsReturnUptoCardSaid : Prop := Claim7.holds Tryz.pinned (.plain (OpenSpec.upto topProgramsReturnSpec)) topProgramsReturnUptoCard

/-- THE SECOND FORM's CARD OF 'tidegatetop.TopNamesResolve'. -/
def topNamesResolveUptoCard : Claim7 := { stood := { row := topNamesResolveUptoRow, standIns := [], harness := (true, "48046069086b94ed69b231222cfc7e8820bd2738fbfef24e226227cffda65442"), looks := false }, kinds := [], alts := [], laidByText := true, laidKinds := [.data, .data, .data, .data, .data, .data, .widerDeep, .widerDeep, .widerDeep, .data, .data, .data, .pinned], laidTests := true, laidLooks := .later }
def TopNamesResolveUptoCardSaid : Prop := Claim7.holds Tryz.pinned (.plain (OpenSpec.upto topNamesResolveSpec)) topNamesResolveUptoCard
end Rows
end Go.Proofs.YtibcelnfkhdjaaaGreatDoor
