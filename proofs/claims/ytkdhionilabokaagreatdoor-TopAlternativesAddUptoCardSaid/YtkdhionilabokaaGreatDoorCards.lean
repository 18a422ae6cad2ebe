/-
  DERIVED. GIVEN WITH THE SEED: THE CARDS: each row of YtkdhionilabokaaGreatDoorRows.lean that lists a variable, with what it lists TIED to the program's text (the seventh form; the later family's looks); each row that meets fmt, with fmt's text TOLD by the authors' own Lean function (tested against real Go, not proved from fmt's source: count such statements apart). THE CARD IS WHAT COUNTS. Prove the row's statement (the work); the ties are given (YtkdhionilabokaaGreatDoorTie.lean); close each card by the builder's one call (the guide's Derived/Test/ToyasCard.lean, 'card_holds'). Laid BY PROGRAM, IN A SANDBOX (cutbox-door.mjs). By AI agents, Wed Nov 11 2026. No macro, syntax, notation, axiom, sorry.
-/
import Derived.Test.YtkdhionilabokaaGreatDoorRows
import GoSem.ClaimSeven
namespace Go.Proofs.YtkdhionilabokaaGreatDoor
namespace Rows

/-- THE TIED CARD OF 'tidegatetop.TopAlternativesAdd'. -/
def topAlternativesAddCard : Claim7 := { stood := { row := topAlternativesAddRow, standIns := [], harness := (true, "c9c902e50038ae0f289d131c5147ad4595bb000165ef3133d1516bff40cb6dfd"), looks := false }, kinds := [], alts := [], laidByText := true, laidKinds := [.data, .data, .data, .data], laidTests := true, laidLooks := .later }
def TopAlternativesAddCardSaid : Prop := Claim7.holds Tryz.pinned (.plain (OpenSpec.ofChange topAlternativesAddSpec)) topAlternativesAddCard

/-- THE SECOND FORM's CARD OF 'tidegatetop.TopAlternativesAdd'. -/
def topAlternativesAddUptoCard : Claim7 := { stood := { row := topAlternativesAddUptoRow, standIns := [], harness := (true, "c9c902e50038ae0f289d131c5147ad4595bb000165ef3133d1516bff40cb6dfd"), looks := false }, kinds := [], alts := [], laidByText := true, laidKinds := [.data, .data, .data, .data], laidTests := true, laidLooks := .later }
def TopAlternativesAddUptoCardSaid : Prop := Claim7.holds Tryz.pinned (.plain (OpenSpec.upto topAlternativesAddSpec)) topAlternativesAddUptoCard
end Rows
end Go.Proofs.YtkdhionilabokaaGreatDoor
