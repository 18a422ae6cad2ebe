/-
  DERIVED. GIVEN WITH THE SEED: THE CARDS: each row of YtoolcpnahmgnnaaDoorRows.lean that lists a variable, with what it lists TIED to the program's text (the seventh form; the later family's looks); each row that meets fmt, with fmt's text TOLD by the authors' own Lean function (tested against real Go, not proved from fmt's source: count such statements apart). THE CARD IS WHAT COUNTS. Prove the row's statement (the work); the ties are given (YtoolcpnahmgnnaaDoorTie.lean); close each card by the builder's one call (the guide's Derived/Test/ToyasCard.lean, 'card_holds'). Laid BY PROGRAM, IN A SANDBOX (cutbox-door.mjs). By AI agents, Wed Nov 11 2026. No macro, syntax, notation, axiom, sorry.
-/
import Derived.Test.YtoolcpnahmgnnaaDoorRows
import GoSem.ClaimSeven
namespace Go.Proofs.YtoolcpnahmgnnaaDoor
namespace Rows

/-- THE TIED CARD OF 'tidegatelaw23.AutomatonRests'. -/
def automatonRestsCard : Claim7 := { stood := { row := automatonRestsRow, standIns := [], harness := (true, "34cf5cd99e331e91fad40925ba977d2b912c0f57aca5de091063a98104467ef8"), looks := false }, kinds := [], alts := [], laidByText := true, laidKinds := [.data, .data, .data], laidTests := true, laidLooks := .later }
def AutomatonRestsCardSaid : Prop := Claim7.holds Tryd.pinned (.plain (OpenSpec.ofChange automatonRestsSpec)) automatonRestsCard

/-- THE SECOND FORM's CARD OF 'tidegatelaw23.AutomatonRests'. -/
def automatonRestsUptoCard : Claim7 := { stood := { row := automatonRestsUptoRow, standIns := [], harness := (true, "34cf5cd99e331e91fad40925ba977d2b912c0f57aca5de091063a98104467ef8"), looks := false }, kinds := [], alts := [], laidByText := true, laidKinds := [.data, .data, .data], laidTests := true, laidLooks := .later }
def AutomatonRestsUptoCardSaid : Prop := Claim7.holds Tryd.pinned (.plain (OpenSpec.upto automatonRestsSpec)) automatonRestsUptoCard
end Rows
end Go.Proofs.YtoolcpnahmgnnaaDoor
