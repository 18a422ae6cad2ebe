/-
  DERIVED. GIVEN WITH THE SEED: THE CARDS: each row of YtoolcpnahmgnnaaGreatDoorRows.lean that lists a variable, with what it lists TIED to the program's text (the seventh form; the later family's looks); each row that meets fmt, with fmt's text TOLD by the authors' own Lean function (tested against real Go, not proved from fmt's source: count such statements apart). THE CARD IS WHAT COUNTS. Prove the row's statement (the work); the ties are given (YtoolcpnahmgnnaaGreatDoorTie.lean); close each card by the builder's one call (the guide's Derived/Test/ToyasCard.lean, 'card_holds'). Laid BY PROGRAM, IN A SANDBOX (cutbox-door.mjs). By AI agents, Wed Nov 11 2026. No macro, syntax, notation, axiom, sorry.
-/
import Derived.Test.YtoolcpnahmgnnaaGreatDoorRows
import GoSem.ClaimSeven
namespace Go.Proofs.YtoolcpnahmgnnaaGreatDoor
namespace Rows

/-- THE TIED CARD OF 'tidegatelaw23.AutomatonChecks'. -/
def automatonChecksCard : Claim7 := { stood := { row := automatonChecksRow, standIns := [], harness := (true, "3959ed7215b30d90f0759fcaa3803424e53bd57b538ca2a3a9105cbb2a349ea1"), looks := false }, kinds := [], alts := [], laidByText := true, laidKinds := [.data, .data, .data], laidTests := true, laidLooks := .later }
def AutomatonChecksCardSaid : Prop := Claim7.holds Tryz.pinned (.plain (OpenSpec.ofChange automatonChecksSpec)) automatonChecksCard

/-- THE TIED CARD OF 'tidegatelaw23.AutomatonTrims'. -/
def automatonTrimsCard : Claim7 := { stood := { row := automatonTrimsRow, standIns := [], harness := (true, "3959ed7215b30d90f0759fcaa3803424e53bd57b538ca2a3a9105cbb2a349ea1"), looks := false }, kinds := [], alts := [], laidByText := true, laidKinds := [.data, .data, .data], laidTests := true, laidLooks := .later }
def AutomatonTrimsCardSaid : Prop := Claim7.holds Tryz.pinned (.plain (OpenSpec.ofChange automatonTrimsSpec)) automatonTrimsCard

/-- THE TIED CARD OF 'tidegatelaw23.AutomatonMatches'. -/
def automatonMatchesCard : Claim7 := { stood := { row := automatonMatchesRow, standIns := [], harness := (true, "3959ed7215b30d90f0759fcaa3803424e53bd57b538ca2a3a9105cbb2a349ea1"), looks := false }, kinds := [], alts := [], laidByText := true, laidKinds := [.data, .data, .data], laidTests := true, laidLooks := .later }
def AutomatonMatchesCardSaid : Prop := Claim7.holds Tryz.pinned (.plain (OpenSpec.ofChange automatonMatchesSpec)) automatonMatchesCard

/-- THE TIED CARD OF 'tidegatelaw23.AutomatonTurns'. -/
def automatonTurnsCard : Claim7 := { stood := { row := automatonTurnsRow, standIns := [], harness := (true, "3959ed7215b30d90f0759fcaa3803424e53bd57b538ca2a3a9105cbb2a349ea1"), looks := false }, kinds := [], alts := [], laidByText := true, laidKinds := [.data, .data, .data], laidTests := true, laidLooks := .later }
def AutomatonTurnsCardSaid : Prop := Claim7.holds Tryz.pinned (.plain (OpenSpec.ofChange automatonTurnsSpec)) automatonTurnsCard

/-- THE TIED CARD OF 'tidegatelaw23.AutomatonReaches'. -/
def automatonReachesCard : Claim7 := { stood := { row := automatonReachesRow, standIns := [], harness := (true, "3959ed7215b30d90f0759fcaa3803424e53bd57b538ca2a3a9105cbb2a349ea1"), looks := false }, kinds := [], alts := [], laidByText := true, laidKinds := [.data, .data, .data], laidTests := true, laidLooks := .later }
def AutomatonReachesCardSaid : Prop := Claim7.holds Tryz.pinned (.plain (OpenSpec.ofChange automatonReachesSpec)) automatonReachesCard

/-- THE TIED CARD OF 'tidegatelaw23.AutomatonCompares'. -/
def automatonComparesCard : Claim7 := { stood := { row := automatonComparesRow, standIns := [], harness := (true, "3959ed7215b30d90f0759fcaa3803424e53bd57b538ca2a3a9105cbb2a349ea1"), looks := false }, kinds := [], alts := [], laidByText := true, laidKinds := [.data, .data, .data], laidTests := true, laidLooks := .later }
def AutomatonComparesCardSaid : Prop := Claim7.holds Tryz.pinned (.plain (OpenSpec.ofChange automatonComparesSpec)) automatonComparesCard

/-- THE SECOND FORM's CARD OF 'tidegatelaw23.AutomatonChecks'. -/
def automatonChecksUptoCard : Claim7 := { stood := { row := automatonChecksUptoRow, standIns := [], harness := (true, "3959ed7215b30d90f0759fcaa3803424e53bd57b538ca2a3a9105cbb2a349ea1"), looks := false }, kinds := [], alts := [], laidByText := true, laidKinds := [.data, .data, .data], laidTests := true, laidLooks := .later }
def AutomatonChecksUptoCardSaid : Prop := Claim7.holds Tryz.pinned (.plain (OpenSpec.upto automatonChecksSpec)) automatonChecksUptoCard

/-- THE SECOND FORM's CARD OF 'tidegatelaw23.AutomatonTrims'. -/
def automatonTrimsUptoCard : Claim7 := { stood := { row := automatonTrimsUptoRow, standIns := [], harness := (true, "3959ed7215b30d90f0759fcaa3803424e53bd57b538ca2a3a9105cbb2a349ea1"), looks := false }, kinds := [], alts := [], laidByText := true, laidKinds := [.data, .data, .data], laidTests := true, laidLooks := .later }
def AutomatonTrimsUptoCardSaid : Prop := Claim7.holds Tryz.pinned (.plain (OpenSpec.upto automatonTrimsSpec)) automatonTrimsUptoCard

/-- THE SECOND FORM's CARD OF 'tidegatelaw23.AutomatonMatches'. -/
def automatonMatchesUptoCard : Claim7 := { stood := { row := automatonMatchesUptoRow, standIns := [], harness := (true, "3959ed7215b30d90f0759fcaa3803424e53bd57b538ca2a3a9105cbb2a349ea1"), looks := false }, kinds := [], alts := [], laidByText := true, laidKinds := [.data, .data, .data], laidTests := true, laidLooks := .later }
def AutomatonMatchesUptoCardSaid : Prop := Claim7.holds Tryz.pinned (.plain (OpenSpec.upto automatonMatchesSpec)) automatonMatchesUptoCard

/-- THE SECOND FORM's CARD OF 'tidegatelaw23.AutomatonTurns'. -/
def automatonTurnsUptoCard : Claim7 := { stood := { row := automatonTurnsUptoRow, standIns := [], harness := (true, "3959ed7215b30d90f0759fcaa3803424e53bd57b538ca2a3a9105cbb2a349ea1"), looks := false }, kinds := [], alts := [], laidByText := true, laidKinds := [.data, .data, .data], laidTests := true, laidLooks := .later }
def AutomatonTurnsUptoCardSaid : Prop := Claim7.holds Tryz.pinned (.plain (OpenSpec.upto automatonTurnsSpec)) automatonTurnsUptoCard

/-- THE SECOND FORM's CARD OF 'tidegatelaw23.AutomatonReaches'. -/
def automatonReachesUptoCard : Claim7 := { stood := { row := automatonReachesUptoRow, standIns := [], harness := (true, "3959ed7215b30d90f0759fcaa3803424e53bd57b538ca2a3a9105cbb2a349ea1"), looks := false }, kinds := [], alts := [], laidByText := true, laidKinds := [.data, .data, .data], laidTests := true, laidLooks := .later }
def AutomatonReachesUptoCardSaid : Prop := Claim7.holds Tryz.pinned (.plain (OpenSpec.upto automatonReachesSpec)) automatonReachesUptoCard

/-- THE SECOND FORM's CARD OF 'tidegatelaw23.AutomatonCompares'. -/
def automatonComparesUptoCard : Claim7 := { stood := { row := automatonComparesUptoRow, standIns := [], harness := (true, "3959ed7215b30d90f0759fcaa3803424e53bd57b538ca2a3a9105cbb2a349ea1"), looks := false }, kinds := [], alts := [], laidByText := true, laidKinds := [.data, .data, .data], laidTests := true, laidLooks := .later }
def AutomatonComparesUptoCardSaid : Prop := Claim7.holds Tryz.pinned (.plain (OpenSpec.upto automatonComparesSpec)) automatonComparesUptoCard
end Rows
end Go.Proofs.YtoolcpnahmgnnaaGreatDoor
