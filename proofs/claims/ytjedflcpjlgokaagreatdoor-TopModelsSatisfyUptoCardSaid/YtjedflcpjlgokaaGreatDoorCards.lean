/-
  DERIVED. GIVEN WITH THE SEED: THE CARDS: each row of YtjedflcpjlgokaaGreatDoorRows.lean that lists a variable, with what it lists TIED to the program's text (the seventh form; the later family's looks); each row that meets fmt, with fmt's text TOLD by the authors' own Lean function (tested against real Go, not proved from fmt's source: count such statements apart). THE CARD IS WHAT COUNTS. Prove the row's statement (the work); the ties are given (YtjedflcpjlgokaaGreatDoorTie.lean); close each card by the builder's one call (the guide's Derived/Test/ToyasCard.lean, 'card_holds'). Laid BY PROGRAM, IN A SANDBOX (cutbox-door.mjs). By AI agents, Wed Nov 11 2026. No macro, syntax, notation, axiom, sorry.
-/
import Derived.Test.YtjedflcpjlgokaaGreatDoorRows
import GoSem.ClaimSeven
namespace Go.Proofs.YtjedflcpjlgokaaGreatDoor
namespace Rows

/-- THE TIED CARD OF 'tidegatetop.TopClausesDecide'. -/
def topClausesDecideCard : Claim7 := { stood := { row := topClausesDecideRow, standIns := [], harness := (true, "da80d406b8b50ac692a6d78bf43de339511e4d8ec8e39b9ece00222015b503b3"), looks := false }, kinds := [], alts := [], laidByText := true, laidKinds := [.data, .data, .data], laidTests := true, laidLooks := .later }
def TopClausesDecideCardSaid : Prop := Claim7.holds Tryz.pinned (.plain (OpenSpec.ofChange topClausesDecideSpec)) topClausesDecideCard

/-- THE TIED CARD OF 'tidegatetop.TopImplicationsChain'. -/
def topImplicationsChainCard : Claim7 := { stood := { row := topImplicationsChainRow, standIns := [], harness := (true, "da80d406b8b50ac692a6d78bf43de339511e4d8ec8e39b9ece00222015b503b3"), looks := false }, kinds := [], alts := [], laidByText := true, laidKinds := [.data, .data, .data], laidTests := true, laidLooks := .later }
def TopImplicationsChainCardSaid : Prop := Claim7.holds Tryz.pinned (.plain (OpenSpec.ofChange topImplicationsChainSpec)) topImplicationsChainCard

/-- THE TIED CARD OF 'tidegatetop.TopModelsSatisfy'. -/
def topModelsSatisfyCard : Claim7 := { stood := { row := topModelsSatisfyRow, standIns := [], harness := (true, "da80d406b8b50ac692a6d78bf43de339511e4d8ec8e39b9ece00222015b503b3"), looks := false }, kinds := [], alts := [], laidByText := true, laidKinds := [.data, .data, .data], laidTests := true, laidLooks := .later }
def TopModelsSatisfyCardSaid : Prop := Claim7.holds Tryz.pinned (.plain (OpenSpec.ofChange topModelsSatisfySpec)) topModelsSatisfyCard

/-- THE SECOND FORM's CARD OF 'tidegatetop.TopClausesDecide'. -/
def topClausesDecideUptoCard : Claim7 := { stood := { row := topClausesDecideUptoRow, standIns := [], harness := (true, "da80d406b8b50ac692a6d78bf43de339511e4d8ec8e39b9ece00222015b503b3"), looks := false }, kinds := [], alts := [], laidByText := true, laidKinds := [.data, .data, .data], laidTests := true, laidLooks := .later }
def TopClausesDecideUptoCardSaid : Prop := Claim7.holds Tryz.pinned (.plain (OpenSpec.upto topClausesDecideSpec)) topClausesDecideUptoCard

/-- THE SECOND FORM's CARD OF 'tidegatetop.TopImplicationsChain'. -/
def topImplicationsChainUptoCard : Claim7 := { stood := { row := topImplicationsChainUptoRow, standIns := [], harness := (true, "da80d406b8b50ac692a6d78bf43de339511e4d8ec8e39b9ece00222015b503b3"), looks := false }, kinds := [], alts := [], laidByText := true, laidKinds := [.data, .data, .data], laidTests := true, laidLooks := .later }
def TopImplicationsChainUptoCardSaid : Prop := Claim7.holds Tryz.pinned (.plain (OpenSpec.upto topImplicationsChainSpec)) topImplicationsChainUptoCard

/-- THE SECOND FORM's CARD OF 'tidegatetop.TopModelsSatisfy'. -/
def topModelsSatisfyUptoCard : Claim7 := { stood := { row := topModelsSatisfyUptoRow, standIns := [], harness := (true, "da80d406b8b50ac692a6d78bf43de339511e4d8ec8e39b9ece00222015b503b3"), looks := false }, kinds := [], alts := [], laidByText := true, laidKinds := [.data, .data, .data], laidTests := true, laidLooks := .later }
def TopModelsSatisfyUptoCardSaid : Prop := Claim7.holds Tryz.pinned (.plain (OpenSpec.upto topModelsSatisfySpec)) topModelsSatisfyUptoCard
end Rows
end Go.Proofs.YtjedflcpjlgokaaGreatDoor
