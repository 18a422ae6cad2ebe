/-
  DERIVED. GIVEN WITH THE SEED: THE CARDS: each row of YtkddpedfbicbeaaGreatDoorRows.lean that lists a variable, with what it lists TIED to the program's text (the seventh form; the later family's looks); each row that meets fmt, with fmt's text TOLD by the authors' own Lean function (tested against real Go, not proved from fmt's source: count such statements apart). THE CARD IS WHAT COUNTS. Prove the row's statement (the work); the ties are given (YtkddpedfbicbeaaGreatDoorTie.lean); close each card by the builder's one call (the guide's Derived/Test/ToyasCard.lean, 'card_holds'). Laid BY PROGRAM, IN A SANDBOX (cutbox-door.mjs). By AI agents, Wed Nov 11 2026. No macro, syntax, notation, axiom, sorry.
-/
import Derived.Test.YtkddpedfbicbeaaGreatDoorRows
import GoSem.ClaimSeven
namespace Go.Proofs.YtkddpedfbicbeaaGreatDoor
namespace Rows

/-- THE TIED CARD OF 'tidegatelaw11.ConditionClauses'. -/
def conditionClausesCard : Claim7 := { stood := { row := conditionClausesRow, standIns := [], harness := (true, "cb54b07f1baef53accc8c57c2a8a66f28ac3d6f28db9ce94833159de8c719085"), looks := false }, kinds := [], alts := [], laidByText := true, laidKinds := [.data, .data, .data], laidTests := true, laidLooks := .later }
def ConditionClausesCardSaid : Prop := Claim7.holds Tryz.pinned (.plain (OpenSpec.ofChange conditionClausesSpec)) conditionClausesCard

/-- THE TIED CARD OF 'tidegatelaw11.ConditionKnows'. -/
def conditionKnowsCard : Claim7 := { stood := { row := conditionKnowsRow, standIns := [], harness := (true, "cb54b07f1baef53accc8c57c2a8a66f28ac3d6f28db9ce94833159de8c719085"), looks := false }, kinds := [], alts := [], laidByText := true, laidKinds := [.data, .data, .data], laidTests := true, laidLooks := .later }
def ConditionKnowsCardSaid : Prop := Claim7.holds Tryz.pinned (.plain (OpenSpec.ofChange conditionKnowsSpec)) conditionKnowsCard

/-- THE TIED CARD OF 'tidegatelaw11.ConditionAgrees'. -/
def conditionAgreesCard : Claim7 := { stood := { row := conditionAgreesRow, standIns := [], harness := (true, "cb54b07f1baef53accc8c57c2a8a66f28ac3d6f28db9ce94833159de8c719085"), looks := false }, kinds := [], alts := [], laidByText := true, laidKinds := [.data, .data, .data], laidTests := true, laidLooks := .later }
def ConditionAgreesCardSaid : Prop := Claim7.holds Tryz.pinned (.plain (OpenSpec.ofChange conditionAgreesSpec)) conditionAgreesCard

/-- THE TIED CARD OF 'tidegatelaw11.ConditionSplits'. -/
def conditionSplitsCard : Claim7 := { stood := { row := conditionSplitsRow, standIns := [], harness := (true, "cb54b07f1baef53accc8c57c2a8a66f28ac3d6f28db9ce94833159de8c719085"), looks := false }, kinds := [], alts := [], laidByText := true, laidKinds := [.data, .data, .data], laidTests := true, laidLooks := .later }
def ConditionSplitsCardSaid : Prop := Claim7.holds Tryz.pinned (.plain (OpenSpec.ofChange conditionSplitsSpec)) conditionSplitsCard

/-- THE TIED CARD OF 'tidegatelaw11.ConditionFinds'. -/
def conditionFindsCard : Claim7 := { stood := { row := conditionFindsRow, standIns := [], harness := (true, "cb54b07f1baef53accc8c57c2a8a66f28ac3d6f28db9ce94833159de8c719085"), looks := false }, kinds := [], alts := [], laidByText := true, laidKinds := [.data, .data, .data], laidTests := true, laidLooks := .later }
def ConditionFindsCardSaid : Prop := Claim7.holds Tryz.pinned (.plain (OpenSpec.ofChange conditionFindsSpec)) conditionFindsCard

/-- THE TIED CARD OF 'tidegatelaw11.ConditionFills'. -/
def conditionFillsCard : Claim7 := { stood := { row := conditionFillsRow, standIns := [], harness := (true, "cb54b07f1baef53accc8c57c2a8a66f28ac3d6f28db9ce94833159de8c719085"), looks := false }, kinds := [], alts := [], laidByText := true, laidKinds := [.data, .data, .data], laidTests := true, laidLooks := .later }
def ConditionFillsCardSaid : Prop := Claim7.holds Tryz.pinned (.plain (OpenSpec.ofChange conditionFillsSpec)) conditionFillsCard

/-- THE SECOND FORM's CARD OF 'tidegatelaw11.ConditionClauses'. -/
def conditionClausesUptoCard : Claim7 := { stood := { row := conditionClausesUptoRow, standIns := [], harness := (true, "cb54b07f1baef53accc8c57c2a8a66f28ac3d6f28db9ce94833159de8c719085"), looks := false }, kinds := [], alts := [], laidByText := true, laidKinds := [.data, .data, .data], laidTests := true, laidLooks := .later }
def ConditionClausesUptoCardSaid : Prop := Claim7.holds Tryz.pinned (.plain (OpenSpec.upto conditionClausesSpec)) conditionClausesUptoCard

/-- THE SECOND FORM's CARD OF 'tidegatelaw11.ConditionKnows'. -/
def conditionKnowsUptoCard : Claim7 := { stood := { row := conditionKnowsUptoRow, standIns := [], harness := (true, "cb54b07f1baef53accc8c57c2a8a66f28ac3d6f28db9ce94833159de8c719085"), looks := false }, kinds := [], alts := [], laidByText := true, laidKinds := [.data, .data, .data], laidTests := true, laidLooks := .later }
def ConditionKnowsUptoCardSaid : Prop := Claim7.holds Tryz.pinned (.plain (OpenSpec.upto conditionKnowsSpec)) conditionKnowsUptoCard

/-- THE SECOND FORM's CARD OF 'tidegatelaw11.ConditionAgrees'. -/
def conditionAgreesUptoCard : Claim7 := { stood := { row := conditionAgreesUptoRow, standIns := [], harness := (true, "cb54b07f1baef53accc8c57c2a8a66f28ac3d6f28db9ce94833159de8c719085"), looks := false }, kinds := [], alts := [], laidByText := true, laidKinds := [.data, .data, .data], laidTests := true, laidLooks := .later }
def ConditionAgreesUptoCardSaid : Prop := Claim7.holds Tryz.pinned (.plain (OpenSpec.upto conditionAgreesSpec)) conditionAgreesUptoCard

/-- THE SECOND FORM's CARD OF 'tidegatelaw11.ConditionSplits'. -/
def conditionSplitsUptoCard : Claim7 := { stood := { row := conditionSplitsUptoRow, standIns := [], harness := (true, "cb54b07f1baef53accc8c57c2a8a66f28ac3d6f28db9ce94833159de8c719085"), looks := false }, kinds := [], alts := [], laidByText := true, laidKinds := [.data, .data, .data], laidTests := true, laidLooks := .later }
def ConditionSplitsUptoCardSaid : Prop := Claim7.holds Tryz.pinned (.plain (OpenSpec.upto conditionSplitsSpec)) conditionSplitsUptoCard

/-- THE SECOND FORM's CARD OF 'tidegatelaw11.ConditionFinds'. -/
def conditionFindsUptoCard : Claim7 := { stood := { row := conditionFindsUptoRow, standIns := [], harness := (true, "cb54b07f1baef53accc8c57c2a8a66f28ac3d6f28db9ce94833159de8c719085"), looks := false }, kinds := [], alts := [], laidByText := true, laidKinds := [.data, .data, .data], laidTests := true, laidLooks := .later }
def ConditionFindsUptoCardSaid : Prop := Claim7.holds Tryz.pinned (.plain (OpenSpec.upto conditionFindsSpec)) conditionFindsUptoCard

/-- THE SECOND FORM's CARD OF 'tidegatelaw11.ConditionFills'. -/
def conditionFillsUptoCard : Claim7 := { stood := { row := conditionFillsUptoRow, standIns := [], harness := (true, "cb54b07f1baef53accc8c57c2a8a66f28ac3d6f28db9ce94833159de8c719085"), looks := false }, kinds := [], alts := [], laidByText := true, laidKinds := [.data, .data, .data], laidTests := true, laidLooks := .later }
def ConditionFillsUptoCardSaid : Prop := Claim7.holds Tryz.pinned (.plain (OpenSpec.upto conditionFillsSpec)) conditionFillsUptoCard
end Rows
end Go.Proofs.YtkddpedfbicbeaaGreatDoor
