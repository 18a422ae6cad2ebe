/-
  NARROWER THAN 'FOR EVERY INPUT', by the rows' own cells (each row's printed sentence says how): ExprValues: loops · ExprFolds: loops · ExprKeeps: loops · ExprChecks: loops · ExprRenames: loops · ExprMoves: loops · ExprKinds: loops · ExprProgresses: loops.
  DERIVED. THE GIVEN ROWS OF THIS SEAT. 8 by the template 'for every input the law returns true; each argument reads behind the call as it read before'; 0 by the template 'total and deterministic' (their statements: YtkkacfnkjiijkaaTotals.lean).
  GIVEN WITH THE SEED: the statements are not yours to turn. If you find one false, say at which input.
  Laid BY PROGRAM, IN A SANDBOX (cutbox-rows.mjs): the forced cells as the released guide's own fill.sh prints them over the translation eee9bda25517ff70… (all of the seat's roots in one cut). By AI agents, Wed Nov 11 2026. No macro, syntax, notation, axiom, sorry.
-/
import Derived.Test.YtkkacfnkjiijkaaChecked
import GoSem.Claim
import GoSem.ClaimJoined
import GoSem.ClaimMapViews
import Derived.JoinedTies
import Derived.KernelRfl
namespace Go.Proofs.Ytkkacfnkjiijkaa
/- THE CELL 'sum', in the pinned program and in every row, IS THE sha256 OF THE DUMP (.gsa) THAT YtkkacfnkjiijkaaProg.lean LOADS. Nothing in Lean hashes anything: it is a label: what it is worth is what the hold of that sum in a sandbox is worth. -/
noncomputable def Try.pinned : Pinned := { name := "ytkkacfnkjiijkaa", sum := "eee9bda25517ff70ae6fed7d0cebbcf88b8915fd9b4ed08e6f8be30cc999f810", checked := Try.checked }
namespace Rows
def none {H : Type} : Left H := { results := [], args := [] }

/-- 'tidegatelaw08.ExprValues': WHATEVER THE INPUT: true; the input reads as it did. -/
def exprValuesSpec : ChangeSpec := { name := "exprValues", fn := fun _ => fun
  | [d1, d2] => { results := [.lit (.bool true)], args := [d1, d2] }
  | _ => none }
def exprValuesRow : OpenClaim := { program := "ytkkacfnkjiijkaa", sum := "eee9bda25517ff70ae6fed7d0cebbcf88b8915fd9b4ed08e6f8be30cc999f810", func := "tidegate/tidegatelaw08.ExprValues", spec := "exprValues", unfollowed := true, recurses := true, loops := true, apart := false }
def ExprValuesSaid : Prop := exprValuesRow.holds Try.pinned (OpenSpec.ofChange exprValuesSpec)

/-- ITS FALSE NEIGHBOUR: 'it returns false'. Refute it at one input. -/
def exprValuesWrong : ChangeSpec := { name := "exprValues", fn := fun _ => fun
  | [d1, d2] => { results := [.lit (.bool false)], args := [d1, d2] }
  | _ => none }
def ExprValuesWrongFalsely : Prop := exprValuesRow.holds Try.pinned (OpenSpec.ofChange exprValuesWrong)

/-- 'tidegatelaw08.ExprFolds': WHATEVER THE INPUT: true; the input reads as it did. -/
def exprFoldsSpec : ChangeSpec := { name := "exprFolds", fn := fun _ => fun
  | [d] => { results := [.lit (.bool true)], args := [d] }
  | _ => none }
def exprFoldsRow : OpenClaim := { program := "ytkkacfnkjiijkaa", sum := "eee9bda25517ff70ae6fed7d0cebbcf88b8915fd9b4ed08e6f8be30cc999f810", func := "tidegate/tidegatelaw08.ExprFolds", spec := "exprFolds", unfollowed := true, recurses := true, loops := true, apart := false }
def ExprFoldsSaid : Prop := exprFoldsRow.holds Try.pinned (OpenSpec.ofChange exprFoldsSpec)

/-- ITS FALSE NEIGHBOUR: 'it returns false'. Refute it at one input. -/
def exprFoldsWrong : ChangeSpec := { name := "exprFolds", fn := fun _ => fun
  | [d] => { results := [.lit (.bool false)], args := [d] }
  | _ => none }
def ExprFoldsWrongFalsely : Prop := exprFoldsRow.holds Try.pinned (OpenSpec.ofChange exprFoldsWrong)

/-- 'tidegatelaw08.ExprKeeps': WHATEVER THE INPUT: true; the input reads as it did. -/
def exprKeepsSpec : ChangeSpec := { name := "exprKeeps", fn := fun _ => fun
  | [d1, d2] => { results := [.lit (.bool true)], args := [d1, d2] }
  | _ => none }
def exprKeepsRow : OpenClaim := { program := "ytkkacfnkjiijkaa", sum := "eee9bda25517ff70ae6fed7d0cebbcf88b8915fd9b4ed08e6f8be30cc999f810", func := "tidegate/tidegatelaw08.ExprKeeps", spec := "exprKeeps", unfollowed := true, recurses := true, loops := true, apart := false }
def ExprKeepsSaid : Prop := exprKeepsRow.holds Try.pinned (OpenSpec.ofChange exprKeepsSpec)

/-- ITS FALSE NEIGHBOUR: 'it returns false'. Refute it at one input. -/
def exprKeepsWrong : ChangeSpec := { name := "exprKeeps", fn := fun _ => fun
  | [d1, d2] => { results := [.lit (.bool false)], args := [d1, d2] }
  | _ => none }
def ExprKeepsWrongFalsely : Prop := exprKeepsRow.holds Try.pinned (OpenSpec.ofChange exprKeepsWrong)

/-- 'tidegatelaw08.ExprChecks': WHATEVER THE INPUT: true; the input reads as it did. -/
def exprChecksSpec : ChangeSpec := { name := "exprChecks", fn := fun _ => fun
  | [d] => { results := [.lit (.bool true)], args := [d] }
  | _ => none }
def exprChecksRow : OpenClaim := { program := "ytkkacfnkjiijkaa", sum := "eee9bda25517ff70ae6fed7d0cebbcf88b8915fd9b4ed08e6f8be30cc999f810", func := "tidegate/tidegatelaw08.ExprChecks", spec := "exprChecks", unfollowed := true, recurses := true, loops := true, apart := false }
def ExprChecksSaid : Prop := exprChecksRow.holds Try.pinned (OpenSpec.ofChange exprChecksSpec)

/-- ITS FALSE NEIGHBOUR: 'it returns false'. Refute it at one input. -/
def exprChecksWrong : ChangeSpec := { name := "exprChecks", fn := fun _ => fun
  | [d] => { results := [.lit (.bool false)], args := [d] }
  | _ => none }
def ExprChecksWrongFalsely : Prop := exprChecksRow.holds Try.pinned (OpenSpec.ofChange exprChecksWrong)

/-- 'tidegatelaw08.ExprRenames': WHATEVER THE INPUT: true; the input reads as it did. -/
def exprRenamesSpec : ChangeSpec := { name := "exprRenames", fn := fun _ => fun
  | [d1, d2, d3] => { results := [.lit (.bool true)], args := [d1, d2, d3] }
  | _ => none }
def exprRenamesRow : OpenClaim := { program := "ytkkacfnkjiijkaa", sum := "eee9bda25517ff70ae6fed7d0cebbcf88b8915fd9b4ed08e6f8be30cc999f810", func := "tidegate/tidegatelaw08.ExprRenames", spec := "exprRenames", unfollowed := true, recurses := true, loops := true, apart := false }
def ExprRenamesSaid : Prop := exprRenamesRow.holds Try.pinned (OpenSpec.ofChange exprRenamesSpec)

/-- ITS FALSE NEIGHBOUR: 'it returns false'. Refute it at one input. -/
def exprRenamesWrong : ChangeSpec := { name := "exprRenames", fn := fun _ => fun
  | [d1, d2, d3] => { results := [.lit (.bool false)], args := [d1, d2, d3] }
  | _ => none }
def ExprRenamesWrongFalsely : Prop := exprRenamesRow.holds Try.pinned (OpenSpec.ofChange exprRenamesWrong)

/-- 'tidegatelaw08.ExprMoves': WHATEVER THE INPUT: true; the input reads as it did. -/
def exprMovesSpec : ChangeSpec := { name := "exprMoves", fn := fun _ => fun
  | [d1, d2, d3] => { results := [.lit (.bool true)], args := [d1, d2, d3] }
  | _ => none }
def exprMovesRow : OpenClaim := { program := "ytkkacfnkjiijkaa", sum := "eee9bda25517ff70ae6fed7d0cebbcf88b8915fd9b4ed08e6f8be30cc999f810", func := "tidegate/tidegatelaw08.ExprMoves", spec := "exprMoves", unfollowed := true, recurses := true, loops := true, apart := false }
def ExprMovesSaid : Prop := exprMovesRow.holds Try.pinned (OpenSpec.ofChange exprMovesSpec)

/-- ITS FALSE NEIGHBOUR: 'it returns false'. Refute it at one input. -/
def exprMovesWrong : ChangeSpec := { name := "exprMoves", fn := fun _ => fun
  | [d1, d2, d3] => { results := [.lit (.bool false)], args := [d1, d2, d3] }
  | _ => none }
def ExprMovesWrongFalsely : Prop := exprMovesRow.holds Try.pinned (OpenSpec.ofChange exprMovesWrong)

/-- 'tidegatelaw08.ExprKinds': WHATEVER THE INPUT: true; the input reads as it did. -/
def exprKindsSpec : ChangeSpec := { name := "exprKinds", fn := fun _ => fun
  | [d1, d2, d3] => { results := [.lit (.bool true)], args := [d1, d2, d3] }
  | _ => none }
def exprKindsRow : OpenClaim := { program := "ytkkacfnkjiijkaa", sum := "eee9bda25517ff70ae6fed7d0cebbcf88b8915fd9b4ed08e6f8be30cc999f810", func := "tidegate/tidegatelaw08.ExprKinds", spec := "exprKinds", unfollowed := true, recurses := true, loops := true, apart := false }
def ExprKindsSaid : Prop := exprKindsRow.holds Try.pinned (OpenSpec.ofChange exprKindsSpec)

/-- ITS FALSE NEIGHBOUR: 'it returns false'. Refute it at one input. -/
def exprKindsWrong : ChangeSpec := { name := "exprKinds", fn := fun _ => fun
  | [d1, d2, d3] => { results := [.lit (.bool false)], args := [d1, d2, d3] }
  | _ => none }
def ExprKindsWrongFalsely : Prop := exprKindsRow.holds Try.pinned (OpenSpec.ofChange exprKindsWrong)

/-- 'tidegatelaw08.ExprProgresses': WHATEVER THE INPUT: true; the input reads as it did. -/
def exprProgressesSpec : ChangeSpec := { name := "exprProgresses", fn := fun _ => fun
  | [d1, d2, d3] => { results := [.lit (.bool true)], args := [d1, d2, d3] }
  | _ => none }
def exprProgressesRow : OpenClaim := { program := "ytkkacfnkjiijkaa", sum := "eee9bda25517ff70ae6fed7d0cebbcf88b8915fd9b4ed08e6f8be30cc999f810", func := "tidegate/tidegatelaw08.ExprProgresses", spec := "exprProgresses", unfollowed := true, recurses := true, loops := true, apart := false }
def ExprProgressesSaid : Prop := exprProgressesRow.holds Try.pinned (OpenSpec.ofChange exprProgressesSpec)

/-- ITS FALSE NEIGHBOUR: 'it returns false'. Refute it at one input. -/
def exprProgressesWrong : ChangeSpec := { name := "exprProgresses", fn := fun _ => fun
  | [d1, d2, d3] => { results := [.lit (.bool false)], args := [d1, d2, d3] }
  | _ => none }
def ExprProgressesWrongFalsely : Prop := exprProgressesRow.holds Try.pinned (OpenSpec.ofChange exprProgressesWrong)

/- THE SECOND FORM. 'bulk': how many values and letters a reading holds, each counted each time it is reached (what is shared counts as often as it is met; a slice's spare places count too). A statement '..UptoSaid' is the law's where the arguments, and the package variables that the reading takes, are together of bulk at most 1048576: NARROWER than '..Said'. Prove '..Said' where nothing that the law and all that it calls make is longer than what came in: it says more and counts as full. Else prove '..UptoSaid'. A law counts once. -/
mutual
def uptoBulk {H : Type} : DataW H → Nat
  | .lit (.string bytes) => bytes.length + 1
  | .lit _ => 1
  | .nil => 1
  | .ptr d => uptoBulk d + 1
  | .slice elems spare => uptoBulkAll elems + uptoBulkAll spare + 1
  | .agg parts => uptoBulkAll parts + 1
  | .iface _ d => uptoBulk d + 1
  | .map entries => uptoBulkEntries entries + 1
  | .held _ => 1
def uptoBulkAll {H : Type} : List (DataW H) → Nat
  | [] => 0
  | d :: r => uptoBulk d + uptoBulkAll r
def uptoBulkEntries {H : Type} : List (Lit × DataW H) → Nat
  | [] => 0
  | x :: r => uptoBulkEntry x + uptoBulkEntries r
def uptoBulkEntry {H : Type} : Lit × DataW H → Nat
  | (.string bytes, d) => bytes.length + uptoBulk d + 1
  | (_, d) => uptoBulk d + 1
 end
def uptoSmall : (H : Type) → List (DataW H) → Bool := fun _ ds => decide (uptoBulkAll ds ≤ 1048576)
def OpenSpec.upto (s : _root_.Go.ChangeSpec) : _root_.Go.OpenSpec := { _root_.Go.OpenSpec.ofChange s with cond := some uptoSmall }

/-- 'tidegatelaw08.ExprValues', WHERE WHAT IT READS IS OF BULK AT MOST 1048576: true; the input reads as it did. -/
def exprValuesUptoRow : OpenClaim := { program := "ytkkacfnkjiijkaa", sum := "eee9bda25517ff70ae6fed7d0cebbcf88b8915fd9b4ed08e6f8be30cc999f810", func := "tidegate/tidegatelaw08.ExprValues", spec := "exprValues", unfollowed := true, recurses := true, loops := true, apart := false, narrowed := true }
def ExprValuesUptoSaid : Prop := exprValuesUptoRow.holds Try.pinned (OpenSpec.upto exprValuesSpec)

/-- 'tidegatelaw08.ExprFolds', WHERE WHAT IT READS IS OF BULK AT MOST 1048576: true; the input reads as it did. -/
def exprFoldsUptoRow : OpenClaim := { program := "ytkkacfnkjiijkaa", sum := "eee9bda25517ff70ae6fed7d0cebbcf88b8915fd9b4ed08e6f8be30cc999f810", func := "tidegate/tidegatelaw08.ExprFolds", spec := "exprFolds", unfollowed := true, recurses := true, loops := true, apart := false, narrowed := true }
def ExprFoldsUptoSaid : Prop := exprFoldsUptoRow.holds Try.pinned (OpenSpec.upto exprFoldsSpec)

/-- 'tidegatelaw08.ExprKeeps', WHERE WHAT IT READS IS OF BULK AT MOST 1048576: true; the input reads as it did. -/
def exprKeepsUptoRow : OpenClaim := { program := "ytkkacfnkjiijkaa", sum := "eee9bda25517ff70ae6fed7d0cebbcf88b8915fd9b4ed08e6f8be30cc999f810", func := "tidegate/tidegatelaw08.ExprKeeps", spec := "exprKeeps", unfollowed := true, recurses := true, loops := true, apart := false, narrowed := true }
def ExprKeepsUptoSaid : Prop := exprKeepsUptoRow.holds Try.pinned (OpenSpec.upto exprKeepsSpec)

/-- 'tidegatelaw08.ExprChecks', WHERE WHAT IT READS IS OF BULK AT MOST 1048576: true; the input reads as it did. -/
def exprChecksUptoRow : OpenClaim := { program := "ytkkacfnkjiijkaa", sum := "eee9bda25517ff70ae6fed7d0cebbcf88b8915fd9b4ed08e6f8be30cc999f810", func := "tidegate/tidegatelaw08.ExprChecks", spec := "exprChecks", unfollowed := true, recurses := true, loops := true, apart := false, narrowed := true }
def ExprChecksUptoSaid : Prop := exprChecksUptoRow.holds Try.pinned (OpenSpec.upto exprChecksSpec)

/-- 'tidegatelaw08.ExprRenames', WHERE WHAT IT READS IS OF BULK AT MOST 1048576: true; the input reads as it did. -/
def exprRenamesUptoRow : OpenClaim := { program := "ytkkacfnkjiijkaa", sum := "eee9bda25517ff70ae6fed7d0cebbcf88b8915fd9b4ed08e6f8be30cc999f810", func := "tidegate/tidegatelaw08.ExprRenames", spec := "exprRenames", unfollowed := true, recurses := true, loops := true, apart := false, narrowed := true }
def ExprRenamesUptoSaid : Prop := exprRenamesUptoRow.holds Try.pinned (OpenSpec.upto exprRenamesSpec)

/-- 'tidegatelaw08.ExprMoves', WHERE WHAT IT READS IS OF BULK AT MOST 1048576: true; the input reads as it did. -/
def exprMovesUptoRow : OpenClaim := { program := "ytkkacfnkjiijkaa", sum := "eee9bda25517ff70ae6fed7d0cebbcf88b8915fd9b4ed08e6f8be30cc999f810", func := "tidegate/tidegatelaw08.ExprMoves", spec := "exprMoves", unfollowed := true, recurses := true, loops := true, apart := false, narrowed := true }
def ExprMovesUptoSaid : Prop := exprMovesUptoRow.holds Try.pinned (OpenSpec.upto exprMovesSpec)

/-- 'tidegatelaw08.ExprKinds', WHERE WHAT IT READS IS OF BULK AT MOST 1048576: true; the input reads as it did. -/
def exprKindsUptoRow : OpenClaim := { program := "ytkkacfnkjiijkaa", sum := "eee9bda25517ff70ae6fed7d0cebbcf88b8915fd9b4ed08e6f8be30cc999f810", func := "tidegate/tidegatelaw08.ExprKinds", spec := "exprKinds", unfollowed := true, recurses := true, loops := true, apart := false, narrowed := true }
def ExprKindsUptoSaid : Prop := exprKindsUptoRow.holds Try.pinned (OpenSpec.upto exprKindsSpec)

/-- 'tidegatelaw08.ExprProgresses', WHERE WHAT IT READS IS OF BULK AT MOST 1048576: true; the input reads as it did. -/
def exprProgressesUptoRow : OpenClaim := { program := "ytkkacfnkjiijkaa", sum := "eee9bda25517ff70ae6fed7d0cebbcf88b8915fd9b4ed08e6f8be30cc999f810", func := "tidegate/tidegatelaw08.ExprProgresses", spec := "exprProgresses", unfollowed := true, recurses := true, loops := true, apart := false, narrowed := true }
def ExprProgressesUptoSaid : Prop := exprProgressesUptoRow.holds Try.pinned (OpenSpec.upto exprProgressesSpec)

end Rows
end Go.Proofs.Ytkkacfnkjiijkaa
