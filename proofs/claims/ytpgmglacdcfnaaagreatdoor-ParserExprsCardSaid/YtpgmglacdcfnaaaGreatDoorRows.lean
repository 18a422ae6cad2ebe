/-
  NARROWER THAN 'FOR EVERY INPUT', by the rows' own cells (each row's printed sentence says how): ParserQueries: laid · ParserPatterns: laid · ParserExprs: laid · ParserParses: laid.
  DERIVED. THE GIVEN ROWS OF THIS SEAT. 4 by the template 'for every input the law returns true; each argument reads behind the call as it read before'; 0 by the template 'total and deterministic' (their statements: YtpgmglacdcfnaaaGreatDoorTotals.lean).
  GIVEN WITH THE SEED: the statements are not yours to turn. If you find one false, say at which input.
  Laid BY PROGRAM, IN A SANDBOX (cutbox-rows.mjs): the forced cells as the released guide's own fill.sh prints them over the translation b7b2cb0c50680552… (all of the seat's roots in one cut). By AI agents, Wed Nov 11 2026. No macro, syntax, notation, axiom, sorry.
-/
import Derived.Test.YtpgmglacdcfnaaaGreatDoorChecked
import GoSem.Claim
import GoSem.ClaimJoined
import GoSem.ClaimMapViews
import Derived.JoinedTies
import Derived.KernelRfl
namespace Go.Proofs.YtpgmglacdcfnaaaGreatDoor
/- THE CELL 'sum', in the pinned program and in every row, IS THE sha256 OF THE DUMP (.gsa) THAT YtpgmglacdcfnaaaGreatDoorProg.lean LOADS. Nothing in Lean hashes anything: it is a label: what it is worth is what the hold of that sum in a sandbox is worth. -/
noncomputable def Tryz.pinned : Pinned := { name := "ytpgmglacdcfnaaagreatdoor", sum := "b7b2cb0c50680552f16c91cffeed488ed64d1d50004f20bf70811904fc35c1d6", checked := Tryz.checked }
namespace Rows
def none {H : Type} : Left H := { results := [], args := [] }

/- WHAT THE LISTED PACKAGE-LEVEL VARIABLES READ AS WHEN THE CALL BEGINS. Each datum BY PROGRAM (the guide's laid-datum.mjs) off the statement by which the dump's own 'gosem.cut.vars' lays the variable. In a bare row this is a premise. The card (YtpgmglacdcfnaaaGreatDoorCards.lean) ties it to the program's text. -/
def laid_tidegate_lexer_signs {H : Type} : DataW H := .agg [.lit (.string [60, 61]), .lit (.string [62, 61]), .lit (.string [61, 61]), .lit (.string [33, 61]), .lit (.string [40]), .lit (.string [41]), .lit (.string [123]), .lit (.string [125]), .lit (.string [44]), .lit (.string [46]), .lit (.string [58]), .lit (.string [59]), .lit (.string [43]), .lit (.string [45]), .lit (.string [60]), .lit (.string [62]), .lit (.string [61])]
def laid_tidegate_parser_ors {H : Type} : DataW H := .agg [.agg [.lit (.string [111, 114]), .lit (.int .i64 11)]]
def laid_tidegate_parser_ands {H : Type} : DataW H := .agg [.agg [.lit (.string [97, 110, 100]), .lit (.int .i64 10)]]
def laid_tidegate_parser_sums {H : Type} : DataW H := .agg [.agg [.lit (.string [43]), .lit (.int .i64 5)], .agg [.lit (.string [45]), .lit (.int .i64 6)]]
def laid_tidegate_parser_totals {H : Type} : DataW H := .agg [.agg [.lit (.string [109, 105, 110]), .lit (.int .i64 2)], .agg [.lit (.string [109, 97, 120]), .lit (.int .i64 3)], .agg [.lit (.string [102, 105, 114, 115, 116]), .lit (.int .i64 4)], .agg [.lit (.string [108, 97, 115, 116]), .lit (.int .i64 5)]]
def laid_tidegate_parser_kinds {H : Type} : DataW H := .agg [.lit (.string [105, 110, 116]), .lit (.string [98, 111, 111, 108]), .lit (.string [115, 116, 114, 105, 110, 103])]

/-- 'tidegatelaw12.ParserQueries': WHATEVER THE INPUT: true; the input reads as it did. -/
def parserQueriesSpec : ChangeSpec := { name := "parserQueries", fn := fun _ => fun
  | [d] => { results := [.lit (.bool true)], args := [d] }
  | _ => none }
def parserQueriesRow : OpenClaim := { program := "ytpgmglacdcfnaaagreatdoor", sum := "b7b2cb0c50680552f16c91cffeed488ed64d1d50004f20bf70811904fc35c1d6", func := "tidegate/tidegatelaw12.ParserQueries", spec := "parserQueries", inPlace := ["internal/bytealg.IndexByteString", "internal/bytealg.IndexString"], unfollowed := true, recurses := true, named := ["tidegate/lexer.signs", "tidegate/parser.ors", "tidegate/parser.ands", "internal/bytealg.MaxLen", "tidegate/parser.sums", "tidegate/parser.totals"], apart := false, laid := [("tidegate/lexer.signs", laid_tidegate_lexer_signs), ("tidegate/parser.ors", laid_tidegate_parser_ors), ("tidegate/parser.ands", laid_tidegate_parser_ands), ("tidegate/parser.sums", laid_tidegate_parser_sums), ("tidegate/parser.totals", laid_tidegate_parser_totals)] }
def ParserQueriesSaid : Prop := parserQueriesRow.holds Tryz.pinned (OpenSpec.ofChange parserQueriesSpec)

/-- ITS FALSE NEIGHBOUR: 'it returns false'. Refute it at one input. -/
def parserQueriesWrong : ChangeSpec := { name := "parserQueries", fn := fun _ => fun
  | [d] => { results := [.lit (.bool false)], args := [d] }
  | _ => none }
def ParserQueriesWrongFalsely : Prop := parserQueriesRow.holds Tryz.pinned (OpenSpec.ofChange parserQueriesWrong)

/-- 'tidegatelaw12.ParserPatterns': WHATEVER THE INPUT: true; the input reads as it did. -/
def parserPatternsSpec : ChangeSpec := { name := "parserPatterns", fn := fun _ => fun
  | [d] => { results := [.lit (.bool true)], args := [d] }
  | _ => none }
def parserPatternsRow : OpenClaim := { program := "ytpgmglacdcfnaaagreatdoor", sum := "b7b2cb0c50680552f16c91cffeed488ed64d1d50004f20bf70811904fc35c1d6", func := "tidegate/tidegatelaw12.ParserPatterns", spec := "parserPatterns", inPlace := ["internal/bytealg.IndexByteString", "internal/bytealg.IndexString"], unfollowed := true, recurses := true, named := ["tidegate/lexer.signs", "tidegate/parser.ors", "tidegate/parser.ands", "internal/bytealg.MaxLen", "tidegate/parser.sums", "tidegate/parser.totals"], apart := false, laid := [("tidegate/lexer.signs", laid_tidegate_lexer_signs), ("tidegate/parser.ors", laid_tidegate_parser_ors), ("tidegate/parser.ands", laid_tidegate_parser_ands), ("tidegate/parser.sums", laid_tidegate_parser_sums), ("tidegate/parser.totals", laid_tidegate_parser_totals)] }
def ParserPatternsSaid : Prop := parserPatternsRow.holds Tryz.pinned (OpenSpec.ofChange parserPatternsSpec)

/-- ITS FALSE NEIGHBOUR: 'it returns false'. Refute it at one input. -/
def parserPatternsWrong : ChangeSpec := { name := "parserPatterns", fn := fun _ => fun
  | [d] => { results := [.lit (.bool false)], args := [d] }
  | _ => none }
def ParserPatternsWrongFalsely : Prop := parserPatternsRow.holds Tryz.pinned (OpenSpec.ofChange parserPatternsWrong)

/-- 'tidegatelaw12.ParserExprs': WHATEVER THE INPUT: true; the input reads as it did. -/
def parserExprsSpec : ChangeSpec := { name := "parserExprs", fn := fun _ => fun
  | [d] => { results := [.lit (.bool true)], args := [d] }
  | _ => none }
def parserExprsRow : OpenClaim := { program := "ytpgmglacdcfnaaagreatdoor", sum := "b7b2cb0c50680552f16c91cffeed488ed64d1d50004f20bf70811904fc35c1d6", func := "tidegate/tidegatelaw12.ParserExprs", spec := "parserExprs", inPlace := ["internal/bytealg.IndexByteString", "internal/bytealg.IndexString"], unfollowed := true, recurses := true, named := ["tidegate/lexer.signs", "tidegate/parser.ors", "tidegate/parser.ands", "internal/bytealg.MaxLen", "tidegate/parser.sums", "tidegate/parser.totals"], apart := false, laid := [("tidegate/lexer.signs", laid_tidegate_lexer_signs), ("tidegate/parser.ors", laid_tidegate_parser_ors), ("tidegate/parser.ands", laid_tidegate_parser_ands), ("tidegate/parser.sums", laid_tidegate_parser_sums), ("tidegate/parser.totals", laid_tidegate_parser_totals)] }
def ParserExprsSaid : Prop := parserExprsRow.holds Tryz.pinned (OpenSpec.ofChange parserExprsSpec)

/-- ITS FALSE NEIGHBOUR: 'it returns false'. Refute it at one input. -/
def parserExprsWrong : ChangeSpec := { name := "parserExprs", fn := fun _ => fun
  | [d] => { results := [.lit (.bool false)], args := [d] }
  | _ => none }
def ParserExprsWrongFalsely : Prop := parserExprsRow.holds Tryz.pinned (OpenSpec.ofChange parserExprsWrong)

/-- 'tidegatelaw12.ParserParses': WHATEVER THE INPUT: true; the input reads as it did. -/
def parserParsesSpec : ChangeSpec := { name := "parserParses", fn := fun _ => fun
  | [d] => { results := [.lit (.bool true)], args := [d] }
  | _ => none }
def parserParsesRow : OpenClaim := { program := "ytpgmglacdcfnaaagreatdoor", sum := "b7b2cb0c50680552f16c91cffeed488ed64d1d50004f20bf70811904fc35c1d6", func := "tidegate/tidegatelaw12.ParserParses", spec := "parserParses", inPlace := ["internal/bytealg.IndexByteString", "internal/bytealg.IndexString"], unfollowed := true, recurses := true, named := ["tidegate/lexer.signs", "tidegate/parser.ors", "tidegate/parser.ands", "internal/bytealg.MaxLen", "tidegate/parser.sums", "tidegate/parser.totals", "tidegate/parser.kinds"], apart := false, laid := [("tidegate/lexer.signs", laid_tidegate_lexer_signs), ("tidegate/parser.kinds", laid_tidegate_parser_kinds), ("tidegate/parser.ors", laid_tidegate_parser_ors), ("tidegate/parser.ands", laid_tidegate_parser_ands), ("tidegate/parser.sums", laid_tidegate_parser_sums), ("tidegate/parser.totals", laid_tidegate_parser_totals)] }
def ParserParsesSaid : Prop := parserParsesRow.holds Tryz.pinned (OpenSpec.ofChange parserParsesSpec)

/-- ITS FALSE NEIGHBOUR: 'it returns false'. Refute it at one input. -/
def parserParsesWrong : ChangeSpec := { name := "parserParses", fn := fun _ => fun
  | [d] => { results := [.lit (.bool false)], args := [d] }
  | _ => none }
def ParserParsesWrongFalsely : Prop := parserParsesRow.holds Tryz.pinned (OpenSpec.ofChange parserParsesWrong)

/- THE SECOND FORM. 'bulk': how many values and letters a reading holds, each counted each time it is reached (what is shared counts as often as it is met; a slice's spare places count too). A statement '..UptoSaid' is the law's where the arguments, and the package variables that the reading takes, are together of bulk at most 1048576: NARROWER than '..Said'. Prove '..Said' where nothing that the law and all that it calls make is longer than what came in: it says more and counts as full. Else prove '..UptoSaid'. A law counts once. -/
mutual
def uptoBulk {H : Type} : DataW H → Nat
  | .lit (.string bytes) => bytes.length + 1
  | .lit _ => 1
  | .nil => 1
  | .ptr d => uptoBulk d + 1
  | .slice elems spare => uptoBulkAll elems + uptoBulkAll spare + 1
  | .agg parts => uptoBulkAll parts + 1
  | .iface _ d => uptoBulk d + 1
  | .map entries => uptoBulkEntries entries + 1
  | .held _ => 1
def uptoBulkAll {H : Type} : List (DataW H) → Nat
  | [] => 0
  | d :: r => uptoBulk d + uptoBulkAll r
def uptoBulkEntries {H : Type} : List (Lit × DataW H) → Nat
  | [] => 0
  | x :: r => uptoBulkEntry x + uptoBulkEntries r
def uptoBulkEntry {H : Type} : Lit × DataW H → Nat
  | (.string bytes, d) => bytes.length + uptoBulk d + 1
  | (_, d) => uptoBulk d + 1
 end
def uptoSmall : (H : Type) → List (DataW H) → Bool := fun _ ds => decide (uptoBulkAll ds ≤ 1048576)
def OpenSpec.upto (s : _root_.Go.ChangeSpec) : _root_.Go.OpenSpec := { _root_.Go.OpenSpec.ofChange s with cond := some uptoSmall }

/-- 'tidegatelaw12.ParserQueries', WHERE WHAT IT READS IS OF BULK AT MOST 1048576: true; the input reads as it did. -/
def parserQueriesUptoRow : OpenClaim := { program := "ytpgmglacdcfnaaagreatdoor", sum := "b7b2cb0c50680552f16c91cffeed488ed64d1d50004f20bf70811904fc35c1d6", func := "tidegate/tidegatelaw12.ParserQueries", spec := "parserQueries", inPlace := ["internal/bytealg.IndexByteString", "internal/bytealg.IndexString"], unfollowed := true, recurses := true, named := ["tidegate/lexer.signs", "tidegate/parser.ors", "tidegate/parser.ands", "internal/bytealg.MaxLen", "tidegate/parser.sums", "tidegate/parser.totals"], apart := false, laid := [("tidegate/lexer.signs", laid_tidegate_lexer_signs), ("tidegate/parser.ors", laid_tidegate_parser_ors), ("tidegate/parser.ands", laid_tidegate_parser_ands), ("tidegate/parser.sums", laid_tidegate_parser_sums), ("tidegate/parser.totals", laid_tidegate_parser_totals)], narrowed := true }
def ParserQueriesUptoSaid : Prop := parserQueriesUptoRow.holds Tryz.pinned (OpenSpec.upto parserQueriesSpec)

/-- 'tidegatelaw12.ParserPatterns', WHERE WHAT IT READS IS OF BULK AT MOST 1048576: true; the input reads as it did. -/
def parserPatternsUptoRow : OpenClaim := { program := "ytpgmglacdcfnaaagreatdoor", sum := "b7b2cb0c50680552f16c91cffeed488ed64d1d50004f20bf70811904fc35c1d6", func := "tidegate/tidegatelaw12.ParserPatterns", spec := "parserPatterns", inPlace := ["internal/bytealg.IndexByteString", "internal/bytealg.IndexString"], unfollowed := true, recurses := true, named := ["tidegate/lexer.signs", "tidegate/parser.ors", "tidegate/parser.ands", "internal/bytealg.MaxLen", "tidegate/parser.sums", "tidegate/parser.totals"], apart := false, laid := [("tidegate/lexer.signs", laid_tidegate_lexer_signs), ("tidegate/parser.ors", laid_tidegate_parser_ors), ("tidegate/parser.ands", laid_tidegate_parser_ands), ("tidegate/parser.sums", laid_tidegate_parser_sums), ("tidegate/parser.totals", laid_tidegate_parser_totals)], narrowed := true }
def ParserPatternsUptoSaid : Prop := parserPatternsUptoRow.holds Tryz.pinned (OpenSpec.upto parserPatternsSpec)

/-- 'tidegatelaw12.ParserExprs', WHERE WHAT IT READS IS OF BULK AT MOST 1048576: true; the input reads as it did. -/
def parserExprsUptoRow : OpenClaim := { program := "ytpgmglacdcfnaaagreatdoor", sum := "b7b2cb0c50680552f16c91cffeed488ed64d1d50004f20bf70811904fc35c1d6", func := "tidegate/tidegatelaw12.ParserExprs", spec := "parserExprs", inPlace := ["internal/bytealg.IndexByteString", "internal/bytealg.IndexString"], unfollowed := true, recurses := true, named := ["tidegate/lexer.signs", "tidegate/parser.ors", "tidegate/parser.ands", "internal/bytealg.MaxLen", "tidegate/parser.sums", "tidegate/parser.totals"], apart := false, laid := [("tidegate/lexer.signs", laid_tidegate_lexer_signs), ("tidegate/parser.ors", laid_tidegate_parser_ors), ("tidegate/parser.ands", laid_tidegate_parser_ands), ("tidegate/parser.sums", laid_tidegate_parser_sums), ("tidegate/parser.totals", laid_tidegate_parser_totals)], narrowed := true }
def ParserExprsUptoSaid : Prop := parserExprsUptoRow.holds Tryz.pinned (OpenSpec.upto parserExprsSpec)

/-- 'tidegatelaw12.ParserParses', WHERE WHAT IT READS IS OF BULK AT MOST 1048576: true; the input reads as it did. -/
def parserParsesUptoRow : OpenClaim := { program := "ytpgmglacdcfnaaagreatdoor", sum := "b7b2cb0c50680552f16c91cffeed488ed64d1d50004f20bf70811904fc35c1d6", func := "tidegate/tidegatelaw12.ParserParses", spec := "parserParses", inPlace := ["internal/bytealg.IndexByteString", "internal/bytealg.IndexString"], unfollowed := true, recurses := true, named := ["tidegate/lexer.signs", "tidegate/parser.ors", "tidegate/parser.ands", "internal/bytealg.MaxLen", "tidegate/parser.sums", "tidegate/parser.totals", "tidegate/parser.kinds"], apart := false, laid := [("tidegate/lexer.signs", laid_tidegate_lexer_signs), ("tidegate/parser.kinds", laid_tidegate_parser_kinds), ("tidegate/parser.ors", laid_tidegate_parser_ors), ("tidegate/parser.ands", laid_tidegate_parser_ands), ("tidegate/parser.sums", laid_tidegate_parser_sums), ("tidegate/parser.totals", laid_tidegate_parser_totals)], narrowed := true }
def ParserParsesUptoSaid : Prop := parserParsesUptoRow.holds Tryz.pinned (OpenSpec.upto parserParsesSpec)

end Rows
end Go.Proofs.YtpgmglacdcfnaaaGreatDoor
