/-
  NARROWER THAN 'FOR EVERY INPUT', by the rows' own cells (each row's printed sentence says how): ParserEmbeds: laid · ParserParenthesizes: laid · ParserNests: laid · ParserSpaces: laid · ParserOrders: laid.
  DERIVED. THE GIVEN ROWS OF THIS SEAT. 5 by the template 'for every input the law returns true; each argument reads behind the call as it read before'; 0 by the template 'total and deterministic' (their statements: YtpgmglacdcfnaaaDoorTotals.lean).
  GIVEN WITH THE SEED: the statements are not yours to turn. If you find one false, say at which input.
  Laid BY PROGRAM, IN A SANDBOX (cutbox-rows.mjs): the forced cells as the released guide's own fill.sh prints them over the translation ce9a1bd2c61c885b… (all of the seat's roots in one cut). By AI agents, Wed Nov 11 2026. No macro, syntax, notation, axiom, sorry.
-/
import Derived.Test.YtpgmglacdcfnaaaDoorChecked
import GoSem.Claim
import GoSem.ClaimJoined
import GoSem.ClaimMapViews
import Derived.JoinedTies
import Derived.KernelRfl
namespace Go.Proofs.YtpgmglacdcfnaaaDoor
/- THE CELL 'sum', in the pinned program and in every row, IS THE sha256 OF THE DUMP (.gsa) THAT YtpgmglacdcfnaaaDoorProg.lean LOADS. Nothing in Lean hashes anything: it is a label: what it is worth is what the hold of that sum in a sandbox is worth. -/
noncomputable def Tryd.pinned : Pinned := { name := "ytpgmglacdcfnaaadoor", sum := "ce9a1bd2c61c885b675cb1b6e21589a7fb0a2d4072dc5cfeb947fde21d1de111", checked := Tryd.checked }
namespace Rows
def none {H : Type} : Left H := { results := [], args := [] }

/- WHAT THE LISTED PACKAGE-LEVEL VARIABLES READ AS WHEN THE CALL BEGINS. Each datum BY PROGRAM (the guide's laid-datum.mjs) off the statement by which the dump's own 'gosem.cut.vars' lays the variable. In a bare row this is a premise. The card (YtpgmglacdcfnaaaDoorCards.lean) ties it to the program's text. -/
def laid_tidegate_lexer_signs {H : Type} : DataW H := .agg [.lit (.string [60, 61]), .lit (.string [62, 61]), .lit (.string [61, 61]), .lit (.string [33, 61]), .lit (.string [40]), .lit (.string [41]), .lit (.string [123]), .lit (.string [125]), .lit (.string [44]), .lit (.string [46]), .lit (.string [58]), .lit (.string [59]), .lit (.string [43]), .lit (.string [45]), .lit (.string [60]), .lit (.string [62]), .lit (.string [61])]
def laid_tidegate_parser_ors {H : Type} : DataW H := .agg [.agg [.lit (.string [111, 114]), .lit (.int .i64 11)]]
def laid_tidegate_parser_ands {H : Type} : DataW H := .agg [.agg [.lit (.string [97, 110, 100]), .lit (.int .i64 10)]]
def laid_tidegate_parser_sums {H : Type} : DataW H := .agg [.agg [.lit (.string [43]), .lit (.int .i64 5)], .agg [.lit (.string [45]), .lit (.int .i64 6)]]
def laid_tidegate_parser_totals {H : Type} : DataW H := .agg [.agg [.lit (.string [109, 105, 110]), .lit (.int .i64 2)], .agg [.lit (.string [109, 97, 120]), .lit (.int .i64 3)], .agg [.lit (.string [102, 105, 114, 115, 116]), .lit (.int .i64 4)], .agg [.lit (.string [108, 97, 115, 116]), .lit (.int .i64 5)]]
def laid_tidegate_parser_kinds {H : Type} : DataW H := .agg [.lit (.string [105, 110, 116]), .lit (.string [98, 111, 111, 108]), .lit (.string [115, 116, 114, 105, 110, 103])]

/-- 'tidegatelaw12.ParserEmbeds': WHATEVER THE INPUT: true; the input reads as it did. -/
def parserEmbedsSpec : ChangeSpec := { name := "parserEmbeds", fn := fun _ => fun
  | [d1, d2] => { results := [.lit (.bool true)], args := [d1, d2] }
  | _ => none }
def parserEmbedsRow : OpenClaim := { program := "ytpgmglacdcfnaaadoor", sum := "ce9a1bd2c61c885b675cb1b6e21589a7fb0a2d4072dc5cfeb947fde21d1de111", func := "tidegate/tidegatelaw12.ParserEmbeds", spec := "parserEmbeds", inPlace := ["internal/bytealg.IndexByteString", "internal/bytealg.IndexString"], unfollowed := true, recurses := true, named := ["internal/bytealg.MaxLen", "tidegate/lexer.signs", "tidegate/parser.ors", "tidegate/parser.ands", "tidegate/parser.sums", "tidegate/parser.totals"], apart := false, laid := [("tidegate/lexer.signs", laid_tidegate_lexer_signs), ("tidegate/parser.ors", laid_tidegate_parser_ors), ("tidegate/parser.ands", laid_tidegate_parser_ands), ("tidegate/parser.sums", laid_tidegate_parser_sums), ("tidegate/parser.totals", laid_tidegate_parser_totals)] }
def ParserEmbedsSaid : Prop := parserEmbedsRow.holds Tryd.pinned (OpenSpec.ofChange parserEmbedsSpec)

/-- ITS FALSE NEIGHBOUR: 'it returns false'. Refute it at one input. -/
def parserEmbedsWrong : ChangeSpec := { name := "parserEmbeds", fn := fun _ => fun
  | [d1, d2] => { results := [.lit (.bool false)], args := [d1, d2] }
  | _ => none }
def ParserEmbedsWrongFalsely : Prop := parserEmbedsRow.holds Tryd.pinned (OpenSpec.ofChange parserEmbedsWrong)

/-- 'tidegatelaw12.ParserParenthesizes': WHATEVER THE INPUT: true; the input reads as it did. -/
def parserParenthesizesSpec : ChangeSpec := { name := "parserParenthesizes", fn := fun _ => fun
  | [d] => { results := [.lit (.bool true)], args := [d] }
  | _ => none }
def parserParenthesizesRow : OpenClaim := { program := "ytpgmglacdcfnaaadoor", sum := "ce9a1bd2c61c885b675cb1b6e21589a7fb0a2d4072dc5cfeb947fde21d1de111", func := "tidegate/tidegatelaw12.ParserParenthesizes", spec := "parserParenthesizes", inPlace := ["internal/bytealg.IndexByteString", "internal/bytealg.IndexString"], unfollowed := true, recurses := true, named := ["internal/bytealg.MaxLen", "tidegate/lexer.signs", "tidegate/parser.ors", "tidegate/parser.ands", "tidegate/parser.sums", "tidegate/parser.totals"], apart := false, laid := [("tidegate/lexer.signs", laid_tidegate_lexer_signs), ("tidegate/parser.ors", laid_tidegate_parser_ors), ("tidegate/parser.ands", laid_tidegate_parser_ands), ("tidegate/parser.sums", laid_tidegate_parser_sums), ("tidegate/parser.totals", laid_tidegate_parser_totals)] }
def ParserParenthesizesSaid : Prop := parserParenthesizesRow.holds Tryd.pinned (OpenSpec.ofChange parserParenthesizesSpec)

/-- ITS FALSE NEIGHBOUR: 'it returns false'. Refute it at one input. -/
def parserParenthesizesWrong : ChangeSpec := { name := "parserParenthesizes", fn := fun _ => fun
  | [d] => { results := [.lit (.bool false)], args := [d] }
  | _ => none }
def ParserParenthesizesWrongFalsely : Prop := parserParenthesizesRow.holds Tryd.pinned (OpenSpec.ofChange parserParenthesizesWrong)

/-- 'tidegatelaw12.ParserNests': WHATEVER THE INPUT: true; the input reads as it did. -/
def parserNestsSpec : ChangeSpec := { name := "parserNests", fn := fun _ => fun
  | [d] => { results := [.lit (.bool true)], args := [d] }
  | _ => none }
def parserNestsRow : OpenClaim := { program := "ytpgmglacdcfnaaadoor", sum := "ce9a1bd2c61c885b675cb1b6e21589a7fb0a2d4072dc5cfeb947fde21d1de111", func := "tidegate/tidegatelaw12.ParserNests", spec := "parserNests", inPlace := ["internal/bytealg.IndexByteString", "internal/bytealg.IndexString"], unfollowed := true, recurses := true, named := ["tidegate/lexer.signs", "tidegate/parser.ors", "tidegate/parser.ands", "internal/bytealg.MaxLen", "tidegate/parser.sums", "tidegate/parser.totals", "tidegate/parser.kinds"], apart := false, laid := [("tidegate/lexer.signs", laid_tidegate_lexer_signs), ("tidegate/parser.kinds", laid_tidegate_parser_kinds), ("tidegate/parser.ors", laid_tidegate_parser_ors), ("tidegate/parser.ands", laid_tidegate_parser_ands), ("tidegate/parser.sums", laid_tidegate_parser_sums), ("tidegate/parser.totals", laid_tidegate_parser_totals)] }
def ParserNestsSaid : Prop := parserNestsRow.holds Tryd.pinned (OpenSpec.ofChange parserNestsSpec)

/-- ITS FALSE NEIGHBOUR: 'it returns false'. Refute it at one input. -/
def parserNestsWrong : ChangeSpec := { name := "parserNests", fn := fun _ => fun
  | [d] => { results := [.lit (.bool false)], args := [d] }
  | _ => none }
def ParserNestsWrongFalsely : Prop := parserNestsRow.holds Tryd.pinned (OpenSpec.ofChange parserNestsWrong)

/-- 'tidegatelaw12.ParserSpaces': WHATEVER THE INPUT: true; the input reads as it did. -/
def parserSpacesSpec : ChangeSpec := { name := "parserSpaces", fn := fun _ => fun
  | [d1, d2] => { results := [.lit (.bool true)], args := [d1, d2] }
  | _ => none }
def parserSpacesRow : OpenClaim := { program := "ytpgmglacdcfnaaadoor", sum := "ce9a1bd2c61c885b675cb1b6e21589a7fb0a2d4072dc5cfeb947fde21d1de111", func := "tidegate/tidegatelaw12.ParserSpaces", spec := "parserSpaces", inPlace := ["internal/bytealg.IndexByteString", "internal/bytealg.IndexString"], unfollowed := true, recurses := true, named := ["tidegate/lexer.signs", "tidegate/parser.ors", "tidegate/parser.ands", "internal/bytealg.MaxLen", "tidegate/parser.sums", "tidegate/parser.totals", "tidegate/parser.kinds"], apart := false, laid := [("tidegate/lexer.signs", laid_tidegate_lexer_signs), ("tidegate/parser.kinds", laid_tidegate_parser_kinds), ("tidegate/parser.ors", laid_tidegate_parser_ors), ("tidegate/parser.ands", laid_tidegate_parser_ands), ("tidegate/parser.sums", laid_tidegate_parser_sums), ("tidegate/parser.totals", laid_tidegate_parser_totals)] }
def ParserSpacesSaid : Prop := parserSpacesRow.holds Tryd.pinned (OpenSpec.ofChange parserSpacesSpec)

/-- ITS FALSE NEIGHBOUR: 'it returns false'. Refute it at one input. -/
def parserSpacesWrong : ChangeSpec := { name := "parserSpaces", fn := fun _ => fun
  | [d1, d2] => { results := [.lit (.bool false)], args := [d1, d2] }
  | _ => none }
def ParserSpacesWrongFalsely : Prop := parserSpacesRow.holds Tryd.pinned (OpenSpec.ofChange parserSpacesWrong)

/-- 'tidegatelaw12.ParserOrders': WHATEVER THE INPUT: true; the input reads as it did. -/
def parserOrdersSpec : ChangeSpec := { name := "parserOrders", fn := fun _ => fun
  | [d] => { results := [.lit (.bool true)], args := [d] }
  | _ => none }
def parserOrdersRow : OpenClaim := { program := "ytpgmglacdcfnaaadoor", sum := "ce9a1bd2c61c885b675cb1b6e21589a7fb0a2d4072dc5cfeb947fde21d1de111", func := "tidegate/tidegatelaw12.ParserOrders", spec := "parserOrders", inPlace := ["internal/bytealg.IndexByteString", "internal/bytealg.IndexString"], unfollowed := true, recurses := true, named := ["tidegate/lexer.signs", "tidegate/parser.ors", "tidegate/parser.ands", "internal/bytealg.MaxLen", "tidegate/parser.sums", "tidegate/parser.totals", "tidegate/parser.kinds"], apart := false, laid := [("tidegate/lexer.signs", laid_tidegate_lexer_signs), ("tidegate/parser.kinds", laid_tidegate_parser_kinds), ("tidegate/parser.ors", laid_tidegate_parser_ors), ("tidegate/parser.ands", laid_tidegate_parser_ands), ("tidegate/parser.sums", laid_tidegate_parser_sums), ("tidegate/parser.totals", laid_tidegate_parser_totals)] }
def ParserOrdersSaid : Prop := parserOrdersRow.holds Tryd.pinned (OpenSpec.ofChange parserOrdersSpec)

/-- ITS FALSE NEIGHBOUR: 'it returns false'. Refute it at one input. -/
def parserOrdersWrong : ChangeSpec := { name := "parserOrders", fn := fun _ => fun
  | [d] => { results := [.lit (.bool false)], args := [d] }
  | _ => none }
def ParserOrdersWrongFalsely : Prop := parserOrdersRow.holds Tryd.pinned (OpenSpec.ofChange parserOrdersWrong)

/- THE SECOND FORM. 'bulk': how many values and letters a reading holds, each counted each time it is reached (what is shared counts as often as it is met; a slice's spare places count too). A statement '..UptoSaid' is the law's where the arguments, and the package variables that the reading takes, are together of bulk at most 1048576: NARROWER than '..Said'. Prove '..Said' where nothing that the law and all that it calls make is longer than what came in: it says more and counts as full. Else prove '..UptoSaid'. A law counts once. -/
mutual
def uptoBulk {H : Type} : DataW H → Nat
  | .lit (.string bytes) => bytes.length + 1
  | .lit _ => 1
  | .nil => 1
  | .ptr d => uptoBulk d + 1
  | .slice elems spare => uptoBulkAll elems + uptoBulkAll spare + 1
  | .agg parts => uptoBulkAll parts + 1
  | .iface _ d => uptoBulk d + 1
  | .map entries => uptoBulkEntries entries + 1
  | .held _ => 1
def uptoBulkAll {H : Type} : List (DataW H) → Nat
  | [] => 0
  | d :: r => uptoBulk d + uptoBulkAll r
def uptoBulkEntries {H : Type} : List (Lit × DataW H) → Nat
  | [] => 0
  | x :: r => uptoBulkEntry x + uptoBulkEntries r
def uptoBulkEntry {H : Type} : Lit × DataW H → Nat
  | (.string bytes, d) => bytes.length + uptoBulk d + 1
  | (_, d) => uptoBulk d + 1
 end
def uptoSmall : (H : Type) → List (DataW H) → Bool := fun _ ds => decide (uptoBulkAll ds ≤ 1048576)
def OpenSpec.upto (s : _root_.Go.ChangeSpec) : _root_.Go.OpenSpec := { _root_.Go.OpenSpec.ofChange s with cond := some uptoSmall }

/-- 'tidegatelaw12.ParserEmbeds', WHERE WHAT IT READS IS OF BULK AT MOST 1048576: true; the input reads as it did. -/
def parserEmbedsUptoRow : OpenClaim := { program := "ytpgmglacdcfnaaadoor", sum := "ce9a1bd2c61c885b675cb1b6e21589a7fb0a2d4072dc5cfeb947fde21d1de111", func := "tidegate/tidegatelaw12.ParserEmbeds", spec := "parserEmbeds", inPlace := ["internal/bytealg.IndexByteString", "internal/bytealg.IndexString"], unfollowed := true, recurses := true, named := ["internal/bytealg.MaxLen", "tidegate/lexer.signs", "tidegate/parser.ors", "tidegate/parser.ands", "tidegate/parser.sums", "tidegate/parser.totals"], apart := false, laid := [("tidegate/lexer.signs", laid_tidegate_lexer_signs), ("tidegate/parser.ors", laid_tidegate_parser_ors), ("tidegate/parser.ands", laid_tidegate_parser_ands), ("tidegate/parser.sums", laid_tidegate_parser_sums), ("tidegate/parser.totals", laid_tidegate_parser_totals)], narrowed := true }
def ParserEmbedsUptoSaid : Prop := parserEmbedsUptoRow.holds Tryd.pinned (OpenSpec.upto parserEmbedsSpec)

/-- 'tidegatelaw12.ParserParenthesizes', WHERE WHAT IT READS IS OF BULK AT MOST 1048576: true; the input reads as it did. -/
def parserParenthesizesUptoRow : OpenClaim := { program := "ytpgmglacdcfnaaadoor", sum := "ce9a1bd2c61c885b675cb1b6e21589a7fb0a2d4072dc5cfeb947fde21d1de111", func := "tidegate/tidegatelaw12.ParserParenthesizes", spec := "parserParenthesizes", inPlace := ["internal/bytealg.IndexByteString", "internal/bytealg.IndexString"], unfollowed := true, recurses := true, named := ["internal/bytealg.MaxLen", "tidegate/lexer.signs", "tidegate/parser.ors", "tidegate/parser.ands", "tidegate/parser.sums", "tidegate/parser.totals"], apart := false, laid := [("tidegate/lexer.signs", laid_tidegate_lexer_signs), ("tidegate/parser.ors", laid_tidegate_parser_ors), ("tidegate/parser.ands", laid_tidegate_parser_ands), ("tidegate/parser.sums", laid_tidegate_parser_sums), ("tidegate/parser.totals", laid_tidegate_parser_totals)], narrowed := true }
def ParserParenthesizesUptoSaid : Prop := parserParenthesizesUptoRow.holds Tryd.pinned (OpenSpec.upto parserParenthesizesSpec)

/-- 'tidegatelaw12.ParserNests', WHERE WHAT IT READS IS OF BULK AT MOST 1048576: true; the input reads as it did. -/
def parserNestsUptoRow : OpenClaim := { program := "ytpgmglacdcfnaaadoor", sum := "ce9a1bd2c61c885b675cb1b6e21589a7fb0a2d4072dc5cfeb947fde21d1de111", func := "tidegate/tidegatelaw12.ParserNests", spec := "parserNests", inPlace := ["internal/bytealg.IndexByteString", "internal/bytealg.IndexString"], unfollowed := true, recurses := true, named := ["tidegate/lexer.signs", "tidegate/parser.ors", "tidegate/parser.ands", "internal/bytealg.MaxLen", "tidegate/parser.sums", "tidegate/parser.totals", "tidegate/parser.kinds"], apart := false, laid := [("tidegate/lexer.signs", laid_tidegate_lexer_signs), ("tidegate/parser.kinds", laid_tidegate_parser_kinds), ("tidegate/parser.ors", laid_tidegate_parser_ors), ("tidegate/parser.ands", laid_tidegate_parser_ands), ("tidegate/parser.sums", laid_tidegate_parser_sums), ("tidegate/parser.totals", laid_tidegate_parser_totals)], narrowed := true }
def ParserNestsUptoSaid : Prop := parserNestsUptoRow.holds Tryd.pinned (OpenSpec.upto parserNestsSpec)

/-- 'tidegatelaw12.ParserSpaces', WHERE WHAT IT READS IS OF BULK AT MOST 1048576: true; the input reads as it did. -/
def parserSpacesUptoRow : OpenClaim := { program := "ytpgmglacdcfnaaadoor", sum := "ce9a1bd2c61c885b675cb1b6e21589a7fb0a2d4072dc5cfeb947fde21d1de111", func := "tidegate/tidegatelaw12.ParserSpaces", spec := "parserSpaces", inPlace := ["internal/bytealg.IndexByteString", "internal/bytealg.IndexString"], unfollowed := true, recurses := true, named := ["tidegate/lexer.signs", "tidegate/parser.ors", "tidegate/parser.ands", "internal/bytealg.MaxLen", "tidegate/parser.sums", "tidegate/parser.totals", "tidegate/parser.kinds"], apart := false, laid := [("tidegate/lexer.signs", laid_tidegate_lexer_signs), ("tidegate/parser.kinds", laid_tidegate_parser_kinds), ("tidegate/parser.ors", laid_tidegate_parser_ors), ("tidegate/parser.ands", laid_tidegate_parser_ands), ("tidegate/parser.sums", laid_tidegate_parser_sums), ("tidegate/parser.totals", laid_tidegate_parser_totals)], narrowed := true }
def ParserSpacesUptoSaid : Prop := parserSpacesUptoRow.holds Tryd.pinned (OpenSpec.upto parserSpacesSpec)

/-- 'tidegatelaw12.ParserOrders', WHERE WHAT IT READS IS OF BULK AT MOST 1048576: true; the input reads as it did. -/
def parserOrdersUptoRow : OpenClaim := { program := "ytpgmglacdcfnaaadoor", sum := "ce9a1bd2c61c885b675cb1b6e21589a7fb0a2d4072dc5cfeb947fde21d1de111", func := "tidegate/tidegatelaw12.ParserOrders", spec := "parserOrders", inPlace := ["internal/bytealg.IndexByteString", "internal/bytealg.IndexString"], unfollowed := true, recurses := true, named := ["tidegate/lexer.signs", "tidegate/parser.ors", "tidegate/parser.ands", "internal/bytealg.MaxLen", "tidegate/parser.sums", "tidegate/parser.totals", "tidegate/parser.kinds"], apart := false, laid := [("tidegate/lexer.signs", laid_tidegate_lexer_signs), ("tidegate/parser.kinds", laid_tidegate_parser_kinds), ("tidegate/parser.ors", laid_tidegate_parser_ors), ("tidegate/parser.ands", laid_tidegate_parser_ands), ("tidegate/parser.sums", laid_tidegate_parser_sums), ("tidegate/parser.totals", laid_tidegate_parser_totals)], narrowed := true }
def ParserOrdersUptoSaid : Prop := parserOrdersUptoRow.holds Tryd.pinned (OpenSpec.upto parserOrdersSpec)

end Rows
end Go.Proofs.YtpgmglacdcfnaaaDoor
