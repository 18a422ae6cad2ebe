/-
  NARROWER THAN 'FOR EVERY INPUT', by the rows' own cells (each row's printed sentence says how): LexerScans: laid · LexerPlaces: laid · LexerNames: laid · LexerQuotes: laid · LexerReturns: laid · LexerStands: laid · LexerSeparates: laid · LexerGrows: laid.
  DERIVED. THE GIVEN ROWS OF THIS SEAT. 8 by the template 'for every input the law returns true; each argument reads behind the call as it read before'; 0 by the template 'total and deterministic' (their statements: YtepnadmoflalnaaDoorTotals.lean).
  GIVEN WITH THE SEED: the statements are not yours to turn. If you find one false, say at which input.
  Laid BY PROGRAM, IN A SANDBOX (cutbox-rows.mjs): the forced cells as the released guide's own fill.sh prints them over the translation edcad8c8fd56e08f… (all of the seat's roots in one cut). By AI agents, Wed Nov 11 2026. No macro, syntax, notation, axiom, sorry.
-/
import Derived.Test.YtepnadmoflalnaaDoorChecked
import GoSem.Claim
import GoSem.ClaimJoined
import GoSem.ClaimMapViews
import Derived.JoinedTies
import Derived.KernelRfl
namespace Go.Proofs.YtepnadmoflalnaaDoor
/- THE CELL 'sum', in the pinned program and in every row, IS THE sha256 OF THE DUMP (.gsa) THAT YtepnadmoflalnaaDoorProg.lean LOADS. Nothing in Lean hashes anything: it is a label: what it is worth is what the hold of that sum in a sandbox is worth. -/
noncomputable def Tryd.pinned : Pinned := { name := "ytepnadmoflalnaadoor", sum := "edcad8c8fd56e08f43a97037a53439471e48174c2eb217aa7cfc38c0d2f36daf", checked := Tryd.checked }
namespace Rows
def none {H : Type} : Left H := { results := [], args := [] }

/- WHAT THE LISTED PACKAGE-LEVEL VARIABLES READ AS WHEN THE CALL BEGINS. Each datum BY PROGRAM (the guide's laid-datum.mjs) off the statement by which the dump's own 'gosem.cut.vars' lays the variable. In a bare row this is a premise. The card (YtepnadmoflalnaaDoorCards.lean) ties it to the program's text. -/
def laid_tidegate_lexer_signs {H : Type} : DataW H := .agg [.lit (.string [60, 61]), .lit (.string [62, 61]), .lit (.string [61, 61]), .lit (.string [33, 61]), .lit (.string [40]), .lit (.string [41]), .lit (.string [123]), .lit (.string [125]), .lit (.string [44]), .lit (.string [46]), .lit (.string [58]), .lit (.string [59]), .lit (.string [43]), .lit (.string [45]), .lit (.string [60]), .lit (.string [62]), .lit (.string [61])]

/-- 'tidegatelaw06.LexerScans': WHATEVER THE INPUT: true; the input reads as it did. -/
def lexerScansSpec : ChangeSpec := { name := "lexerScans", fn := fun _ => fun
  | [d] => { results := [.lit (.bool true)], args := [d] }
  | _ => none }
def lexerScansRow : OpenClaim := { program := "ytepnadmoflalnaadoor", sum := "edcad8c8fd56e08f43a97037a53439471e48174c2eb217aa7cfc38c0d2f36daf", func := "tidegate/tidegatelaw06.LexerScans", spec := "lexerScans", inPlace := ["internal/bytealg.IndexByteString", "internal/abi.NoEscape", "internal/bytealg.MakeNoZero", "internal/bytealg.CountString", "internal/bytealg.IndexString"], unfollowed := true, recurses := true, named := ["tidegate/lexer.signs", "internal/bytealg.MaxLen"], apart := false, laid := [("tidegate/lexer.signs", laid_tidegate_lexer_signs)] }
def LexerScansSaid : Prop := lexerScansRow.holds Tryd.pinned (OpenSpec.ofChange lexerScansSpec)

/-- ITS FALSE NEIGHBOUR: 'it returns false'. Refute it at one input. -/
def lexerScansWrong : ChangeSpec := { name := "lexerScans", fn := fun _ => fun
  | [d] => { results := [.lit (.bool false)], args := [d] }
  | _ => none }
def LexerScansWrongFalsely : Prop := lexerScansRow.holds Tryd.pinned (OpenSpec.ofChange lexerScansWrong)

/-- 'tidegatelaw06.LexerPlaces': WHATEVER THE INPUT: true; the input reads as it did. -/
def lexerPlacesSpec : ChangeSpec := { name := "lexerPlaces", fn := fun _ => fun
  | [d1, d2] => { results := [.lit (.bool true)], args := [d1, d2] }
  | _ => none }
def lexerPlacesRow : OpenClaim := { program := "ytepnadmoflalnaadoor", sum := "edcad8c8fd56e08f43a97037a53439471e48174c2eb217aa7cfc38c0d2f36daf", func := "tidegate/tidegatelaw06.LexerPlaces", spec := "lexerPlaces", inPlace := ["internal/bytealg.IndexByteString", "internal/abi.NoEscape", "internal/bytealg.MakeNoZero", "internal/bytealg.CountString", "internal/bytealg.IndexString"], unfollowed := true, recurses := true, named := ["tidegate/lexer.signs", "internal/bytealg.MaxLen"], apart := false, laid := [("tidegate/lexer.signs", laid_tidegate_lexer_signs)] }
def LexerPlacesSaid : Prop := lexerPlacesRow.holds Tryd.pinned (OpenSpec.ofChange lexerPlacesSpec)

/-- ITS FALSE NEIGHBOUR: 'it returns false'. Refute it at one input. -/
def lexerPlacesWrong : ChangeSpec := { name := "lexerPlaces", fn := fun _ => fun
  | [d1, d2] => { results := [.lit (.bool false)], args := [d1, d2] }
  | _ => none }
def LexerPlacesWrongFalsely : Prop := lexerPlacesRow.holds Tryd.pinned (OpenSpec.ofChange lexerPlacesWrong)

/-- 'tidegatelaw06.LexerNames': WHATEVER THE INPUT: true; the input reads as it did. -/
def lexerNamesSpec : ChangeSpec := { name := "lexerNames", fn := fun _ => fun
  | [d] => { results := [.lit (.bool true)], args := [d] }
  | _ => none }
def lexerNamesRow : OpenClaim := { program := "ytepnadmoflalnaadoor", sum := "edcad8c8fd56e08f43a97037a53439471e48174c2eb217aa7cfc38c0d2f36daf", func := "tidegate/tidegatelaw06.LexerNames", spec := "lexerNames", inPlace := ["internal/bytealg.IndexByteString", "internal/abi.NoEscape", "internal/bytealg.MakeNoZero", "internal/bytealg.CountString", "internal/bytealg.IndexString"], unfollowed := true, recurses := true, named := ["tidegate/lexer.signs", "internal/bytealg.MaxLen"], apart := false, laid := [("tidegate/lexer.signs", laid_tidegate_lexer_signs)] }
def LexerNamesSaid : Prop := lexerNamesRow.holds Tryd.pinned (OpenSpec.ofChange lexerNamesSpec)

/-- ITS FALSE NEIGHBOUR: 'it returns false'. Refute it at one input. -/
def lexerNamesWrong : ChangeSpec := { name := "lexerNames", fn := fun _ => fun
  | [d] => { results := [.lit (.bool false)], args := [d] }
  | _ => none }
def LexerNamesWrongFalsely : Prop := lexerNamesRow.holds Tryd.pinned (OpenSpec.ofChange lexerNamesWrong)

/-- 'tidegatelaw06.LexerQuotes': WHATEVER THE INPUT: true; the input reads as it did. -/
def lexerQuotesSpec : ChangeSpec := { name := "lexerQuotes", fn := fun _ => fun
  | [d] => { results := [.lit (.bool true)], args := [d] }
  | _ => none }
def lexerQuotesRow : OpenClaim := { program := "ytepnadmoflalnaadoor", sum := "edcad8c8fd56e08f43a97037a53439471e48174c2eb217aa7cfc38c0d2f36daf", func := "tidegate/tidegatelaw06.LexerQuotes", spec := "lexerQuotes", inPlace := ["internal/bytealg.IndexByteString", "internal/abi.NoEscape", "internal/bytealg.MakeNoZero", "internal/bytealg.CountString", "internal/bytealg.IndexString"], unfollowed := true, recurses := true, named := ["tidegate/lexer.signs", "internal/bytealg.MaxLen"], apart := false, laid := [("tidegate/lexer.signs", laid_tidegate_lexer_signs)] }
def LexerQuotesSaid : Prop := lexerQuotesRow.holds Tryd.pinned (OpenSpec.ofChange lexerQuotesSpec)

/-- ITS FALSE NEIGHBOUR: 'it returns false'. Refute it at one input. -/
def lexerQuotesWrong : ChangeSpec := { name := "lexerQuotes", fn := fun _ => fun
  | [d] => { results := [.lit (.bool false)], args := [d] }
  | _ => none }
def LexerQuotesWrongFalsely : Prop := lexerQuotesRow.holds Tryd.pinned (OpenSpec.ofChange lexerQuotesWrong)

/-- 'tidegatelaw06.LexerReturns': WHATEVER THE INPUT: true; the input reads as it did. -/
def lexerReturnsSpec : ChangeSpec := { name := "lexerReturns", fn := fun _ => fun
  | [d] => { results := [.lit (.bool true)], args := [d] }
  | _ => none }
def lexerReturnsRow : OpenClaim := { program := "ytepnadmoflalnaadoor", sum := "edcad8c8fd56e08f43a97037a53439471e48174c2eb217aa7cfc38c0d2f36daf", func := "tidegate/tidegatelaw06.LexerReturns", spec := "lexerReturns", inPlace := ["internal/bytealg.IndexByteString", "internal/abi.NoEscape", "internal/bytealg.MakeNoZero", "internal/bytealg.CountString", "internal/bytealg.IndexString"], unfollowed := true, recurses := true, named := ["tidegate/lexer.signs", "internal/bytealg.MaxLen"], apart := false, laid := [("tidegate/lexer.signs", laid_tidegate_lexer_signs)] }
def LexerReturnsSaid : Prop := lexerReturnsRow.holds Tryd.pinned (OpenSpec.ofChange lexerReturnsSpec)

/-- ITS FALSE NEIGHBOUR: 'it returns false'. Refute it at one input. -/
def lexerReturnsWrong : ChangeSpec := { name := "lexerReturns", fn := fun _ => fun
  | [d] => { results := [.lit (.bool false)], args := [d] }
  | _ => none }
def LexerReturnsWrongFalsely : Prop := lexerReturnsRow.holds Tryd.pinned (OpenSpec.ofChange lexerReturnsWrong)

/-- 'tidegatelaw06.LexerStands': WHATEVER THE INPUT: true; the input reads as it did. -/
def lexerStandsSpec : ChangeSpec := { name := "lexerStands", fn := fun _ => fun
  | [d] => { results := [.lit (.bool true)], args := [d] }
  | _ => none }
def lexerStandsRow : OpenClaim := { program := "ytepnadmoflalnaadoor", sum := "edcad8c8fd56e08f43a97037a53439471e48174c2eb217aa7cfc38c0d2f36daf", func := "tidegate/tidegatelaw06.LexerStands", spec := "lexerStands", inPlace := ["internal/bytealg.IndexByteString", "internal/abi.NoEscape", "internal/bytealg.MakeNoZero", "internal/bytealg.CountString", "internal/bytealg.IndexString"], unfollowed := true, recurses := true, named := ["tidegate/lexer.signs", "internal/bytealg.MaxLen"], apart := false, laid := [("tidegate/lexer.signs", laid_tidegate_lexer_signs)] }
def LexerStandsSaid : Prop := lexerStandsRow.holds Tryd.pinned (OpenSpec.ofChange lexerStandsSpec)

/-- ITS FALSE NEIGHBOUR: 'it returns false'. Refute it at one input. -/
def lexerStandsWrong : ChangeSpec := { name := "lexerStands", fn := fun _ => fun
  | [d] => { results := [.lit (.bool false)], args := [d] }
  | _ => none }
def LexerStandsWrongFalsely : Prop := lexerStandsRow.holds Tryd.pinned (OpenSpec.ofChange lexerStandsWrong)

/-- 'tidegatelaw06.LexerSeparates': WHATEVER THE INPUT: true; the input reads as it did. -/
def lexerSeparatesSpec : ChangeSpec := { name := "lexerSeparates", fn := fun _ => fun
  | [d1, d2, d3] => { results := [.lit (.bool true)], args := [d1, d2, d3] }
  | _ => none }
def lexerSeparatesRow : OpenClaim := { program := "ytepnadmoflalnaadoor", sum := "edcad8c8fd56e08f43a97037a53439471e48174c2eb217aa7cfc38c0d2f36daf", func := "tidegate/tidegatelaw06.LexerSeparates", spec := "lexerSeparates", inPlace := ["internal/bytealg.IndexByteString", "internal/abi.NoEscape", "internal/bytealg.MakeNoZero", "internal/bytealg.CountString", "internal/bytealg.IndexString"], unfollowed := true, recurses := true, named := ["tidegate/lexer.signs", "internal/bytealg.MaxLen"], apart := false, laid := [("tidegate/lexer.signs", laid_tidegate_lexer_signs)] }
def LexerSeparatesSaid : Prop := lexerSeparatesRow.holds Tryd.pinned (OpenSpec.ofChange lexerSeparatesSpec)

/-- ITS FALSE NEIGHBOUR: 'it returns false'. Refute it at one input. -/
def lexerSeparatesWrong : ChangeSpec := { name := "lexerSeparates", fn := fun _ => fun
  | [d1, d2, d3] => { results := [.lit (.bool false)], args := [d1, d2, d3] }
  | _ => none }
def LexerSeparatesWrongFalsely : Prop := lexerSeparatesRow.holds Tryd.pinned (OpenSpec.ofChange lexerSeparatesWrong)

/-- 'tidegatelaw06.LexerGrows': WHATEVER THE INPUT: true; the input reads as it did. -/
def lexerGrowsSpec : ChangeSpec := { name := "lexerGrows", fn := fun _ => fun
  | [d1, d2] => { results := [.lit (.bool true)], args := [d1, d2] }
  | _ => none }
def lexerGrowsRow : OpenClaim := { program := "ytepnadmoflalnaadoor", sum := "edcad8c8fd56e08f43a97037a53439471e48174c2eb217aa7cfc38c0d2f36daf", func := "tidegate/tidegatelaw06.LexerGrows", spec := "lexerGrows", inPlace := ["internal/bytealg.IndexByteString", "internal/abi.NoEscape", "internal/bytealg.MakeNoZero", "internal/bytealg.CountString", "internal/bytealg.IndexString"], unfollowed := true, recurses := true, named := ["tidegate/lexer.signs", "internal/bytealg.MaxLen"], apart := false, laid := [("tidegate/lexer.signs", laid_tidegate_lexer_signs)] }
def LexerGrowsSaid : Prop := lexerGrowsRow.holds Tryd.pinned (OpenSpec.ofChange lexerGrowsSpec)

/-- ITS FALSE NEIGHBOUR: 'it returns false'. Refute it at one input. -/
def lexerGrowsWrong : ChangeSpec := { name := "lexerGrows", fn := fun _ => fun
  | [d1, d2] => { results := [.lit (.bool false)], args := [d1, d2] }
  | _ => none }
def LexerGrowsWrongFalsely : Prop := lexerGrowsRow.holds Tryd.pinned (OpenSpec.ofChange lexerGrowsWrong)

/- THE SECOND FORM. 'bulk': how many values and letters a reading holds, each counted each time it is reached (what is shared counts as often as it is met; a slice's spare places count too). A statement '..UptoSaid' is the law's where the arguments, and the package variables that the reading takes, are together of bulk at most 1048576: NARROWER than '..Said'. Prove '..Said' where nothing that the law and all that it calls make is longer than what came in: it says more and counts as full. Else prove '..UptoSaid'. A law counts once. -/
mutual
def uptoBulk {H : Type} : DataW H → Nat
  | .lit (.string bytes) => bytes.length + 1
  | .lit _ => 1
  | .nil => 1
  | .ptr d => uptoBulk d + 1
  | .slice elems spare => uptoBulkAll elems + uptoBulkAll spare + 1
  | .agg parts => uptoBulkAll parts + 1
  | .iface _ d => uptoBulk d + 1
  | .map entries => uptoBulkEntries entries + 1
  | .held _ => 1
def uptoBulkAll {H : Type} : List (DataW H) → Nat
  | [] => 0
  | d :: r => uptoBulk d + uptoBulkAll r
def uptoBulkEntries {H : Type} : List (Lit × DataW H) → Nat
  | [] => 0
  | x :: r => uptoBulkEntry x + uptoBulkEntries r
def uptoBulkEntry {H : Type} : Lit × DataW H → Nat
  | (.string bytes, d) => bytes.length + uptoBulk d + 1
  | (_, d) => uptoBulk d + 1
 end
def uptoSmall : (H : Type) → List (DataW H) → Bool := fun _ ds => decide (uptoBulkAll ds ≤ 1048576)
def OpenSpec.upto (s : _root_.Go.ChangeSpec) : _root_.Go.OpenSpec := { _root_.Go.OpenSpec.ofChange s with cond := some uptoSmall }

/-- 'tidegatelaw06.LexerScans', WHERE WHAT IT READS IS OF BULK AT MOST 1048576: true; the input reads as it did. -/
def lexerScansUptoRow : OpenClaim := { program := "ytepnadmoflalnaadoor", sum := "edcad8c8fd56e08f43a97037a53439471e48174c2eb217aa7cfc38c0d2f36daf", func := "tidegate/tidegatelaw06.LexerScans", spec := "lexerScans", inPlace := ["internal/bytealg.IndexByteString", "internal/abi.NoEscape", "internal/bytealg.MakeNoZero", "internal/bytealg.CountString", "internal/bytealg.IndexString"], unfollowed := true, recurses := true, named := ["tidegate/lexer.signs", "internal/bytealg.MaxLen"], apart := false, laid := [("tidegate/lexer.signs", laid_tidegate_lexer_signs)], narrowed := true }
def LexerScansUptoSaid : Prop := lexerScansUptoRow.holds Tryd.pinned (OpenSpec.upto lexerScansSpec)

/-- 'tidegatelaw06.LexerPlaces', WHERE WHAT IT READS IS OF BULK AT MOST 1048576: true; the input reads as it did. -/
def lexerPlacesUptoRow : OpenClaim := { program := "ytepnadmoflalnaadoor", sum := "edcad8c8fd56e08f43a97037a53439471e48174c2eb217aa7cfc38c0d2f36daf", func := "tidegate/tidegatelaw06.LexerPlaces", spec := "lexerPlaces", inPlace := ["internal/bytealg.IndexByteString", "internal/abi.NoEscape", "internal/bytealg.MakeNoZero", "internal/bytealg.CountString", "internal/bytealg.IndexString"], unfollowed := true, recurses := true, named := ["tidegate/lexer.signs", "internal/bytealg.MaxLen"], apart := false, laid := [("tidegate/lexer.signs", laid_tidegate_lexer_signs)], narrowed := true }
def LexerPlacesUptoSaid : Prop := lexerPlacesUptoRow.holds Tryd.pinned (OpenSpec.upto lexerPlacesSpec)

/-- 'tidegatelaw06.LexerNames', WHERE WHAT IT READS IS OF BULK AT MOST 1048576: true; the input reads as it did. -/
def lexerNamesUptoRow : OpenClaim := { program := "ytepnadmoflalnaadoor", sum := "edcad8c8fd56e08f43a97037a53439471e48174c2eb217aa7cfc38c0d2f36daf", func := "tidegate/tidegatelaw06.LexerNames", spec := "lexerNames", inPlace := ["internal/bytealg.IndexByteString", "internal/abi.NoEscape", "internal/bytealg.MakeNoZero", "internal/bytealg.CountString", "internal/bytealg.IndexString"], unfollowed := true, recurses := true, named := ["tidegate/lexer.signs", "internal/bytealg.MaxLen"], apart := false, laid := [("tidegate/lexer.signs", laid_tidegate_lexer_signs)], narrowed := true }
def LexerNamesUptoSaid : Prop := lexerNamesUptoRow.holds Tryd.pinned (OpenSpec.upto lexerNamesSpec)

/-- 'tidegatelaw06.LexerQuotes', WHERE WHAT IT READS IS OF BULK AT MOST 1048576: true; the input reads as it did. -/
def lexerQuotesUptoRow : OpenClaim := { program := "ytepnadmoflalnaadoor", sum := "edcad8c8fd56e08f43a97037a53439471e48174c2eb217aa7cfc38c0d2f36daf", func := "tidegate/tidegatelaw06.LexerQuotes", spec := "lexerQuotes", inPlace := ["internal/bytealg.IndexByteString", "internal/abi.NoEscape", "internal/bytealg.MakeNoZero", "internal/bytealg.CountString", "internal/bytealg.IndexString"], unfollowed := true, recurses := true, named := ["tidegate/lexer.signs", "internal/bytealg.MaxLen"], apart := false, laid := [("tidegate/lexer.signs", laid_tidegate_lexer_signs)], narrowed := true }
def LexerQuotesUptoSaid : Prop := lexerQuotesUptoRow.holds Tryd.pinned (OpenSpec.upto lexerQuotesSpec)

/-- 'tidegatelaw06.LexerReturns', WHERE WHAT IT READS IS OF BULK AT MOST 1048576: true; the input reads as it did. -/
def lexerReturnsUptoRow : OpenClaim := { program := "ytepnadmoflalnaadoor", sum := "edcad8c8fd56e08f43a97037a53439471e48174c2eb217aa7cfc38c0d2f36daf", func := "tidegate/tidegatelaw06.LexerReturns", spec := "lexerReturns", inPlace := ["internal/bytealg.IndexByteString", "internal/abi.NoEscape", "internal/bytealg.MakeNoZero", "internal/bytealg.CountString", "internal/bytealg.IndexString"], unfollowed := true, recurses := true, named := ["tidegate/lexer.signs", "internal/bytealg.MaxLen"], apart := false, laid := [("tidegate/lexer.signs", laid_tidegate_lexer_signs)], narrowed := true }
def LexerReturnsUptoSaid : Prop := lexerReturnsUptoRow.holds Tryd.pinned (OpenSpec.upto lexerReturnsSpec)

/-- 'tidegatelaw06.LexerStands', WHERE WHAT IT READS IS OF BULK AT MOST 1048576: true; the input reads as it did. -/
def lexerStandsUptoRow : OpenClaim := { program := "ytepnadmoflalnaadoor", sum := "edcad8c8fd56e08f43a97037a53439471e48174c2eb217aa7cfc38c0d2f36daf", func := "tidegate/tidegatelaw06.LexerStands", spec := "lexerStands", inPlace := ["internal/bytealg.IndexByteString", "internal/abi.NoEscape", "internal/bytealg.MakeNoZero", "internal/bytealg.CountString", "internal/bytealg.IndexString"], unfollowed := true, recurses := true, named := ["tidegate/lexer.signs", "internal/bytealg.MaxLen"], apart := false, laid := [("tidegate/lexer.signs", laid_tidegate_lexer_signs)], narrowed := true }
def LexerStandsUptoSaid : Prop := lexerStandsUptoRow.holds Tryd.pinned (OpenSpec.upto lexerStandsSpec)

/-- 'tidegatelaw06.LexerSeparates', WHERE WHAT IT READS IS OF BULK AT MOST 1048576: true; the input reads as it did. -/
def lexerSeparatesUptoRow : OpenClaim := { program := "ytepnadmoflalnaadoor", sum := "edcad8c8fd56e08f43a97037a53439471e48174c2eb217aa7cfc38c0d2f36daf", func := "tidegate/tidegatelaw06.LexerSeparates", spec := "lexerSeparates", inPlace := ["internal/bytealg.IndexByteString", "internal/abi.NoEscape", "internal/bytealg.MakeNoZero", "internal/bytealg.CountString", "internal/bytealg.IndexString"], unfollowed := true, recurses := true, named := ["tidegate/lexer.signs", "internal/bytealg.MaxLen"], apart := false, laid := [("tidegate/lexer.signs", laid_tidegate_lexer_signs)], narrowed := true }
def LexerSeparatesUptoSaid : Prop := lexerSeparatesUptoRow.holds Tryd.pinned (OpenSpec.upto lexerSeparatesSpec)

/-- 'tidegatelaw06.LexerGrows', WHERE WHAT IT READS IS OF BULK AT MOST 1048576: true; the input reads as it did. -/
def lexerGrowsUptoRow : OpenClaim := { program := "ytepnadmoflalnaadoor", sum := "edcad8c8fd56e08f43a97037a53439471e48174c2eb217aa7cfc38c0d2f36daf", func := "tidegate/tidegatelaw06.LexerGrows", spec := "lexerGrows", inPlace := ["internal/bytealg.IndexByteString", "internal/abi.NoEscape", "internal/bytealg.MakeNoZero", "internal/bytealg.CountString", "internal/bytealg.IndexString"], unfollowed := true, recurses := true, named := ["tidegate/lexer.signs", "internal/bytealg.MaxLen"], apart := false, laid := [("tidegate/lexer.signs", laid_tidegate_lexer_signs)], narrowed := true }
def LexerGrowsUptoSaid : Prop := lexerGrowsUptoRow.holds Tryd.pinned (OpenSpec.upto lexerGrowsSpec)

end Rows
end Go.Proofs.YtepnadmoflalnaaDoor
