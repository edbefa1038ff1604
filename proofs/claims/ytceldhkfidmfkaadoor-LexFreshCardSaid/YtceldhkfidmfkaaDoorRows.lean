/-
  NARROWER THAN 'FOR EVERY INPUT', by the rows' own cells (each row's printed sentence says how): LexScans: laid · LexTexts: laid · LexFresh: laid · LexBack: laid · LexBlanks: laid · LexCovers: laid.
  DERIVED. THE GIVEN ROWS OF THIS SEAT. 6 by the template 'for every input the law returns true; each argument reads behind the call as it read before'; 0 by the template 'total and deterministic' (their statements: YtceldhkfidmfkaaDoorTotals.lean).
  GIVEN WITH THE SEED: the statements are not yours to turn. If you find one false, say at which input.
  Laid BY PROGRAM, IN A SANDBOX (cutbox-rows.mjs): the forced cells as the released guide's own fill.sh prints them over the translation d0b6f5084459c081… (all of the seat's roots in one cut). By AI agents, Wed Nov 11 2026. No macro, syntax, notation, axiom, sorry.
-/
import Derived.Test.YtceldhkfidmfkaaDoorChecked
import GoSem.PinnedTables
import GoSem.Claim
import GoSem.ClaimJoined
import GoSem.ClaimMapViews
import Derived.JoinedTies
import Derived.KernelRfl
namespace Go.Proofs.YtceldhkfidmfkaaDoor
/- THE CELL 'sum', in the pinned program and in every row, IS THE sha256 OF THE DUMP (.gsa) THAT YtceldhkfidmfkaaDoorProg.lean LOADS. Nothing in Lean hashes anything: it is a label: what it is worth is what the hold of that sum in a sandbox is worth. -/
noncomputable def Tryd.pinned : Pinned := { name := "ytceldhkfidmfkaadoor", sum := "d0b6f5084459c08111a7d087a487f381e822bef62e0f8d95c97e6a16a1800a0d", checked := Tryd.checked }
namespace Rows
def none {H : Type} : Left H := { results := [], args := [] }

/- WHAT THE LISTED PACKAGE-LEVEL VARIABLES READ AS WHEN THE CALL BEGINS. Each datum BY PROGRAM (the guide's laid-datum.mjs) off the statement by which the dump's own 'gosem.cut.vars' lays the variable. In a bare row this is a premise. The card (YtceldhkfidmfkaaDoorCards.lean) ties it to the program's text. -/
def laid_unicode_utf8_acceptRanges {H : Type} : DataW H := .agg [.agg [.lit (.int .u8 128), .lit (.int .u8 191)], .agg [.lit (.int .u8 160), .lit (.int .u8 191)], .agg [.lit (.int .u8 128), .lit (.int .u8 159)], .agg [.lit (.int .u8 144), .lit (.int .u8 191)], .agg [.lit (.int .u8 128), .lit (.int .u8 143)], .agg [.lit (.int .u8 0), .lit (.int .u8 0)], .agg [.lit (.int .u8 0), .lit (.int .u8 0)], .agg [.lit (.int .u8 0), .lit (.int .u8 0)], .agg [.lit (.int .u8 0), .lit (.int .u8 0)], .agg [.lit (.int .u8 0), .lit (.int .u8 0)], .agg [.lit (.int .u8 0), .lit (.int .u8 0)], .agg [.lit (.int .u8 0), .lit (.int .u8 0)], .agg [.lit (.int .u8 0), .lit (.int .u8 0)], .agg [.lit (.int .u8 0), .lit (.int .u8 0)], .agg [.lit (.int .u8 0), .lit (.int .u8 0)], .agg [.lit (.int .u8 0), .lit (.int .u8 0)]]
def laid_whittle_lex_pairs {H : Type} : DataW H := .agg [.lit (.string [60, 62]), .lit (.string [60, 61]), .lit (.string [62, 61])]
def laid_whittle_lex_faults {H : Type} : DataW H := .agg [.lit (.string [35, 68, 73, 86, 47, 48, 33]), .lit (.string [35, 86, 65, 76, 85, 69, 33]), .lit (.string [35, 82, 69, 70, 33]), .lit (.string [35, 78, 85, 77, 33]), .lit (.string [35, 78, 47, 65]), .lit (.string [35, 67, 73, 82, 67, 76, 69, 33]), .lit (.string [35, 76, 79, 78, 71, 33]), .lit (.string [35, 65, 82, 71, 33])]
/-- One of Go's own tables, pinned by name: the form's constant. -/
def laid_unicode_utf8_first : DataW Unit := Go.Pinned.utf8First

/-- 'whittlelaw4.LexScans': WHATEVER THE INPUT: true; the input reads as it did. -/
def lexScansSpec : ChangeSpec := { name := "lexScans", fn := fun _ => fun
  | [d] => { results := [.lit (.bool true)], args := [d] }
  | _ => none }
def lexScansRow : OpenClaim := { program := "ytceldhkfidmfkaadoor", sum := "d0b6f5084459c08111a7d087a487f381e822bef62e0f8d95c97e6a16a1800a0d", func := "whittle/whittlelaw4.LexScans", spec := "lexScans", inPlace := ["internal/bytealg.IndexByteString", "internal/bytealg.CountString", "internal/bytealg.IndexString", "internal/abi.NoEscape", "internal/bytealg.MakeNoZero"], unfollowed := true, recurses := true, named := ["whittle/lex.faults", "whittle/lex.pairs", "internal/bytealg.MaxLen", "unicode/utf8.first", "unicode/utf8.acceptRanges"], apart := false, laid := [("unicode/utf8.acceptRanges", laid_unicode_utf8_acceptRanges), ("whittle/lex.pairs", laid_whittle_lex_pairs), ("whittle/lex.faults", laid_whittle_lex_faults), ("unicode/utf8.first", laid_unicode_utf8_first)] }
def LexScansSaid : Prop := lexScansRow.holds Tryd.pinned (OpenSpec.ofChange lexScansSpec)

/-- ITS FALSE NEIGHBOUR: 'it returns false'. Refute it at one input. -/
def lexScansWrong : ChangeSpec := { name := "lexScans", fn := fun _ => fun
  | [d] => { results := [.lit (.bool false)], args := [d] }
  | _ => none }
def LexScansWrongFalsely : Prop := lexScansRow.holds Tryd.pinned (OpenSpec.ofChange lexScansWrong)

/-- 'whittlelaw4.LexTexts': WHATEVER THE INPUT: true; the input reads as it did. -/
def lexTextsSpec : ChangeSpec := { name := "lexTexts", fn := fun _ => fun
  | [d] => { results := [.lit (.bool true)], args := [d] }
  | _ => none }
def lexTextsRow : OpenClaim := { program := "ytceldhkfidmfkaadoor", sum := "d0b6f5084459c08111a7d087a487f381e822bef62e0f8d95c97e6a16a1800a0d", func := "whittle/whittlelaw4.LexTexts", spec := "lexTexts", inPlace := ["internal/abi.NoEscape", "internal/bytealg.CountString", "internal/bytealg.IndexByteString", "internal/bytealg.IndexString", "internal/bytealg.MakeNoZero"], unfollowed := true, recurses := true, named := ["internal/bytealg.MaxLen", "unicode/utf8.first", "unicode/utf8.acceptRanges", "whittle/lex.faults", "whittle/lex.pairs"], apart := false, laid := [("unicode/utf8.acceptRanges", laid_unicode_utf8_acceptRanges), ("whittle/lex.pairs", laid_whittle_lex_pairs), ("whittle/lex.faults", laid_whittle_lex_faults), ("unicode/utf8.first", laid_unicode_utf8_first)] }
def LexTextsSaid : Prop := lexTextsRow.holds Tryd.pinned (OpenSpec.ofChange lexTextsSpec)

/-- ITS FALSE NEIGHBOUR: 'it returns false'. Refute it at one input. -/
def lexTextsWrong : ChangeSpec := { name := "lexTexts", fn := fun _ => fun
  | [d] => { results := [.lit (.bool false)], args := [d] }
  | _ => none }
def LexTextsWrongFalsely : Prop := lexTextsRow.holds Tryd.pinned (OpenSpec.ofChange lexTextsWrong)

/-- 'whittlelaw4.LexFresh': WHATEVER THE INPUT: true; the input reads as it did. -/
def lexFreshSpec : ChangeSpec := { name := "lexFresh", fn := fun _ => fun
  | [d] => { results := [.lit (.bool true)], args := [d] }
  | _ => none }
def lexFreshRow : OpenClaim := { program := "ytceldhkfidmfkaadoor", sum := "d0b6f5084459c08111a7d087a487f381e822bef62e0f8d95c97e6a16a1800a0d", func := "whittle/whittlelaw4.LexFresh", spec := "lexFresh", inPlace := ["internal/bytealg.IndexByteString", "internal/bytealg.CountString", "internal/bytealg.IndexString", "internal/abi.NoEscape", "internal/bytealg.MakeNoZero"], unfollowed := true, recurses := true, named := ["whittle/lex.faults", "whittle/lex.pairs", "internal/bytealg.MaxLen", "unicode/utf8.first", "unicode/utf8.acceptRanges"], apart := false, laid := [("unicode/utf8.acceptRanges", laid_unicode_utf8_acceptRanges), ("whittle/lex.pairs", laid_whittle_lex_pairs), ("whittle/lex.faults", laid_whittle_lex_faults), ("unicode/utf8.first", laid_unicode_utf8_first)] }
def LexFreshSaid : Prop := lexFreshRow.holds Tryd.pinned (OpenSpec.ofChange lexFreshSpec)

/-- ITS FALSE NEIGHBOUR: 'it returns false'. Refute it at one input. -/
def lexFreshWrong : ChangeSpec := { name := "lexFresh", fn := fun _ => fun
  | [d] => { results := [.lit (.bool false)], args := [d] }
  | _ => none }
def LexFreshWrongFalsely : Prop := lexFreshRow.holds Tryd.pinned (OpenSpec.ofChange lexFreshWrong)

/-- 'whittlelaw4.LexBack': WHATEVER THE INPUT: true; the input reads as it did. -/
def lexBackSpec : ChangeSpec := { name := "lexBack", fn := fun _ => fun
  | [d] => { results := [.lit (.bool true)], args := [d] }
  | _ => none }
def lexBackRow : OpenClaim := { program := "ytceldhkfidmfkaadoor", sum := "d0b6f5084459c08111a7d087a487f381e822bef62e0f8d95c97e6a16a1800a0d", func := "whittle/whittlelaw4.LexBack", spec := "lexBack", inPlace := ["internal/bytealg.IndexByteString", "internal/bytealg.CountString", "internal/bytealg.IndexString", "internal/abi.NoEscape", "internal/bytealg.MakeNoZero"], unfollowed := true, recurses := true, named := ["whittle/lex.faults", "whittle/lex.pairs", "internal/bytealg.MaxLen", "unicode/utf8.first", "unicode/utf8.acceptRanges"], apart := false, laid := [("unicode/utf8.acceptRanges", laid_unicode_utf8_acceptRanges), ("whittle/lex.pairs", laid_whittle_lex_pairs), ("whittle/lex.faults", laid_whittle_lex_faults), ("unicode/utf8.first", laid_unicode_utf8_first)] }
def LexBackSaid : Prop := lexBackRow.holds Tryd.pinned (OpenSpec.ofChange lexBackSpec)

/-- ITS FALSE NEIGHBOUR: 'it returns false'. Refute it at one input. -/
def lexBackWrong : ChangeSpec := { name := "lexBack", fn := fun _ => fun
  | [d] => { results := [.lit (.bool false)], args := [d] }
  | _ => none }
def LexBackWrongFalsely : Prop := lexBackRow.holds Tryd.pinned (OpenSpec.ofChange lexBackWrong)

/-- 'whittlelaw4.LexBlanks': WHATEVER THE INPUT: true; the input reads as it did. -/
def lexBlanksSpec : ChangeSpec := { name := "lexBlanks", fn := fun _ => fun
  | [d1, d2, d3] => { results := [.lit (.bool true)], args := [d1, d2, d3] }
  | _ => none }
def lexBlanksRow : OpenClaim := { program := "ytceldhkfidmfkaadoor", sum := "d0b6f5084459c08111a7d087a487f381e822bef62e0f8d95c97e6a16a1800a0d", func := "whittle/whittlelaw4.LexBlanks", spec := "lexBlanks", inPlace := ["internal/bytealg.IndexByteString", "internal/bytealg.CountString", "internal/bytealg.IndexString", "internal/abi.NoEscape", "internal/bytealg.MakeNoZero"], unfollowed := true, recurses := true, named := ["whittle/lex.faults", "whittle/lex.pairs", "internal/bytealg.MaxLen", "unicode/utf8.first", "unicode/utf8.acceptRanges"], apart := false, laid := [("unicode/utf8.acceptRanges", laid_unicode_utf8_acceptRanges), ("whittle/lex.pairs", laid_whittle_lex_pairs), ("whittle/lex.faults", laid_whittle_lex_faults), ("unicode/utf8.first", laid_unicode_utf8_first)] }
def LexBlanksSaid : Prop := lexBlanksRow.holds Tryd.pinned (OpenSpec.ofChange lexBlanksSpec)

/-- ITS FALSE NEIGHBOUR: 'it returns false'. Refute it at one input. -/
def lexBlanksWrong : ChangeSpec := { name := "lexBlanks", fn := fun _ => fun
  | [d1, d2, d3] => { results := [.lit (.bool false)], args := [d1, d2, d3] }
  | _ => none }
def LexBlanksWrongFalsely : Prop := lexBlanksRow.holds Tryd.pinned (OpenSpec.ofChange lexBlanksWrong)

/-- 'whittlelaw4.LexCovers': WHATEVER THE INPUT: true; the input reads as it did. -/
def lexCoversSpec : ChangeSpec := { name := "lexCovers", fn := fun _ => fun
  | [d] => { results := [.lit (.bool true)], args := [d] }
  | _ => none }
def lexCoversRow : OpenClaim := { program := "ytceldhkfidmfkaadoor", sum := "d0b6f5084459c08111a7d087a487f381e822bef62e0f8d95c97e6a16a1800a0d", func := "whittle/whittlelaw4.LexCovers", spec := "lexCovers", inPlace := ["internal/bytealg.IndexByteString", "internal/bytealg.CountString", "internal/bytealg.IndexString", "internal/abi.NoEscape", "internal/bytealg.MakeNoZero"], unfollowed := true, recurses := true, named := ["whittle/lex.faults", "whittle/lex.pairs", "internal/bytealg.MaxLen", "unicode/utf8.first", "unicode/utf8.acceptRanges"], apart := false, laid := [("unicode/utf8.acceptRanges", laid_unicode_utf8_acceptRanges), ("whittle/lex.pairs", laid_whittle_lex_pairs), ("whittle/lex.faults", laid_whittle_lex_faults), ("unicode/utf8.first", laid_unicode_utf8_first)] }
def LexCoversSaid : Prop := lexCoversRow.holds Tryd.pinned (OpenSpec.ofChange lexCoversSpec)

/-- ITS FALSE NEIGHBOUR: 'it returns false'. Refute it at one input. -/
def lexCoversWrong : ChangeSpec := { name := "lexCovers", fn := fun _ => fun
  | [d] => { results := [.lit (.bool false)], args := [d] }
  | _ => none }
def LexCoversWrongFalsely : Prop := lexCoversRow.holds Tryd.pinned (OpenSpec.ofChange lexCoversWrong)

/- THE SECOND FORM. 'bulk': how many values and letters a reading holds, each counted each time it is reached (what is shared counts as often as it is met; a slice's spare places count too). A statement '..UptoSaid' is the law's where the arguments, and the package variables that the reading takes, are together of bulk at most 1048576: NARROWER than '..Said'. Prove '..Said' where nothing that the law and all that it calls make is longer than what came in: it says more and counts as full. Else prove '..UptoSaid'. A law counts once. -/
mutual
def uptoBulk {H : Type} : DataW H → Nat
  | .lit (.string bytes) => bytes.length + 1
  | .lit _ => 1
  | .nil => 1
  | .ptr d => uptoBulk d + 1
  | .slice elems spare => uptoBulkAll elems + uptoBulkAll spare + 1
  | .agg parts => uptoBulkAll parts + 1
  | .iface _ d => uptoBulk d + 1
  | .map entries => uptoBulkEntries entries + 1
  | .held _ => 1
def uptoBulkAll {H : Type} : List (DataW H) → Nat
  | [] => 0
  | d :: r => uptoBulk d + uptoBulkAll r
def uptoBulkEntries {H : Type} : List (Lit × DataW H) → Nat
  | [] => 0
  | x :: r => uptoBulkEntry x + uptoBulkEntries r
def uptoBulkEntry {H : Type} : Lit × DataW H → Nat
  | (.string bytes, d) => bytes.length + uptoBulk d + 1
  | (_, d) => uptoBulk d + 1
 end
def uptoSmall : (H : Type) → List (DataW H) → Bool := fun _ ds => decide (uptoBulkAll ds ≤ 1048576)
def OpenSpec.upto (s : _root_.Go.ChangeSpec) : _root_.Go.OpenSpec := { _root_.Go.OpenSpec.ofChange s with cond := some uptoSmall }

/-- 'whittlelaw4.LexScans', WHERE WHAT IT READS IS OF BULK AT MOST 1048576: true; the input reads as it did. -/
def lexScansUptoRow : OpenClaim := { program := "ytceldhkfidmfkaadoor", sum := "d0b6f5084459c08111a7d087a487f381e822bef62e0f8d95c97e6a16a1800a0d", func := "whittle/whittlelaw4.LexScans", spec := "lexScans", inPlace := ["internal/bytealg.IndexByteString", "internal/bytealg.CountString", "internal/bytealg.IndexString", "internal/abi.NoEscape", "internal/bytealg.MakeNoZero"], unfollowed := true, recurses := true, named := ["whittle/lex.faults", "whittle/lex.pairs", "internal/bytealg.MaxLen", "unicode/utf8.first", "unicode/utf8.acceptRanges"], apart := false, laid := [("unicode/utf8.acceptRanges", laid_unicode_utf8_acceptRanges), ("whittle/lex.pairs", laid_whittle_lex_pairs), ("whittle/lex.faults", laid_whittle_lex_faults), ("unicode/utf8.first", laid_unicode_utf8_first)], narrowed := true }
def LexScansUptoSaid : Prop := lexScansUptoRow.holds Tryd.pinned (OpenSpec.upto lexScansSpec)

/-- 'whittlelaw4.LexTexts', WHERE WHAT IT READS IS OF BULK AT MOST 1048576: true; the input reads as it did. -/
def lexTextsUptoRow : OpenClaim := { program := "ytceldhkfidmfkaadoor", sum := "d0b6f5084459c08111a7d087a487f381e822bef62e0f8d95c97e6a16a1800a0d", func := "whittle/whittlelaw4.LexTexts", spec := "lexTexts", inPlace := ["internal/abi.NoEscape", "internal/bytealg.CountString", "internal/bytealg.IndexByteString", "internal/bytealg.IndexString", "internal/bytealg.MakeNoZero"], unfollowed := true, recurses := true, named := ["internal/bytealg.MaxLen", "unicode/utf8.first", "unicode/utf8.acceptRanges", "whittle/lex.faults", "whittle/lex.pairs"], apart := false, laid := [("unicode/utf8.acceptRanges", laid_unicode_utf8_acceptRanges), ("whittle/lex.pairs", laid_whittle_lex_pairs), ("whittle/lex.faults", laid_whittle_lex_faults), ("unicode/utf8.first", laid_unicode_utf8_first)], narrowed := true }
def LexTextsUptoSaid : Prop := lexTextsUptoRow.holds Tryd.pinned (OpenSpec.upto lexTextsSpec)

/-- 'whittlelaw4.LexFresh', WHERE WHAT IT READS IS OF BULK AT MOST 1048576: true; the input reads as it did. -/
def lexFreshUptoRow : OpenClaim := { program := "ytceldhkfidmfkaadoor", sum := "d0b6f5084459c08111a7d087a487f381e822bef62e0f8d95c97e6a16a1800a0d", func := "whittle/whittlelaw4.LexFresh", spec := "lexFresh", inPlace := ["internal/bytealg.IndexByteString", "internal/bytealg.CountString", "internal/bytealg.IndexString", "internal/abi.NoEscape", "internal/bytealg.MakeNoZero"], unfollowed := true, recurses := true, named := ["whittle/lex.faults", "whittle/lex.pairs", "internal/bytealg.MaxLen", "unicode/utf8.first", "unicode/utf8.acceptRanges"], apart := false, laid := [("unicode/utf8.acceptRanges", laid_unicode_utf8_acceptRanges), ("whittle/lex.pairs", laid_whittle_lex_pairs), ("whittle/lex.faults", laid_whittle_lex_faults), ("unicode/utf8.first", laid_unicode_utf8_first)], narrowed := true }
def LexFreshUptoSaid : Prop := lexFreshUptoRow.holds Tryd.pinned (OpenSpec.upto lexFreshSpec)

/-- 'whittlelaw4.LexBack', WHERE WHAT IT READS IS OF BULK AT MOST 1048576: true; the input reads as it did. -/
def lexBackUptoRow : OpenClaim := { program := "ytceldhkfidmfkaadoor", sum := "d0b6f5084459c08111a7d087a487f381e822bef62e0f8d95c97e6a16a1800a0d", func := "whittle/whittlelaw4.LexBack", spec := "lexBack", inPlace := ["internal/bytealg.IndexByteString", "internal/bytealg.CountString", "internal/bytealg.IndexString", "internal/abi.NoEscape", "internal/bytealg.MakeNoZero"], unfollowed := true, recurses := true, named := ["whittle/lex.faults", "whittle/lex.pairs", "internal/bytealg.MaxLen", "unicode/utf8.first", "unicode/utf8.acceptRanges"], apart := false, laid := [("unicode/utf8.acceptRanges", laid_unicode_utf8_acceptRanges), ("whittle/lex.pairs", laid_whittle_lex_pairs), ("whittle/lex.faults", laid_whittle_lex_faults), ("unicode/utf8.first", laid_unicode_utf8_first)], narrowed := true }
def LexBackUptoSaid : Prop := lexBackUptoRow.holds Tryd.pinned (OpenSpec.upto lexBackSpec)

/-- 'whittlelaw4.LexBlanks', WHERE WHAT IT READS IS OF BULK AT MOST 1048576: true; the input reads as it did. -/
def lexBlanksUptoRow : OpenClaim := { program := "ytceldhkfidmfkaadoor", sum := "d0b6f5084459c08111a7d087a487f381e822bef62e0f8d95c97e6a16a1800a0d", func := "whittle/whittlelaw4.LexBlanks", spec := "lexBlanks", inPlace := ["internal/bytealg.IndexByteString", "internal/bytealg.CountString", "internal/bytealg.IndexString", "internal/abi.NoEscape", "internal/bytealg.MakeNoZero"], unfollowed := true, recurses := true, named := ["whittle/lex.faults", "whittle/lex.pairs", "internal/bytealg.MaxLen", "unicode/utf8.first", "unicode/utf8.acceptRanges"], apart := false, laid := [("unicode/utf8.acceptRanges", laid_unicode_utf8_acceptRanges), ("whittle/lex.pairs", laid_whittle_lex_pairs), ("whittle/lex.faults", laid_whittle_lex_faults), ("unicode/utf8.first", laid_unicode_utf8_first)], narrowed := true }
def LexBlanksUptoSaid : Prop := lexBlanksUptoRow.holds Tryd.pinned (OpenSpec.upto lexBlanksSpec)

/-- 'whittlelaw4.LexCovers', WHERE WHAT IT READS IS OF BULK AT MOST 1048576: true; the input reads as it did. -/
def lexCoversUptoRow : OpenClaim := { program := "ytceldhkfidmfkaadoor", sum := "d0b6f5084459c08111a7d087a487f381e822bef62e0f8d95c97e6a16a1800a0d", func := "whittle/whittlelaw4.LexCovers", spec := "lexCovers", inPlace := ["internal/bytealg.IndexByteString", "internal/bytealg.CountString", "internal/bytealg.IndexString", "internal/abi.NoEscape", "internal/bytealg.MakeNoZero"], unfollowed := true, recurses := true, named := ["whittle/lex.faults", "whittle/lex.pairs", "internal/bytealg.MaxLen", "unicode/utf8.first", "unicode/utf8.acceptRanges"], apart := false, laid := [("unicode/utf8.acceptRanges", laid_unicode_utf8_acceptRanges), ("whittle/lex.pairs", laid_whittle_lex_pairs), ("whittle/lex.faults", laid_whittle_lex_faults), ("unicode/utf8.first", laid_unicode_utf8_first)], narrowed := true }
def LexCoversUptoSaid : Prop := lexCoversUptoRow.holds Tryd.pinned (OpenSpec.upto lexCoversSpec)

end Rows
end Go.Proofs.YtceldhkfidmfkaaDoor
