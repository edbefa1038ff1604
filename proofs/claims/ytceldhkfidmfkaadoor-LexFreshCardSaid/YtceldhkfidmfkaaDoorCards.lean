/-
  DERIVED. GIVEN WITH THE SEED: THE CARDS: each row of YtceldhkfidmfkaaDoorRows.lean that lists a variable, with what it lists TIED to the program's text (the seventh form; the later family's looks); each row that meets fmt, with fmt's text TOLD by the authors' own Lean function (tested against real Go, not proved from fmt's source: count such statements apart). THE CARD IS WHAT COUNTS. Prove the row's statement (the work); the ties are given (YtceldhkfidmfkaaDoorTie.lean); close each card by the builder's one call (the guide's Derived/Test/ToyasCard.lean, 'card_holds'). Laid BY PROGRAM, IN A SANDBOX (cutbox-door.mjs). By AI agents, Wed Nov 11 2026. No macro, syntax, notation, axiom, sorry.
-/
import Derived.Test.YtceldhkfidmfkaaDoorRows
import GoSem.ClaimSeven
namespace Go.Proofs.YtceldhkfidmfkaaDoor
namespace Rows

/-- THE TIED CARD OF 'whittlelaw4.LexScans'. -/
def lexScansCard : Claim7 := { stood := { row := lexScansRow, standIns := [], harness := (true, "06394d038dc4e570d30599e6b3dd08f88685c39090f743bbac0e6bcd4d3f213a"), looks := false }, kinds := [], alts := [], laidByText := true, laidKinds := [.data, .widerDeep, .widerDeep, .pinned], laidTests := true, laidLooks := .later }
def LexScansCardSaid : Prop := Claim7.holds Tryd.pinned (.plain (OpenSpec.ofChange lexScansSpec)) lexScansCard

/-- THE TIED CARD OF 'whittlelaw4.LexTexts'. -/
def lexTextsCard : Claim7 := { stood := { row := lexTextsRow, standIns := [], harness := (true, "06394d038dc4e570d30599e6b3dd08f88685c39090f743bbac0e6bcd4d3f213a"), looks := false }, kinds := [], alts := [], laidByText := true, laidKinds := [.data, .widerDeep, .widerDeep, .pinned], laidTests := true, laidLooks := .later }
def LexTextsCardSaid : Prop := Claim7.holds Tryd.pinned (.plain (OpenSpec.ofChange lexTextsSpec)) lexTextsCard

/-- THE TIED CARD OF 'whittlelaw4.LexFresh'. -/
def lexFreshCard : Claim7 := { stood := { row := lexFreshRow, standIns := [], harness := (true, "06394d038dc4e570d30599e6b3dd08f88685c39090f743bbac0e6bcd4d3f213a"), looks := false }, kinds := [], alts := [], laidByText := true, laidKinds := [.data, .widerDeep, .widerDeep, .pinned], laidTests := true, laidLooks := .later }
def LexFreshCardSaid : Prop := Claim7.holds Tryd.pinned (.plain (OpenSpec.ofChange lexFreshSpec)) lexFreshCard

/-- THE TIED CARD OF 'whittlelaw4.LexBack'. -/
def lexBackCard : Claim7 := { stood := { row := lexBackRow, standIns := [], harness := (true, "06394d038dc4e570d30599e6b3dd08f88685c39090f743bbac0e6bcd4d3f213a"), looks := false }, kinds := [], alts := [], laidByText := true, laidKinds := [.data, .widerDeep, .widerDeep, .pinned], laidTests := true, laidLooks := .later }
def LexBackCardSaid : Prop := Claim7.holds Tryd.pinned (.plain (OpenSpec.ofChange lexBackSpec)) lexBackCard

/-- THE TIED CARD OF 'whittlelaw4.LexBlanks'. -/
def lexBlanksCard : Claim7 := { stood := { row := lexBlanksRow, standIns := [], harness := (true, "06394d038dc4e570d30599e6b3dd08f88685c39090f743bbac0e6bcd4d3f213a"), looks := false }, kinds := [], alts := [], laidByText := true, laidKinds := [.data, .widerDeep, .widerDeep, .pinned], laidTests := true, laidLooks := .later }
def LexBlanksCardSaid : Prop := Claim7.holds Tryd.pinned (.plain (OpenSpec.ofChange lexBlanksSpec)) lexBlanksCard

/-- THE TIED CARD OF 'whittlelaw4.LexCovers'. -/
def lexCoversCard : Claim7 := { stood := { row := lexCoversRow, standIns := [], harness := (true, "06394d038dc4e570d30599e6b3dd08f88685c39090f743bbac0e6bcd4d3f213a"), looks := false }, kinds := [], alts := [], laidByText := true, laidKinds := [.data, .widerDeep, .widerDeep, .pinned], laidTests := true, laidLooks := .later }
def LexCoversCardSaid : Prop := Claim7.holds Tryd.pinned (.plain (OpenSpec.ofChange lexCoversSpec)) lexCoversCard

/-- THE SECOND FORM's CARD OF 'whittlelaw4.LexScans'. -/
def lexScansUptoCard : Claim7 := { stood := { row := lexScansUptoRow, standIns := [], harness := (true, "06394d038dc4e570d30599e6b3dd08f88685c39090f743bbac0e6bcd4d3f213a"), looks := false }, kinds := [], alts := [], laidByText := true, laidKinds := [.data, .widerDeep, .widerDeep, .pinned], laidTests := true, laidLooks := .later }
def LexScansUptoCardSaid : Prop := Claim7.holds Tryd.pinned (.plain (OpenSpec.upto lexScansSpec)) lexScansUptoCard

/-- THE SECOND FORM's CARD OF 'whittlelaw4.LexTexts'. -/
def lexTextsUptoCard : Claim7 := { stood := { row := lexTextsUptoRow, standIns := [], harness := (true, "06394d038dc4e570d30599e6b3dd08f88685c39090f743bbac0e6bcd4d3f213a"), looks := false }, kinds := [], alts := [], laidByText := true, laidKinds := [.data, .widerDeep, .widerDeep, .pinned], laidTests := true, laidLooks := .later }
def LexTextsUptoCardSaid : Prop := Claim7.holds Tryd.pinned (.plain (OpenSpec.upto lexTextsSpec)) lexTextsUptoCard

/-- THE SECOND FORM's CARD OF 'whittlelaw4.LexFresh'. -/
def lexFreshUptoCard : Claim7 := { stood := { row := lexFreshUptoRow, standIns := [], harness := (true, "06394d038dc4e570d30599e6b3dd08f88685c39090f743bbac0e6bcd4d3f213a"), looks := false }, kinds := [], alts := [], laidByText := true, laidKinds := [.data, .widerDeep, .widerDeep, .pinned], laidTests := true, laidLooks := .later }
def LexFreshUptoCardSaid : Prop := Claim7.holds Tryd.pinned (.plain (OpenSpec.upto lexFreshSpec)) lexFreshUptoCard

/-- THE SECOND FORM's CARD OF 'whittlelaw4.LexBack'. -/
def lexBackUptoCard : Claim7 := { stood := { row := lexBackUptoRow, standIns := [], harness := (true, "06394d038dc4e570d30599e6b3dd08f88685c39090f743bbac0e6bcd4d3f213a"), looks := false }, kinds := [], alts := [], laidByText := true, laidKinds := [.data, .widerDeep, .widerDeep, .pinned], laidTests := true, laidLooks := .later }
def LexBackUptoCardSaid : Prop := Claim7.holds Tryd.pinned (.plain (OpenSpec.upto lexBackSpec)) lexBackUptoCard

/-- THE SECOND FORM's CARD OF 'whittlelaw4.LexBlanks'. -/
def lexBlanksUptoCard : Claim7 := { stood := { row := lexBlanksUptoRow, standIns := [], harness := (true, "06394d038dc4e570d30599e6b3dd08f88685c39090f743bbac0e6bcd4d3f213a"), looks := false }, kinds := [], alts := [], laidByText := true, laidKinds := [.data, .widerDeep, .widerDeep, .pinned], laidTests := true, laidLooks := .later }
def LexBlanksUptoCardSaid : Prop := Claim7.holds Tryd.pinned (.plain (OpenSpec.upto lexBlanksSpec)) lexBlanksUptoCard

/-- THE SECOND FORM's CARD OF 'whittlelaw4.LexCovers'. -/
def lexCoversUptoCard : Claim7 := { stood := { row := lexCoversUptoRow, standIns := [], harness := (true, "06394d038dc4e570d30599e6b3dd08f88685c39090f743bbac0e6bcd4d3f213a"), looks := false }, kinds := [], alts := [], laidByText := true, laidKinds := [.data, .widerDeep, .widerDeep, .pinned], laidTests := true, laidLooks := .later }
def LexCoversUptoCardSaid : Prop := Claim7.holds Tryd.pinned (.plain (OpenSpec.upto lexCoversSpec)) lexCoversUptoCard
end Rows
end Go.Proofs.YtceldhkfidmfkaaDoor
