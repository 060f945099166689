/-
  DERIVED. GIVEN WITH THE SEED: THE CARDS: each row of YtceagilmillgfaaDoorRows.lean that lists a variable, with what it lists TIED to the program's text (the seventh form; the later family's looks); each row that meets fmt, with fmt's text TOLD by the authors' own Lean function (tested against real Go, not proved from fmt's source: count such statements apart). THE CARD IS WHAT COUNTS. Prove the row's statement (the work); the ties are given (YtceagilmillgfaaDoorTie.lean); close each card by the builder's one call (the guide's Derived/Test/ToyasCard.lean, 'card_holds'). Laid BY PROGRAM, IN A SANDBOX (cutbox-door.mjs). By AI agents, Wed Nov 11 2026. No macro, syntax, notation, axiom, sorry.
-/
import Derived.Test.YtceagilmillgfaaDoorRows
import GoSem.ClaimSeven
namespace Go.Proofs.YtceagilmillgfaaDoor
namespace Rows

/-- THE TIED CARD OF 'headgatelaw25.SqePuts'. -/
def sqePutsCard : Claim7 := { stood := { row := sqePutsRow, standIns := [], harness := (true, "dde69d8880c0ae314019b86cbea54e804b9e7e792a5767fc0e7a861585a08b28"), looks := false }, kinds := [], alts := [], laidByText := true, laidKinds := [.data, .data], laidTests := true, laidLooks := .later }
def SqePutsCardSaid : Prop := Claim7.holds Tryd.pinned (.plain (OpenSpec.ofChange sqePutsSpec)) sqePutsCard

/-- THE TIED CARD OF 'headgatelaw18.ProutReads'. -/
def proutReadsCard : Claim7 := { stood := { row := proutReadsRow, standIns := [], harness := (true, "dde69d8880c0ae314019b86cbea54e804b9e7e792a5767fc0e7a861585a08b28"), looks := false }, kinds := [], alts := [], laidByText := true, laidKinds := [.data], laidTests := true, laidLooks := .later }
def ProutReadsCardSaid : Prop := Claim7.holds Tryd.pinned (.plain (OpenSpec.ofChange proutReadsSpec)) proutReadsCard

/-- THE TIED CARD OF 'headgatelaw25.SqeGets'. -/
def sqeGetsCard : Claim7 := { stood := { row := sqeGetsRow, standIns := [], harness := (true, "dde69d8880c0ae314019b86cbea54e804b9e7e792a5767fc0e7a861585a08b28"), looks := false }, kinds := [], alts := [], laidByText := true, laidKinds := [.data, .data], laidTests := true, laidLooks := .later }
def SqeGetsCardSaid : Prop := Claim7.holds Tryd.pinned (.plain (OpenSpec.ofChange sqeGetsSpec)) sqeGetsCard

/-- THE TIED CARD OF 'headgatelaw25.SqeBack'. -/
def sqeBackCard : Claim7 := { stood := { row := sqeBackRow, standIns := [], harness := (true, "dde69d8880c0ae314019b86cbea54e804b9e7e792a5767fc0e7a861585a08b28"), looks := false }, kinds := [], alts := [], laidByText := true, laidKinds := [.data, .data], laidTests := true, laidLooks := .later }
def SqeBackCardSaid : Prop := Claim7.holds Tryd.pinned (.plain (OpenSpec.ofChange sqeBackSpec)) sqeBackCard

/-- THE TIED CARD OF 'headgatelaw25.SqeCuts'. -/
def sqeCutsCard : Claim7 := { stood := { row := sqeCutsRow, standIns := [], harness := (true, "dde69d8880c0ae314019b86cbea54e804b9e7e792a5767fc0e7a861585a08b28"), looks := false }, kinds := [], alts := [], laidByText := true, laidKinds := [.data, .data], laidTests := true, laidLooks := .later }
def SqeCutsCardSaid : Prop := Claim7.holds Tryd.pinned (.plain (OpenSpec.ofChange sqeCutsSpec)) sqeCutsCard

/-- THE TIED CARD OF 'headgatelaw15.CdbParses'. -/
def cdbParsesCard : Claim7 := { stood := { row := cdbParsesRow, standIns := [], harness := (true, "dde69d8880c0ae314019b86cbea54e804b9e7e792a5767fc0e7a861585a08b28"), looks := false }, kinds := [], alts := [], laidByText := true, laidKinds := [.data, .data], laidTests := true, laidLooks := .later }
def CdbParsesCardSaid : Prop := Claim7.holds Tryd.pinned (.plain (OpenSpec.ofChange cdbParsesSpec)) cdbParsesCard

/-- THE TIED CARD OF 'headgatelaw15.CdbBuilds'. -/
def cdbBuildsCard : Claim7 := { stood := { row := cdbBuildsRow, standIns := [], harness := (true, "dde69d8880c0ae314019b86cbea54e804b9e7e792a5767fc0e7a861585a08b28"), looks := false }, kinds := [], alts := [], laidByText := true, laidKinds := [.data, .data], laidTests := true, laidLooks := .later }
def CdbBuildsCardSaid : Prop := Claim7.holds Tryd.pinned (.plain (OpenSpec.ofChange cdbBuildsSpec)) cdbBuildsCard

/-- THE TIED CARD OF 'headgatelaw15.CdbBack'. -/
def cdbBackCard : Claim7 := { stood := { row := cdbBackRow, standIns := [], harness := (true, "dde69d8880c0ae314019b86cbea54e804b9e7e792a5767fc0e7a861585a08b28"), looks := false }, kinds := [], alts := [], laidByText := true, laidKinds := [.data, .data], laidTests := true, laidLooks := .later }
def CdbBackCardSaid : Prop := Claim7.holds Tryd.pinned (.plain (OpenSpec.ofChange cdbBackSpec)) cdbBackCard

/-- THE TIED CARD OF 'headgatelaw15.CdbShort'. -/
def cdbShortCard : Claim7 := { stood := { row := cdbShortRow, standIns := [], harness := (true, "dde69d8880c0ae314019b86cbea54e804b9e7e792a5767fc0e7a861585a08b28"), looks := false }, kinds := [], alts := [], laidByText := true, laidKinds := [.data, .data], laidTests := true, laidLooks := .later }
def CdbShortCardSaid : Prop := Claim7.holds Tryd.pinned (.plain (OpenSpec.ofChange cdbShortSpec)) cdbShortCard

/-- THE TIED CARD OF 'headgatelaw15.CdbForms'. -/
def cdbFormsCard : Claim7 := { stood := { row := cdbFormsRow, standIns := [], harness := (true, "dde69d8880c0ae314019b86cbea54e804b9e7e792a5767fc0e7a861585a08b28"), looks := false }, kinds := [], alts := [], laidByText := true, laidKinds := [.data, .data], laidTests := true, laidLooks := .later }
def CdbFormsCardSaid : Prop := Claim7.holds Tryd.pinned (.plain (OpenSpec.ofChange cdbFormsSpec)) cdbFormsCard

/-- THE SECOND FORM's CARD OF 'headgatelaw25.SqePuts'. -/
def sqePutsUptoCard : Claim7 := { stood := { row := sqePutsUptoRow, standIns := [], harness := (true, "dde69d8880c0ae314019b86cbea54e804b9e7e792a5767fc0e7a861585a08b28"), looks := false }, kinds := [], alts := [], laidByText := true, laidKinds := [.data, .data], laidTests := true, laidLooks := .later }
def SqePutsUptoCardSaid : Prop := Claim7.holds Tryd.pinned (.plain (OpenSpec.upto sqePutsSpec)) sqePutsUptoCard

/-- THE SECOND FORM's CARD OF 'headgatelaw18.ProutReads'. -/
def proutReadsUptoCard : Claim7 := { stood := { row := proutReadsUptoRow, standIns := [], harness := (true, "dde69d8880c0ae314019b86cbea54e804b9e7e792a5767fc0e7a861585a08b28"), looks := false }, kinds := [], alts := [], laidByText := true, laidKinds := [.data], laidTests := true, laidLooks := .later }
def ProutReadsUptoCardSaid : Prop := Claim7.holds Tryd.pinned (.plain (OpenSpec.upto proutReadsSpec)) proutReadsUptoCard

/-- THE SECOND FORM's CARD OF 'headgatelaw25.SqeGets'. -/
def sqeGetsUptoCard : Claim7 := { stood := { row := sqeGetsUptoRow, standIns := [], harness := (true, "dde69d8880c0ae314019b86cbea54e804b9e7e792a5767fc0e7a861585a08b28"), looks := false }, kinds := [], alts := [], laidByText := true, laidKinds := [.data, .data], laidTests := true, laidLooks := .later }
def SqeGetsUptoCardSaid : Prop := Claim7.holds Tryd.pinned (.plain (OpenSpec.upto sqeGetsSpec)) sqeGetsUptoCard

/-- THE SECOND FORM's CARD OF 'headgatelaw25.SqeBack'. -/
def sqeBackUptoCard : Claim7 := { stood := { row := sqeBackUptoRow, standIns := [], harness := (true, "dde69d8880c0ae314019b86cbea54e804b9e7e792a5767fc0e7a861585a08b28"), looks := false }, kinds := [], alts := [], laidByText := true, laidKinds := [.data, .data], laidTests := true, laidLooks := .later }
def SqeBackUptoCardSaid : Prop := Claim7.holds Tryd.pinned (.plain (OpenSpec.upto sqeBackSpec)) sqeBackUptoCard

/-- THE SECOND FORM's CARD OF 'headgatelaw25.SqeCuts'. -/
def sqeCutsUptoCard : Claim7 := { stood := { row := sqeCutsUptoRow, standIns := [], harness := (true, "dde69d8880c0ae314019b86cbea54e804b9e7e792a5767fc0e7a861585a08b28"), looks := false }, kinds := [], alts := [], laidByText := true, laidKinds := [.data, .data], laidTests := true, laidLooks := .later }
def SqeCutsUptoCardSaid : Prop := Claim7.holds Tryd.pinned (.plain (OpenSpec.upto sqeCutsSpec)) sqeCutsUptoCard

/-- THE SECOND FORM's CARD OF 'headgatelaw15.CdbParses'. -/
def cdbParsesUptoCard : Claim7 := { stood := { row := cdbParsesUptoRow, standIns := [], harness := (true, "dde69d8880c0ae314019b86cbea54e804b9e7e792a5767fc0e7a861585a08b28"), looks := false }, kinds := [], alts := [], laidByText := true, laidKinds := [.data, .data], laidTests := true, laidLooks := .later }
def CdbParsesUptoCardSaid : Prop := Claim7.holds Tryd.pinned (.plain (OpenSpec.upto cdbParsesSpec)) cdbParsesUptoCard

/-- THE SECOND FORM's CARD OF 'headgatelaw15.CdbBuilds'. -/
def cdbBuildsUptoCard : Claim7 := { stood := { row := cdbBuildsUptoRow, standIns := [], harness := (true, "dde69d8880c0ae314019b86cbea54e804b9e7e792a5767fc0e7a861585a08b28"), looks := false }, kinds := [], alts := [], laidByText := true, laidKinds := [.data, .data], laidTests := true, laidLooks := .later }
def CdbBuildsUptoCardSaid : Prop := Claim7.holds Tryd.pinned (.plain (OpenSpec.upto cdbBuildsSpec)) cdbBuildsUptoCard

/-- THE SECOND FORM's CARD OF 'headgatelaw15.CdbBack'. -/
def cdbBackUptoCard : Claim7 := { stood := { row := cdbBackUptoRow, standIns := [], harness := (true, "dde69d8880c0ae314019b86cbea54e804b9e7e792a5767fc0e7a861585a08b28"), looks := false }, kinds := [], alts := [], laidByText := true, laidKinds := [.data, .data], laidTests := true, laidLooks := .later }
def CdbBackUptoCardSaid : Prop := Claim7.holds Tryd.pinned (.plain (OpenSpec.upto cdbBackSpec)) cdbBackUptoCard

/-- THE SECOND FORM's CARD OF 'headgatelaw15.CdbShort'. -/
def cdbShortUptoCard : Claim7 := { stood := { row := cdbShortUptoRow, standIns := [], harness := (true, "dde69d8880c0ae314019b86cbea54e804b9e7e792a5767fc0e7a861585a08b28"), looks := false }, kinds := [], alts := [], laidByText := true, laidKinds := [.data, .data], laidTests := true, laidLooks := .later }
def CdbShortUptoCardSaid : Prop := Claim7.holds Tryd.pinned (.plain (OpenSpec.upto cdbShortSpec)) cdbShortUptoCard

/-- THE SECOND FORM's CARD OF 'headgatelaw15.CdbForms'. -/
def cdbFormsUptoCard : Claim7 := { stood := { row := cdbFormsUptoRow, standIns := [], harness := (true, "dde69d8880c0ae314019b86cbea54e804b9e7e792a5767fc0e7a861585a08b28"), looks := false }, kinds := [], alts := [], laidByText := true, laidKinds := [.data, .data], laidTests := true, laidLooks := .later }
def CdbFormsUptoCardSaid : Prop := Claim7.holds Tryd.pinned (.plain (OpenSpec.upto cdbFormsSpec)) cdbFormsUptoCard
end Rows
end Go.Proofs.YtceagilmillgfaaDoor
