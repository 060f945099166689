/-
  DERIVED. GIVEN WITH THE SEED: THE CARDS: each row of YthjjbkgifelooaaDoorRows.lean that lists a variable, with what it lists TIED to the program's text (the seventh form; the later family's looks); each row that meets fmt, with fmt's text TOLD by the authors' own Lean function (tested against real Go, not proved from fmt's source: count such statements apart). THE CARD IS WHAT COUNTS. Prove the row's statement (the work); the ties are given (YthjjbkgifelooaaDoorTie.lean); close each card by the builder's one call (the guide's Derived/Test/ToyasCard.lean, 'card_holds'). Laid BY PROGRAM, IN A SANDBOX (cutbox-door.mjs). By AI agents, Wed Nov 11 2026. No macro, syntax, notation, axiom, sorry.
-/
import Derived.Test.YthjjbkgifelooaaDoorRows
import GoSem.ClaimSeven
namespace Go.Proofs.YthjjbkgifelooaaDoor
namespace Rows

/-- THE TIED CARD OF 'headgatelaw27.NresvReports'. -/
def nresvReportsCard : Claim7 := { stood := { row := nresvReportsRow, standIns := [], harness := (true, "4ef626d69c97dd639ad80bb089da59a06d5a4ce8b4756a3fcb84667f36ad8cf7"), looks := false }, kinds := [], alts := [], laidByText := true, laidKinds := [.data, .data, .data], laidTests := true, laidLooks := .later }
def NresvReportsCardSaid : Prop := Claim7.holds Tryd.pinned (.plain (OpenSpec.ofChange nresvReportsSpec)) nresvReportsCard

/-- THE TIED CARD OF 'headgatelaw27.NresvTells'. -/
def nresvTellsCard : Claim7 := { stood := { row := nresvTellsRow, standIns := [], harness := (true, "4ef626d69c97dd639ad80bb089da59a06d5a4ce8b4756a3fcb84667f36ad8cf7"), looks := false }, kinds := [], alts := [], laidByText := true, laidKinds := [.data, .data, .data], laidTests := true, laidLooks := .later }
def NresvTellsCardSaid : Prop := Claim7.holds Tryd.pinned (.plain (OpenSpec.ofChange nresvTellsSpec)) nresvTellsCard

/-- THE TIED CARD OF 'headgatelaw27.NresvChanges'. -/
def nresvChangesCard : Claim7 := { stood := { row := nresvChangesRow, standIns := [], harness := (true, "4ef626d69c97dd639ad80bb089da59a06d5a4ce8b4756a3fcb84667f36ad8cf7"), looks := false }, kinds := [], alts := [], laidByText := true, laidKinds := [.data, .data, .data], laidTests := true, laidLooks := .later }
def NresvChangesCardSaid : Prop := Claim7.holds Tryd.pinned (.plain (OpenSpec.ofChange nresvChangesSpec)) nresvChangesCard

/-- THE TIED CARD OF 'headgatelaw27.NresvBack'. -/
def nresvBackCard : Claim7 := { stood := { row := nresvBackRow, standIns := [], harness := (true, "4ef626d69c97dd639ad80bb089da59a06d5a4ce8b4756a3fcb84667f36ad8cf7"), looks := false }, kinds := [], alts := [], laidByText := true, laidKinds := [.data, .data, .data], laidTests := true, laidLooks := .later }
def NresvBackCardSaid : Prop := Claim7.holds Tryd.pinned (.plain (OpenSpec.ofChange nresvBackSpec)) nresvBackCard

/-- THE TIED CARD OF 'headgatelaw16.SenseOf'. -/
def senseOfCard : Claim7 := { stood := { row := senseOfRow, standIns := [], harness := (true, "4ef626d69c97dd639ad80bb089da59a06d5a4ce8b4756a3fcb84667f36ad8cf7"), looks := false }, kinds := [], alts := [], laidByText := true, laidKinds := [.data], laidTests := true, laidLooks := .later }
def SenseOfCardSaid : Prop := Claim7.holds Tryd.pinned (.plain (OpenSpec.ofChange senseOfSpec)) senseOfCard

/-- THE TIED CARD OF 'headgatelaw16.SenseCodes'. -/
def senseCodesCard : Claim7 := { stood := { row := senseCodesRow, standIns := [], harness := (true, "4ef626d69c97dd639ad80bb089da59a06d5a4ce8b4756a3fcb84667f36ad8cf7"), looks := false }, kinds := [], alts := [], laidByText := true, laidKinds := [.data], laidTests := true, laidLooks := .later }
def SenseCodesCardSaid : Prop := Claim7.holds Tryd.pinned (.plain (OpenSpec.ofChange senseCodesSpec)) senseCodesCard

/-- THE TIED CARD OF 'headgatelaw16.SenseBytes'. -/
def senseBytesCard : Claim7 := { stood := { row := senseBytesRow, standIns := [], harness := (true, "4ef626d69c97dd639ad80bb089da59a06d5a4ce8b4756a3fcb84667f36ad8cf7"), looks := false }, kinds := [], alts := [], laidByText := true, laidKinds := [.data], laidTests := true, laidLooks := .later }
def SenseBytesCardSaid : Prop := Claim7.holds Tryd.pinned (.plain (OpenSpec.ofChange senseBytesSpec)) senseBytesCard

/-- THE TIED CARD OF 'headgatelaw16.SenseBack'. -/
def senseBackCard : Claim7 := { stood := { row := senseBackRow, standIns := [], harness := (true, "4ef626d69c97dd639ad80bb089da59a06d5a4ce8b4756a3fcb84667f36ad8cf7"), looks := false }, kinds := [], alts := [], laidByText := true, laidKinds := [.data], laidTests := true, laidLooks := .later }
def SenseBackCardSaid : Prop := Claim7.holds Tryd.pinned (.plain (OpenSpec.ofChange senseBackSpec)) senseBackCard

/-- THE TIED CARD OF 'headgatelaw27.NresvSides'. -/
def nresvSidesCard : Claim7 := { stood := { row := nresvSidesRow, standIns := [], harness := (true, "4ef626d69c97dd639ad80bb089da59a06d5a4ce8b4756a3fcb84667f36ad8cf7"), looks := false }, kinds := [], alts := [], laidByText := true, laidKinds := [.data, .data, .data], laidTests := true, laidLooks := .later }
def NresvSidesCardSaid : Prop := Claim7.holds Tryd.pinned (.plain (OpenSpec.ofChange nresvSidesSpec)) nresvSidesCard

/-- THE SECOND FORM's CARD OF 'headgatelaw27.NresvReports'. -/
def nresvReportsUptoCard : Claim7 := { stood := { row := nresvReportsUptoRow, standIns := [], harness := (true, "4ef626d69c97dd639ad80bb089da59a06d5a4ce8b4756a3fcb84667f36ad8cf7"), looks := false }, kinds := [], alts := [], laidByText := true, laidKinds := [.data, .data, .data], laidTests := true, laidLooks := .later }
def NresvReportsUptoCardSaid : Prop := Claim7.holds Tryd.pinned (.plain (OpenSpec.upto nresvReportsSpec)) nresvReportsUptoCard

/-- THE SECOND FORM's CARD OF 'headgatelaw27.NresvTells'. -/
def nresvTellsUptoCard : Claim7 := { stood := { row := nresvTellsUptoRow, standIns := [], harness := (true, "4ef626d69c97dd639ad80bb089da59a06d5a4ce8b4756a3fcb84667f36ad8cf7"), looks := false }, kinds := [], alts := [], laidByText := true, laidKinds := [.data, .data, .data], laidTests := true, laidLooks := .later }
def NresvTellsUptoCardSaid : Prop := Claim7.holds Tryd.pinned (.plain (OpenSpec.upto nresvTellsSpec)) nresvTellsUptoCard

/-- THE SECOND FORM's CARD OF 'headgatelaw27.NresvChanges'. -/
def nresvChangesUptoCard : Claim7 := { stood := { row := nresvChangesUptoRow, standIns := [], harness := (true, "4ef626d69c97dd639ad80bb089da59a06d5a4ce8b4756a3fcb84667f36ad8cf7"), looks := false }, kinds := [], alts := [], laidByText := true, laidKinds := [.data, .data, .data], laidTests := true, laidLooks := .later }
def NresvChangesUptoCardSaid : Prop := Claim7.holds Tryd.pinned (.plain (OpenSpec.upto nresvChangesSpec)) nresvChangesUptoCard

/-- THE SECOND FORM's CARD OF 'headgatelaw27.NresvBack'. -/
def nresvBackUptoCard : Claim7 := { stood := { row := nresvBackUptoRow, standIns := [], harness := (true, "4ef626d69c97dd639ad80bb089da59a06d5a4ce8b4756a3fcb84667f36ad8cf7"), looks := false }, kinds := [], alts := [], laidByText := true, laidKinds := [.data, .data, .data], laidTests := true, laidLooks := .later }
def NresvBackUptoCardSaid : Prop := Claim7.holds Tryd.pinned (.plain (OpenSpec.upto nresvBackSpec)) nresvBackUptoCard

/-- THE SECOND FORM's CARD OF 'headgatelaw16.SenseOf'. -/
def senseOfUptoCard : Claim7 := { stood := { row := senseOfUptoRow, standIns := [], harness := (true, "4ef626d69c97dd639ad80bb089da59a06d5a4ce8b4756a3fcb84667f36ad8cf7"), looks := false }, kinds := [], alts := [], laidByText := true, laidKinds := [.data], laidTests := true, laidLooks := .later }
def SenseOfUptoCardSaid : Prop := Claim7.holds Tryd.pinned (.plain (OpenSpec.upto senseOfSpec)) senseOfUptoCard

/-- THE SECOND FORM's CARD OF 'headgatelaw16.SenseCodes'. -/
def senseCodesUptoCard : Claim7 := { stood := { row := senseCodesUptoRow, standIns := [], harness := (true, "4ef626d69c97dd639ad80bb089da59a06d5a4ce8b4756a3fcb84667f36ad8cf7"), looks := false }, kinds := [], alts := [], laidByText := true, laidKinds := [.data], laidTests := true, laidLooks := .later }
def SenseCodesUptoCardSaid : Prop := Claim7.holds Tryd.pinned (.plain (OpenSpec.upto senseCodesSpec)) senseCodesUptoCard

/-- THE SECOND FORM's CARD OF 'headgatelaw16.SenseBytes'. -/
def senseBytesUptoCard : Claim7 := { stood := { row := senseBytesUptoRow, standIns := [], harness := (true, "4ef626d69c97dd639ad80bb089da59a06d5a4ce8b4756a3fcb84667f36ad8cf7"), looks := false }, kinds := [], alts := [], laidByText := true, laidKinds := [.data], laidTests := true, laidLooks := .later }
def SenseBytesUptoCardSaid : Prop := Claim7.holds Tryd.pinned (.plain (OpenSpec.upto senseBytesSpec)) senseBytesUptoCard

/-- THE SECOND FORM's CARD OF 'headgatelaw16.SenseBack'. -/
def senseBackUptoCard : Claim7 := { stood := { row := senseBackUptoRow, standIns := [], harness := (true, "4ef626d69c97dd639ad80bb089da59a06d5a4ce8b4756a3fcb84667f36ad8cf7"), looks := false }, kinds := [], alts := [], laidByText := true, laidKinds := [.data], laidTests := true, laidLooks := .later }
def SenseBackUptoCardSaid : Prop := Claim7.holds Tryd.pinned (.plain (OpenSpec.upto senseBackSpec)) senseBackUptoCard

/-- THE SECOND FORM's CARD OF 'headgatelaw27.NresvSides'. -/
def nresvSidesUptoCard : Claim7 := { stood := { row := nresvSidesUptoRow, standIns := [], harness := (true, "4ef626d69c97dd639ad80bb089da59a06d5a4ce8b4756a3fcb84667f36ad8cf7"), looks := false }, kinds := [], alts := [], laidByText := true, laidKinds := [.data, .data, .data], laidTests := true, laidLooks := .later }
def NresvSidesUptoCardSaid : Prop := Claim7.holds Tryd.pinned (.plain (OpenSpec.upto nresvSidesSpec)) nresvSidesUptoCard
end Rows
end Go.Proofs.YthjjbkgifelooaaDoor
