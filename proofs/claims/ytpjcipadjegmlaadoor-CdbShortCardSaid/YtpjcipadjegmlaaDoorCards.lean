/-
  DERIVED. GIVEN WITH THE SEED: THE CARDS: each row of YtpjcipadjegmlaaDoorRows.lean that lists a variable, with what it lists TIED to the program's text (the seventh form; the later family's looks); each row that meets fmt, with fmt's text TOLD by the authors' own Lean function (tested against real Go, not proved from fmt's source: count such statements apart). THE CARD IS WHAT COUNTS. Prove the row's statement (the work); the ties are given (YtpjcipadjegmlaaDoorTie.lean); close each card by the builder's one call (the guide's Derived/Test/ToyasCard.lean, 'card_holds'). Laid BY PROGRAM, IN A SANDBOX (cutbox-door.mjs). By AI agents, Wed Nov 11 2026. No macro, syntax, notation, axiom, sorry.
-/
import Derived.Test.YtpjcipadjegmlaaDoorRows
import GoSem.ClaimSeven
namespace Go.Proofs.YtpjcipadjegmlaaDoor
namespace Rows

/-- THE TIED CARD OF 'headgatelaw18.ProutReads'. -/
def proutReadsCard : Claim7 := { stood := { row := proutReadsRow, standIns := [], harness := (true, "aabb6f051a19d917f4031d6efeb3f8811daf9a0151f4266f6e058aabb9f138e6"), looks := false }, kinds := [], alts := [], laidByText := true, laidKinds := [.data], laidTests := true, laidLooks := .later }
def ProutReadsCardSaid : Prop := Claim7.holds Tryd.pinned (.plain (OpenSpec.ofChange proutReadsSpec)) proutReadsCard

/-- THE TIED CARD OF 'headgatelaw15.CdbParses'. -/
def cdbParsesCard : Claim7 := { stood := { row := cdbParsesRow, standIns := [], harness := (true, "aabb6f051a19d917f4031d6efeb3f8811daf9a0151f4266f6e058aabb9f138e6"), looks := false }, kinds := [], alts := [], laidByText := true, laidKinds := [.data, .data], laidTests := true, laidLooks := .later }
def CdbParsesCardSaid : Prop := Claim7.holds Tryd.pinned (.plain (OpenSpec.ofChange cdbParsesSpec)) cdbParsesCard

/-- THE TIED CARD OF 'headgatelaw15.CdbBuilds'. -/
def cdbBuildsCard : Claim7 := { stood := { row := cdbBuildsRow, standIns := [], harness := (true, "aabb6f051a19d917f4031d6efeb3f8811daf9a0151f4266f6e058aabb9f138e6"), looks := false }, kinds := [], alts := [], laidByText := true, laidKinds := [.data, .data], laidTests := true, laidLooks := .later }
def CdbBuildsCardSaid : Prop := Claim7.holds Tryd.pinned (.plain (OpenSpec.ofChange cdbBuildsSpec)) cdbBuildsCard

/-- THE TIED CARD OF 'headgatelaw15.CdbBack'. -/
def cdbBackCard : Claim7 := { stood := { row := cdbBackRow, standIns := [], harness := (true, "aabb6f051a19d917f4031d6efeb3f8811daf9a0151f4266f6e058aabb9f138e6"), looks := false }, kinds := [], alts := [], laidByText := true, laidKinds := [.data, .data], laidTests := true, laidLooks := .later }
def CdbBackCardSaid : Prop := Claim7.holds Tryd.pinned (.plain (OpenSpec.ofChange cdbBackSpec)) cdbBackCard

/-- THE TIED CARD OF 'headgatelaw15.CdbShort'. -/
def cdbShortCard : Claim7 := { stood := { row := cdbShortRow, standIns := [], harness := (true, "aabb6f051a19d917f4031d6efeb3f8811daf9a0151f4266f6e058aabb9f138e6"), looks := false }, kinds := [], alts := [], laidByText := true, laidKinds := [.data, .data], laidTests := true, laidLooks := .later }
def CdbShortCardSaid : Prop := Claim7.holds Tryd.pinned (.plain (OpenSpec.ofChange cdbShortSpec)) cdbShortCard

/-- THE TIED CARD OF 'headgatelaw15.CdbForms'. -/
def cdbFormsCard : Claim7 := { stood := { row := cdbFormsRow, standIns := [], harness := (true, "aabb6f051a19d917f4031d6efeb3f8811daf9a0151f4266f6e058aabb9f138e6"), looks := false }, kinds := [], alts := [], laidByText := true, laidKinds := [.data, .data], laidTests := true, laidLooks := .later }
def CdbFormsCardSaid : Prop := Claim7.holds Tryd.pinned (.plain (OpenSpec.ofChange cdbFormsSpec)) cdbFormsCard

/-- THE SECOND FORM's CARD OF 'headgatelaw18.ProutReads'. -/
def proutReadsUptoCard : Claim7 := { stood := { row := proutReadsUptoRow, standIns := [], harness := (true, "aabb6f051a19d917f4031d6efeb3f8811daf9a0151f4266f6e058aabb9f138e6"), looks := false }, kinds := [], alts := [], laidByText := true, laidKinds := [.data], laidTests := true, laidLooks := .later }
def ProutReadsUptoCardSaid : Prop := Claim7.holds Tryd.pinned (.plain (OpenSpec.upto proutReadsSpec)) proutReadsUptoCard

/-- THE SECOND FORM's CARD OF 'headgatelaw15.CdbParses'. -/
def cdbParsesUptoCard : Claim7 := { stood := { row := cdbParsesUptoRow, standIns := [], harness := (true, "aabb6f051a19d917f4031d6efeb3f8811daf9a0151f4266f6e058aabb9f138e6"), looks := false }, kinds := [], alts := [], laidByText := true, laidKinds := [.data, .data], laidTests := true, laidLooks := .later }
def CdbParsesUptoCardSaid : Prop := Claim7.holds Tryd.pinned (.plain (OpenSpec.upto cdbParsesSpec)) cdbParsesUptoCard

/-- THE SECOND FORM's CARD OF 'headgatelaw15.CdbBuilds'. -/
def cdbBuildsUptoCard : Claim7 := { stood := { row := cdbBuildsUptoRow, standIns := [], harness := (true, "aabb6f051a19d917f4031d6efeb3f8811daf9a0151f4266f6e058aabb9f138e6"), looks := false }, kinds := [], alts := [], laidByText := true, laidKinds := [.data, .data], laidTests := true, laidLooks := .later }
def CdbBuildsUptoCardSaid : Prop := Claim7.holds Tryd.pinned (.plain (OpenSpec.upto cdbBuildsSpec)) cdbBuildsUptoCard

/-- THE SECOND FORM's CARD OF 'headgatelaw15.CdbBack'. -/
def cdbBackUptoCard : Claim7 := { stood := { row := cdbBackUptoRow, standIns := [], harness := (true, "aabb6f051a19d917f4031d6efeb3f8811daf9a0151f4266f6e058aabb9f138e6"), looks := false }, kinds := [], alts := [], laidByText := true, laidKinds := [.data, .data], laidTests := true, laidLooks := .later }
def CdbBackUptoCardSaid : Prop := Claim7.holds Tryd.pinned (.plain (OpenSpec.upto cdbBackSpec)) cdbBackUptoCard

/-- THE SECOND FORM's CARD OF 'headgatelaw15.CdbShort'. -/
def cdbShortUptoCard : Claim7 := { stood := { row := cdbShortUptoRow, standIns := [], harness := (true, "aabb6f051a19d917f4031d6efeb3f8811daf9a0151f4266f6e058aabb9f138e6"), looks := false }, kinds := [], alts := [], laidByText := true, laidKinds := [.data, .data], laidTests := true, laidLooks := .later }
def CdbShortUptoCardSaid : Prop := Claim7.holds Tryd.pinned (.plain (OpenSpec.upto cdbShortSpec)) cdbShortUptoCard

/-- THE SECOND FORM's CARD OF 'headgatelaw15.CdbForms'. -/
def cdbFormsUptoCard : Claim7 := { stood := { row := cdbFormsUptoRow, standIns := [], harness := (true, "aabb6f051a19d917f4031d6efeb3f8811daf9a0151f4266f6e058aabb9f138e6"), looks := false }, kinds := [], alts := [], laidByText := true, laidKinds := [.data, .data], laidTests := true, laidLooks := .later }
def CdbFormsUptoCardSaid : Prop := Claim7.holds Tryd.pinned (.plain (OpenSpec.upto cdbFormsSpec)) cdbFormsUptoCard
end Rows
end Go.Proofs.YtpjcipadjegmlaaDoor
