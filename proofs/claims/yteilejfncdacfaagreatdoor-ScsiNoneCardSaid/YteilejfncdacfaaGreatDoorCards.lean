/-
  DERIVED. GIVEN WITH THE SEED: THE CARDS: each row of YteilejfncdacfaaGreatDoorRows.lean that lists a variable, with what it lists TIED to the program's text (the seventh form; the later family's looks); each row that meets fmt, with fmt's text TOLD by the authors' own Lean function (tested against real Go, not proved from fmt's source: count such statements apart). THE CARD IS WHAT COUNTS. Prove the row's statement (the work); the ties are given (YteilejfncdacfaaGreatDoorTie.lean); close each card by the builder's one call (the guide's Derived/Test/ToyasCard.lean, 'card_holds'). Laid BY PROGRAM, IN A SANDBOX (cutbox-door.mjs). By AI agents, Wed Nov 11 2026. No macro, syntax, notation, axiom, sorry.
-/
import Derived.Test.YteilejfncdacfaaGreatDoorRows
import GoSem.ClaimSeven
namespace Go.Proofs.YteilejfncdacfaaGreatDoor
namespace Rows

/-- THE TIED CARD OF 'headgatelaw19.ScsiTold'. -/
def scsiToldCard : Claim7 := { stood := { row := scsiToldRow, standIns := [], harness := (true, "7002dfa9a21baf7eb80714644e8a4a7ecf86b17c1f6367a5febd948c383a4a80"), looks := false }, kinds := [], alts := [], laidByText := true, laidKinds := [.data, .data, .data, .data, .data], laidTests := true, laidLooks := .later }
def ScsiToldCardSaid : Prop := Claim7.holds Tryz.pinned (.plain (OpenSpec.ofChange scsiToldSpec)) scsiToldCard

/-- THE TIED CARD OF 'headgatelaw19.ScsiNeeds'. -/
def scsiNeedsCard : Claim7 := { stood := { row := scsiNeedsRow, standIns := [], harness := (true, "7002dfa9a21baf7eb80714644e8a4a7ecf86b17c1f6367a5febd948c383a4a80"), looks := false }, kinds := [], alts := [], laidByText := true, laidKinds := [.data, .data, .data, .data, .data], laidTests := true, laidLooks := .later }
def ScsiNeedsCardSaid : Prop := Claim7.holds Tryz.pinned (.plain (OpenSpec.ofChange scsiNeedsSpec)) scsiNeedsCard

/-- THE TIED CARD OF 'headgatelaw19.ScsiNone'. -/
def scsiNoneCard : Claim7 := { stood := { row := scsiNoneRow, standIns := [], harness := (true, "7002dfa9a21baf7eb80714644e8a4a7ecf86b17c1f6367a5febd948c383a4a80"), looks := false }, kinds := [], alts := [], laidByText := true, laidKinds := [.data, .data, .data, .data, .data], laidTests := true, laidLooks := .later }
def ScsiNoneCardSaid : Prop := Claim7.holds Tryz.pinned (.plain (OpenSpec.ofChange scsiNoneSpec)) scsiNoneCard

/-- THE TIED CARD OF 'headgatelaw19.ScsiCut'. -/
def scsiCutCard : Claim7 := { stood := { row := scsiCutRow, standIns := [], harness := (true, "7002dfa9a21baf7eb80714644e8a4a7ecf86b17c1f6367a5febd948c383a4a80"), looks := false }, kinds := [], alts := [], laidByText := true, laidKinds := [.data, .data, .data, .data, .data], laidTests := true, laidLooks := .later }
def ScsiCutCardSaid : Prop := Claim7.holds Tryz.pinned (.plain (OpenSpec.ofChange scsiCutSpec)) scsiCutCard

/-- THE TIED CARD OF 'headgatelaw19.ScsiSays'. -/
def scsiSaysCard : Claim7 := { stood := { row := scsiSaysRow, standIns := [], harness := (true, "7002dfa9a21baf7eb80714644e8a4a7ecf86b17c1f6367a5febd948c383a4a80"), looks := false }, kinds := [], alts := [], laidByText := true, laidKinds := [.data, .data, .data, .data, .data], laidTests := true, laidLooks := .later }
def ScsiSaysCardSaid : Prop := Claim7.holds Tryz.pinned (.plain (OpenSpec.ofChange scsiSaysSpec)) scsiSaysCard

/-- THE TIED CARD OF 'headgatelaw19.ScsiDoes'. -/
def scsiDoesCard : Claim7 := { stood := { row := scsiDoesRow, standIns := [], harness := (true, "7002dfa9a21baf7eb80714644e8a4a7ecf86b17c1f6367a5febd948c383a4a80"), looks := false }, kinds := [], alts := [], laidByText := true, laidKinds := [.data, .data, .data, .data, .data], laidTests := true, laidLooks := .later }
def ScsiDoesCardSaid : Prop := Claim7.holds Tryz.pinned (.plain (OpenSpec.ofChange scsiDoesSpec)) scsiDoesCard

/-- THE SECOND FORM's CARD OF 'headgatelaw19.ScsiTold'. -/
def scsiToldUptoCard : Claim7 := { stood := { row := scsiToldUptoRow, standIns := [], harness := (true, "7002dfa9a21baf7eb80714644e8a4a7ecf86b17c1f6367a5febd948c383a4a80"), looks := false }, kinds := [], alts := [], laidByText := true, laidKinds := [.data, .data, .data, .data, .data], laidTests := true, laidLooks := .later }
def ScsiToldUptoCardSaid : Prop := Claim7.holds Tryz.pinned (.plain (OpenSpec.upto scsiToldSpec)) scsiToldUptoCard

/-- THE SECOND FORM's CARD OF 'headgatelaw19.ScsiNeeds'. -/
def scsiNeedsUptoCard : Claim7 := { stood := { row := scsiNeedsUptoRow, standIns := [], harness := (true, "7002dfa9a21baf7eb80714644e8a4a7ecf86b17c1f6367a5febd948c383a4a80"), looks := false }, kinds := [], alts := [], laidByText := true, laidKinds := [.data, .data, .data, .data, .data], laidTests := true, laidLooks := .later }
def ScsiNeedsUptoCardSaid : Prop := Claim7.holds Tryz.pinned (.plain (OpenSpec.upto scsiNeedsSpec)) scsiNeedsUptoCard

/-- THE SECOND FORM's CARD OF 'headgatelaw19.ScsiNone'. -/
def scsiNoneUptoCard : Claim7 := { stood := { row := scsiNoneUptoRow, standIns := [], harness := (true, "7002dfa9a21baf7eb80714644e8a4a7ecf86b17c1f6367a5febd948c383a4a80"), looks := false }, kinds := [], alts := [], laidByText := true, laidKinds := [.data, .data, .data, .data, .data], laidTests := true, laidLooks := .later }
def ScsiNoneUptoCardSaid : Prop := Claim7.holds Tryz.pinned (.plain (OpenSpec.upto scsiNoneSpec)) scsiNoneUptoCard

/-- THE SECOND FORM's CARD OF 'headgatelaw19.ScsiCut'. -/
def scsiCutUptoCard : Claim7 := { stood := { row := scsiCutUptoRow, standIns := [], harness := (true, "7002dfa9a21baf7eb80714644e8a4a7ecf86b17c1f6367a5febd948c383a4a80"), looks := false }, kinds := [], alts := [], laidByText := true, laidKinds := [.data, .data, .data, .data, .data], laidTests := true, laidLooks := .later }
def ScsiCutUptoCardSaid : Prop := Claim7.holds Tryz.pinned (.plain (OpenSpec.upto scsiCutSpec)) scsiCutUptoCard

/-- THE SECOND FORM's CARD OF 'headgatelaw19.ScsiSays'. -/
def scsiSaysUptoCard : Claim7 := { stood := { row := scsiSaysUptoRow, standIns := [], harness := (true, "7002dfa9a21baf7eb80714644e8a4a7ecf86b17c1f6367a5febd948c383a4a80"), looks := false }, kinds := [], alts := [], laidByText := true, laidKinds := [.data, .data, .data, .data, .data], laidTests := true, laidLooks := .later }
def ScsiSaysUptoCardSaid : Prop := Claim7.holds Tryz.pinned (.plain (OpenSpec.upto scsiSaysSpec)) scsiSaysUptoCard

/-- THE SECOND FORM's CARD OF 'headgatelaw19.ScsiDoes'. -/
def scsiDoesUptoCard : Claim7 := { stood := { row := scsiDoesUptoRow, standIns := [], harness := (true, "7002dfa9a21baf7eb80714644e8a4a7ecf86b17c1f6367a5febd948c383a4a80"), looks := false }, kinds := [], alts := [], laidByText := true, laidKinds := [.data, .data, .data, .data, .data], laidTests := true, laidLooks := .later }
def ScsiDoesUptoCardSaid : Prop := Claim7.holds Tryz.pinned (.plain (OpenSpec.upto scsiDoesSpec)) scsiDoesUptoCard
end Rows
end Go.Proofs.YteilejfncdacfaaGreatDoor
