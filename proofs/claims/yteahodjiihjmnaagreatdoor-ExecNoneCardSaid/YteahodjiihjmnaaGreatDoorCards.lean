/-
  DERIVED. GIVEN WITH THE SEED: THE CARDS: each row of YteahodjiihjmnaaGreatDoorRows.lean that lists a variable, with what it lists TIED to the program's text (the seventh form; the later family's looks); each row that meets fmt, with fmt's text TOLD by the authors' own Lean function (tested against real Go, not proved from fmt's source: count such statements apart). THE CARD IS WHAT COUNTS. Prove the row's statement (the work); the ties are given (YteahodjiihjmnaaGreatDoorTie.lean); close each card by the builder's one call (the guide's Derived/Test/ToyasCard.lean, 'card_holds'). Laid BY PROGRAM, IN A SANDBOX (cutbox-door.mjs). By AI agents, Wed Nov 11 2026. No macro, syntax, notation, axiom, sorry.
-/
import Derived.Test.YteahodjiihjmnaaGreatDoorRows
import GoSem.ClaimSeven
namespace Go.Proofs.YteahodjiihjmnaaGreatDoor
namespace Rows

/-- THE TIED CARD OF 'headgatelaw14.ExecPower'. -/
def execPowerCard : Claim7 := { stood := { row := execPowerRow, standIns := [], harness := (true, "29d5c64739616f87980a78c6bcd534820e7e9ba8309faea49dda8125ae147847"), looks := true }, kinds := [], alts := [], laidByText := true, laidKinds := [.data, .data, .data, .pinned], laidTests := true, laidLooks := .later }
def ExecPowerCardSaid : Prop := Claim7.holds Tryz.pinned (.plain (OpenSpec.ofChange execPowerSpec)) execPowerCard

/-- THE TIED CARD OF 'headgatelaw14.ExecCompare'. -/
def execCompareCard : Claim7 := { stood := { row := execCompareRow, standIns := [], harness := (true, "29d5c64739616f87980a78c6bcd534820e7e9ba8309faea49dda8125ae147847"), looks := true }, kinds := [], alts := [], laidByText := true, laidKinds := [.data, .data], laidTests := true, laidLooks := .later }
def ExecCompareCardSaid : Prop := Claim7.holds Tryz.pinned (.plain (OpenSpec.ofChange execCompareSpec)) execCompareCard

/-- THE TIED CARD OF 'headgatelaw14.ExecZeros'. -/
def execZerosCard : Claim7 := { stood := { row := execZerosRow, standIns := [], harness := (true, "29d5c64739616f87980a78c6bcd534820e7e9ba8309faea49dda8125ae147847"), looks := true }, kinds := [], alts := [], laidByText := true, laidKinds := [.data, .data], laidTests := true, laidLooks := .later }
def ExecZerosCardSaid : Prop := Claim7.holds Tryz.pinned (.plain (OpenSpec.ofChange execZerosSpec)) execZerosCard

/-- THE TIED CARD OF 'headgatelaw14.ExecFences'. -/
def execFencesCard : Claim7 := { stood := { row := execFencesRow, standIns := [], harness := (true, "29d5c64739616f87980a78c6bcd534820e7e9ba8309faea49dda8125ae147847"), looks := true }, kinds := [], alts := [], laidByText := true, laidKinds := [.data, .data], laidTests := true, laidLooks := .later }
def ExecFencesCardSaid : Prop := Claim7.holds Tryz.pinned (.plain (OpenSpec.ofChange execFencesSpec)) execFencesCard

/-- THE TIED CARD OF 'headgatelaw14.ExecNone'. -/
def execNoneCard : Claim7 := { stood := { row := execNoneRow, standIns := [], harness := (true, "29d5c64739616f87980a78c6bcd534820e7e9ba8309faea49dda8125ae147847"), looks := true }, kinds := [], alts := [], laidByText := true, laidKinds := [.data, .data], laidTests := true, laidLooks := .later }
def ExecNoneCardSaid : Prop := Claim7.holds Tryz.pinned (.plain (OpenSpec.ofChange execNoneSpec)) execNoneCard

/-- THE TIED CARD OF 'headgatelaw14.ExecPlays'. -/
def execPlaysCard : Claim7 := { stood := { row := execPlaysRow, standIns := [], harness := (true, "29d5c64739616f87980a78c6bcd534820e7e9ba8309faea49dda8125ae147847"), looks := true }, kinds := [], alts := [], laidByText := true, laidKinds := [.data, .data], laidTests := true, laidLooks := .later }
def ExecPlaysCardSaid : Prop := Claim7.holds Tryz.pinned (.plain (OpenSpec.ofChange execPlaysSpec)) execPlaysCard

/-- THE TIED CARD OF 'headgatelaw14.ExecKeeps'. -/
def execKeepsCard : Claim7 := { stood := { row := execKeepsRow, standIns := [], harness := (true, "29d5c64739616f87980a78c6bcd534820e7e9ba8309faea49dda8125ae147847"), looks := true }, kinds := [], alts := [], laidByText := true, laidKinds := [.data, .data], laidTests := true, laidLooks := .later }
def ExecKeepsCardSaid : Prop := Claim7.holds Tryz.pinned (.plain (OpenSpec.ofChange execKeepsSpec)) execKeepsCard

/-- THE TIED CARD OF 'headgatelaw14.ExecDown'. -/
def execDownCard : Claim7 := { stood := { row := execDownRow, standIns := [], harness := (true, "29d5c64739616f87980a78c6bcd534820e7e9ba8309faea49dda8125ae147847"), looks := true }, kinds := [], alts := [], laidByText := true, laidKinds := [.data, .data, .data, .pinned], laidTests := true, laidLooks := .later }
def ExecDownCardSaid : Prop := Claim7.holds Tryz.pinned (.plain (OpenSpec.ofChange execDownSpec)) execDownCard

/-- THE SECOND FORM's CARD OF 'headgatelaw14.ExecPower'. -/
def execPowerUptoCard : Claim7 := { stood := { row := execPowerUptoRow, standIns := [], harness := (true, "29d5c64739616f87980a78c6bcd534820e7e9ba8309faea49dda8125ae147847"), looks := true }, kinds := [], alts := [], laidByText := true, laidKinds := [.data, .data, .data, .pinned], laidTests := true, laidLooks := .later }
def ExecPowerUptoCardSaid : Prop := Claim7.holds Tryz.pinned (.plain (OpenSpec.upto execPowerSpec)) execPowerUptoCard

/-- THE SECOND FORM's CARD OF 'headgatelaw14.ExecCompare'. -/
def execCompareUptoCard : Claim7 := { stood := { row := execCompareUptoRow, standIns := [], harness := (true, "29d5c64739616f87980a78c6bcd534820e7e9ba8309faea49dda8125ae147847"), looks := true }, kinds := [], alts := [], laidByText := true, laidKinds := [.data, .data], laidTests := true, laidLooks := .later }
def ExecCompareUptoCardSaid : Prop := Claim7.holds Tryz.pinned (.plain (OpenSpec.upto execCompareSpec)) execCompareUptoCard

/-- THE SECOND FORM's CARD OF 'headgatelaw14.ExecZeros'. -/
def execZerosUptoCard : Claim7 := { stood := { row := execZerosUptoRow, standIns := [], harness := (true, "29d5c64739616f87980a78c6bcd534820e7e9ba8309faea49dda8125ae147847"), looks := true }, kinds := [], alts := [], laidByText := true, laidKinds := [.data, .data], laidTests := true, laidLooks := .later }
def ExecZerosUptoCardSaid : Prop := Claim7.holds Tryz.pinned (.plain (OpenSpec.upto execZerosSpec)) execZerosUptoCard

/-- THE SECOND FORM's CARD OF 'headgatelaw14.ExecFences'. -/
def execFencesUptoCard : Claim7 := { stood := { row := execFencesUptoRow, standIns := [], harness := (true, "29d5c64739616f87980a78c6bcd534820e7e9ba8309faea49dda8125ae147847"), looks := true }, kinds := [], alts := [], laidByText := true, laidKinds := [.data, .data], laidTests := true, laidLooks := .later }
def ExecFencesUptoCardSaid : Prop := Claim7.holds Tryz.pinned (.plain (OpenSpec.upto execFencesSpec)) execFencesUptoCard

/-- THE SECOND FORM's CARD OF 'headgatelaw14.ExecNone'. -/
def execNoneUptoCard : Claim7 := { stood := { row := execNoneUptoRow, standIns := [], harness := (true, "29d5c64739616f87980a78c6bcd534820e7e9ba8309faea49dda8125ae147847"), looks := true }, kinds := [], alts := [], laidByText := true, laidKinds := [.data, .data], laidTests := true, laidLooks := .later }
def ExecNoneUptoCardSaid : Prop := Claim7.holds Tryz.pinned (.plain (OpenSpec.upto execNoneSpec)) execNoneUptoCard

/-- THE SECOND FORM's CARD OF 'headgatelaw14.ExecPlays'. -/
def execPlaysUptoCard : Claim7 := { stood := { row := execPlaysUptoRow, standIns := [], harness := (true, "29d5c64739616f87980a78c6bcd534820e7e9ba8309faea49dda8125ae147847"), looks := true }, kinds := [], alts := [], laidByText := true, laidKinds := [.data, .data], laidTests := true, laidLooks := .later }
def ExecPlaysUptoCardSaid : Prop := Claim7.holds Tryz.pinned (.plain (OpenSpec.upto execPlaysSpec)) execPlaysUptoCard

/-- THE SECOND FORM's CARD OF 'headgatelaw14.ExecKeeps'. -/
def execKeepsUptoCard : Claim7 := { stood := { row := execKeepsUptoRow, standIns := [], harness := (true, "29d5c64739616f87980a78c6bcd534820e7e9ba8309faea49dda8125ae147847"), looks := true }, kinds := [], alts := [], laidByText := true, laidKinds := [.data, .data], laidTests := true, laidLooks := .later }
def ExecKeepsUptoCardSaid : Prop := Claim7.holds Tryz.pinned (.plain (OpenSpec.upto execKeepsSpec)) execKeepsUptoCard

/-- THE SECOND FORM's CARD OF 'headgatelaw14.ExecDown'. -/
def execDownUptoCard : Claim7 := { stood := { row := execDownUptoRow, standIns := [], harness := (true, "29d5c64739616f87980a78c6bcd534820e7e9ba8309faea49dda8125ae147847"), looks := true }, kinds := [], alts := [], laidByText := true, laidKinds := [.data, .data, .data, .pinned], laidTests := true, laidLooks := .later }
def ExecDownUptoCardSaid : Prop := Claim7.holds Tryz.pinned (.plain (OpenSpec.upto execDownSpec)) execDownUptoCard
end Rows
end Go.Proofs.YteahodjiihjmnaaGreatDoor
