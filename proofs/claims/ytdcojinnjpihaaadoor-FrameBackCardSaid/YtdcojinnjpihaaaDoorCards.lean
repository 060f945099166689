/-
  DERIVED. GIVEN WITH THE SEED: THE CARDS: each row of YtdcojinnjpihaaaDoorRows.lean that lists a variable, with what it lists TIED to the program's text (the seventh form; the later family's looks); each row that meets fmt, with fmt's text TOLD by the authors' own Lean function (tested against real Go, not proved from fmt's source: count such statements apart). THE CARD IS WHAT COUNTS. Prove the row's statement (the work); the ties are given (YtdcojinnjpihaaaDoorTie.lean); close each card by the builder's one call (the guide's Derived/Test/ToyasCard.lean, 'card_holds'). Laid BY PROGRAM, IN A SANDBOX (cutbox-door.mjs). By AI agents, Wed Nov 11 2026. No macro, syntax, notation, axiom, sorry.
-/
import Derived.Test.YtdcojinnjpihaaaDoorRows
import GoSem.ClaimSeven
namespace Go.Proofs.YtdcojinnjpihaaaDoor
namespace Rows

/-- THE TIED CARD OF 'headgatelaw05.FramePuts'. -/
def framePutsCard : Claim7 := { stood := { row := framePutsRow, standIns := [], harness := (true, "9fbc36822bc6b045b665c9ad55866ca24ebdf7f421e9cbabcc99405dd846d1b9"), looks := true }, kinds := [], alts := [], laidByText := true, laidKinds := [.data, .data, .pinned], laidTests := true, laidLooks := .later }
def FramePutsCardSaid : Prop := Claim7.holds Tryd.pinned (.plain (OpenSpec.ofChange framePutsSpec)) framePutsCard

/-- THE TIED CARD OF 'headgatelaw05.FrameGets'. -/
def frameGetsCard : Claim7 := { stood := { row := frameGetsRow, standIns := [], harness := (true, "9fbc36822bc6b045b665c9ad55866ca24ebdf7f421e9cbabcc99405dd846d1b9"), looks := true }, kinds := [], alts := [], laidByText := true, laidKinds := [.data, .data, .pinned], laidTests := true, laidLooks := .later }
def FrameGetsCardSaid : Prop := Claim7.holds Tryd.pinned (.plain (OpenSpec.ofChange frameGetsSpec)) frameGetsCard

/-- THE TIED CARD OF 'headgatelaw05.FrameTurned'. -/
def frameTurnedCard : Claim7 := { stood := { row := frameTurnedRow, standIns := [], harness := (true, "9fbc36822bc6b045b665c9ad55866ca24ebdf7f421e9cbabcc99405dd846d1b9"), looks := true }, kinds := [], alts := [], laidByText := true, laidKinds := [.data, .data, .pinned], laidTests := true, laidLooks := .later }
def FrameTurnedCardSaid : Prop := Claim7.holds Tryd.pinned (.plain (OpenSpec.ofChange frameTurnedSpec)) frameTurnedCard

/-- THE TIED CARD OF 'headgatelaw05.FrameStacks'. -/
def frameStacksCard : Claim7 := { stood := { row := frameStacksRow, standIns := [], harness := (true, "9fbc36822bc6b045b665c9ad55866ca24ebdf7f421e9cbabcc99405dd846d1b9"), looks := true }, kinds := [], alts := [], laidByText := true, laidKinds := [.data, .data, .pinned], laidTests := true, laidLooks := .later }
def FrameStacksCardSaid : Prop := Claim7.holds Tryd.pinned (.plain (OpenSpec.ofChange frameStacksSpec)) frameStacksCard

/-- THE TIED CARD OF 'headgatelaw05.FrameLists'. -/
def frameListsCard : Claim7 := { stood := { row := frameListsRow, standIns := [], harness := (true, "9fbc36822bc6b045b665c9ad55866ca24ebdf7f421e9cbabcc99405dd846d1b9"), looks := true }, kinds := [], alts := [], laidByText := true, laidKinds := [.data, .data, .pinned], laidTests := true, laidLooks := .later }
def FrameListsCardSaid : Prop := Claim7.holds Tryd.pinned (.plain (OpenSpec.ofChange frameListsSpec)) frameListsCard

/-- THE TIED CARD OF 'headgatelaw05.FrameBack'. -/
def frameBackCard : Claim7 := { stood := { row := frameBackRow, standIns := [], harness := (true, "9fbc36822bc6b045b665c9ad55866ca24ebdf7f421e9cbabcc99405dd846d1b9"), looks := true }, kinds := [], alts := [], laidByText := true, laidKinds := [.data, .data, .pinned], laidTests := true, laidLooks := .later }
def FrameBackCardSaid : Prop := Claim7.holds Tryd.pinned (.plain (OpenSpec.ofChange frameBackSpec)) frameBackCard

/-- THE SECOND FORM's CARD OF 'headgatelaw05.FramePuts'. -/
def framePutsUptoCard : Claim7 := { stood := { row := framePutsUptoRow, standIns := [], harness := (true, "9fbc36822bc6b045b665c9ad55866ca24ebdf7f421e9cbabcc99405dd846d1b9"), looks := true }, kinds := [], alts := [], laidByText := true, laidKinds := [.data, .data, .pinned], laidTests := true, laidLooks := .later }
def FramePutsUptoCardSaid : Prop := Claim7.holds Tryd.pinned (.plain (OpenSpec.upto framePutsSpec)) framePutsUptoCard

/-- THE SECOND FORM's CARD OF 'headgatelaw05.FrameGets'. -/
def frameGetsUptoCard : Claim7 := { stood := { row := frameGetsUptoRow, standIns := [], harness := (true, "9fbc36822bc6b045b665c9ad55866ca24ebdf7f421e9cbabcc99405dd846d1b9"), looks := true }, kinds := [], alts := [], laidByText := true, laidKinds := [.data, .data, .pinned], laidTests := true, laidLooks := .later }
def FrameGetsUptoCardSaid : Prop := Claim7.holds Tryd.pinned (.plain (OpenSpec.upto frameGetsSpec)) frameGetsUptoCard

/-- THE SECOND FORM's CARD OF 'headgatelaw05.FrameTurned'. -/
def frameTurnedUptoCard : Claim7 := { stood := { row := frameTurnedUptoRow, standIns := [], harness := (true, "9fbc36822bc6b045b665c9ad55866ca24ebdf7f421e9cbabcc99405dd846d1b9"), looks := true }, kinds := [], alts := [], laidByText := true, laidKinds := [.data, .data, .pinned], laidTests := true, laidLooks := .later }
def FrameTurnedUptoCardSaid : Prop := Claim7.holds Tryd.pinned (.plain (OpenSpec.upto frameTurnedSpec)) frameTurnedUptoCard

/-- THE SECOND FORM's CARD OF 'headgatelaw05.FrameStacks'. -/
def frameStacksUptoCard : Claim7 := { stood := { row := frameStacksUptoRow, standIns := [], harness := (true, "9fbc36822bc6b045b665c9ad55866ca24ebdf7f421e9cbabcc99405dd846d1b9"), looks := true }, kinds := [], alts := [], laidByText := true, laidKinds := [.data, .data, .pinned], laidTests := true, laidLooks := .later }
def FrameStacksUptoCardSaid : Prop := Claim7.holds Tryd.pinned (.plain (OpenSpec.upto frameStacksSpec)) frameStacksUptoCard

/-- THE SECOND FORM's CARD OF 'headgatelaw05.FrameLists'. -/
def frameListsUptoCard : Claim7 := { stood := { row := frameListsUptoRow, standIns := [], harness := (true, "9fbc36822bc6b045b665c9ad55866ca24ebdf7f421e9cbabcc99405dd846d1b9"), looks := true }, kinds := [], alts := [], laidByText := true, laidKinds := [.data, .data, .pinned], laidTests := true, laidLooks := .later }
def FrameListsUptoCardSaid : Prop := Claim7.holds Tryd.pinned (.plain (OpenSpec.upto frameListsSpec)) frameListsUptoCard

/-- THE SECOND FORM's CARD OF 'headgatelaw05.FrameBack'. -/
def frameBackUptoCard : Claim7 := { stood := { row := frameBackUptoRow, standIns := [], harness := (true, "9fbc36822bc6b045b665c9ad55866ca24ebdf7f421e9cbabcc99405dd846d1b9"), looks := true }, kinds := [], alts := [], laidByText := true, laidKinds := [.data, .data, .pinned], laidTests := true, laidLooks := .later }
def FrameBackUptoCardSaid : Prop := Claim7.holds Tryd.pinned (.plain (OpenSpec.upto frameBackSpec)) frameBackUptoCard
end Rows
end Go.Proofs.YtdcojinnjpihaaaDoor
