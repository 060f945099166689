/-
  DERIVED. GIVEN WITH THE SEED: THE CARDS: each row of YtokdiacjcbolfaaDoorRows.lean that lists a variable, with what it lists TIED to the program's text (the seventh form; the later family's looks); each row that meets fmt, with fmt's text TOLD by the authors' own Lean function (tested against real Go, not proved from fmt's source: count such statements apart). THE CARD IS WHAT COUNTS. Prove the row's statement (the work); the ties are given (YtokdiacjcbolfaaDoorTie.lean); close each card by the builder's one call (the guide's Derived/Test/ToyasCard.lean, 'card_holds'). Laid BY PROGRAM, IN A SANDBOX (cutbox-door.mjs). By AI agents, Wed Nov 11 2026. No macro, syntax, notation, axiom, sorry.
-/
import Derived.Test.YtokdiacjcbolfaaDoorRows
import GoSem.ClaimSeven
namespace Go.Proofs.YtokdiacjcbolfaaDoor
namespace Rows

/-- THE TIED CARD OF 'headgatelaw06.JournalSafe'. -/
def journalSafeCard : Claim7 := { stood := { row := journalSafeRow, standIns := [], harness := (true, "063039adc113459fb39738a193ffecdae47653de1fec9d30cd680b5710df9d33"), looks := true }, kinds := [], alts := [], laidByText := true, laidKinds := [.data, .data, .pinned], laidTests := true, laidLooks := .later }
def JournalSafeCardSaid : Prop := Claim7.holds Tryd.pinned (.plain (OpenSpec.ofChange journalSafeSpec)) journalSafeCard

/-- THE TIED CARD OF 'headgatelaw06.JournalNone'. -/
def journalNoneCard : Claim7 := { stood := { row := journalNoneRow, standIns := [], harness := (true, "063039adc113459fb39738a193ffecdae47653de1fec9d30cd680b5710df9d33"), looks := true }, kinds := [], alts := [], laidByText := true, laidKinds := [.data, .data, .pinned], laidTests := true, laidLooks := .later }
def JournalNoneCardSaid : Prop := Claim7.holds Tryd.pinned (.plain (OpenSpec.ofChange journalNoneSpec)) journalNoneCard

/-- THE TIED CARD OF 'headgatelaw06.JournalFull'. -/
def journalFullCard : Claim7 := { stood := { row := journalFullRow, standIns := [], harness := (true, "063039adc113459fb39738a193ffecdae47653de1fec9d30cd680b5710df9d33"), looks := true }, kinds := [], alts := [], laidByText := true, laidKinds := [.data, .data, .pinned], laidTests := true, laidLooks := .later }
def JournalFullCardSaid : Prop := Claim7.holds Tryd.pinned (.plain (OpenSpec.ofChange journalFullSpec)) journalFullCard

/-- THE TIED CARD OF 'headgatelaw06.JournalSwitch'. -/
def journalSwitchCard : Claim7 := { stood := { row := journalSwitchRow, standIns := [], harness := (true, "063039adc113459fb39738a193ffecdae47653de1fec9d30cd680b5710df9d33"), looks := true }, kinds := [], alts := [], laidByText := true, laidKinds := [.data, .data, .pinned], laidTests := true, laidLooks := .later }
def JournalSwitchCardSaid : Prop := Claim7.holds Tryd.pinned (.plain (OpenSpec.ofChange journalSwitchSpec)) journalSwitchCard

/-- THE SECOND FORM's CARD OF 'headgatelaw06.JournalSafe'. -/
def journalSafeUptoCard : Claim7 := { stood := { row := journalSafeUptoRow, standIns := [], harness := (true, "063039adc113459fb39738a193ffecdae47653de1fec9d30cd680b5710df9d33"), looks := true }, kinds := [], alts := [], laidByText := true, laidKinds := [.data, .data, .pinned], laidTests := true, laidLooks := .later }
def JournalSafeUptoCardSaid : Prop := Claim7.holds Tryd.pinned (.plain (OpenSpec.upto journalSafeSpec)) journalSafeUptoCard

/-- THE SECOND FORM's CARD OF 'headgatelaw06.JournalNone'. -/
def journalNoneUptoCard : Claim7 := { stood := { row := journalNoneUptoRow, standIns := [], harness := (true, "063039adc113459fb39738a193ffecdae47653de1fec9d30cd680b5710df9d33"), looks := true }, kinds := [], alts := [], laidByText := true, laidKinds := [.data, .data, .pinned], laidTests := true, laidLooks := .later }
def JournalNoneUptoCardSaid : Prop := Claim7.holds Tryd.pinned (.plain (OpenSpec.upto journalNoneSpec)) journalNoneUptoCard

/-- THE SECOND FORM's CARD OF 'headgatelaw06.JournalFull'. -/
def journalFullUptoCard : Claim7 := { stood := { row := journalFullUptoRow, standIns := [], harness := (true, "063039adc113459fb39738a193ffecdae47653de1fec9d30cd680b5710df9d33"), looks := true }, kinds := [], alts := [], laidByText := true, laidKinds := [.data, .data, .pinned], laidTests := true, laidLooks := .later }
def JournalFullUptoCardSaid : Prop := Claim7.holds Tryd.pinned (.plain (OpenSpec.upto journalFullSpec)) journalFullUptoCard

/-- THE SECOND FORM's CARD OF 'headgatelaw06.JournalSwitch'. -/
def journalSwitchUptoCard : Claim7 := { stood := { row := journalSwitchUptoRow, standIns := [], harness := (true, "063039adc113459fb39738a193ffecdae47653de1fec9d30cd680b5710df9d33"), looks := true }, kinds := [], alts := [], laidByText := true, laidKinds := [.data, .data, .pinned], laidTests := true, laidLooks := .later }
def JournalSwitchUptoCardSaid : Prop := Claim7.holds Tryd.pinned (.plain (OpenSpec.upto journalSwitchSpec)) journalSwitchUptoCard
end Rows
end Go.Proofs.YtokdiacjcbolfaaDoor
