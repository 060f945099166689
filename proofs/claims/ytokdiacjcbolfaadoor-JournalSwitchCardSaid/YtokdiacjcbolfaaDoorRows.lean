/-
  NARROWER THAN 'FOR EVERY INPUT', by the rows' own cells (each row's printed sentence says how): JournalSafe: laid · JournalNone: laid · JournalFull: laid · JournalSwitch: laid.
  DERIVED. THE GIVEN ROWS OF THIS SEAT. 4 by the template 'for every input the law returns true; each argument reads behind the call as it read before'; 0 by the template 'total and deterministic' (their statements: YtokdiacjcbolfaaDoorTotals.lean).
  GIVEN WITH THE SEED: the statements are not yours to turn. If you find one false, say at which input.
  Laid BY PROGRAM, IN A SANDBOX (cutbox-rows.mjs): the forced cells as the released guide's own fill.sh prints them over the translation 747948bd9f399f1a… (all of the seat's roots in one cut). By AI agents, Wed Nov 11 2026. No macro, syntax, notation, axiom, sorry.
-/
import Derived.Test.YtokdiacjcbolfaaDoorChecked
import GoSem.PinnedTables
import GoSem.Claim
import GoSem.ClaimJoined
import GoSem.ClaimMapViews
import Derived.JoinedTies
import Derived.KernelRfl
namespace Go.Proofs.YtokdiacjcbolfaaDoor
/- THE CELL 'sum', in the pinned program and in every row, IS THE sha256 OF THE DUMP (.gsa) THAT YtokdiacjcbolfaaDoorProg.lean LOADS. Nothing in Lean hashes anything: it is a label: what it is worth is what the hold of that sum in a sandbox is worth. -/
noncomputable def Tryd.pinned : Pinned := { name := "ytokdiacjcbolfaadoor", sum := "747948bd9f399f1a1cc4e1d8a6f4cf8f33e4783316a03274cc5a65830949c7a2", checked := Tryd.checked }
namespace Rows
def none {H : Type} : Left H := { results := [], args := [] }

/- WHAT THE LISTED PACKAGE-LEVEL VARIABLES READ AS WHEN THE CALL BEGINS. Each datum BY PROGRAM (the guide's laid-datum.mjs) off the statement by which the dump's own 'gosem.cut.vars' lays the variable. In a bare row this is a premise. The card (YtokdiacjcbolfaaDoorCards.lean) ties it to the program's text. -/
def laid_headgate_crc_steps {H : Type} : DataW H := .agg [.lit (.int .u32 0), .lit (.int .u32 274646895), .lit (.int .u32 549293790), .lit (.int .u32 820201905), .lit (.int .u32 1098587580), .lit (.int .u32 1361435347), .lit (.int .u32 1640403810), .lit (.int .u32 1905808397), .lit (.int .u32 2197175160), .lit (.int .u32 2460548119), .lit (.int .u32 2722870694), .lit (.int .u32 2987750089), .lit (.int .u32 3280807620), .lit (.int .u32 3553878443), .lit (.int .u32 3811616794), .lit (.int .u32 4084100981)]
def laid_unicode_utf8_acceptRanges {H : Type} : DataW H := .agg [.agg [.lit (.int .u8 128), .lit (.int .u8 191)], .agg [.lit (.int .u8 160), .lit (.int .u8 191)], .agg [.lit (.int .u8 128), .lit (.int .u8 159)], .agg [.lit (.int .u8 144), .lit (.int .u8 191)], .agg [.lit (.int .u8 128), .lit (.int .u8 143)], .agg [.lit (.int .u8 0), .lit (.int .u8 0)], .agg [.lit (.int .u8 0), .lit (.int .u8 0)], .agg [.lit (.int .u8 0), .lit (.int .u8 0)], .agg [.lit (.int .u8 0), .lit (.int .u8 0)], .agg [.lit (.int .u8 0), .lit (.int .u8 0)], .agg [.lit (.int .u8 0), .lit (.int .u8 0)], .agg [.lit (.int .u8 0), .lit (.int .u8 0)], .agg [.lit (.int .u8 0), .lit (.int .u8 0)], .agg [.lit (.int .u8 0), .lit (.int .u8 0)], .agg [.lit (.int .u8 0), .lit (.int .u8 0)], .agg [.lit (.int .u8 0), .lit (.int .u8 0)]]
/-- One of Go's own tables, pinned by name: the form's constant. -/
def laid_unicode_utf8_first : DataW Unit := Go.Pinned.utf8First

/-- 'headgatelaw06.JournalSafe': WHATEVER THE INPUT: true; the input reads as it did. -/
def journalSafeSpec : ChangeSpec := { name := "journalSafe", fn := fun _ => fun
  | [d1, d2, d3] => { results := [.lit (.bool true)], args := [d1, d2, d3] }
  | _ => none }
def journalSafeRow : OpenClaim := { program := "ytokdiacjcbolfaadoor", sum := "747948bd9f399f1a1cc4e1d8a6f4cf8f33e4783316a03274cc5a65830949c7a2", func := "headgate/headgatelaw06.JournalSafe", spec := "journalSafe", inPlace := ["internal/abi.NoEscape", "internal/bytealg.MakeNoZero", "sync/atomic.AddInt64", "sync/atomic.LoadInt64", "sync/atomic.StoreInt64", "internal/bytealg.IndexByteString", "internal/bytealg.IndexString"], unfollowed := true, recurses := true, named := ["headgate/crc.steps", "unicode/utf8.first", "unicode/utf8.acceptRanges", "internal/bytealg.MaxLen"], apart := false, laid := [("headgate/crc.steps", laid_headgate_crc_steps), ("unicode/utf8.acceptRanges", laid_unicode_utf8_acceptRanges), ("unicode/utf8.first", laid_unicode_utf8_first)] }
def JournalSafeSaid : Prop := journalSafeRow.holds Tryd.pinned (OpenSpec.ofChange journalSafeSpec)

/-- ITS FALSE NEIGHBOUR: 'it returns false'. Refute it at one input. -/
def journalSafeWrong : ChangeSpec := { name := "journalSafe", fn := fun _ => fun
  | [d1, d2, d3] => { results := [.lit (.bool false)], args := [d1, d2, d3] }
  | _ => none }
def JournalSafeWrongFalsely : Prop := journalSafeRow.holds Tryd.pinned (OpenSpec.ofChange journalSafeWrong)

/-- 'headgatelaw06.JournalNone': WHATEVER THE INPUT: true; the input reads as it did. -/
def journalNoneSpec : ChangeSpec := { name := "journalNone", fn := fun _ => fun
  | [d1, d2] => { results := [.lit (.bool true)], args := [d1, d2] }
  | _ => none }
def journalNoneRow : OpenClaim := { program := "ytokdiacjcbolfaadoor", sum := "747948bd9f399f1a1cc4e1d8a6f4cf8f33e4783316a03274cc5a65830949c7a2", func := "headgate/headgatelaw06.JournalNone", spec := "journalNone", inPlace := ["internal/abi.NoEscape", "internal/bytealg.MakeNoZero", "sync/atomic.AddInt64", "sync/atomic.LoadInt64", "sync/atomic.StoreInt64", "internal/bytealg.IndexByteString", "internal/bytealg.IndexString"], unfollowed := true, recurses := true, named := ["headgate/crc.steps", "unicode/utf8.first", "unicode/utf8.acceptRanges", "internal/bytealg.MaxLen"], apart := false, laid := [("headgate/crc.steps", laid_headgate_crc_steps), ("unicode/utf8.acceptRanges", laid_unicode_utf8_acceptRanges), ("unicode/utf8.first", laid_unicode_utf8_first)] }
def JournalNoneSaid : Prop := journalNoneRow.holds Tryd.pinned (OpenSpec.ofChange journalNoneSpec)

/-- ITS FALSE NEIGHBOUR: 'it returns false'. Refute it at one input. -/
def journalNoneWrong : ChangeSpec := { name := "journalNone", fn := fun _ => fun
  | [d1, d2] => { results := [.lit (.bool false)], args := [d1, d2] }
  | _ => none }
def JournalNoneWrongFalsely : Prop := journalNoneRow.holds Tryd.pinned (OpenSpec.ofChange journalNoneWrong)

/-- 'headgatelaw06.JournalFull': WHATEVER THE INPUT: true; the input reads as it did. -/
def journalFullSpec : ChangeSpec := { name := "journalFull", fn := fun _ => fun
  | [d1, d2] => { results := [.lit (.bool true)], args := [d1, d2] }
  | _ => none }
def journalFullRow : OpenClaim := { program := "ytokdiacjcbolfaadoor", sum := "747948bd9f399f1a1cc4e1d8a6f4cf8f33e4783316a03274cc5a65830949c7a2", func := "headgate/headgatelaw06.JournalFull", spec := "journalFull", inPlace := ["internal/abi.NoEscape", "internal/bytealg.MakeNoZero", "sync/atomic.AddInt64", "sync/atomic.LoadInt64", "sync/atomic.StoreInt64", "internal/bytealg.IndexByteString", "internal/bytealg.IndexString"], unfollowed := true, recurses := true, named := ["headgate/crc.steps", "unicode/utf8.first", "unicode/utf8.acceptRanges", "internal/bytealg.MaxLen"], apart := false, laid := [("headgate/crc.steps", laid_headgate_crc_steps), ("unicode/utf8.acceptRanges", laid_unicode_utf8_acceptRanges), ("unicode/utf8.first", laid_unicode_utf8_first)] }
def JournalFullSaid : Prop := journalFullRow.holds Tryd.pinned (OpenSpec.ofChange journalFullSpec)

/-- ITS FALSE NEIGHBOUR: 'it returns false'. Refute it at one input. -/
def journalFullWrong : ChangeSpec := { name := "journalFull", fn := fun _ => fun
  | [d1, d2] => { results := [.lit (.bool false)], args := [d1, d2] }
  | _ => none }
def JournalFullWrongFalsely : Prop := journalFullRow.holds Tryd.pinned (OpenSpec.ofChange journalFullWrong)

/-- 'headgatelaw06.JournalSwitch': WHATEVER THE INPUT: true; the input reads as it did. -/
def journalSwitchSpec : ChangeSpec := { name := "journalSwitch", fn := fun _ => fun
  | [d1, d2, d3] => { results := [.lit (.bool true)], args := [d1, d2, d3] }
  | _ => none }
def journalSwitchRow : OpenClaim := { program := "ytokdiacjcbolfaadoor", sum := "747948bd9f399f1a1cc4e1d8a6f4cf8f33e4783316a03274cc5a65830949c7a2", func := "headgate/headgatelaw06.JournalSwitch", spec := "journalSwitch", inPlace := ["internal/abi.NoEscape", "internal/bytealg.MakeNoZero", "sync/atomic.AddInt64", "sync/atomic.LoadInt64", "sync/atomic.StoreInt64", "internal/bytealg.IndexByteString", "internal/bytealg.IndexString"], unfollowed := true, recurses := true, named := ["headgate/crc.steps", "unicode/utf8.first", "unicode/utf8.acceptRanges", "internal/bytealg.MaxLen"], apart := false, laid := [("headgate/crc.steps", laid_headgate_crc_steps), ("unicode/utf8.acceptRanges", laid_unicode_utf8_acceptRanges), ("unicode/utf8.first", laid_unicode_utf8_first)] }
def JournalSwitchSaid : Prop := journalSwitchRow.holds Tryd.pinned (OpenSpec.ofChange journalSwitchSpec)

/-- ITS FALSE NEIGHBOUR: 'it returns false'. Refute it at one input. -/
def journalSwitchWrong : ChangeSpec := { name := "journalSwitch", fn := fun _ => fun
  | [d1, d2, d3] => { results := [.lit (.bool false)], args := [d1, d2, d3] }
  | _ => none }
def JournalSwitchWrongFalsely : Prop := journalSwitchRow.holds Tryd.pinned (OpenSpec.ofChange journalSwitchWrong)

/- THE SECOND FORM. 'bulk': how many values and letters a reading holds, each counted each time it is reached (what is shared counts as often as it is met; a slice's spare places count too). A statement '..UptoSaid' is the law's where the arguments, and the package variables that the reading takes, are together of bulk at most 1048576: NARROWER than '..Said'. Prove '..Said' where nothing that the law and all that it calls make is longer than what came in: it says more and counts as full. Else prove '..UptoSaid'. A law counts once. -/
mutual
def uptoBulk {H : Type} : DataW H → Nat
  | .lit (.string bytes) => bytes.length + 1
  | .lit _ => 1
  | .nil => 1
  | .ptr d => uptoBulk d + 1
  | .slice elems spare => uptoBulkAll elems + uptoBulkAll spare + 1
  | .agg parts => uptoBulkAll parts + 1
  | .iface _ d => uptoBulk d + 1
  | .map entries => uptoBulkEntries entries + 1
  | .held _ => 1
def uptoBulkAll {H : Type} : List (DataW H) → Nat
  | [] => 0
  | d :: r => uptoBulk d + uptoBulkAll r
def uptoBulkEntries {H : Type} : List (Lit × DataW H) → Nat
  | [] => 0
  | x :: r => uptoBulkEntry x + uptoBulkEntries r
def uptoBulkEntry {H : Type} : Lit × DataW H → Nat
  | (.string bytes, d) => bytes.length + uptoBulk d + 1
  | (_, d) => uptoBulk d + 1
 end
def uptoSmall : (H : Type) → List (DataW H) → Bool := fun _ ds => decide (uptoBulkAll ds ≤ 1048576)
def OpenSpec.upto (s : _root_.Go.ChangeSpec) : _root_.Go.OpenSpec := { _root_.Go.OpenSpec.ofChange s with cond := some uptoSmall }

/-- 'headgatelaw06.JournalSafe', WHERE WHAT IT READS IS OF BULK AT MOST 1048576: true; the input reads as it did. -/
def journalSafeUptoRow : OpenClaim := { program := "ytokdiacjcbolfaadoor", sum := "747948bd9f399f1a1cc4e1d8a6f4cf8f33e4783316a03274cc5a65830949c7a2", func := "headgate/headgatelaw06.JournalSafe", spec := "journalSafe", inPlace := ["internal/abi.NoEscape", "internal/bytealg.MakeNoZero", "sync/atomic.AddInt64", "sync/atomic.LoadInt64", "sync/atomic.StoreInt64", "internal/bytealg.IndexByteString", "internal/bytealg.IndexString"], unfollowed := true, recurses := true, named := ["headgate/crc.steps", "unicode/utf8.first", "unicode/utf8.acceptRanges", "internal/bytealg.MaxLen"], apart := false, laid := [("headgate/crc.steps", laid_headgate_crc_steps), ("unicode/utf8.acceptRanges", laid_unicode_utf8_acceptRanges), ("unicode/utf8.first", laid_unicode_utf8_first)], narrowed := true }
def JournalSafeUptoSaid : Prop := journalSafeUptoRow.holds Tryd.pinned (OpenSpec.upto journalSafeSpec)

/-- 'headgatelaw06.JournalNone', WHERE WHAT IT READS IS OF BULK AT MOST 1048576: true; the input reads as it did. -/
def journalNoneUptoRow : OpenClaim := { program := "ytokdiacjcbolfaadoor", sum := "747948bd9f399f1a1cc4e1d8a6f4cf8f33e4783316a03274cc5a65830949c7a2", func := "headgate/headgatelaw06.JournalNone", spec := "journalNone", inPlace := ["internal/abi.NoEscape", "internal/bytealg.MakeNoZero", "sync/atomic.AddInt64", "sync/atomic.LoadInt64", "sync/atomic.StoreInt64", "internal/bytealg.IndexByteString", "internal/bytealg.IndexString"], unfollowed := true, recurses := true, named := ["headgate/crc.steps", "unicode/utf8.first", "unicode/utf8.acceptRanges", "internal/bytealg.MaxLen"], apart := false, laid := [("headgate/crc.steps", laid_headgate_crc_steps), ("unicode/utf8.acceptRanges", laid_unicode_utf8_acceptRanges), ("unicode/utf8.first", laid_unicode_utf8_first)], narrowed := true }
def JournalNoneUptoSaid : Prop := journalNoneUptoRow.holds Tryd.pinned (OpenSpec.upto journalNoneSpec)

/-- 'headgatelaw06.JournalFull', WHERE WHAT IT READS IS OF BULK AT MOST 1048576: true; the input reads as it did. -/
def journalFullUptoRow : OpenClaim := { program := "ytokdiacjcbolfaadoor", sum := "747948bd9f399f1a1cc4e1d8a6f4cf8f33e4783316a03274cc5a65830949c7a2", func := "headgate/headgatelaw06.JournalFull", spec := "journalFull", inPlace := ["internal/abi.NoEscape", "internal/bytealg.MakeNoZero", "sync/atomic.AddInt64", "sync/atomic.LoadInt64", "sync/atomic.StoreInt64", "internal/bytealg.IndexByteString", "internal/bytealg.IndexString"], unfollowed := true, recurses := true, named := ["headgate/crc.steps", "unicode/utf8.first", "unicode/utf8.acceptRanges", "internal/bytealg.MaxLen"], apart := false, laid := [("headgate/crc.steps", laid_headgate_crc_steps), ("unicode/utf8.acceptRanges", laid_unicode_utf8_acceptRanges), ("unicode/utf8.first", laid_unicode_utf8_first)], narrowed := true }
def JournalFullUptoSaid : Prop := journalFullUptoRow.holds Tryd.pinned (OpenSpec.upto journalFullSpec)

/-- 'headgatelaw06.JournalSwitch', WHERE WHAT IT READS IS OF BULK AT MOST 1048576: true; the input reads as it did. -/
def journalSwitchUptoRow : OpenClaim := { program := "ytokdiacjcbolfaadoor", sum := "747948bd9f399f1a1cc4e1d8a6f4cf8f33e4783316a03274cc5a65830949c7a2", func := "headgate/headgatelaw06.JournalSwitch", spec := "journalSwitch", inPlace := ["internal/abi.NoEscape", "internal/bytealg.MakeNoZero", "sync/atomic.AddInt64", "sync/atomic.LoadInt64", "sync/atomic.StoreInt64", "internal/bytealg.IndexByteString", "internal/bytealg.IndexString"], unfollowed := true, recurses := true, named := ["headgate/crc.steps", "unicode/utf8.first", "unicode/utf8.acceptRanges", "internal/bytealg.MaxLen"], apart := false, laid := [("headgate/crc.steps", laid_headgate_crc_steps), ("unicode/utf8.acceptRanges", laid_unicode_utf8_acceptRanges), ("unicode/utf8.first", laid_unicode_utf8_first)], narrowed := true }
def JournalSwitchUptoSaid : Prop := journalSwitchUptoRow.holds Tryd.pinned (OpenSpec.upto journalSwitchSpec)

end Rows
end Go.Proofs.YtokdiacjcbolfaaDoor
