/-
  NARROWER THAN 'FOR EVERY INPUT', by the rows' own cells (each row's printed sentence says how): ExecPower: laid · ExecCompare: laid · ExecZeros: laid · ExecFences: laid · ExecNone: laid · ExecPlays: laid · ExecKeeps: laid · ExecDown: laid.
  DERIVED. THE GIVEN ROWS OF THIS SEAT. 8 by the template 'for every input the law returns true; each argument reads behind the call as it read before'; 0 by the template 'total and deterministic' (their statements: YteahodjiihjmnaaGreatDoorTotals.lean).
  GIVEN WITH THE SEED: the statements are not yours to turn. If you find one false, say at which input.
  Laid BY PROGRAM, IN A SANDBOX (cutbox-rows.mjs): the forced cells as the released guide's own fill.sh prints them over the translation f91e3d373bcc781f… (all of the seat's roots in one cut). By AI agents, Wed Nov 11 2026. No macro, syntax, notation, axiom, sorry.
-/
import Derived.Test.YteahodjiihjmnaaGreatDoorChecked
import GoSem.PinnedTables
import GoSem.Claim
import GoSem.ClaimJoined
import GoSem.ClaimMapViews
import Derived.JoinedTies
import Derived.KernelRfl
namespace Go.Proofs.YteahodjiihjmnaaGreatDoor
/- THE CELL 'sum', in the pinned program and in every row, IS THE sha256 OF THE DUMP (.gsa) THAT YteahodjiihjmnaaGreatDoorProg.lean LOADS. Nothing in Lean hashes anything: it is a label: what it is worth is what the hold of that sum in a sandbox is worth. -/
noncomputable def Tryz.pinned : Pinned := { name := "yteahodjiihjmnaagreatdoor", sum := "f91e3d373bcc781f89fea7883902f763d2e3d8b7b7c98d9a8cedecd71a636f89", checked := Tryz.checked }
namespace Rows
def none {H : Type} : Left H := { results := [], args := [] }

/- WHAT THE LISTED PACKAGE-LEVEL VARIABLES READ AS WHEN THE CALL BEGINS. Each datum BY PROGRAM (the guide's laid-datum.mjs) off the statement by which the dump's own 'gosem.cut.vars' lays the variable. In a bare row this is a premise. The card (YteahodjiihjmnaaGreatDoorCards.lean) ties it to the program's text. -/
def laid_headgate_access_lets {H : Type} : DataW H := .agg [.lit (.int .i64 0), .lit (.int .i64 1), .lit (.int .i64 0), .lit (.int .i64 5), .lit (.int .i64 6), .lit (.int .i64 13), .lit (.int .i64 14)]
def laid_headgate_crc_steps {H : Type} : DataW H := .agg [.lit (.int .u32 0), .lit (.int .u32 274646895), .lit (.int .u32 549293790), .lit (.int .u32 820201905), .lit (.int .u32 1098587580), .lit (.int .u32 1361435347), .lit (.int .u32 1640403810), .lit (.int .u32 1905808397), .lit (.int .u32 2197175160), .lit (.int .u32 2460548119), .lit (.int .u32 2722870694), .lit (.int .u32 2987750089), .lit (.int .u32 3280807620), .lit (.int .u32 3553878443), .lit (.int .u32 3811616794), .lit (.int .u32 4084100981)]
def laid_unicode_utf8_acceptRanges {H : Type} : DataW H := .agg [.agg [.lit (.int .u8 128), .lit (.int .u8 191)], .agg [.lit (.int .u8 160), .lit (.int .u8 191)], .agg [.lit (.int .u8 128), .lit (.int .u8 159)], .agg [.lit (.int .u8 144), .lit (.int .u8 191)], .agg [.lit (.int .u8 128), .lit (.int .u8 143)], .agg [.lit (.int .u8 0), .lit (.int .u8 0)], .agg [.lit (.int .u8 0), .lit (.int .u8 0)], .agg [.lit (.int .u8 0), .lit (.int .u8 0)], .agg [.lit (.int .u8 0), .lit (.int .u8 0)], .agg [.lit (.int .u8 0), .lit (.int .u8 0)], .agg [.lit (.int .u8 0), .lit (.int .u8 0)], .agg [.lit (.int .u8 0), .lit (.int .u8 0)], .agg [.lit (.int .u8 0), .lit (.int .u8 0)], .agg [.lit (.int .u8 0), .lit (.int .u8 0)], .agg [.lit (.int .u8 0), .lit (.int .u8 0)], .agg [.lit (.int .u8 0), .lit (.int .u8 0)]]
/-- One of Go's own tables, pinned by name: the form's constant. -/
def laid_unicode_utf8_first : DataW Unit := Go.Pinned.utf8First

/-- 'headgatelaw14.ExecPower': WHATEVER THE INPUT: true; the input reads as it did. -/
def execPowerSpec : ChangeSpec := { name := "execPower", fn := fun _ => fun
  | [d1, d2] => { results := [.lit (.bool true)], args := [d1, d2] }
  | _ => none }
def execPowerRow : OpenClaim := { program := "yteahodjiihjmnaagreatdoor", sum := "f91e3d373bcc781f89fea7883902f763d2e3d8b7b7c98d9a8cedecd71a636f89", func := "headgate/headgatelaw14.ExecPower", spec := "execPower", inPlace := ["sync/atomic.LoadUint32", "(*internal/sync.Mutex).Lock", "internal/race.Disable", "sync/atomic.CompareAndSwapInt32", "internal/race.Enable", "internal/race.Acquire", "(*internal/sync.Mutex).lockSlow", "internal/sync.runtime_canSpin", "internal/sync.runtime_doSpin", "internal/sync.throw", "internal/sync.runtime_nanotime", "internal/sync.runtime_SemacquireMutex", "sync/atomic.AddInt32", "(*internal/sync.Mutex).Unlock", "internal/race.ReleaseMerge", "(*internal/sync.Mutex).unlockSlow", "internal/sync.fatal", "internal/sync.runtime_Semrelease", "sync/atomic.StoreUint32", "internal/abi.NoEscape", "internal/bytealg.MakeNoZero", "sync/atomic.AddInt64", "sync/atomic.LoadInt64", "sync/atomic.StoreInt64", "internal/bytealg.IndexByteString", "internal/bytealg.IndexString"], unfollowed := true, recurses := true, named := ["headgate/crc.steps", "headgate/access.lets", "unicode/utf8.first", "unicode/utf8.acceptRanges", "internal/bytealg.MaxLen"], plainKeys := false, apart := false, laid := [("headgate/access.lets", laid_headgate_access_lets), ("headgate/crc.steps", laid_headgate_crc_steps), ("unicode/utf8.acceptRanges", laid_unicode_utf8_acceptRanges), ("unicode/utf8.first", laid_unicode_utf8_first)] }
def ExecPowerSaid : Prop := execPowerRow.holds Tryz.pinned (OpenSpec.ofChange execPowerSpec)

/-- ITS FALSE NEIGHBOUR: 'it returns false'. Refute it at one input. -/
def execPowerWrong : ChangeSpec := { name := "execPower", fn := fun _ => fun
  | [d1, d2] => { results := [.lit (.bool false)], args := [d1, d2] }
  | _ => none }
def ExecPowerWrongFalsely : Prop := execPowerRow.holds Tryz.pinned (OpenSpec.ofChange execPowerWrong)

/-- 'headgatelaw14.ExecCompare': WHATEVER THE INPUT: true; the input reads as it did. -/
def execCompareSpec : ChangeSpec := { name := "execCompare", fn := fun _ => fun
  | [d1, d2, d3] => { results := [.lit (.bool true)], args := [d1, d2, d3] }
  | _ => none }
def execCompareRow : OpenClaim := { program := "yteahodjiihjmnaagreatdoor", sum := "f91e3d373bcc781f89fea7883902f763d2e3d8b7b7c98d9a8cedecd71a636f89", func := "headgate/headgatelaw14.ExecCompare", spec := "execCompare", inPlace := ["sync/atomic.LoadUint32", "(*internal/sync.Mutex).Lock", "internal/race.Disable", "sync/atomic.CompareAndSwapInt32", "internal/race.Enable", "internal/race.Acquire", "(*internal/sync.Mutex).lockSlow", "internal/sync.runtime_canSpin", "internal/sync.runtime_doSpin", "internal/sync.throw", "internal/sync.runtime_nanotime", "internal/sync.runtime_SemacquireMutex", "sync/atomic.AddInt32", "(*internal/sync.Mutex).Unlock", "internal/race.ReleaseMerge", "(*internal/sync.Mutex).unlockSlow", "internal/sync.fatal", "internal/sync.runtime_Semrelease", "sync/atomic.StoreUint32", "internal/abi.NoEscape", "internal/bytealg.MakeNoZero", "sync/atomic.AddInt64", "sync/atomic.LoadInt64", "sync/atomic.StoreInt64"], unfollowed := true, recurses := true, named := ["headgate/crc.steps", "headgate/access.lets"], plainKeys := false, apart := false, laid := [("headgate/access.lets", laid_headgate_access_lets), ("headgate/crc.steps", laid_headgate_crc_steps)] }
def ExecCompareSaid : Prop := execCompareRow.holds Tryz.pinned (OpenSpec.ofChange execCompareSpec)

/-- ITS FALSE NEIGHBOUR: 'it returns false'. Refute it at one input. -/
def execCompareWrong : ChangeSpec := { name := "execCompare", fn := fun _ => fun
  | [d1, d2, d3] => { results := [.lit (.bool false)], args := [d1, d2, d3] }
  | _ => none }
def ExecCompareWrongFalsely : Prop := execCompareRow.holds Tryz.pinned (OpenSpec.ofChange execCompareWrong)

/-- 'headgatelaw14.ExecZeros': WHATEVER THE INPUT: true; the input reads as it did. -/
def execZerosSpec : ChangeSpec := { name := "execZeros", fn := fun _ => fun
  | [d1, d2] => { results := [.lit (.bool true)], args := [d1, d2] }
  | _ => none }
def execZerosRow : OpenClaim := { program := "yteahodjiihjmnaagreatdoor", sum := "f91e3d373bcc781f89fea7883902f763d2e3d8b7b7c98d9a8cedecd71a636f89", func := "headgate/headgatelaw14.ExecZeros", spec := "execZeros", inPlace := ["sync/atomic.LoadUint32", "(*internal/sync.Mutex).Lock", "internal/race.Disable", "sync/atomic.CompareAndSwapInt32", "internal/race.Enable", "internal/race.Acquire", "(*internal/sync.Mutex).lockSlow", "internal/sync.runtime_canSpin", "internal/sync.runtime_doSpin", "internal/sync.throw", "internal/sync.runtime_nanotime", "internal/sync.runtime_SemacquireMutex", "sync/atomic.AddInt32", "(*internal/sync.Mutex).Unlock", "internal/race.ReleaseMerge", "(*internal/sync.Mutex).unlockSlow", "internal/sync.fatal", "internal/sync.runtime_Semrelease", "sync/atomic.StoreUint32", "internal/abi.NoEscape", "internal/bytealg.MakeNoZero", "sync/atomic.AddInt64", "sync/atomic.LoadInt64", "sync/atomic.StoreInt64"], unfollowed := true, recurses := true, named := ["headgate/crc.steps", "headgate/access.lets"], plainKeys := false, apart := false, laid := [("headgate/access.lets", laid_headgate_access_lets), ("headgate/crc.steps", laid_headgate_crc_steps)] }
def ExecZerosSaid : Prop := execZerosRow.holds Tryz.pinned (OpenSpec.ofChange execZerosSpec)

/-- ITS FALSE NEIGHBOUR: 'it returns false'. Refute it at one input. -/
def execZerosWrong : ChangeSpec := { name := "execZeros", fn := fun _ => fun
  | [d1, d2] => { results := [.lit (.bool false)], args := [d1, d2] }
  | _ => none }
def ExecZerosWrongFalsely : Prop := execZerosRow.holds Tryz.pinned (OpenSpec.ofChange execZerosWrong)

/-- 'headgatelaw14.ExecFences': WHATEVER THE INPUT: true; the input reads as it did. -/
def execFencesSpec : ChangeSpec := { name := "execFences", fn := fun _ => fun
  | [d1, d2] => { results := [.lit (.bool true)], args := [d1, d2] }
  | _ => none }
def execFencesRow : OpenClaim := { program := "yteahodjiihjmnaagreatdoor", sum := "f91e3d373bcc781f89fea7883902f763d2e3d8b7b7c98d9a8cedecd71a636f89", func := "headgate/headgatelaw14.ExecFences", spec := "execFences", inPlace := ["sync/atomic.LoadUint32", "(*internal/sync.Mutex).Lock", "internal/race.Disable", "sync/atomic.CompareAndSwapInt32", "internal/race.Enable", "internal/race.Acquire", "(*internal/sync.Mutex).lockSlow", "internal/sync.runtime_canSpin", "internal/sync.runtime_doSpin", "internal/sync.throw", "internal/sync.runtime_nanotime", "internal/sync.runtime_SemacquireMutex", "sync/atomic.AddInt32", "(*internal/sync.Mutex).Unlock", "internal/race.ReleaseMerge", "(*internal/sync.Mutex).unlockSlow", "internal/sync.fatal", "internal/sync.runtime_Semrelease", "sync/atomic.StoreUint32", "internal/abi.NoEscape", "internal/bytealg.MakeNoZero", "sync/atomic.AddInt64", "sync/atomic.LoadInt64", "sync/atomic.StoreInt64"], unfollowed := true, recurses := true, named := ["headgate/crc.steps", "headgate/access.lets"], plainKeys := false, apart := false, laid := [("headgate/access.lets", laid_headgate_access_lets), ("headgate/crc.steps", laid_headgate_crc_steps)] }
def ExecFencesSaid : Prop := execFencesRow.holds Tryz.pinned (OpenSpec.ofChange execFencesSpec)

/-- ITS FALSE NEIGHBOUR: 'it returns false'. Refute it at one input. -/
def execFencesWrong : ChangeSpec := { name := "execFences", fn := fun _ => fun
  | [d1, d2] => { results := [.lit (.bool false)], args := [d1, d2] }
  | _ => none }
def ExecFencesWrongFalsely : Prop := execFencesRow.holds Tryz.pinned (OpenSpec.ofChange execFencesWrong)

/-- 'headgatelaw14.ExecNone': WHATEVER THE INPUT: true; the input reads as it did. -/
def execNoneSpec : ChangeSpec := { name := "execNone", fn := fun _ => fun
  | [d] => { results := [.lit (.bool true)], args := [d] }
  | _ => none }
def execNoneRow : OpenClaim := { program := "yteahodjiihjmnaagreatdoor", sum := "f91e3d373bcc781f89fea7883902f763d2e3d8b7b7c98d9a8cedecd71a636f89", func := "headgate/headgatelaw14.ExecNone", spec := "execNone", inPlace := ["internal/abi.NoEscape", "internal/bytealg.MakeNoZero", "sync/atomic.LoadUint32", "(*internal/sync.Mutex).Lock", "internal/race.Disable", "sync/atomic.CompareAndSwapInt32", "internal/race.Enable", "internal/race.Acquire", "(*internal/sync.Mutex).lockSlow", "internal/sync.runtime_canSpin", "internal/sync.runtime_doSpin", "internal/sync.throw", "internal/sync.runtime_nanotime", "internal/sync.runtime_SemacquireMutex", "sync/atomic.AddInt32", "(*internal/sync.Mutex).Unlock", "internal/race.ReleaseMerge", "(*internal/sync.Mutex).unlockSlow", "internal/sync.fatal", "internal/sync.runtime_Semrelease", "sync/atomic.StoreUint32", "sync/atomic.AddInt64", "sync/atomic.LoadInt64", "sync/atomic.StoreInt64"], unfollowed := true, recurses := true, named := ["headgate/crc.steps", "headgate/access.lets"], plainKeys := false, apart := false, laid := [("headgate/access.lets", laid_headgate_access_lets), ("headgate/crc.steps", laid_headgate_crc_steps)] }
def ExecNoneSaid : Prop := execNoneRow.holds Tryz.pinned (OpenSpec.ofChange execNoneSpec)

/-- ITS FALSE NEIGHBOUR: 'it returns false'. Refute it at one input. -/
def execNoneWrong : ChangeSpec := { name := "execNone", fn := fun _ => fun
  | [d] => { results := [.lit (.bool false)], args := [d] }
  | _ => none }
def ExecNoneWrongFalsely : Prop := execNoneRow.holds Tryz.pinned (OpenSpec.ofChange execNoneWrong)

/-- 'headgatelaw14.ExecPlays': WHATEVER THE INPUT: true; the input reads as it did. -/
def execPlaysSpec : ChangeSpec := { name := "execPlays", fn := fun _ => fun
  | [d1, d2] => { results := [.lit (.bool true)], args := [d1, d2] }
  | _ => none }
def execPlaysRow : OpenClaim := { program := "yteahodjiihjmnaagreatdoor", sum := "f91e3d373bcc781f89fea7883902f763d2e3d8b7b7c98d9a8cedecd71a636f89", func := "headgate/headgatelaw14.ExecPlays", spec := "execPlays", inPlace := ["sync/atomic.LoadUint32", "(*internal/sync.Mutex).Lock", "internal/race.Disable", "sync/atomic.CompareAndSwapInt32", "internal/race.Enable", "internal/race.Acquire", "(*internal/sync.Mutex).lockSlow", "internal/sync.runtime_canSpin", "internal/sync.runtime_doSpin", "internal/sync.throw", "internal/sync.runtime_nanotime", "internal/sync.runtime_SemacquireMutex", "sync/atomic.AddInt32", "(*internal/sync.Mutex).Unlock", "internal/race.ReleaseMerge", "(*internal/sync.Mutex).unlockSlow", "internal/sync.fatal", "internal/sync.runtime_Semrelease", "sync/atomic.StoreUint32", "internal/abi.NoEscape", "internal/bytealg.MakeNoZero", "sync/atomic.AddInt64", "sync/atomic.LoadInt64", "sync/atomic.StoreInt64"], unfollowed := true, recurses := true, named := ["headgate/crc.steps", "headgate/access.lets"], plainKeys := false, apart := false, laid := [("headgate/access.lets", laid_headgate_access_lets), ("headgate/crc.steps", laid_headgate_crc_steps)] }
def ExecPlaysSaid : Prop := execPlaysRow.holds Tryz.pinned (OpenSpec.ofChange execPlaysSpec)

/-- ITS FALSE NEIGHBOUR: 'it returns false'. Refute it at one input. -/
def execPlaysWrong : ChangeSpec := { name := "execPlays", fn := fun _ => fun
  | [d1, d2] => { results := [.lit (.bool false)], args := [d1, d2] }
  | _ => none }
def ExecPlaysWrongFalsely : Prop := execPlaysRow.holds Tryz.pinned (OpenSpec.ofChange execPlaysWrong)

/-- 'headgatelaw14.ExecKeeps': WHATEVER THE INPUT: true; the input reads as it did. -/
def execKeepsSpec : ChangeSpec := { name := "execKeeps", fn := fun _ => fun
  | [d1, d2] => { results := [.lit (.bool true)], args := [d1, d2] }
  | _ => none }
def execKeepsRow : OpenClaim := { program := "yteahodjiihjmnaagreatdoor", sum := "f91e3d373bcc781f89fea7883902f763d2e3d8b7b7c98d9a8cedecd71a636f89", func := "headgate/headgatelaw14.ExecKeeps", spec := "execKeeps", inPlace := ["sync/atomic.LoadUint32", "(*internal/sync.Mutex).Lock", "internal/race.Disable", "sync/atomic.CompareAndSwapInt32", "internal/race.Enable", "internal/race.Acquire", "(*internal/sync.Mutex).lockSlow", "internal/sync.runtime_canSpin", "internal/sync.runtime_doSpin", "internal/sync.throw", "internal/sync.runtime_nanotime", "internal/sync.runtime_SemacquireMutex", "sync/atomic.AddInt32", "(*internal/sync.Mutex).Unlock", "internal/race.ReleaseMerge", "(*internal/sync.Mutex).unlockSlow", "internal/sync.fatal", "internal/sync.runtime_Semrelease", "sync/atomic.StoreUint32", "internal/abi.NoEscape", "internal/bytealg.MakeNoZero", "sync/atomic.AddInt64", "sync/atomic.LoadInt64", "sync/atomic.StoreInt64"], unfollowed := true, recurses := true, named := ["headgate/crc.steps", "headgate/access.lets"], plainKeys := false, apart := false, laid := [("headgate/access.lets", laid_headgate_access_lets), ("headgate/crc.steps", laid_headgate_crc_steps)] }
def ExecKeepsSaid : Prop := execKeepsRow.holds Tryz.pinned (OpenSpec.ofChange execKeepsSpec)

/-- ITS FALSE NEIGHBOUR: 'it returns false'. Refute it at one input. -/
def execKeepsWrong : ChangeSpec := { name := "execKeeps", fn := fun _ => fun
  | [d1, d2] => { results := [.lit (.bool false)], args := [d1, d2] }
  | _ => none }
def ExecKeepsWrongFalsely : Prop := execKeepsRow.holds Tryz.pinned (OpenSpec.ofChange execKeepsWrong)

/-- 'headgatelaw14.ExecDown': WHATEVER THE INPUT: true; the input reads as it did. -/
def execDownSpec : ChangeSpec := { name := "execDown", fn := fun _ => fun
  | [d1, d2, d3] => { results := [.lit (.bool true)], args := [d1, d2, d3] }
  | _ => none }
def execDownRow : OpenClaim := { program := "yteahodjiihjmnaagreatdoor", sum := "f91e3d373bcc781f89fea7883902f763d2e3d8b7b7c98d9a8cedecd71a636f89", func := "headgate/headgatelaw14.ExecDown", spec := "execDown", inPlace := ["sync/atomic.LoadUint32", "(*internal/sync.Mutex).Lock", "internal/race.Disable", "sync/atomic.CompareAndSwapInt32", "internal/race.Enable", "internal/race.Acquire", "(*internal/sync.Mutex).lockSlow", "internal/sync.runtime_canSpin", "internal/sync.runtime_doSpin", "internal/sync.throw", "internal/sync.runtime_nanotime", "internal/sync.runtime_SemacquireMutex", "sync/atomic.AddInt32", "(*internal/sync.Mutex).Unlock", "internal/race.ReleaseMerge", "(*internal/sync.Mutex).unlockSlow", "internal/sync.fatal", "internal/sync.runtime_Semrelease", "sync/atomic.StoreUint32", "internal/abi.NoEscape", "internal/bytealg.MakeNoZero", "sync/atomic.AddInt64", "sync/atomic.LoadInt64", "sync/atomic.StoreInt64", "internal/bytealg.IndexByteString", "internal/bytealg.IndexString"], unfollowed := true, recurses := true, named := ["headgate/crc.steps", "headgate/access.lets", "unicode/utf8.first", "unicode/utf8.acceptRanges", "internal/bytealg.MaxLen"], plainKeys := false, apart := false, laid := [("headgate/access.lets", laid_headgate_access_lets), ("headgate/crc.steps", laid_headgate_crc_steps), ("unicode/utf8.acceptRanges", laid_unicode_utf8_acceptRanges), ("unicode/utf8.first", laid_unicode_utf8_first)] }
def ExecDownSaid : Prop := execDownRow.holds Tryz.pinned (OpenSpec.ofChange execDownSpec)

/-- ITS FALSE NEIGHBOUR: 'it returns false'. Refute it at one input. -/
def execDownWrong : ChangeSpec := { name := "execDown", fn := fun _ => fun
  | [d1, d2, d3] => { results := [.lit (.bool false)], args := [d1, d2, d3] }
  | _ => none }
def ExecDownWrongFalsely : Prop := execDownRow.holds Tryz.pinned (OpenSpec.ofChange execDownWrong)

/- THE SECOND FORM. 'bulk': how many values and letters a reading holds, each counted each time it is reached (what is shared counts as often as it is met; a slice's spare places count too). A statement '..UptoSaid' is the law's where the arguments, and the package variables that the reading takes, are together of bulk at most 1048576: NARROWER than '..Said'. Prove '..Said' where nothing that the law and all that it calls make is longer than what came in: it says more and counts as full. Else prove '..UptoSaid'. A law counts once. -/
mutual
def uptoBulk {H : Type} : DataW H → Nat
  | .lit (.string bytes) => bytes.length + 1
  | .lit _ => 1
  | .nil => 1
  | .ptr d => uptoBulk d + 1
  | .slice elems spare => uptoBulkAll elems + uptoBulkAll spare + 1
  | .agg parts => uptoBulkAll parts + 1
  | .iface _ d => uptoBulk d + 1
  | .map entries => uptoBulkEntries entries + 1
  | .held _ => 1
def uptoBulkAll {H : Type} : List (DataW H) → Nat
  | [] => 0
  | d :: r => uptoBulk d + uptoBulkAll r
def uptoBulkEntries {H : Type} : List (Lit × DataW H) → Nat
  | [] => 0
  | x :: r => uptoBulkEntry x + uptoBulkEntries r
def uptoBulkEntry {H : Type} : Lit × DataW H → Nat
  | (.string bytes, d) => bytes.length + uptoBulk d + 1
  | (_, d) => uptoBulk d + 1
 end
def uptoSmall : (H : Type) → List (DataW H) → Bool := fun _ ds => decide (uptoBulkAll ds ≤ 1048576)
def OpenSpec.upto (s : _root_.Go.ChangeSpec) : _root_.Go.OpenSpec := { _root_.Go.OpenSpec.ofChange s with cond := some uptoSmall }

/-- 'headgatelaw14.ExecPower', WHERE WHAT IT READS IS OF BULK AT MOST 1048576: true; the input reads as it did. -/
def execPowerUptoRow : OpenClaim := { program := "yteahodjiihjmnaagreatdoor", sum := "f91e3d373bcc781f89fea7883902f763d2e3d8b7b7c98d9a8cedecd71a636f89", func := "headgate/headgatelaw14.ExecPower", spec := "execPower", inPlace := ["sync/atomic.LoadUint32", "(*internal/sync.Mutex).Lock", "internal/race.Disable", "sync/atomic.CompareAndSwapInt32", "internal/race.Enable", "internal/race.Acquire", "(*internal/sync.Mutex).lockSlow", "internal/sync.runtime_canSpin", "internal/sync.runtime_doSpin", "internal/sync.throw", "internal/sync.runtime_nanotime", "internal/sync.runtime_SemacquireMutex", "sync/atomic.AddInt32", "(*internal/sync.Mutex).Unlock", "internal/race.ReleaseMerge", "(*internal/sync.Mutex).unlockSlow", "internal/sync.fatal", "internal/sync.runtime_Semrelease", "sync/atomic.StoreUint32", "internal/abi.NoEscape", "internal/bytealg.MakeNoZero", "sync/atomic.AddInt64", "sync/atomic.LoadInt64", "sync/atomic.StoreInt64", "internal/bytealg.IndexByteString", "internal/bytealg.IndexString"], unfollowed := true, recurses := true, named := ["headgate/crc.steps", "headgate/access.lets", "unicode/utf8.first", "unicode/utf8.acceptRanges", "internal/bytealg.MaxLen"], plainKeys := false, apart := false, laid := [("headgate/access.lets", laid_headgate_access_lets), ("headgate/crc.steps", laid_headgate_crc_steps), ("unicode/utf8.acceptRanges", laid_unicode_utf8_acceptRanges), ("unicode/utf8.first", laid_unicode_utf8_first)], narrowed := true }
def ExecPowerUptoSaid : Prop := execPowerUptoRow.holds Tryz.pinned (OpenSpec.upto execPowerSpec)

/-- 'headgatelaw14.ExecCompare', WHERE WHAT IT READS IS OF BULK AT MOST 1048576: true; the input reads as it did. -/
def execCompareUptoRow : OpenClaim := { program := "yteahodjiihjmnaagreatdoor", sum := "f91e3d373bcc781f89fea7883902f763d2e3d8b7b7c98d9a8cedecd71a636f89", func := "headgate/headgatelaw14.ExecCompare", spec := "execCompare", inPlace := ["sync/atomic.LoadUint32", "(*internal/sync.Mutex).Lock", "internal/race.Disable", "sync/atomic.CompareAndSwapInt32", "internal/race.Enable", "internal/race.Acquire", "(*internal/sync.Mutex).lockSlow", "internal/sync.runtime_canSpin", "internal/sync.runtime_doSpin", "internal/sync.throw", "internal/sync.runtime_nanotime", "internal/sync.runtime_SemacquireMutex", "sync/atomic.AddInt32", "(*internal/sync.Mutex).Unlock", "internal/race.ReleaseMerge", "(*internal/sync.Mutex).unlockSlow", "internal/sync.fatal", "internal/sync.runtime_Semrelease", "sync/atomic.StoreUint32", "internal/abi.NoEscape", "internal/bytealg.MakeNoZero", "sync/atomic.AddInt64", "sync/atomic.LoadInt64", "sync/atomic.StoreInt64"], unfollowed := true, recurses := true, named := ["headgate/crc.steps", "headgate/access.lets"], plainKeys := false, apart := false, laid := [("headgate/access.lets", laid_headgate_access_lets), ("headgate/crc.steps", laid_headgate_crc_steps)], narrowed := true }
def ExecCompareUptoSaid : Prop := execCompareUptoRow.holds Tryz.pinned (OpenSpec.upto execCompareSpec)

/-- 'headgatelaw14.ExecZeros', WHERE WHAT IT READS IS OF BULK AT MOST 1048576: true; the input reads as it did. -/
def execZerosUptoRow : OpenClaim := { program := "yteahodjiihjmnaagreatdoor", sum := "f91e3d373bcc781f89fea7883902f763d2e3d8b7b7c98d9a8cedecd71a636f89", func := "headgate/headgatelaw14.ExecZeros", spec := "execZeros", inPlace := ["sync/atomic.LoadUint32", "(*internal/sync.Mutex).Lock", "internal/race.Disable", "sync/atomic.CompareAndSwapInt32", "internal/race.Enable", "internal/race.Acquire", "(*internal/sync.Mutex).lockSlow", "internal/sync.runtime_canSpin", "internal/sync.runtime_doSpin", "internal/sync.throw", "internal/sync.runtime_nanotime", "internal/sync.runtime_SemacquireMutex", "sync/atomic.AddInt32", "(*internal/sync.Mutex).Unlock", "internal/race.ReleaseMerge", "(*internal/sync.Mutex).unlockSlow", "internal/sync.fatal", "internal/sync.runtime_Semrelease", "sync/atomic.StoreUint32", "internal/abi.NoEscape", "internal/bytealg.MakeNoZero", "sync/atomic.AddInt64", "sync/atomic.LoadInt64", "sync/atomic.StoreInt64"], unfollowed := true, recurses := true, named := ["headgate/crc.steps", "headgate/access.lets"], plainKeys := false, apart := false, laid := [("headgate/access.lets", laid_headgate_access_lets), ("headgate/crc.steps", laid_headgate_crc_steps)], narrowed := true }
def ExecZerosUptoSaid : Prop := execZerosUptoRow.holds Tryz.pinned (OpenSpec.upto execZerosSpec)

/-- 'headgatelaw14.ExecFences', WHERE WHAT IT READS IS OF BULK AT MOST 1048576: true; the input reads as it did. -/
def execFencesUptoRow : OpenClaim := { program := "yteahodjiihjmnaagreatdoor", sum := "f91e3d373bcc781f89fea7883902f763d2e3d8b7b7c98d9a8cedecd71a636f89", func := "headgate/headgatelaw14.ExecFences", spec := "execFences", inPlace := ["sync/atomic.LoadUint32", "(*internal/sync.Mutex).Lock", "internal/race.Disable", "sync/atomic.CompareAndSwapInt32", "internal/race.Enable", "internal/race.Acquire", "(*internal/sync.Mutex).lockSlow", "internal/sync.runtime_canSpin", "internal/sync.runtime_doSpin", "internal/sync.throw", "internal/sync.runtime_nanotime", "internal/sync.runtime_SemacquireMutex", "sync/atomic.AddInt32", "(*internal/sync.Mutex).Unlock", "internal/race.ReleaseMerge", "(*internal/sync.Mutex).unlockSlow", "internal/sync.fatal", "internal/sync.runtime_Semrelease", "sync/atomic.StoreUint32", "internal/abi.NoEscape", "internal/bytealg.MakeNoZero", "sync/atomic.AddInt64", "sync/atomic.LoadInt64", "sync/atomic.StoreInt64"], unfollowed := true, recurses := true, named := ["headgate/crc.steps", "headgate/access.lets"], plainKeys := false, apart := false, laid := [("headgate/access.lets", laid_headgate_access_lets), ("headgate/crc.steps", laid_headgate_crc_steps)], narrowed := true }
def ExecFencesUptoSaid : Prop := execFencesUptoRow.holds Tryz.pinned (OpenSpec.upto execFencesSpec)

/-- 'headgatelaw14.ExecNone', WHERE WHAT IT READS IS OF BULK AT MOST 1048576: true; the input reads as it did. -/
def execNoneUptoRow : OpenClaim := { program := "yteahodjiihjmnaagreatdoor", sum := "f91e3d373bcc781f89fea7883902f763d2e3d8b7b7c98d9a8cedecd71a636f89", func := "headgate/headgatelaw14.ExecNone", spec := "execNone", inPlace := ["internal/abi.NoEscape", "internal/bytealg.MakeNoZero", "sync/atomic.LoadUint32", "(*internal/sync.Mutex).Lock", "internal/race.Disable", "sync/atomic.CompareAndSwapInt32", "internal/race.Enable", "internal/race.Acquire", "(*internal/sync.Mutex).lockSlow", "internal/sync.runtime_canSpin", "internal/sync.runtime_doSpin", "internal/sync.throw", "internal/sync.runtime_nanotime", "internal/sync.runtime_SemacquireMutex", "sync/atomic.AddInt32", "(*internal/sync.Mutex).Unlock", "internal/race.ReleaseMerge", "(*internal/sync.Mutex).unlockSlow", "internal/sync.fatal", "internal/sync.runtime_Semrelease", "sync/atomic.StoreUint32", "sync/atomic.AddInt64", "sync/atomic.LoadInt64", "sync/atomic.StoreInt64"], unfollowed := true, recurses := true, named := ["headgate/crc.steps", "headgate/access.lets"], plainKeys := false, apart := false, laid := [("headgate/access.lets", laid_headgate_access_lets), ("headgate/crc.steps", laid_headgate_crc_steps)], narrowed := true }
def ExecNoneUptoSaid : Prop := execNoneUptoRow.holds Tryz.pinned (OpenSpec.upto execNoneSpec)

/-- 'headgatelaw14.ExecPlays', WHERE WHAT IT READS IS OF BULK AT MOST 1048576: true; the input reads as it did. -/
def execPlaysUptoRow : OpenClaim := { program := "yteahodjiihjmnaagreatdoor", sum := "f91e3d373bcc781f89fea7883902f763d2e3d8b7b7c98d9a8cedecd71a636f89", func := "headgate/headgatelaw14.ExecPlays", spec := "execPlays", inPlace := ["sync/atomic.LoadUint32", "(*internal/sync.Mutex).Lock", "internal/race.Disable", "sync/atomic.CompareAndSwapInt32", "internal/race.Enable", "internal/race.Acquire", "(*internal/sync.Mutex).lockSlow", "internal/sync.runtime_canSpin", "internal/sync.runtime_doSpin", "internal/sync.throw", "internal/sync.runtime_nanotime", "internal/sync.runtime_SemacquireMutex", "sync/atomic.AddInt32", "(*internal/sync.Mutex).Unlock", "internal/race.ReleaseMerge", "(*internal/sync.Mutex).unlockSlow", "internal/sync.fatal", "internal/sync.runtime_Semrelease", "sync/atomic.StoreUint32", "internal/abi.NoEscape", "internal/bytealg.MakeNoZero", "sync/atomic.AddInt64", "sync/atomic.LoadInt64", "sync/atomic.StoreInt64"], unfollowed := true, recurses := true, named := ["headgate/crc.steps", "headgate/access.lets"], plainKeys := false, apart := false, laid := [("headgate/access.lets", laid_headgate_access_lets), ("headgate/crc.steps", laid_headgate_crc_steps)], narrowed := true }
def ExecPlaysUptoSaid : Prop := execPlaysUptoRow.holds Tryz.pinned (OpenSpec.upto execPlaysSpec)

/-- 'headgatelaw14.ExecKeeps', WHERE WHAT IT READS IS OF BULK AT MOST 1048576: true; the input reads as it did. -/
def execKeepsUptoRow : OpenClaim := { program := "yteahodjiihjmnaagreatdoor", sum := "f91e3d373bcc781f89fea7883902f763d2e3d8b7b7c98d9a8cedecd71a636f89", func := "headgate/headgatelaw14.ExecKeeps", spec := "execKeeps", inPlace := ["sync/atomic.LoadUint32", "(*internal/sync.Mutex).Lock", "internal/race.Disable", "sync/atomic.CompareAndSwapInt32", "internal/race.Enable", "internal/race.Acquire", "(*internal/sync.Mutex).lockSlow", "internal/sync.runtime_canSpin", "internal/sync.runtime_doSpin", "internal/sync.throw", "internal/sync.runtime_nanotime", "internal/sync.runtime_SemacquireMutex", "sync/atomic.AddInt32", "(*internal/sync.Mutex).Unlock", "internal/race.ReleaseMerge", "(*internal/sync.Mutex).unlockSlow", "internal/sync.fatal", "internal/sync.runtime_Semrelease", "sync/atomic.StoreUint32", "internal/abi.NoEscape", "internal/bytealg.MakeNoZero", "sync/atomic.AddInt64", "sync/atomic.LoadInt64", "sync/atomic.StoreInt64"], unfollowed := true, recurses := true, named := ["headgate/crc.steps", "headgate/access.lets"], plainKeys := false, apart := false, laid := [("headgate/access.lets", laid_headgate_access_lets), ("headgate/crc.steps", laid_headgate_crc_steps)], narrowed := true }
def ExecKeepsUptoSaid : Prop := execKeepsUptoRow.holds Tryz.pinned (OpenSpec.upto execKeepsSpec)

/-- 'headgatelaw14.ExecDown', WHERE WHAT IT READS IS OF BULK AT MOST 1048576: true; the input reads as it did. -/
def execDownUptoRow : OpenClaim := { program := "yteahodjiihjmnaagreatdoor", sum := "f91e3d373bcc781f89fea7883902f763d2e3d8b7b7c98d9a8cedecd71a636f89", func := "headgate/headgatelaw14.ExecDown", spec := "execDown", inPlace := ["sync/atomic.LoadUint32", "(*internal/sync.Mutex).Lock", "internal/race.Disable", "sync/atomic.CompareAndSwapInt32", "internal/race.Enable", "internal/race.Acquire", "(*internal/sync.Mutex).lockSlow", "internal/sync.runtime_canSpin", "internal/sync.runtime_doSpin", "internal/sync.throw", "internal/sync.runtime_nanotime", "internal/sync.runtime_SemacquireMutex", "sync/atomic.AddInt32", "(*internal/sync.Mutex).Unlock", "internal/race.ReleaseMerge", "(*internal/sync.Mutex).unlockSlow", "internal/sync.fatal", "internal/sync.runtime_Semrelease", "sync/atomic.StoreUint32", "internal/abi.NoEscape", "internal/bytealg.MakeNoZero", "sync/atomic.AddInt64", "sync/atomic.LoadInt64", "sync/atomic.StoreInt64", "internal/bytealg.IndexByteString", "internal/bytealg.IndexString"], unfollowed := true, recurses := true, named := ["headgate/crc.steps", "headgate/access.lets", "unicode/utf8.first", "unicode/utf8.acceptRanges", "internal/bytealg.MaxLen"], plainKeys := false, apart := false, laid := [("headgate/access.lets", laid_headgate_access_lets), ("headgate/crc.steps", laid_headgate_crc_steps), ("unicode/utf8.acceptRanges", laid_unicode_utf8_acceptRanges), ("unicode/utf8.first", laid_unicode_utf8_first)], narrowed := true }
def ExecDownUptoSaid : Prop := execDownUptoRow.holds Tryz.pinned (OpenSpec.upto execDownSpec)

end Rows
end Go.Proofs.YteahodjiihjmnaaGreatDoor
