/-
  NARROWER THAN 'FOR EVERY INPUT', by the rows' own cells (each row's printed sentence says how): ScsiTold: laid · ScsiNeeds: laid · ScsiNone: laid · ScsiCut: laid · ScsiSays: laid · ScsiDoes: laid.
  DERIVED. THE GIVEN ROWS OF THIS SEAT. 6 by the template 'for every input the law returns true; each argument reads behind the call as it read before'; 0 by the template 'total and deterministic' (their statements: YteilejfncdacfaaGreatDoorTotals.lean).
  GIVEN WITH THE SEED: the statements are not yours to turn. If you find one false, say at which input.
  Laid BY PROGRAM, IN A SANDBOX (cutbox-rows.mjs): the forced cells as the released guide's own fill.sh prints them over the translation 95935cf14b832e8f… (all of the seat's roots in one cut). By AI agents, Wed Nov 11 2026. No macro, syntax, notation, axiom, sorry.
-/
import Derived.Test.YteilejfncdacfaaGreatDoorChecked
import GoSem.Claim
import GoSem.ClaimJoined
import GoSem.ClaimMapViews
import Derived.JoinedTies
import Derived.KernelRfl
namespace Go.Proofs.YteilejfncdacfaaGreatDoor
/- THE CELL 'sum', in the pinned program and in every row, IS THE sha256 OF THE DUMP (.gsa) THAT YteilejfncdacfaaGreatDoorProg.lean LOADS. Nothing in Lean hashes anything: it is a label: what it is worth is what the hold of that sum in a sandbox is worth. -/
noncomputable def Tryz.pinned : Pinned := { name := "yteilejfncdacfaagreatdoor", sum := "95935cf14b832e8f01bef0626eee806a4125ba1b286e7d2e0f168923f03de659", checked := Tryz.checked }
namespace Rows
def none {H : Type} : Left H := { results := [], args := [] }

/- WHAT THE LISTED PACKAGE-LEVEL VARIABLES READ AS WHEN THE CALL BEGINS. Each datum BY PROGRAM (the guide's laid-datum.mjs) off the statement by which the dump's own 'gosem.cut.vars' lays the variable. In a bare row this is a premise. The card (YteilejfncdacfaaGreatDoorCards.lean) ties it to the program's text. -/
def laid_headgate_access_lets {H : Type} : DataW H := .agg [.lit (.int .i64 0), .lit (.int .i64 1), .lit (.int .i64 0), .lit (.int .i64 5), .lit (.int .i64 6), .lit (.int .i64 13), .lit (.int .i64 14)]
def laid_headgate_cdb_forms {H : Type} : DataW H := .agg [.agg [.lit (.int .i64 0), .lit (.int .i64 6), .agg [.lit (.int .i64 0), .lit (.int .i64 0)], .agg [.lit (.int .i64 0), .lit (.int .i64 0)], .agg [.lit (.int .i64 0), .lit (.int .i64 0)]], .agg [.lit (.int .i64 18), .lit (.int .i64 6), .agg [.lit (.int .i64 0), .lit (.int .i64 0)], .agg [.lit (.int .i64 0), .lit (.int .i64 0)], .agg [.lit (.int .i64 3), .lit (.int .i64 2)]], .agg [.lit (.int .i64 37), .lit (.int .i64 10), .agg [.lit (.int .i64 0), .lit (.int .i64 0)], .agg [.lit (.int .i64 0), .lit (.int .i64 0)], .agg [.lit (.int .i64 0), .lit (.int .i64 0)]], .agg [.lit (.int .i64 40), .lit (.int .i64 10), .agg [.lit (.int .i64 2), .lit (.int .i64 4)], .agg [.lit (.int .i64 7), .lit (.int .i64 2)], .agg [.lit (.int .i64 0), .lit (.int .i64 0)]], .agg [.lit (.int .i64 136), .lit (.int .i64 16), .agg [.lit (.int .i64 2), .lit (.int .i64 8)], .agg [.lit (.int .i64 10), .lit (.int .i64 4)], .agg [.lit (.int .i64 0), .lit (.int .i64 0)]], .agg [.lit (.int .i64 42), .lit (.int .i64 10), .agg [.lit (.int .i64 2), .lit (.int .i64 4)], .agg [.lit (.int .i64 7), .lit (.int .i64 2)], .agg [.lit (.int .i64 0), .lit (.int .i64 0)]], .agg [.lit (.int .i64 138), .lit (.int .i64 16), .agg [.lit (.int .i64 2), .lit (.int .i64 8)], .agg [.lit (.int .i64 10), .lit (.int .i64 4)], .agg [.lit (.int .i64 0), .lit (.int .i64 0)]], .agg [.lit (.int .i64 53), .lit (.int .i64 10), .agg [.lit (.int .i64 0), .lit (.int .i64 0)], .agg [.lit (.int .i64 0), .lit (.int .i64 0)], .agg [.lit (.int .i64 0), .lit (.int .i64 0)]], .agg [.lit (.int .i64 66), .lit (.int .i64 10), .agg [.lit (.int .i64 0), .lit (.int .i64 0)], .agg [.lit (.int .i64 0), .lit (.int .i64 0)], .agg [.lit (.int .i64 7), .lit (.int .i64 2)]], .agg [.lit (.int .i64 137), .lit (.int .i64 16), .agg [.lit (.int .i64 2), .lit (.int .i64 8)], .agg [.lit (.int .i64 13), .lit (.int .i64 1)], .agg [.lit (.int .i64 0), .lit (.int .i64 0)]], .agg [.lit (.int .i64 147), .lit (.int .i64 16), .agg [.lit (.int .i64 2), .lit (.int .i64 8)], .agg [.lit (.int .i64 10), .lit (.int .i64 4)], .agg [.lit (.int .i64 0), .lit (.int .i64 0)]], .agg [.lit (.int .i64 94), .lit (.int .i64 10), .agg [.lit (.int .i64 0), .lit (.int .i64 0)], .agg [.lit (.int .i64 0), .lit (.int .i64 0)], .agg [.lit (.int .i64 7), .lit (.int .i64 2)]], .agg [.lit (.int .i64 95), .lit (.int .i64 10), .agg [.lit (.int .i64 0), .lit (.int .i64 0)], .agg [.lit (.int .i64 0), .lit (.int .i64 0)], .agg [.lit (.int .i64 5), .lit (.int .i64 4)]], .agg [.lit (.int .i64 160), .lit (.int .i64 12), .agg [.lit (.int .i64 0), .lit (.int .i64 0)], .agg [.lit (.int .i64 0), .lit (.int .i64 0)], .agg [.lit (.int .i64 6), .lit (.int .i64 4)]]]
def laid_headgate_cdb_numbers {H : Type} : DataW H := .agg [.lit (.int .i64 0), .lit (.int .i64 1), .lit (.int .i64 3), .lit (.int .i64 5), .lit (.int .i64 6), .lit (.int .i64 7), .lit (.int .i64 8)]
def laid_headgate_crc_steps {H : Type} : DataW H := .agg [.lit (.int .u32 0), .lit (.int .u32 274646895), .lit (.int .u32 549293790), .lit (.int .u32 820201905), .lit (.int .u32 1098587580), .lit (.int .u32 1361435347), .lit (.int .u32 1640403810), .lit (.int .u32 1905808397), .lit (.int .u32 2197175160), .lit (.int .u32 2460548119), .lit (.int .u32 2722870694), .lit (.int .u32 2987750089), .lit (.int .u32 3280807620), .lit (.int .u32 3553878443), .lit (.int .u32 3811616794), .lit (.int .u32 4084100981)]
def laid_headgate_sense_rows {H : Type} : DataW H := .agg [.agg [.lit (.int .i64 1), .lit (.int .i64 0), .lit (.int .i64 0), .lit (.int .i64 0), .lit (.int .i64 0), .lit (.int .i64 0)], .agg [.lit (.int .i64 2), .lit (.int .i64 0), .lit (.int .i64 24), .lit (.int .i64 0), .lit (.int .i64 0), .lit (.int .i64 0)], .agg [.lit (.int .i64 3), .lit (.int .i64 0), .lit (.int .i64 2), .lit (.int .i64 14), .lit (.int .i64 29), .lit (.int .i64 0)], .agg [.lit (.int .i64 4), .lit (.int .i64 0), .lit (.int .i64 2), .lit (.int .i64 5), .lit (.int .i64 33), .lit (.int .i64 0)], .agg [.lit (.int .i64 5), .lit (.int .i64 0), .lit (.int .i64 2), .lit (.int .i64 5), .lit (.int .i64 36), .lit (.int .i64 0)], .agg [.lit (.int .i64 6), .lit (.int .i64 0), .lit (.int .i64 2), .lit (.int .i64 5), .lit (.int .i64 37), .lit (.int .i64 0)], .agg [.lit (.int .i64 8), .lit (.int .i64 0), .lit (.int .i64 2), .lit (.int .i64 3), .lit (.int .i64 12), .lit (.int .i64 0)], .agg [.lit (.int .i64 7), .lit (.int .i64 1), .lit (.int .i64 2), .lit (.int .i64 6), .lit (.int .i64 41), .lit (.int .i64 0)], .agg [.lit (.int .i64 7), .lit (.int .i64 2), .lit (.int .i64 2), .lit (.int .i64 6), .lit (.int .i64 42), .lit (.int .i64 5)], .agg [.lit (.int .i64 7), .lit (.int .i64 3), .lit (.int .i64 2), .lit (.int .i64 6), .lit (.int .i64 42), .lit (.int .i64 4)], .agg [.lit (.int .i64 7), .lit (.int .i64 4), .lit (.int .i64 2), .lit (.int .i64 6), .lit (.int .i64 42), .lit (.int .i64 3)]]

/-- 'headgatelaw19.ScsiTold': WHATEVER THE INPUT: true; the input reads as it did. -/
def scsiToldSpec : ChangeSpec := { name := "scsiTold", fn := fun _ => fun
  | [d1, d2] => { results := [.lit (.bool true)], args := [d1, d2] }
  | _ => none }
def scsiToldRow : OpenClaim := { program := "yteilejfncdacfaagreatdoor", sum := "95935cf14b832e8f01bef0626eee806a4125ba1b286e7d2e0f168923f03de659", func := "headgate/headgatelaw19.ScsiTold", spec := "scsiTold", inPlace := ["sync/atomic.LoadUint32", "(*internal/sync.Mutex).Lock", "internal/race.Disable", "sync/atomic.CompareAndSwapInt32", "internal/race.Enable", "internal/race.Acquire", "(*internal/sync.Mutex).lockSlow", "internal/sync.runtime_canSpin", "internal/sync.runtime_doSpin", "internal/sync.throw", "internal/sync.runtime_nanotime", "internal/sync.runtime_SemacquireMutex", "sync/atomic.AddInt32", "(*internal/sync.Mutex).Unlock", "internal/race.ReleaseMerge", "(*internal/sync.Mutex).unlockSlow", "internal/sync.fatal", "internal/sync.runtime_Semrelease", "sync/atomic.StoreUint32", "internal/abi.NoEscape", "internal/bytealg.MakeNoZero", "sync/atomic.AddInt64", "sync/atomic.LoadInt64", "sync/atomic.StoreInt64"], unfollowed := true, recurses := true, named := ["headgate/crc.steps", "headgate/cdb.forms", "headgate/cdb.numbers", "headgate/sense.rows", "headgate/access.lets"], plainKeys := false, apart := false, laid := [("headgate/access.lets", laid_headgate_access_lets), ("headgate/cdb.forms", laid_headgate_cdb_forms), ("headgate/cdb.numbers", laid_headgate_cdb_numbers), ("headgate/crc.steps", laid_headgate_crc_steps), ("headgate/sense.rows", laid_headgate_sense_rows)] }
def ScsiToldSaid : Prop := scsiToldRow.holds Tryz.pinned (OpenSpec.ofChange scsiToldSpec)

/-- ITS FALSE NEIGHBOUR: 'it returns false'. Refute it at one input. -/
def scsiToldWrong : ChangeSpec := { name := "scsiTold", fn := fun _ => fun
  | [d1, d2] => { results := [.lit (.bool false)], args := [d1, d2] }
  | _ => none }
def ScsiToldWrongFalsely : Prop := scsiToldRow.holds Tryz.pinned (OpenSpec.ofChange scsiToldWrong)

/-- 'headgatelaw19.ScsiNeeds': WHATEVER THE INPUT: true; the input reads as it did. -/
def scsiNeedsSpec : ChangeSpec := { name := "scsiNeeds", fn := fun _ => fun
  | [d] => { results := [.lit (.bool true)], args := [d] }
  | _ => none }
def scsiNeedsRow : OpenClaim := { program := "yteilejfncdacfaagreatdoor", sum := "95935cf14b832e8f01bef0626eee806a4125ba1b286e7d2e0f168923f03de659", func := "headgate/headgatelaw19.ScsiNeeds", spec := "scsiNeeds", inPlace := ["sync/atomic.LoadUint32", "(*internal/sync.Mutex).Lock", "internal/race.Disable", "sync/atomic.CompareAndSwapInt32", "internal/race.Enable", "internal/race.Acquire", "(*internal/sync.Mutex).lockSlow", "internal/sync.runtime_canSpin", "internal/sync.runtime_doSpin", "internal/sync.throw", "internal/sync.runtime_nanotime", "internal/sync.runtime_SemacquireMutex", "sync/atomic.AddInt32", "(*internal/sync.Mutex).Unlock", "internal/race.ReleaseMerge", "(*internal/sync.Mutex).unlockSlow", "internal/sync.fatal", "internal/sync.runtime_Semrelease", "sync/atomic.StoreUint32", "internal/abi.NoEscape", "internal/bytealg.MakeNoZero", "sync/atomic.AddInt64", "sync/atomic.LoadInt64", "sync/atomic.StoreInt64"], unfollowed := true, recurses := true, named := ["headgate/crc.steps", "headgate/cdb.forms", "headgate/cdb.numbers", "headgate/sense.rows", "headgate/access.lets"], plainKeys := false, apart := false, laid := [("headgate/access.lets", laid_headgate_access_lets), ("headgate/cdb.forms", laid_headgate_cdb_forms), ("headgate/cdb.numbers", laid_headgate_cdb_numbers), ("headgate/crc.steps", laid_headgate_crc_steps), ("headgate/sense.rows", laid_headgate_sense_rows)] }
def ScsiNeedsSaid : Prop := scsiNeedsRow.holds Tryz.pinned (OpenSpec.ofChange scsiNeedsSpec)

/-- ITS FALSE NEIGHBOUR: 'it returns false'. Refute it at one input. -/
def scsiNeedsWrong : ChangeSpec := { name := "scsiNeeds", fn := fun _ => fun
  | [d] => { results := [.lit (.bool false)], args := [d] }
  | _ => none }
def ScsiNeedsWrongFalsely : Prop := scsiNeedsRow.holds Tryz.pinned (OpenSpec.ofChange scsiNeedsWrong)

/-- 'headgatelaw19.ScsiNone': WHATEVER THE INPUT: true; the input reads as it did. -/
def scsiNoneSpec : ChangeSpec := { name := "scsiNone", fn := fun _ => fun
  | [d] => { results := [.lit (.bool true)], args := [d] }
  | _ => none }
def scsiNoneRow : OpenClaim := { program := "yteilejfncdacfaagreatdoor", sum := "95935cf14b832e8f01bef0626eee806a4125ba1b286e7d2e0f168923f03de659", func := "headgate/headgatelaw19.ScsiNone", spec := "scsiNone", inPlace := ["sync/atomic.LoadUint32", "(*internal/sync.Mutex).Lock", "internal/race.Disable", "sync/atomic.CompareAndSwapInt32", "internal/race.Enable", "internal/race.Acquire", "(*internal/sync.Mutex).lockSlow", "internal/sync.runtime_canSpin", "internal/sync.runtime_doSpin", "internal/sync.throw", "internal/sync.runtime_nanotime", "internal/sync.runtime_SemacquireMutex", "sync/atomic.AddInt32", "(*internal/sync.Mutex).Unlock", "internal/race.ReleaseMerge", "(*internal/sync.Mutex).unlockSlow", "internal/sync.fatal", "internal/sync.runtime_Semrelease", "sync/atomic.StoreUint32", "internal/abi.NoEscape", "internal/bytealg.MakeNoZero", "sync/atomic.AddInt64", "sync/atomic.LoadInt64", "sync/atomic.StoreInt64"], unfollowed := true, recurses := true, named := ["headgate/crc.steps", "headgate/cdb.forms", "headgate/cdb.numbers", "headgate/sense.rows", "headgate/access.lets"], plainKeys := false, apart := false, laid := [("headgate/access.lets", laid_headgate_access_lets), ("headgate/cdb.forms", laid_headgate_cdb_forms), ("headgate/cdb.numbers", laid_headgate_cdb_numbers), ("headgate/crc.steps", laid_headgate_crc_steps), ("headgate/sense.rows", laid_headgate_sense_rows)] }
def ScsiNoneSaid : Prop := scsiNoneRow.holds Tryz.pinned (OpenSpec.ofChange scsiNoneSpec)

/-- ITS FALSE NEIGHBOUR: 'it returns false'. Refute it at one input. -/
def scsiNoneWrong : ChangeSpec := { name := "scsiNone", fn := fun _ => fun
  | [d] => { results := [.lit (.bool false)], args := [d] }
  | _ => none }
def ScsiNoneWrongFalsely : Prop := scsiNoneRow.holds Tryz.pinned (OpenSpec.ofChange scsiNoneWrong)

/-- 'headgatelaw19.ScsiCut': WHATEVER THE INPUT: true; the input reads as it did. -/
def scsiCutSpec : ChangeSpec := { name := "scsiCut", fn := fun _ => fun
  | [d1, d2, d3] => { results := [.lit (.bool true)], args := [d1, d2, d3] }
  | _ => none }
def scsiCutRow : OpenClaim := { program := "yteilejfncdacfaagreatdoor", sum := "95935cf14b832e8f01bef0626eee806a4125ba1b286e7d2e0f168923f03de659", func := "headgate/headgatelaw19.ScsiCut", spec := "scsiCut", inPlace := ["sync/atomic.LoadUint32", "(*internal/sync.Mutex).Lock", "internal/race.Disable", "sync/atomic.CompareAndSwapInt32", "internal/race.Enable", "internal/race.Acquire", "(*internal/sync.Mutex).lockSlow", "internal/sync.runtime_canSpin", "internal/sync.runtime_doSpin", "internal/sync.throw", "internal/sync.runtime_nanotime", "internal/sync.runtime_SemacquireMutex", "sync/atomic.AddInt32", "(*internal/sync.Mutex).Unlock", "internal/race.ReleaseMerge", "(*internal/sync.Mutex).unlockSlow", "internal/sync.fatal", "internal/sync.runtime_Semrelease", "sync/atomic.StoreUint32", "internal/abi.NoEscape", "internal/bytealg.MakeNoZero", "sync/atomic.AddInt64", "sync/atomic.LoadInt64", "sync/atomic.StoreInt64"], unfollowed := true, recurses := true, named := ["headgate/crc.steps", "headgate/cdb.forms", "headgate/cdb.numbers", "headgate/sense.rows", "headgate/access.lets"], plainKeys := false, apart := false, laid := [("headgate/access.lets", laid_headgate_access_lets), ("headgate/cdb.forms", laid_headgate_cdb_forms), ("headgate/cdb.numbers", laid_headgate_cdb_numbers), ("headgate/crc.steps", laid_headgate_crc_steps), ("headgate/sense.rows", laid_headgate_sense_rows)] }
def ScsiCutSaid : Prop := scsiCutRow.holds Tryz.pinned (OpenSpec.ofChange scsiCutSpec)

/-- ITS FALSE NEIGHBOUR: 'it returns false'. Refute it at one input. -/
def scsiCutWrong : ChangeSpec := { name := "scsiCut", fn := fun _ => fun
  | [d1, d2, d3] => { results := [.lit (.bool false)], args := [d1, d2, d3] }
  | _ => none }
def ScsiCutWrongFalsely : Prop := scsiCutRow.holds Tryz.pinned (OpenSpec.ofChange scsiCutWrong)

/-- 'headgatelaw19.ScsiSays': WHATEVER THE INPUT: true; the input reads as it did. -/
def scsiSaysSpec : ChangeSpec := { name := "scsiSays", fn := fun _ => fun
  | [d1, d2] => { results := [.lit (.bool true)], args := [d1, d2] }
  | _ => none }
def scsiSaysRow : OpenClaim := { program := "yteilejfncdacfaagreatdoor", sum := "95935cf14b832e8f01bef0626eee806a4125ba1b286e7d2e0f168923f03de659", func := "headgate/headgatelaw19.ScsiSays", spec := "scsiSays", inPlace := ["sync/atomic.LoadUint32", "(*internal/sync.Mutex).Lock", "internal/race.Disable", "sync/atomic.CompareAndSwapInt32", "internal/race.Enable", "internal/race.Acquire", "(*internal/sync.Mutex).lockSlow", "internal/sync.runtime_canSpin", "internal/sync.runtime_doSpin", "internal/sync.throw", "internal/sync.runtime_nanotime", "internal/sync.runtime_SemacquireMutex", "sync/atomic.AddInt32", "(*internal/sync.Mutex).Unlock", "internal/race.ReleaseMerge", "(*internal/sync.Mutex).unlockSlow", "internal/sync.fatal", "internal/sync.runtime_Semrelease", "sync/atomic.StoreUint32", "internal/abi.NoEscape", "internal/bytealg.MakeNoZero", "sync/atomic.AddInt64", "sync/atomic.LoadInt64", "sync/atomic.StoreInt64"], unfollowed := true, recurses := true, named := ["headgate/crc.steps", "headgate/cdb.forms", "headgate/cdb.numbers", "headgate/sense.rows", "headgate/access.lets"], plainKeys := false, apart := false, laid := [("headgate/access.lets", laid_headgate_access_lets), ("headgate/cdb.forms", laid_headgate_cdb_forms), ("headgate/cdb.numbers", laid_headgate_cdb_numbers), ("headgate/crc.steps", laid_headgate_crc_steps), ("headgate/sense.rows", laid_headgate_sense_rows)] }
def ScsiSaysSaid : Prop := scsiSaysRow.holds Tryz.pinned (OpenSpec.ofChange scsiSaysSpec)

/-- ITS FALSE NEIGHBOUR: 'it returns false'. Refute it at one input. -/
def scsiSaysWrong : ChangeSpec := { name := "scsiSays", fn := fun _ => fun
  | [d1, d2] => { results := [.lit (.bool false)], args := [d1, d2] }
  | _ => none }
def ScsiSaysWrongFalsely : Prop := scsiSaysRow.holds Tryz.pinned (OpenSpec.ofChange scsiSaysWrong)

/-- 'headgatelaw19.ScsiDoes': WHATEVER THE INPUT: true; the input reads as it did. -/
def scsiDoesSpec : ChangeSpec := { name := "scsiDoes", fn := fun _ => fun
  | [d1, d2] => { results := [.lit (.bool true)], args := [d1, d2] }
  | _ => none }
def scsiDoesRow : OpenClaim := { program := "yteilejfncdacfaagreatdoor", sum := "95935cf14b832e8f01bef0626eee806a4125ba1b286e7d2e0f168923f03de659", func := "headgate/headgatelaw19.ScsiDoes", spec := "scsiDoes", inPlace := ["sync/atomic.LoadUint32", "(*internal/sync.Mutex).Lock", "internal/race.Disable", "sync/atomic.CompareAndSwapInt32", "internal/race.Enable", "internal/race.Acquire", "(*internal/sync.Mutex).lockSlow", "internal/sync.runtime_canSpin", "internal/sync.runtime_doSpin", "internal/sync.throw", "internal/sync.runtime_nanotime", "internal/sync.runtime_SemacquireMutex", "sync/atomic.AddInt32", "(*internal/sync.Mutex).Unlock", "internal/race.ReleaseMerge", "(*internal/sync.Mutex).unlockSlow", "internal/sync.fatal", "internal/sync.runtime_Semrelease", "sync/atomic.StoreUint32", "internal/abi.NoEscape", "internal/bytealg.MakeNoZero", "sync/atomic.AddInt64", "sync/atomic.LoadInt64", "sync/atomic.StoreInt64"], unfollowed := true, recurses := true, named := ["headgate/crc.steps", "headgate/cdb.forms", "headgate/cdb.numbers", "headgate/sense.rows", "headgate/access.lets"], plainKeys := false, apart := false, laid := [("headgate/access.lets", laid_headgate_access_lets), ("headgate/cdb.forms", laid_headgate_cdb_forms), ("headgate/cdb.numbers", laid_headgate_cdb_numbers), ("headgate/crc.steps", laid_headgate_crc_steps), ("headgate/sense.rows", laid_headgate_sense_rows)] }
def ScsiDoesSaid : Prop := scsiDoesRow.holds Tryz.pinned (OpenSpec.ofChange scsiDoesSpec)

/-- ITS FALSE NEIGHBOUR: 'it returns false'. Refute it at one input. -/
def scsiDoesWrong : ChangeSpec := { name := "scsiDoes", fn := fun _ => fun
  | [d1, d2] => { results := [.lit (.bool false)], args := [d1, d2] }
  | _ => none }
def ScsiDoesWrongFalsely : Prop := scsiDoesRow.holds Tryz.pinned (OpenSpec.ofChange scsiDoesWrong)

/- THE SECOND FORM. 'bulk': how many values and letters a reading holds, each counted each time it is reached (what is shared counts as often as it is met; a slice's spare places count too). A statement '..UptoSaid' is the law's where the arguments, and the package variables that the reading takes, are together of bulk at most 1048576: NARROWER than '..Said'. Prove '..Said' where nothing that the law and all that it calls make is longer than what came in: it says more and counts as full. Else prove '..UptoSaid'. A law counts once. -/
mutual
def uptoBulk {H : Type} : DataW H → Nat
  | .lit (.string bytes) => bytes.length + 1
  | .lit _ => 1
  | .nil => 1
  | .ptr d => uptoBulk d + 1
  | .slice elems spare => uptoBulkAll elems + uptoBulkAll spare + 1
  | .agg parts => uptoBulkAll parts + 1
  | .iface _ d => uptoBulk d + 1
  | .map entries => uptoBulkEntries entries + 1
  | .held _ => 1
def uptoBulkAll {H : Type} : List (DataW H) → Nat
  | [] => 0
  | d :: r => uptoBulk d + uptoBulkAll r
def uptoBulkEntries {H : Type} : List (Lit × DataW H) → Nat
  | [] => 0
  | x :: r => uptoBulkEntry x + uptoBulkEntries r
def uptoBulkEntry {H : Type} : Lit × DataW H → Nat
  | (.string bytes, d) => bytes.length + uptoBulk d + 1
  | (_, d) => uptoBulk d + 1
 end
def uptoSmall : (H : Type) → List (DataW H) → Bool := fun _ ds => decide (uptoBulkAll ds ≤ 1048576)
def OpenSpec.upto (s : _root_.Go.ChangeSpec) : _root_.Go.OpenSpec := { _root_.Go.OpenSpec.ofChange s with cond := some uptoSmall }

/-- 'headgatelaw19.ScsiTold', WHERE WHAT IT READS IS OF BULK AT MOST 1048576: true; the input reads as it did. -/
def scsiToldUptoRow : OpenClaim := { program := "yteilejfncdacfaagreatdoor", sum := "95935cf14b832e8f01bef0626eee806a4125ba1b286e7d2e0f168923f03de659", func := "headgate/headgatelaw19.ScsiTold", spec := "scsiTold", inPlace := ["sync/atomic.LoadUint32", "(*internal/sync.Mutex).Lock", "internal/race.Disable", "sync/atomic.CompareAndSwapInt32", "internal/race.Enable", "internal/race.Acquire", "(*internal/sync.Mutex).lockSlow", "internal/sync.runtime_canSpin", "internal/sync.runtime_doSpin", "internal/sync.throw", "internal/sync.runtime_nanotime", "internal/sync.runtime_SemacquireMutex", "sync/atomic.AddInt32", "(*internal/sync.Mutex).Unlock", "internal/race.ReleaseMerge", "(*internal/sync.Mutex).unlockSlow", "internal/sync.fatal", "internal/sync.runtime_Semrelease", "sync/atomic.StoreUint32", "internal/abi.NoEscape", "internal/bytealg.MakeNoZero", "sync/atomic.AddInt64", "sync/atomic.LoadInt64", "sync/atomic.StoreInt64"], unfollowed := true, recurses := true, named := ["headgate/crc.steps", "headgate/cdb.forms", "headgate/cdb.numbers", "headgate/sense.rows", "headgate/access.lets"], plainKeys := false, apart := false, laid := [("headgate/access.lets", laid_headgate_access_lets), ("headgate/cdb.forms", laid_headgate_cdb_forms), ("headgate/cdb.numbers", laid_headgate_cdb_numbers), ("headgate/crc.steps", laid_headgate_crc_steps), ("headgate/sense.rows", laid_headgate_sense_rows)], narrowed := true }
def ScsiToldUptoSaid : Prop := scsiToldUptoRow.holds Tryz.pinned (OpenSpec.upto scsiToldSpec)

/-- 'headgatelaw19.ScsiNeeds', WHERE WHAT IT READS IS OF BULK AT MOST 1048576: true; the input reads as it did. -/
def scsiNeedsUptoRow : OpenClaim := { program := "yteilejfncdacfaagreatdoor", sum := "95935cf14b832e8f01bef0626eee806a4125ba1b286e7d2e0f168923f03de659", func := "headgate/headgatelaw19.ScsiNeeds", spec := "scsiNeeds", inPlace := ["sync/atomic.LoadUint32", "(*internal/sync.Mutex).Lock", "internal/race.Disable", "sync/atomic.CompareAndSwapInt32", "internal/race.Enable", "internal/race.Acquire", "(*internal/sync.Mutex).lockSlow", "internal/sync.runtime_canSpin", "internal/sync.runtime_doSpin", "internal/sync.throw", "internal/sync.runtime_nanotime", "internal/sync.runtime_SemacquireMutex", "sync/atomic.AddInt32", "(*internal/sync.Mutex).Unlock", "internal/race.ReleaseMerge", "(*internal/sync.Mutex).unlockSlow", "internal/sync.fatal", "internal/sync.runtime_Semrelease", "sync/atomic.StoreUint32", "internal/abi.NoEscape", "internal/bytealg.MakeNoZero", "sync/atomic.AddInt64", "sync/atomic.LoadInt64", "sync/atomic.StoreInt64"], unfollowed := true, recurses := true, named := ["headgate/crc.steps", "headgate/cdb.forms", "headgate/cdb.numbers", "headgate/sense.rows", "headgate/access.lets"], plainKeys := false, apart := false, laid := [("headgate/access.lets", laid_headgate_access_lets), ("headgate/cdb.forms", laid_headgate_cdb_forms), ("headgate/cdb.numbers", laid_headgate_cdb_numbers), ("headgate/crc.steps", laid_headgate_crc_steps), ("headgate/sense.rows", laid_headgate_sense_rows)], narrowed := true }
def ScsiNeedsUptoSaid : Prop := scsiNeedsUptoRow.holds Tryz.pinned (OpenSpec.upto scsiNeedsSpec)

/-- 'headgatelaw19.ScsiNone', WHERE WHAT IT READS IS OF BULK AT MOST 1048576: true; the input reads as it did. -/
def scsiNoneUptoRow : OpenClaim := { program := "yteilejfncdacfaagreatdoor", sum := "95935cf14b832e8f01bef0626eee806a4125ba1b286e7d2e0f168923f03de659", func := "headgate/headgatelaw19.ScsiNone", spec := "scsiNone", inPlace := ["sync/atomic.LoadUint32", "(*internal/sync.Mutex).Lock", "internal/race.Disable", "sync/atomic.CompareAndSwapInt32", "internal/race.Enable", "internal/race.Acquire", "(*internal/sync.Mutex).lockSlow", "internal/sync.runtime_canSpin", "internal/sync.runtime_doSpin", "internal/sync.throw", "internal/sync.runtime_nanotime", "internal/sync.runtime_SemacquireMutex", "sync/atomic.AddInt32", "(*internal/sync.Mutex).Unlock", "internal/race.ReleaseMerge", "(*internal/sync.Mutex).unlockSlow", "internal/sync.fatal", "internal/sync.runtime_Semrelease", "sync/atomic.StoreUint32", "internal/abi.NoEscape", "internal/bytealg.MakeNoZero", "sync/atomic.AddInt64", "sync/atomic.LoadInt64", "sync/atomic.StoreInt64"], unfollowed := true, recurses := true, named := ["headgate/crc.steps", "headgate/cdb.forms", "headgate/cdb.numbers", "headgate/sense.rows", "headgate/access.lets"], plainKeys := false, apart := false, laid := [("headgate/access.lets", laid_headgate_access_lets), ("headgate/cdb.forms", laid_headgate_cdb_forms), ("headgate/cdb.numbers", laid_headgate_cdb_numbers), ("headgate/crc.steps", laid_headgate_crc_steps), ("headgate/sense.rows", laid_headgate_sense_rows)], narrowed := true }
def ScsiNoneUptoSaid : Prop := scsiNoneUptoRow.holds Tryz.pinned (OpenSpec.upto scsiNoneSpec)

/-- 'headgatelaw19.ScsiCut', WHERE WHAT IT READS IS OF BULK AT MOST 1048576: true; the input reads as it did. -/
def scsiCutUptoRow : OpenClaim := { program := "yteilejfncdacfaagreatdoor", sum := "95935cf14b832e8f01bef0626eee806a4125ba1b286e7d2e0f168923f03de659", func := "headgate/headgatelaw19.ScsiCut", spec := "scsiCut", inPlace := ["sync/atomic.LoadUint32", "(*internal/sync.Mutex).Lock", "internal/race.Disable", "sync/atomic.CompareAndSwapInt32", "internal/race.Enable", "internal/race.Acquire", "(*internal/sync.Mutex).lockSlow", "internal/sync.runtime_canSpin", "internal/sync.runtime_doSpin", "internal/sync.throw", "internal/sync.runtime_nanotime", "internal/sync.runtime_SemacquireMutex", "sync/atomic.AddInt32", "(*internal/sync.Mutex).Unlock", "internal/race.ReleaseMerge", "(*internal/sync.Mutex).unlockSlow", "internal/sync.fatal", "internal/sync.runtime_Semrelease", "sync/atomic.StoreUint32", "internal/abi.NoEscape", "internal/bytealg.MakeNoZero", "sync/atomic.AddInt64", "sync/atomic.LoadInt64", "sync/atomic.StoreInt64"], unfollowed := true, recurses := true, named := ["headgate/crc.steps", "headgate/cdb.forms", "headgate/cdb.numbers", "headgate/sense.rows", "headgate/access.lets"], plainKeys := false, apart := false, laid := [("headgate/access.lets", laid_headgate_access_lets), ("headgate/cdb.forms", laid_headgate_cdb_forms), ("headgate/cdb.numbers", laid_headgate_cdb_numbers), ("headgate/crc.steps", laid_headgate_crc_steps), ("headgate/sense.rows", laid_headgate_sense_rows)], narrowed := true }
def ScsiCutUptoSaid : Prop := scsiCutUptoRow.holds Tryz.pinned (OpenSpec.upto scsiCutSpec)

/-- 'headgatelaw19.ScsiSays', WHERE WHAT IT READS IS OF BULK AT MOST 1048576: true; the input reads as it did. -/
def scsiSaysUptoRow : OpenClaim := { program := "yteilejfncdacfaagreatdoor", sum := "95935cf14b832e8f01bef0626eee806a4125ba1b286e7d2e0f168923f03de659", func := "headgate/headgatelaw19.ScsiSays", spec := "scsiSays", inPlace := ["sync/atomic.LoadUint32", "(*internal/sync.Mutex).Lock", "internal/race.Disable", "sync/atomic.CompareAndSwapInt32", "internal/race.Enable", "internal/race.Acquire", "(*internal/sync.Mutex).lockSlow", "internal/sync.runtime_canSpin", "internal/sync.runtime_doSpin", "internal/sync.throw", "internal/sync.runtime_nanotime", "internal/sync.runtime_SemacquireMutex", "sync/atomic.AddInt32", "(*internal/sync.Mutex).Unlock", "internal/race.ReleaseMerge", "(*internal/sync.Mutex).unlockSlow", "internal/sync.fatal", "internal/sync.runtime_Semrelease", "sync/atomic.StoreUint32", "internal/abi.NoEscape", "internal/bytealg.MakeNoZero", "sync/atomic.AddInt64", "sync/atomic.LoadInt64", "sync/atomic.StoreInt64"], unfollowed := true, recurses := true, named := ["headgate/crc.steps", "headgate/cdb.forms", "headgate/cdb.numbers", "headgate/sense.rows", "headgate/access.lets"], plainKeys := false, apart := false, laid := [("headgate/access.lets", laid_headgate_access_lets), ("headgate/cdb.forms", laid_headgate_cdb_forms), ("headgate/cdb.numbers", laid_headgate_cdb_numbers), ("headgate/crc.steps", laid_headgate_crc_steps), ("headgate/sense.rows", laid_headgate_sense_rows)], narrowed := true }
def ScsiSaysUptoSaid : Prop := scsiSaysUptoRow.holds Tryz.pinned (OpenSpec.upto scsiSaysSpec)

/-- 'headgatelaw19.ScsiDoes', WHERE WHAT IT READS IS OF BULK AT MOST 1048576: true; the input reads as it did. -/
def scsiDoesUptoRow : OpenClaim := { program := "yteilejfncdacfaagreatdoor", sum := "95935cf14b832e8f01bef0626eee806a4125ba1b286e7d2e0f168923f03de659", func := "headgate/headgatelaw19.ScsiDoes", spec := "scsiDoes", inPlace := ["sync/atomic.LoadUint32", "(*internal/sync.Mutex).Lock", "internal/race.Disable", "sync/atomic.CompareAndSwapInt32", "internal/race.Enable", "internal/race.Acquire", "(*internal/sync.Mutex).lockSlow", "internal/sync.runtime_canSpin", "internal/sync.runtime_doSpin", "internal/sync.throw", "internal/sync.runtime_nanotime", "internal/sync.runtime_SemacquireMutex", "sync/atomic.AddInt32", "(*internal/sync.Mutex).Unlock", "internal/race.ReleaseMerge", "(*internal/sync.Mutex).unlockSlow", "internal/sync.fatal", "internal/sync.runtime_Semrelease", "sync/atomic.StoreUint32", "internal/abi.NoEscape", "internal/bytealg.MakeNoZero", "sync/atomic.AddInt64", "sync/atomic.LoadInt64", "sync/atomic.StoreInt64"], unfollowed := true, recurses := true, named := ["headgate/crc.steps", "headgate/cdb.forms", "headgate/cdb.numbers", "headgate/sense.rows", "headgate/access.lets"], plainKeys := false, apart := false, laid := [("headgate/access.lets", laid_headgate_access_lets), ("headgate/cdb.forms", laid_headgate_cdb_forms), ("headgate/cdb.numbers", laid_headgate_cdb_numbers), ("headgate/crc.steps", laid_headgate_crc_steps), ("headgate/sense.rows", laid_headgate_sense_rows)], narrowed := true }
def ScsiDoesUptoSaid : Prop := scsiDoesUptoRow.holds Tryz.pinned (OpenSpec.upto scsiDoesSpec)

end Rows
end Go.Proofs.YteilejfncdacfaaGreatDoor
