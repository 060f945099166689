/-
  NARROWER THAN 'FOR EVERY INPUT', by the rows' own cells (each row's printed sentence says how): NresvReports: laid · NresvTells: laid · NresvChanges: laid · NresvBack: laid · SenseOf: laid · SenseCodes: laid · SenseBytes: laid · SenseBack: laid · NresvSides: laid.
  DERIVED. THE GIVEN ROWS OF THIS SEAT. 9 by the template 'for every input the law returns true; each argument reads behind the call as it read before'; 0 by the template 'total and deterministic' (their statements: YthjjbkgifelooaaDoorTotals.lean).
  GIVEN WITH THE SEED: the statements are not yours to turn. If you find one false, say at which input.
  Laid BY PROGRAM, IN A SANDBOX (cutbox-rows.mjs): the forced cells as the released guide's own fill.sh prints them over the translation 0364de9102ed0a2e… (all of the seat's roots in one cut). By AI agents, Wed Nov 11 2026. No macro, syntax, notation, axiom, sorry.
-/
import Derived.Test.YthjjbkgifelooaaDoorChecked
import GoSem.Claim
import GoSem.ClaimJoined
import GoSem.ClaimMapViews
import Derived.JoinedTies
import Derived.KernelRfl
namespace Go.Proofs.YthjjbkgifelooaaDoor
/- THE CELL 'sum', in the pinned program and in every row, IS THE sha256 OF THE DUMP (.gsa) THAT YthjjbkgifelooaaDoorProg.lean LOADS. Nothing in Lean hashes anything: it is a label: what it is worth is what the hold of that sum in a sandbox is worth. -/
noncomputable def Tryd.pinned : Pinned := { name := "ythjjbkgifelooaadoor", sum := "0364de9102ed0a2e82e50e7bc9aaf00601bd7b68de04d62fd2522ff112f35be2", checked := Tryd.checked }
namespace Rows
def none {H : Type} : Left H := { results := [], args := [] }

/- WHAT THE LISTED PACKAGE-LEVEL VARIABLES READ AS WHEN THE CALL BEGINS. Each datum BY PROGRAM (the guide's laid-datum.mjs) off the statement by which the dump's own 'gosem.cut.vars' lays the variable. In a bare row this is a premise. The card (YthjjbkgifelooaaDoorCards.lean) ties it to the program's text. -/
def laid_headgate_access_lets {H : Type} : DataW H := .agg [.lit (.int .i64 0), .lit (.int .i64 1), .lit (.int .i64 0), .lit (.int .i64 5), .lit (.int .i64 6), .lit (.int .i64 13), .lit (.int .i64 14)]
def laid_headgate_nresv_actions {H : Type} : DataW H := .agg [.agg [.lit (.int .i64 13), .lit (.int .i64 0), .lit (.int .i64 8)], .agg [.lit (.int .i64 13), .lit (.int .i64 1), .lit (.int .i64 8)], .agg [.lit (.int .i64 13), .lit (.int .i64 2), .lit (.int .i64 8)], .agg [.lit (.int .i64 17), .lit (.int .i64 0), .lit (.int .i64 9)], .agg [.lit (.int .i64 17), .lit (.int .i64 1), .lit (.int .i64 12)], .agg [.lit (.int .i64 21), .lit (.int .i64 0), .lit (.int .i64 10)], .agg [.lit (.int .i64 21), .lit (.int .i64 1), .lit (.int .i64 11)]]
def laid_headgate_nresv_aptpls {H : Type} : DataW H := .agg [.lit (.int .i64 0), .lit (.int .i64 (-1)), .lit (.int .i64 1), .lit (.int .i64 2)]
def laid_headgate_sense_rows {H : Type} : DataW H := .agg [.agg [.lit (.int .i64 1), .lit (.int .i64 0), .lit (.int .i64 0), .lit (.int .i64 0), .lit (.int .i64 0), .lit (.int .i64 0)], .agg [.lit (.int .i64 2), .lit (.int .i64 0), .lit (.int .i64 24), .lit (.int .i64 0), .lit (.int .i64 0), .lit (.int .i64 0)], .agg [.lit (.int .i64 3), .lit (.int .i64 0), .lit (.int .i64 2), .lit (.int .i64 14), .lit (.int .i64 29), .lit (.int .i64 0)], .agg [.lit (.int .i64 4), .lit (.int .i64 0), .lit (.int .i64 2), .lit (.int .i64 5), .lit (.int .i64 33), .lit (.int .i64 0)], .agg [.lit (.int .i64 5), .lit (.int .i64 0), .lit (.int .i64 2), .lit (.int .i64 5), .lit (.int .i64 36), .lit (.int .i64 0)], .agg [.lit (.int .i64 6), .lit (.int .i64 0), .lit (.int .i64 2), .lit (.int .i64 5), .lit (.int .i64 37), .lit (.int .i64 0)], .agg [.lit (.int .i64 8), .lit (.int .i64 0), .lit (.int .i64 2), .lit (.int .i64 3), .lit (.int .i64 12), .lit (.int .i64 0)], .agg [.lit (.int .i64 7), .lit (.int .i64 1), .lit (.int .i64 2), .lit (.int .i64 6), .lit (.int .i64 41), .lit (.int .i64 0)], .agg [.lit (.int .i64 7), .lit (.int .i64 2), .lit (.int .i64 2), .lit (.int .i64 6), .lit (.int .i64 42), .lit (.int .i64 5)], .agg [.lit (.int .i64 7), .lit (.int .i64 3), .lit (.int .i64 2), .lit (.int .i64 6), .lit (.int .i64 42), .lit (.int .i64 4)], .agg [.lit (.int .i64 7), .lit (.int .i64 4), .lit (.int .i64 2), .lit (.int .i64 6), .lit (.int .i64 42), .lit (.int .i64 3)]]

/-- 'headgatelaw27.NresvReports': WHATEVER THE INPUT: true; the input reads as it did. -/
def nresvReportsSpec : ChangeSpec := { name := "nresvReports", fn := fun _ => fun
  | [d1, d2] => { results := [.lit (.bool true)], args := [d1, d2] }
  | _ => none }
def nresvReportsRow : OpenClaim := { program := "ythjjbkgifelooaadoor", sum := "0364de9102ed0a2e82e50e7bc9aaf00601bd7b68de04d62fd2522ff112f35be2", func := "headgate/headgatelaw27.NresvReports", spec := "nresvReports", unfollowed := true, recurses := true, named := ["headgate/nresv.actions", "headgate/nresv.aptpls", "headgate/access.lets"], apart := false, laid := [("headgate/access.lets", laid_headgate_access_lets), ("headgate/nresv.actions", laid_headgate_nresv_actions), ("headgate/nresv.aptpls", laid_headgate_nresv_aptpls)] }
def NresvReportsSaid : Prop := nresvReportsRow.holds Tryd.pinned (OpenSpec.ofChange nresvReportsSpec)

/-- ITS FALSE NEIGHBOUR: 'it returns false'. Refute it at one input. -/
def nresvReportsWrong : ChangeSpec := { name := "nresvReports", fn := fun _ => fun
  | [d1, d2] => { results := [.lit (.bool false)], args := [d1, d2] }
  | _ => none }
def NresvReportsWrongFalsely : Prop := nresvReportsRow.holds Tryd.pinned (OpenSpec.ofChange nresvReportsWrong)

/-- 'headgatelaw27.NresvTells': WHATEVER THE INPUT: true; the input reads as it did. -/
def nresvTellsSpec : ChangeSpec := { name := "nresvTells", fn := fun _ => fun
  | [d] => { results := [.lit (.bool true)], args := [d] }
  | _ => none }
def nresvTellsRow : OpenClaim := { program := "ythjjbkgifelooaadoor", sum := "0364de9102ed0a2e82e50e7bc9aaf00601bd7b68de04d62fd2522ff112f35be2", func := "headgate/headgatelaw27.NresvTells", spec := "nresvTells", unfollowed := true, recurses := true, named := ["headgate/nresv.actions", "headgate/nresv.aptpls", "headgate/access.lets"], apart := false, laid := [("headgate/access.lets", laid_headgate_access_lets), ("headgate/nresv.actions", laid_headgate_nresv_actions), ("headgate/nresv.aptpls", laid_headgate_nresv_aptpls)] }
def NresvTellsSaid : Prop := nresvTellsRow.holds Tryd.pinned (OpenSpec.ofChange nresvTellsSpec)

/-- ITS FALSE NEIGHBOUR: 'it returns false'. Refute it at one input. -/
def nresvTellsWrong : ChangeSpec := { name := "nresvTells", fn := fun _ => fun
  | [d] => { results := [.lit (.bool false)], args := [d] }
  | _ => none }
def NresvTellsWrongFalsely : Prop := nresvTellsRow.holds Tryd.pinned (OpenSpec.ofChange nresvTellsWrong)

/-- 'headgatelaw27.NresvChanges': WHATEVER THE INPUT: true; the input reads as it did. -/
def nresvChangesSpec : ChangeSpec := { name := "nresvChanges", fn := fun _ => fun
  | [d1, d2] => { results := [.lit (.bool true)], args := [d1, d2] }
  | _ => none }
def nresvChangesRow : OpenClaim := { program := "ythjjbkgifelooaadoor", sum := "0364de9102ed0a2e82e50e7bc9aaf00601bd7b68de04d62fd2522ff112f35be2", func := "headgate/headgatelaw27.NresvChanges", spec := "nresvChanges", named := ["headgate/nresv.actions", "headgate/nresv.aptpls", "headgate/access.lets"], apart := false, laid := [("headgate/access.lets", laid_headgate_access_lets), ("headgate/nresv.actions", laid_headgate_nresv_actions), ("headgate/nresv.aptpls", laid_headgate_nresv_aptpls)] }
def NresvChangesSaid : Prop := nresvChangesRow.holds Tryd.pinned (OpenSpec.ofChange nresvChangesSpec)

/-- ITS FALSE NEIGHBOUR: 'it returns false'. Refute it at one input. -/
def nresvChangesWrong : ChangeSpec := { name := "nresvChanges", fn := fun _ => fun
  | [d1, d2] => { results := [.lit (.bool false)], args := [d1, d2] }
  | _ => none }
def NresvChangesWrongFalsely : Prop := nresvChangesRow.holds Tryd.pinned (OpenSpec.ofChange nresvChangesWrong)

/-- 'headgatelaw27.NresvBack': WHATEVER THE INPUT: true; the input reads as it did. -/
def nresvBackSpec : ChangeSpec := { name := "nresvBack", fn := fun _ => fun
  | [d1, d2] => { results := [.lit (.bool true)], args := [d1, d2] }
  | _ => none }
def nresvBackRow : OpenClaim := { program := "ythjjbkgifelooaadoor", sum := "0364de9102ed0a2e82e50e7bc9aaf00601bd7b68de04d62fd2522ff112f35be2", func := "headgate/headgatelaw27.NresvBack", spec := "nresvBack", named := ["headgate/nresv.actions", "headgate/nresv.aptpls", "headgate/access.lets"], apart := false, laid := [("headgate/access.lets", laid_headgate_access_lets), ("headgate/nresv.actions", laid_headgate_nresv_actions), ("headgate/nresv.aptpls", laid_headgate_nresv_aptpls)] }
def NresvBackSaid : Prop := nresvBackRow.holds Tryd.pinned (OpenSpec.ofChange nresvBackSpec)

/-- ITS FALSE NEIGHBOUR: 'it returns false'. Refute it at one input. -/
def nresvBackWrong : ChangeSpec := { name := "nresvBack", fn := fun _ => fun
  | [d1, d2] => { results := [.lit (.bool false)], args := [d1, d2] }
  | _ => none }
def NresvBackWrongFalsely : Prop := nresvBackRow.holds Tryd.pinned (OpenSpec.ofChange nresvBackWrong)

/-- 'headgatelaw16.SenseOf': WHATEVER THE INPUT: true; the input reads as it did. -/
def senseOfSpec : ChangeSpec := { name := "senseOf", fn := fun _ => fun
  | [d1, d2, d3] => { results := [.lit (.bool true)], args := [d1, d2, d3] }
  | _ => none }
def senseOfRow : OpenClaim := { program := "ythjjbkgifelooaadoor", sum := "0364de9102ed0a2e82e50e7bc9aaf00601bd7b68de04d62fd2522ff112f35be2", func := "headgate/headgatelaw16.SenseOf", spec := "senseOf", inPlace := ["internal/abi.NoEscape", "internal/bytealg.MakeNoZero"], unfollowed := true, recurses := true, named := ["headgate/sense.rows"], apart := false, laid := [("headgate/sense.rows", laid_headgate_sense_rows)] }
def SenseOfSaid : Prop := senseOfRow.holds Tryd.pinned (OpenSpec.ofChange senseOfSpec)

/-- ITS FALSE NEIGHBOUR: 'it returns false'. Refute it at one input. -/
def senseOfWrong : ChangeSpec := { name := "senseOf", fn := fun _ => fun
  | [d1, d2, d3] => { results := [.lit (.bool false)], args := [d1, d2, d3] }
  | _ => none }
def SenseOfWrongFalsely : Prop := senseOfRow.holds Tryd.pinned (OpenSpec.ofChange senseOfWrong)

/-- 'headgatelaw16.SenseCodes': WHATEVER THE INPUT: true; the input reads as it did. -/
def senseCodesSpec : ChangeSpec := { name := "senseCodes", fn := fun _ => fun
  | [d1, d2] => { results := [.lit (.bool true)], args := [d1, d2] }
  | _ => none }
def senseCodesRow : OpenClaim := { program := "ythjjbkgifelooaadoor", sum := "0364de9102ed0a2e82e50e7bc9aaf00601bd7b68de04d62fd2522ff112f35be2", func := "headgate/headgatelaw16.SenseCodes", spec := "senseCodes", inPlace := ["internal/abi.NoEscape", "internal/bytealg.MakeNoZero"], unfollowed := true, recurses := true, named := ["headgate/sense.rows"], apart := false, laid := [("headgate/sense.rows", laid_headgate_sense_rows)] }
def SenseCodesSaid : Prop := senseCodesRow.holds Tryd.pinned (OpenSpec.ofChange senseCodesSpec)

/-- ITS FALSE NEIGHBOUR: 'it returns false'. Refute it at one input. -/
def senseCodesWrong : ChangeSpec := { name := "senseCodes", fn := fun _ => fun
  | [d1, d2] => { results := [.lit (.bool false)], args := [d1, d2] }
  | _ => none }
def SenseCodesWrongFalsely : Prop := senseCodesRow.holds Tryd.pinned (OpenSpec.ofChange senseCodesWrong)

/-- 'headgatelaw16.SenseBytes': WHATEVER THE INPUT: true; the input reads as it did. -/
def senseBytesSpec : ChangeSpec := { name := "senseBytes", fn := fun _ => fun
  | [d1, d2] => { results := [.lit (.bool true)], args := [d1, d2] }
  | _ => none }
def senseBytesRow : OpenClaim := { program := "ythjjbkgifelooaadoor", sum := "0364de9102ed0a2e82e50e7bc9aaf00601bd7b68de04d62fd2522ff112f35be2", func := "headgate/headgatelaw16.SenseBytes", spec := "senseBytes", inPlace := ["internal/abi.NoEscape", "internal/bytealg.MakeNoZero"], unfollowed := true, recurses := true, named := ["headgate/sense.rows"], apart := false, laid := [("headgate/sense.rows", laid_headgate_sense_rows)] }
def SenseBytesSaid : Prop := senseBytesRow.holds Tryd.pinned (OpenSpec.ofChange senseBytesSpec)

/-- ITS FALSE NEIGHBOUR: 'it returns false'. Refute it at one input. -/
def senseBytesWrong : ChangeSpec := { name := "senseBytes", fn := fun _ => fun
  | [d1, d2] => { results := [.lit (.bool false)], args := [d1, d2] }
  | _ => none }
def SenseBytesWrongFalsely : Prop := senseBytesRow.holds Tryd.pinned (OpenSpec.ofChange senseBytesWrong)

/-- 'headgatelaw16.SenseBack': WHATEVER THE INPUT: true; the input reads as it did. -/
def senseBackSpec : ChangeSpec := { name := "senseBack", fn := fun _ => fun
  | [d1, d2] => { results := [.lit (.bool true)], args := [d1, d2] }
  | _ => none }
def senseBackRow : OpenClaim := { program := "ythjjbkgifelooaadoor", sum := "0364de9102ed0a2e82e50e7bc9aaf00601bd7b68de04d62fd2522ff112f35be2", func := "headgate/headgatelaw16.SenseBack", spec := "senseBack", inPlace := ["internal/abi.NoEscape", "internal/bytealg.MakeNoZero"], unfollowed := true, recurses := true, named := ["headgate/sense.rows"], apart := false, laid := [("headgate/sense.rows", laid_headgate_sense_rows)] }
def SenseBackSaid : Prop := senseBackRow.holds Tryd.pinned (OpenSpec.ofChange senseBackSpec)

/-- ITS FALSE NEIGHBOUR: 'it returns false'. Refute it at one input. -/
def senseBackWrong : ChangeSpec := { name := "senseBack", fn := fun _ => fun
  | [d1, d2] => { results := [.lit (.bool false)], args := [d1, d2] }
  | _ => none }
def SenseBackWrongFalsely : Prop := senseBackRow.holds Tryd.pinned (OpenSpec.ofChange senseBackWrong)

/-- 'headgatelaw27.NresvSides': WHATEVER THE INPUT: true; the input reads as it did. -/
def nresvSidesSpec : ChangeSpec := { name := "nresvSides", fn := fun _ => fun
  | [d] => { results := [.lit (.bool true)], args := [d] }
  | _ => none }
def nresvSidesRow : OpenClaim := { program := "ythjjbkgifelooaadoor", sum := "0364de9102ed0a2e82e50e7bc9aaf00601bd7b68de04d62fd2522ff112f35be2", func := "headgate/headgatelaw27.NresvSides", spec := "nresvSides", named := ["headgate/nresv.actions", "headgate/nresv.aptpls", "headgate/access.lets"], apart := false, laid := [("headgate/access.lets", laid_headgate_access_lets), ("headgate/nresv.actions", laid_headgate_nresv_actions), ("headgate/nresv.aptpls", laid_headgate_nresv_aptpls)] }
def NresvSidesSaid : Prop := nresvSidesRow.holds Tryd.pinned (OpenSpec.ofChange nresvSidesSpec)

/-- ITS FALSE NEIGHBOUR: 'it returns false'. Refute it at one input. -/
def nresvSidesWrong : ChangeSpec := { name := "nresvSides", fn := fun _ => fun
  | [d] => { results := [.lit (.bool false)], args := [d] }
  | _ => none }
def NresvSidesWrongFalsely : Prop := nresvSidesRow.holds Tryd.pinned (OpenSpec.ofChange nresvSidesWrong)

/- THE SECOND FORM. 'bulk': how many values and letters a reading holds, each counted each time it is reached (what is shared counts as often as it is met; a slice's spare places count too). A statement '..UptoSaid' is the law's where the arguments, and the package variables that the reading takes, are together of bulk at most 1048576: NARROWER than '..Said'. Prove '..Said' where nothing that the law and all that it calls make is longer than what came in: it says more and counts as full. Else prove '..UptoSaid'. A law counts once. -/
mutual
def uptoBulk {H : Type} : DataW H → Nat
  | .lit (.string bytes) => bytes.length + 1
  | .lit _ => 1
  | .nil => 1
  | .ptr d => uptoBulk d + 1
  | .slice elems spare => uptoBulkAll elems + uptoBulkAll spare + 1
  | .agg parts => uptoBulkAll parts + 1
  | .iface _ d => uptoBulk d + 1
  | .map entries => uptoBulkEntries entries + 1
  | .held _ => 1
def uptoBulkAll {H : Type} : List (DataW H) → Nat
  | [] => 0
  | d :: r => uptoBulk d + uptoBulkAll r
def uptoBulkEntries {H : Type} : List (Lit × DataW H) → Nat
  | [] => 0
  | x :: r => uptoBulkEntry x + uptoBulkEntries r
def uptoBulkEntry {H : Type} : Lit × DataW H → Nat
  | (.string bytes, d) => bytes.length + uptoBulk d + 1
  | (_, d) => uptoBulk d + 1
 end
def uptoSmall : (H : Type) → List (DataW H) → Bool := fun _ ds => decide (uptoBulkAll ds ≤ 1048576)
def OpenSpec.upto (s : _root_.Go.ChangeSpec) : _root_.Go.OpenSpec := { _root_.Go.OpenSpec.ofChange s with cond := some uptoSmall }

/-- 'headgatelaw27.NresvReports', WHERE WHAT IT READS IS OF BULK AT MOST 1048576: true; the input reads as it did. -/
def nresvReportsUptoRow : OpenClaim := { program := "ythjjbkgifelooaadoor", sum := "0364de9102ed0a2e82e50e7bc9aaf00601bd7b68de04d62fd2522ff112f35be2", func := "headgate/headgatelaw27.NresvReports", spec := "nresvReports", unfollowed := true, recurses := true, named := ["headgate/nresv.actions", "headgate/nresv.aptpls", "headgate/access.lets"], apart := false, laid := [("headgate/access.lets", laid_headgate_access_lets), ("headgate/nresv.actions", laid_headgate_nresv_actions), ("headgate/nresv.aptpls", laid_headgate_nresv_aptpls)], narrowed := true }
def NresvReportsUptoSaid : Prop := nresvReportsUptoRow.holds Tryd.pinned (OpenSpec.upto nresvReportsSpec)

/-- 'headgatelaw27.NresvTells', WHERE WHAT IT READS IS OF BULK AT MOST 1048576: true; the input reads as it did. -/
def nresvTellsUptoRow : OpenClaim := { program := "ythjjbkgifelooaadoor", sum := "0364de9102ed0a2e82e50e7bc9aaf00601bd7b68de04d62fd2522ff112f35be2", func := "headgate/headgatelaw27.NresvTells", spec := "nresvTells", unfollowed := true, recurses := true, named := ["headgate/nresv.actions", "headgate/nresv.aptpls", "headgate/access.lets"], apart := false, laid := [("headgate/access.lets", laid_headgate_access_lets), ("headgate/nresv.actions", laid_headgate_nresv_actions), ("headgate/nresv.aptpls", laid_headgate_nresv_aptpls)], narrowed := true }
def NresvTellsUptoSaid : Prop := nresvTellsUptoRow.holds Tryd.pinned (OpenSpec.upto nresvTellsSpec)

/-- 'headgatelaw27.NresvChanges', WHERE WHAT IT READS IS OF BULK AT MOST 1048576: true; the input reads as it did. -/
def nresvChangesUptoRow : OpenClaim := { program := "ythjjbkgifelooaadoor", sum := "0364de9102ed0a2e82e50e7bc9aaf00601bd7b68de04d62fd2522ff112f35be2", func := "headgate/headgatelaw27.NresvChanges", spec := "nresvChanges", named := ["headgate/nresv.actions", "headgate/nresv.aptpls", "headgate/access.lets"], apart := false, laid := [("headgate/access.lets", laid_headgate_access_lets), ("headgate/nresv.actions", laid_headgate_nresv_actions), ("headgate/nresv.aptpls", laid_headgate_nresv_aptpls)], narrowed := true }
def NresvChangesUptoSaid : Prop := nresvChangesUptoRow.holds Tryd.pinned (OpenSpec.upto nresvChangesSpec)

/-- 'headgatelaw27.NresvBack', WHERE WHAT IT READS IS OF BULK AT MOST 1048576: true; the input reads as it did. -/
def nresvBackUptoRow : OpenClaim := { program := "ythjjbkgifelooaadoor", sum := "0364de9102ed0a2e82e50e7bc9aaf00601bd7b68de04d62fd2522ff112f35be2", func := "headgate/headgatelaw27.NresvBack", spec := "nresvBack", named := ["headgate/nresv.actions", "headgate/nresv.aptpls", "headgate/access.lets"], apart := false, laid := [("headgate/access.lets", laid_headgate_access_lets), ("headgate/nresv.actions", laid_headgate_nresv_actions), ("headgate/nresv.aptpls", laid_headgate_nresv_aptpls)], narrowed := true }
def NresvBackUptoSaid : Prop := nresvBackUptoRow.holds Tryd.pinned (OpenSpec.upto nresvBackSpec)

/-- 'headgatelaw16.SenseOf', WHERE WHAT IT READS IS OF BULK AT MOST 1048576: true; the input reads as it did. -/
def senseOfUptoRow : OpenClaim := { program := "ythjjbkgifelooaadoor", sum := "0364de9102ed0a2e82e50e7bc9aaf00601bd7b68de04d62fd2522ff112f35be2", func := "headgate/headgatelaw16.SenseOf", spec := "senseOf", inPlace := ["internal/abi.NoEscape", "internal/bytealg.MakeNoZero"], unfollowed := true, recurses := true, named := ["headgate/sense.rows"], apart := false, laid := [("headgate/sense.rows", laid_headgate_sense_rows)], narrowed := true }
def SenseOfUptoSaid : Prop := senseOfUptoRow.holds Tryd.pinned (OpenSpec.upto senseOfSpec)

/-- 'headgatelaw16.SenseCodes', WHERE WHAT IT READS IS OF BULK AT MOST 1048576: true; the input reads as it did. -/
def senseCodesUptoRow : OpenClaim := { program := "ythjjbkgifelooaadoor", sum := "0364de9102ed0a2e82e50e7bc9aaf00601bd7b68de04d62fd2522ff112f35be2", func := "headgate/headgatelaw16.SenseCodes", spec := "senseCodes", inPlace := ["internal/abi.NoEscape", "internal/bytealg.MakeNoZero"], unfollowed := true, recurses := true, named := ["headgate/sense.rows"], apart := false, laid := [("headgate/sense.rows", laid_headgate_sense_rows)], narrowed := true }
def SenseCodesUptoSaid : Prop := senseCodesUptoRow.holds Tryd.pinned (OpenSpec.upto senseCodesSpec)

/-- 'headgatelaw16.SenseBytes', WHERE WHAT IT READS IS OF BULK AT MOST 1048576: true; the input reads as it did. -/
def senseBytesUptoRow : OpenClaim := { program := "ythjjbkgifelooaadoor", sum := "0364de9102ed0a2e82e50e7bc9aaf00601bd7b68de04d62fd2522ff112f35be2", func := "headgate/headgatelaw16.SenseBytes", spec := "senseBytes", inPlace := ["internal/abi.NoEscape", "internal/bytealg.MakeNoZero"], unfollowed := true, recurses := true, named := ["headgate/sense.rows"], apart := false, laid := [("headgate/sense.rows", laid_headgate_sense_rows)], narrowed := true }
def SenseBytesUptoSaid : Prop := senseBytesUptoRow.holds Tryd.pinned (OpenSpec.upto senseBytesSpec)

/-- 'headgatelaw16.SenseBack', WHERE WHAT IT READS IS OF BULK AT MOST 1048576: true; the input reads as it did. -/
def senseBackUptoRow : OpenClaim := { program := "ythjjbkgifelooaadoor", sum := "0364de9102ed0a2e82e50e7bc9aaf00601bd7b68de04d62fd2522ff112f35be2", func := "headgate/headgatelaw16.SenseBack", spec := "senseBack", inPlace := ["internal/abi.NoEscape", "internal/bytealg.MakeNoZero"], unfollowed := true, recurses := true, named := ["headgate/sense.rows"], apart := false, laid := [("headgate/sense.rows", laid_headgate_sense_rows)], narrowed := true }
def SenseBackUptoSaid : Prop := senseBackUptoRow.holds Tryd.pinned (OpenSpec.upto senseBackSpec)

/-- 'headgatelaw27.NresvSides', WHERE WHAT IT READS IS OF BULK AT MOST 1048576: true; the input reads as it did. -/
def nresvSidesUptoRow : OpenClaim := { program := "ythjjbkgifelooaadoor", sum := "0364de9102ed0a2e82e50e7bc9aaf00601bd7b68de04d62fd2522ff112f35be2", func := "headgate/headgatelaw27.NresvSides", spec := "nresvSides", named := ["headgate/nresv.actions", "headgate/nresv.aptpls", "headgate/access.lets"], apart := false, laid := [("headgate/access.lets", laid_headgate_access_lets), ("headgate/nresv.actions", laid_headgate_nresv_actions), ("headgate/nresv.aptpls", laid_headgate_nresv_aptpls)], narrowed := true }
def NresvSidesUptoSaid : Prop := nresvSidesUptoRow.holds Tryd.pinned (OpenSpec.upto nresvSidesSpec)

end Rows
end Go.Proofs.YthjjbkgifelooaaDoor
