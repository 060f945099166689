/-
  NARROWER THAN 'FOR EVERY INPUT', by the rows' own cells (each row's printed sentence says how): ProutReads: laid · CdbParses: laid · CdbBuilds: laid · CdbBack: laid · CdbShort: laid · CdbForms: laid.
  DERIVED. THE GIVEN ROWS OF THIS SEAT. 6 by the template 'for every input the law returns true; each argument reads behind the call as it read before'; 0 by the template 'total and deterministic' (their statements: YtpjcipadjegmlaaDoorTotals.lean).
  GIVEN WITH THE SEED: the statements are not yours to turn. If you find one false, say at which input.
  Laid BY PROGRAM, IN A SANDBOX (cutbox-rows.mjs): the forced cells as the released guide's own fill.sh prints them over the translation 2b4337d760c82dc9… (all of the seat's roots in one cut). By AI agents, Wed Nov 11 2026. No macro, syntax, notation, axiom, sorry.
-/
import Derived.Test.YtpjcipadjegmlaaDoorChecked
import GoSem.Claim
import GoSem.ClaimJoined
import GoSem.ClaimMapViews
import Derived.JoinedTies
import Derived.KernelRfl
namespace Go.Proofs.YtpjcipadjegmlaaDoor
/- THE CELL 'sum', in the pinned program and in every row, IS THE sha256 OF THE DUMP (.gsa) THAT YtpjcipadjegmlaaDoorProg.lean LOADS. Nothing in Lean hashes anything: it is a label: what it is worth is what the hold of that sum in a sandbox is worth. -/
noncomputable def Tryd.pinned : Pinned := { name := "ytpjcipadjegmlaadoor", sum := "2b4337d760c82dc96d81e5854b2d0014f3fc623eb57f803322cc0dcaba88a2a9", checked := Tryd.checked }
namespace Rows
def none {H : Type} : Left H := { results := [], args := [] }

/- WHAT THE LISTED PACKAGE-LEVEL VARIABLES READ AS WHEN THE CALL BEGINS. Each datum BY PROGRAM (the guide's laid-datum.mjs) off the statement by which the dump's own 'gosem.cut.vars' lays the variable. In a bare row this is a premise. The card (YtpjcipadjegmlaaDoorCards.lean) ties it to the program's text. -/
def laid_headgate_cdb_numbers {H : Type} : DataW H := .agg [.lit (.int .i64 0), .lit (.int .i64 1), .lit (.int .i64 3), .lit (.int .i64 5), .lit (.int .i64 6), .lit (.int .i64 7), .lit (.int .i64 8)]
def laid_headgate_cdb_forms {H : Type} : DataW H := .agg [.agg [.lit (.int .i64 0), .lit (.int .i64 6), .agg [.lit (.int .i64 0), .lit (.int .i64 0)], .agg [.lit (.int .i64 0), .lit (.int .i64 0)], .agg [.lit (.int .i64 0), .lit (.int .i64 0)]], .agg [.lit (.int .i64 18), .lit (.int .i64 6), .agg [.lit (.int .i64 0), .lit (.int .i64 0)], .agg [.lit (.int .i64 0), .lit (.int .i64 0)], .agg [.lit (.int .i64 3), .lit (.int .i64 2)]], .agg [.lit (.int .i64 37), .lit (.int .i64 10), .agg [.lit (.int .i64 0), .lit (.int .i64 0)], .agg [.lit (.int .i64 0), .lit (.int .i64 0)], .agg [.lit (.int .i64 0), .lit (.int .i64 0)]], .agg [.lit (.int .i64 40), .lit (.int .i64 10), .agg [.lit (.int .i64 2), .lit (.int .i64 4)], .agg [.lit (.int .i64 7), .lit (.int .i64 2)], .agg [.lit (.int .i64 0), .lit (.int .i64 0)]], .agg [.lit (.int .i64 136), .lit (.int .i64 16), .agg [.lit (.int .i64 2), .lit (.int .i64 8)], .agg [.lit (.int .i64 10), .lit (.int .i64 4)], .agg [.lit (.int .i64 0), .lit (.int .i64 0)]], .agg [.lit (.int .i64 42), .lit (.int .i64 10), .agg [.lit (.int .i64 2), .lit (.int .i64 4)], .agg [.lit (.int .i64 7), .lit (.int .i64 2)], .agg [.lit (.int .i64 0), .lit (.int .i64 0)]], .agg [.lit (.int .i64 138), .lit (.int .i64 16), .agg [.lit (.int .i64 2), .lit (.int .i64 8)], .agg [.lit (.int .i64 10), .lit (.int .i64 4)], .agg [.lit (.int .i64 0), .lit (.int .i64 0)]], .agg [.lit (.int .i64 53), .lit (.int .i64 10), .agg [.lit (.int .i64 0), .lit (.int .i64 0)], .agg [.lit (.int .i64 0), .lit (.int .i64 0)], .agg [.lit (.int .i64 0), .lit (.int .i64 0)]], .agg [.lit (.int .i64 66), .lit (.int .i64 10), .agg [.lit (.int .i64 0), .lit (.int .i64 0)], .agg [.lit (.int .i64 0), .lit (.int .i64 0)], .agg [.lit (.int .i64 7), .lit (.int .i64 2)]], .agg [.lit (.int .i64 137), .lit (.int .i64 16), .agg [.lit (.int .i64 2), .lit (.int .i64 8)], .agg [.lit (.int .i64 13), .lit (.int .i64 1)], .agg [.lit (.int .i64 0), .lit (.int .i64 0)]], .agg [.lit (.int .i64 147), .lit (.int .i64 16), .agg [.lit (.int .i64 2), .lit (.int .i64 8)], .agg [.lit (.int .i64 10), .lit (.int .i64 4)], .agg [.lit (.int .i64 0), .lit (.int .i64 0)]], .agg [.lit (.int .i64 94), .lit (.int .i64 10), .agg [.lit (.int .i64 0), .lit (.int .i64 0)], .agg [.lit (.int .i64 0), .lit (.int .i64 0)], .agg [.lit (.int .i64 7), .lit (.int .i64 2)]], .agg [.lit (.int .i64 95), .lit (.int .i64 10), .agg [.lit (.int .i64 0), .lit (.int .i64 0)], .agg [.lit (.int .i64 0), .lit (.int .i64 0)], .agg [.lit (.int .i64 5), .lit (.int .i64 4)]], .agg [.lit (.int .i64 160), .lit (.int .i64 12), .agg [.lit (.int .i64 0), .lit (.int .i64 0)], .agg [.lit (.int .i64 0), .lit (.int .i64 0)], .agg [.lit (.int .i64 6), .lit (.int .i64 4)]]]

/-- 'headgatelaw18.ProutReads': WHATEVER THE INPUT: true; the input reads as it did. -/
def proutReadsSpec : ChangeSpec := { name := "proutReads", fn := fun _ => fun
  | [d] => { results := [.lit (.bool true)], args := [d] }
  | _ => none }
def proutReadsRow : OpenClaim := { program := "ytpjcipadjegmlaadoor", sum := "2b4337d760c82dc96d81e5854b2d0014f3fc623eb57f803322cc0dcaba88a2a9", func := "headgate/headgatelaw18.ProutReads", spec := "proutReads", unfollowed := true, recurses := true, named := ["headgate/cdb.numbers"], apart := false, laid := [("headgate/cdb.numbers", laid_headgate_cdb_numbers)] }
def ProutReadsSaid : Prop := proutReadsRow.holds Tryd.pinned (OpenSpec.ofChange proutReadsSpec)

/-- ITS FALSE NEIGHBOUR: 'it returns false'. Refute it at one input. -/
def proutReadsWrong : ChangeSpec := { name := "proutReads", fn := fun _ => fun
  | [d] => { results := [.lit (.bool false)], args := [d] }
  | _ => none }
def ProutReadsWrongFalsely : Prop := proutReadsRow.holds Tryd.pinned (OpenSpec.ofChange proutReadsWrong)

/-- 'headgatelaw15.CdbParses': WHATEVER THE INPUT: true; the input reads as it did. -/
def cdbParsesSpec : ChangeSpec := { name := "cdbParses", fn := fun _ => fun
  | [d] => { results := [.lit (.bool true)], args := [d] }
  | _ => none }
def cdbParsesRow : OpenClaim := { program := "ytpjcipadjegmlaadoor", sum := "2b4337d760c82dc96d81e5854b2d0014f3fc623eb57f803322cc0dcaba88a2a9", func := "headgate/headgatelaw15.CdbParses", spec := "cdbParses", unfollowed := true, recurses := true, named := ["headgate/cdb.forms", "headgate/cdb.numbers"], apart := false, laid := [("headgate/cdb.forms", laid_headgate_cdb_forms), ("headgate/cdb.numbers", laid_headgate_cdb_numbers)] }
def CdbParsesSaid : Prop := cdbParsesRow.holds Tryd.pinned (OpenSpec.ofChange cdbParsesSpec)

/-- ITS FALSE NEIGHBOUR: 'it returns false'. Refute it at one input. -/
def cdbParsesWrong : ChangeSpec := { name := "cdbParses", fn := fun _ => fun
  | [d] => { results := [.lit (.bool false)], args := [d] }
  | _ => none }
def CdbParsesWrongFalsely : Prop := cdbParsesRow.holds Tryd.pinned (OpenSpec.ofChange cdbParsesWrong)

/-- 'headgatelaw15.CdbBuilds': WHATEVER THE INPUT: true; the input reads as it did. -/
def cdbBuildsSpec : ChangeSpec := { name := "cdbBuilds", fn := fun _ => fun
  | [d1, d2] => { results := [.lit (.bool true)], args := [d1, d2] }
  | _ => none }
def cdbBuildsRow : OpenClaim := { program := "ytpjcipadjegmlaadoor", sum := "2b4337d760c82dc96d81e5854b2d0014f3fc623eb57f803322cc0dcaba88a2a9", func := "headgate/headgatelaw15.CdbBuilds", spec := "cdbBuilds", unfollowed := true, recurses := true, named := ["headgate/cdb.forms", "headgate/cdb.numbers"], apart := false, laid := [("headgate/cdb.forms", laid_headgate_cdb_forms), ("headgate/cdb.numbers", laid_headgate_cdb_numbers)] }
def CdbBuildsSaid : Prop := cdbBuildsRow.holds Tryd.pinned (OpenSpec.ofChange cdbBuildsSpec)

/-- ITS FALSE NEIGHBOUR: 'it returns false'. Refute it at one input. -/
def cdbBuildsWrong : ChangeSpec := { name := "cdbBuilds", fn := fun _ => fun
  | [d1, d2] => { results := [.lit (.bool false)], args := [d1, d2] }
  | _ => none }
def CdbBuildsWrongFalsely : Prop := cdbBuildsRow.holds Tryd.pinned (OpenSpec.ofChange cdbBuildsWrong)

/-- 'headgatelaw15.CdbBack': WHATEVER THE INPUT: true; the input reads as it did. -/
def cdbBackSpec : ChangeSpec := { name := "cdbBack", fn := fun _ => fun
  | [d1, d2] => { results := [.lit (.bool true)], args := [d1, d2] }
  | _ => none }
def cdbBackRow : OpenClaim := { program := "ytpjcipadjegmlaadoor", sum := "2b4337d760c82dc96d81e5854b2d0014f3fc623eb57f803322cc0dcaba88a2a9", func := "headgate/headgatelaw15.CdbBack", spec := "cdbBack", unfollowed := true, recurses := true, named := ["headgate/cdb.forms", "headgate/cdb.numbers"], apart := false, laid := [("headgate/cdb.forms", laid_headgate_cdb_forms), ("headgate/cdb.numbers", laid_headgate_cdb_numbers)] }
def CdbBackSaid : Prop := cdbBackRow.holds Tryd.pinned (OpenSpec.ofChange cdbBackSpec)

/-- ITS FALSE NEIGHBOUR: 'it returns false'. Refute it at one input. -/
def cdbBackWrong : ChangeSpec := { name := "cdbBack", fn := fun _ => fun
  | [d1, d2] => { results := [.lit (.bool false)], args := [d1, d2] }
  | _ => none }
def CdbBackWrongFalsely : Prop := cdbBackRow.holds Tryd.pinned (OpenSpec.ofChange cdbBackWrong)

/-- 'headgatelaw15.CdbShort': WHATEVER THE INPUT: true; the input reads as it did. -/
def cdbShortSpec : ChangeSpec := { name := "cdbShort", fn := fun _ => fun
  | [d1, d2, d3] => { results := [.lit (.bool true)], args := [d1, d2, d3] }
  | _ => none }
def cdbShortRow : OpenClaim := { program := "ytpjcipadjegmlaadoor", sum := "2b4337d760c82dc96d81e5854b2d0014f3fc623eb57f803322cc0dcaba88a2a9", func := "headgate/headgatelaw15.CdbShort", spec := "cdbShort", unfollowed := true, recurses := true, named := ["headgate/cdb.forms", "headgate/cdb.numbers"], apart := false, laid := [("headgate/cdb.forms", laid_headgate_cdb_forms), ("headgate/cdb.numbers", laid_headgate_cdb_numbers)] }
def CdbShortSaid : Prop := cdbShortRow.holds Tryd.pinned (OpenSpec.ofChange cdbShortSpec)

/-- ITS FALSE NEIGHBOUR: 'it returns false'. Refute it at one input. -/
def cdbShortWrong : ChangeSpec := { name := "cdbShort", fn := fun _ => fun
  | [d1, d2, d3] => { results := [.lit (.bool false)], args := [d1, d2, d3] }
  | _ => none }
def CdbShortWrongFalsely : Prop := cdbShortRow.holds Tryd.pinned (OpenSpec.ofChange cdbShortWrong)

/-- 'headgatelaw15.CdbForms': WHATEVER THE INPUT: true; the input reads as it did. -/
def cdbFormsSpec : ChangeSpec := { name := "cdbForms", fn := fun _ => fun
  | [d1, d2, d3] => { results := [.lit (.bool true)], args := [d1, d2, d3] }
  | _ => none }
def cdbFormsRow : OpenClaim := { program := "ytpjcipadjegmlaadoor", sum := "2b4337d760c82dc96d81e5854b2d0014f3fc623eb57f803322cc0dcaba88a2a9", func := "headgate/headgatelaw15.CdbForms", spec := "cdbForms", unfollowed := true, recurses := true, named := ["headgate/cdb.forms", "headgate/cdb.numbers"], apart := false, laid := [("headgate/cdb.forms", laid_headgate_cdb_forms), ("headgate/cdb.numbers", laid_headgate_cdb_numbers)] }
def CdbFormsSaid : Prop := cdbFormsRow.holds Tryd.pinned (OpenSpec.ofChange cdbFormsSpec)

/-- ITS FALSE NEIGHBOUR: 'it returns false'. Refute it at one input. -/
def cdbFormsWrong : ChangeSpec := { name := "cdbForms", fn := fun _ => fun
  | [d1, d2, d3] => { results := [.lit (.bool false)], args := [d1, d2, d3] }
  | _ => none }
def CdbFormsWrongFalsely : Prop := cdbFormsRow.holds Tryd.pinned (OpenSpec.ofChange cdbFormsWrong)

/- THE SECOND FORM. 'bulk': how many values and letters a reading holds, each counted each time it is reached (what is shared counts as often as it is met; a slice's spare places count too). A statement '..UptoSaid' is the law's where the arguments, and the package variables that the reading takes, are together of bulk at most 1048576: NARROWER than '..Said'. Prove '..Said' where nothing that the law and all that it calls make is longer than what came in: it says more and counts as full. Else prove '..UptoSaid'. A law counts once. -/
mutual
def uptoBulk {H : Type} : DataW H → Nat
  | .lit (.string bytes) => bytes.length + 1
  | .lit _ => 1
  | .nil => 1
  | .ptr d => uptoBulk d + 1
  | .slice elems spare => uptoBulkAll elems + uptoBulkAll spare + 1
  | .agg parts => uptoBulkAll parts + 1
  | .iface _ d => uptoBulk d + 1
  | .map entries => uptoBulkEntries entries + 1
  | .held _ => 1
def uptoBulkAll {H : Type} : List (DataW H) → Nat
  | [] => 0
  | d :: r => uptoBulk d + uptoBulkAll r
def uptoBulkEntries {H : Type} : List (Lit × DataW H) → Nat
  | [] => 0
  | x :: r => uptoBulkEntry x + uptoBulkEntries r
def uptoBulkEntry {H : Type} : Lit × DataW H → Nat
  | (.string bytes, d) => bytes.length + uptoBulk d + 1
  | (_, d) => uptoBulk d + 1
 end
def uptoSmall : (H : Type) → List (DataW H) → Bool := fun _ ds => decide (uptoBulkAll ds ≤ 1048576)
def OpenSpec.upto (s : _root_.Go.ChangeSpec) : _root_.Go.OpenSpec := { _root_.Go.OpenSpec.ofChange s with cond := some uptoSmall }

/-- 'headgatelaw18.ProutReads', WHERE WHAT IT READS IS OF BULK AT MOST 1048576: true; the input reads as it did. -/
def proutReadsUptoRow : OpenClaim := { program := "ytpjcipadjegmlaadoor", sum := "2b4337d760c82dc96d81e5854b2d0014f3fc623eb57f803322cc0dcaba88a2a9", func := "headgate/headgatelaw18.ProutReads", spec := "proutReads", unfollowed := true, recurses := true, named := ["headgate/cdb.numbers"], apart := false, laid := [("headgate/cdb.numbers", laid_headgate_cdb_numbers)], narrowed := true }
def ProutReadsUptoSaid : Prop := proutReadsUptoRow.holds Tryd.pinned (OpenSpec.upto proutReadsSpec)

/-- 'headgatelaw15.CdbParses', WHERE WHAT IT READS IS OF BULK AT MOST 1048576: true; the input reads as it did. -/
def cdbParsesUptoRow : OpenClaim := { program := "ytpjcipadjegmlaadoor", sum := "2b4337d760c82dc96d81e5854b2d0014f3fc623eb57f803322cc0dcaba88a2a9", func := "headgate/headgatelaw15.CdbParses", spec := "cdbParses", unfollowed := true, recurses := true, named := ["headgate/cdb.forms", "headgate/cdb.numbers"], apart := false, laid := [("headgate/cdb.forms", laid_headgate_cdb_forms), ("headgate/cdb.numbers", laid_headgate_cdb_numbers)], narrowed := true }
def CdbParsesUptoSaid : Prop := cdbParsesUptoRow.holds Tryd.pinned (OpenSpec.upto cdbParsesSpec)

/-- 'headgatelaw15.CdbBuilds', WHERE WHAT IT READS IS OF BULK AT MOST 1048576: true; the input reads as it did. -/
def cdbBuildsUptoRow : OpenClaim := { program := "ytpjcipadjegmlaadoor", sum := "2b4337d760c82dc96d81e5854b2d0014f3fc623eb57f803322cc0dcaba88a2a9", func := "headgate/headgatelaw15.CdbBuilds", spec := "cdbBuilds", unfollowed := true, recurses := true, named := ["headgate/cdb.forms", "headgate/cdb.numbers"], apart := false, laid := [("headgate/cdb.forms", laid_headgate_cdb_forms), ("headgate/cdb.numbers", laid_headgate_cdb_numbers)], narrowed := true }
def CdbBuildsUptoSaid : Prop := cdbBuildsUptoRow.holds Tryd.pinned (OpenSpec.upto cdbBuildsSpec)

/-- 'headgatelaw15.CdbBack', WHERE WHAT IT READS IS OF BULK AT MOST 1048576: true; the input reads as it did. -/
def cdbBackUptoRow : OpenClaim := { program := "ytpjcipadjegmlaadoor", sum := "2b4337d760c82dc96d81e5854b2d0014f3fc623eb57f803322cc0dcaba88a2a9", func := "headgate/headgatelaw15.CdbBack", spec := "cdbBack", unfollowed := true, recurses := true, named := ["headgate/cdb.forms", "headgate/cdb.numbers"], apart := false, laid := [("headgate/cdb.forms", laid_headgate_cdb_forms), ("headgate/cdb.numbers", laid_headgate_cdb_numbers)], narrowed := true }
def CdbBackUptoSaid : Prop := cdbBackUptoRow.holds Tryd.pinned (OpenSpec.upto cdbBackSpec)

/-- 'headgatelaw15.CdbShort', WHERE WHAT IT READS IS OF BULK AT MOST 1048576: true; the input reads as it did. -/
def cdbShortUptoRow : OpenClaim := { program := "ytpjcipadjegmlaadoor", sum := "2b4337d760c82dc96d81e5854b2d0014f3fc623eb57f803322cc0dcaba88a2a9", func := "headgate/headgatelaw15.CdbShort", spec := "cdbShort", unfollowed := true, recurses := true, named := ["headgate/cdb.forms", "headgate/cdb.numbers"], apart := false, laid := [("headgate/cdb.forms", laid_headgate_cdb_forms), ("headgate/cdb.numbers", laid_headgate_cdb_numbers)], narrowed := true }
def CdbShortUptoSaid : Prop := cdbShortUptoRow.holds Tryd.pinned (OpenSpec.upto cdbShortSpec)

/-- 'headgatelaw15.CdbForms', WHERE WHAT IT READS IS OF BULK AT MOST 1048576: true; the input reads as it did. -/
def cdbFormsUptoRow : OpenClaim := { program := "ytpjcipadjegmlaadoor", sum := "2b4337d760c82dc96d81e5854b2d0014f3fc623eb57f803322cc0dcaba88a2a9", func := "headgate/headgatelaw15.CdbForms", spec := "cdbForms", unfollowed := true, recurses := true, named := ["headgate/cdb.forms", "headgate/cdb.numbers"], apart := false, laid := [("headgate/cdb.forms", laid_headgate_cdb_forms), ("headgate/cdb.numbers", laid_headgate_cdb_numbers)], narrowed := true }
def CdbFormsUptoSaid : Prop := cdbFormsUptoRow.holds Tryd.pinned (OpenSpec.upto cdbFormsSpec)

end Rows
end Go.Proofs.YtpjcipadjegmlaaDoor
