/-
  No cell of these rows narrows 'for every input' (looked for: loops, veiled, ifaces, maps, wideKeys, modest, calm, conditions, laid).
  DERIVED. THE GIVEN ROWS OF THIS SEAT. 5 by the template 'for every input the law returns true; each argument reads behind the call as it read before'; 0 by the template 'total and deterministic' (their statements: YtccmdlbdpapigaaTotals.lean).
  GIVEN WITH THE SEED: the statements are not yours to turn. If you find one false, say at which input.
  Laid BY PROGRAM, IN A SANDBOX (cutbox-rows.mjs): the forced cells as the released guide's own fill.sh prints them over the translation 944670c91ef42a3e… (all of the seat's roots in one cut). By AI agents, Wed Nov 11 2026. No macro, syntax, notation, axiom, sorry.
-/
import Derived.Test.YtccmdlbdpapigaaChecked
import GoSem.Claim
import GoSem.ClaimJoined
import GoSem.ClaimMapViews
import Derived.JoinedTies
import Derived.KernelRfl
namespace Go.Proofs.Ytccmdlbdpapigaa
/- THE CELL 'sum', in the pinned program and in every row, IS THE sha256 OF THE DUMP (.gsa) THAT YtccmdlbdpapigaaProg.lean LOADS. Nothing in Lean hashes anything: it is a label: what it is worth is what the hold of that sum in a sandbox is worth. -/
noncomputable def Try.pinned : Pinned := { name := "ytccmdlbdpapigaa", sum := "944670c91ef42a3e16e4f200d49d8e5f3b495fa17fb33fe0e8d80a13009c9ec1", checked := Try.checked }
namespace Rows
def none {H : Type} : Left H := { results := [], args := [] }

/-- 'headgatelaw17.InquiryPages': WHATEVER THE INPUT: true; the input reads as it did. -/
def inquiryPagesSpec : ChangeSpec := { name := "inquiryPages", fn := fun _ => fun
  | [d1, d2, d3] => { results := [.lit (.bool true)], args := [d1, d2, d3] }
  | _ => none }
def inquiryPagesRow : OpenClaim := { program := "ytccmdlbdpapigaa", sum := "944670c91ef42a3e16e4f200d49d8e5f3b495fa17fb33fe0e8d80a13009c9ec1", func := "headgate/headgatelaw17.InquiryPages", spec := "inquiryPages", inPlace := ["internal/abi.NoEscape", "internal/bytealg.MakeNoZero"], apart := false }
def InquiryPagesSaid : Prop := inquiryPagesRow.holds Try.pinned (OpenSpec.ofChange inquiryPagesSpec)

/-- ITS FALSE NEIGHBOUR: 'it returns false'. Refute it at one input. -/
def inquiryPagesWrong : ChangeSpec := { name := "inquiryPages", fn := fun _ => fun
  | [d1, d2, d3] => { results := [.lit (.bool false)], args := [d1, d2, d3] }
  | _ => none }
def InquiryPagesWrongFalsely : Prop := inquiryPagesRow.holds Try.pinned (OpenSpec.ofChange inquiryPagesWrong)

/-- 'headgatelaw17.InquiryLists': WHATEVER THE INPUT: true; the input reads as it did. -/
def inquiryListsSpec : ChangeSpec := { name := "inquiryLists", fn := fun _ => fun
  | [d1, d2] => { results := [.lit (.bool true)], args := [d1, d2] }
  | _ => none }
def inquiryListsRow : OpenClaim := { program := "ytccmdlbdpapigaa", sum := "944670c91ef42a3e16e4f200d49d8e5f3b495fa17fb33fe0e8d80a13009c9ec1", func := "headgate/headgatelaw17.InquiryLists", spec := "inquiryLists", inPlace := ["internal/abi.NoEscape", "internal/bytealg.MakeNoZero"], apart := false }
def InquiryListsSaid : Prop := inquiryListsRow.holds Try.pinned (OpenSpec.ofChange inquiryListsSpec)

/-- ITS FALSE NEIGHBOUR: 'it returns false'. Refute it at one input. -/
def inquiryListsWrong : ChangeSpec := { name := "inquiryLists", fn := fun _ => fun
  | [d1, d2] => { results := [.lit (.bool false)], args := [d1, d2] }
  | _ => none }
def InquiryListsWrongFalsely : Prop := inquiryListsRow.holds Try.pinned (OpenSpec.ofChange inquiryListsWrong)

/-- 'headgatelaw17.InquiryReads': WHATEVER THE INPUT: true; the input reads as it did. -/
def inquiryReadsSpec : ChangeSpec := { name := "inquiryReads", fn := fun _ => fun
  | [d1, d2] => { results := [.lit (.bool true)], args := [d1, d2] }
  | _ => none }
def inquiryReadsRow : OpenClaim := { program := "ytccmdlbdpapigaa", sum := "944670c91ef42a3e16e4f200d49d8e5f3b495fa17fb33fe0e8d80a13009c9ec1", func := "headgate/headgatelaw17.InquiryReads", spec := "inquiryReads", inPlace := ["internal/abi.NoEscape", "internal/bytealg.MakeNoZero"], apart := false }
def InquiryReadsSaid : Prop := inquiryReadsRow.holds Try.pinned (OpenSpec.ofChange inquiryReadsSpec)

/-- ITS FALSE NEIGHBOUR: 'it returns false'. Refute it at one input. -/
def inquiryReadsWrong : ChangeSpec := { name := "inquiryReads", fn := fun _ => fun
  | [d1, d2] => { results := [.lit (.bool false)], args := [d1, d2] }
  | _ => none }
def InquiryReadsWrongFalsely : Prop := inquiryReadsRow.holds Try.pinned (OpenSpec.ofChange inquiryReadsWrong)

/-- 'headgatelaw17.InquiryRanges': WHATEVER THE INPUT: true; the input reads as it did. -/
def inquiryRangesSpec : ChangeSpec := { name := "inquiryRanges", fn := fun _ => fun
  | [d1, d2] => { results := [.lit (.bool true)], args := [d1, d2] }
  | _ => none }
def inquiryRangesRow : OpenClaim := { program := "ytccmdlbdpapigaa", sum := "944670c91ef42a3e16e4f200d49d8e5f3b495fa17fb33fe0e8d80a13009c9ec1", func := "headgate/headgatelaw17.InquiryRanges", spec := "inquiryRanges", inPlace := ["internal/abi.NoEscape", "internal/bytealg.MakeNoZero"], apart := false }
def InquiryRangesSaid : Prop := inquiryRangesRow.holds Try.pinned (OpenSpec.ofChange inquiryRangesSpec)

/-- ITS FALSE NEIGHBOUR: 'it returns false'. Refute it at one input. -/
def inquiryRangesWrong : ChangeSpec := { name := "inquiryRanges", fn := fun _ => fun
  | [d1, d2] => { results := [.lit (.bool false)], args := [d1, d2] }
  | _ => none }
def InquiryRangesWrongFalsely : Prop := inquiryRangesRow.holds Try.pinned (OpenSpec.ofChange inquiryRangesWrong)

/-- 'headgatelaw17.InquiryBack': WHATEVER THE INPUT: true; the input reads as it did. -/
def inquiryBackSpec : ChangeSpec := { name := "inquiryBack", fn := fun _ => fun
  | [d1, d2] => { results := [.lit (.bool true)], args := [d1, d2] }
  | _ => none }
def inquiryBackRow : OpenClaim := { program := "ytccmdlbdpapigaa", sum := "944670c91ef42a3e16e4f200d49d8e5f3b495fa17fb33fe0e8d80a13009c9ec1", func := "headgate/headgatelaw17.InquiryBack", spec := "inquiryBack", inPlace := ["internal/abi.NoEscape", "internal/bytealg.MakeNoZero"], apart := false }
def InquiryBackSaid : Prop := inquiryBackRow.holds Try.pinned (OpenSpec.ofChange inquiryBackSpec)

/-- ITS FALSE NEIGHBOUR: 'it returns false'. Refute it at one input. -/
def inquiryBackWrong : ChangeSpec := { name := "inquiryBack", fn := fun _ => fun
  | [d1, d2] => { results := [.lit (.bool false)], args := [d1, d2] }
  | _ => none }
def InquiryBackWrongFalsely : Prop := inquiryBackRow.holds Try.pinned (OpenSpec.ofChange inquiryBackWrong)

/- THE SECOND FORM. 'bulk': how many values and letters a reading holds, each counted each time it is reached (what is shared counts as often as it is met; a slice's spare places count too). A statement '..UptoSaid' is the law's where the arguments, and the package variables that the reading takes, are together of bulk at most 1048576: NARROWER than '..Said'. Prove '..Said' where nothing that the law and all that it calls make is longer than what came in: it says more and counts as full. Else prove '..UptoSaid'. A law counts once. -/
mutual
def uptoBulk {H : Type} : DataW H → Nat
  | .lit (.string bytes) => bytes.length + 1
  | .lit _ => 1
  | .nil => 1
  | .ptr d => uptoBulk d + 1
  | .slice elems spare => uptoBulkAll elems + uptoBulkAll spare + 1
  | .agg parts => uptoBulkAll parts + 1
  | .iface _ d => uptoBulk d + 1
  | .map entries => uptoBulkEntries entries + 1
  | .held _ => 1
def uptoBulkAll {H : Type} : List (DataW H) → Nat
  | [] => 0
  | d :: r => uptoBulk d + uptoBulkAll r
def uptoBulkEntries {H : Type} : List (Lit × DataW H) → Nat
  | [] => 0
  | x :: r => uptoBulkEntry x + uptoBulkEntries r
def uptoBulkEntry {H : Type} : Lit × DataW H → Nat
  | (.string bytes, d) => bytes.length + uptoBulk d + 1
  | (_, d) => uptoBulk d + 1
 end
def uptoSmall : (H : Type) → List (DataW H) → Bool := fun _ ds => decide (uptoBulkAll ds ≤ 1048576)
def OpenSpec.upto (s : _root_.Go.ChangeSpec) : _root_.Go.OpenSpec := { _root_.Go.OpenSpec.ofChange s with cond := some uptoSmall }

/-- 'headgatelaw17.InquiryPages', WHERE WHAT IT READS IS OF BULK AT MOST 1048576: true; the input reads as it did. -/
def inquiryPagesUptoRow : OpenClaim := { program := "ytccmdlbdpapigaa", sum := "944670c91ef42a3e16e4f200d49d8e5f3b495fa17fb33fe0e8d80a13009c9ec1", func := "headgate/headgatelaw17.InquiryPages", spec := "inquiryPages", inPlace := ["internal/abi.NoEscape", "internal/bytealg.MakeNoZero"], apart := false, narrowed := true }
def InquiryPagesUptoSaid : Prop := inquiryPagesUptoRow.holds Try.pinned (OpenSpec.upto inquiryPagesSpec)

/-- 'headgatelaw17.InquiryLists', WHERE WHAT IT READS IS OF BULK AT MOST 1048576: true; the input reads as it did. -/
def inquiryListsUptoRow : OpenClaim := { program := "ytccmdlbdpapigaa", sum := "944670c91ef42a3e16e4f200d49d8e5f3b495fa17fb33fe0e8d80a13009c9ec1", func := "headgate/headgatelaw17.InquiryLists", spec := "inquiryLists", inPlace := ["internal/abi.NoEscape", "internal/bytealg.MakeNoZero"], apart := false, narrowed := true }
def InquiryListsUptoSaid : Prop := inquiryListsUptoRow.holds Try.pinned (OpenSpec.upto inquiryListsSpec)

/-- 'headgatelaw17.InquiryReads', WHERE WHAT IT READS IS OF BULK AT MOST 1048576: true; the input reads as it did. -/
def inquiryReadsUptoRow : OpenClaim := { program := "ytccmdlbdpapigaa", sum := "944670c91ef42a3e16e4f200d49d8e5f3b495fa17fb33fe0e8d80a13009c9ec1", func := "headgate/headgatelaw17.InquiryReads", spec := "inquiryReads", inPlace := ["internal/abi.NoEscape", "internal/bytealg.MakeNoZero"], apart := false, narrowed := true }
def InquiryReadsUptoSaid : Prop := inquiryReadsUptoRow.holds Try.pinned (OpenSpec.upto inquiryReadsSpec)

/-- 'headgatelaw17.InquiryRanges', WHERE WHAT IT READS IS OF BULK AT MOST 1048576: true; the input reads as it did. -/
def inquiryRangesUptoRow : OpenClaim := { program := "ytccmdlbdpapigaa", sum := "944670c91ef42a3e16e4f200d49d8e5f3b495fa17fb33fe0e8d80a13009c9ec1", func := "headgate/headgatelaw17.InquiryRanges", spec := "inquiryRanges", inPlace := ["internal/abi.NoEscape", "internal/bytealg.MakeNoZero"], apart := false, narrowed := true }
def InquiryRangesUptoSaid : Prop := inquiryRangesUptoRow.holds Try.pinned (OpenSpec.upto inquiryRangesSpec)

/-- 'headgatelaw17.InquiryBack', WHERE WHAT IT READS IS OF BULK AT MOST 1048576: true; the input reads as it did. -/
def inquiryBackUptoRow : OpenClaim := { program := "ytccmdlbdpapigaa", sum := "944670c91ef42a3e16e4f200d49d8e5f3b495fa17fb33fe0e8d80a13009c9ec1", func := "headgate/headgatelaw17.InquiryBack", spec := "inquiryBack", inPlace := ["internal/abi.NoEscape", "internal/bytealg.MakeNoZero"], apart := false, narrowed := true }
def InquiryBackUptoSaid : Prop := inquiryBackUptoRow.holds Try.pinned (OpenSpec.upto inquiryBackSpec)

end Rows
end Go.Proofs.Ytccmdlbdpapigaa
