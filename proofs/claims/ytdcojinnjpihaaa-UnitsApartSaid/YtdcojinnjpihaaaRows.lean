/-
  No cell of these rows narrows 'for every input' (looked for: loops, veiled, ifaces, maps, wideKeys, modest, calm, conditions, laid).
  DERIVED. THE GIVEN ROWS OF THIS SEAT. 4 by the template 'for every input the law returns true; each argument reads behind the call as it read before'; 0 by the template 'total and deterministic' (their statements: YtdcojinnjpihaaaTotals.lean).
  GIVEN WITH THE SEED: the statements are not yours to turn. If you find one false, say at which input.
  Laid BY PROGRAM, IN A SANDBOX (cutbox-rows.mjs): the forced cells as the released guide's own fill.sh prints them over the translation 5a41632599b0388a… (all of the seat's roots in one cut). By AI agents, Wed Nov 11 2026. No macro, syntax, notation, axiom, sorry.
-/
import Derived.Test.YtdcojinnjpihaaaChecked
import GoSem.Claim
import GoSem.ClaimJoined
import GoSem.ClaimMapViews
import Derived.JoinedTies
import Derived.KernelRfl
namespace Go.Proofs.Ytdcojinnjpihaaa
/- THE CELL 'sum', in the pinned program and in every row, IS THE sha256 OF THE DUMP (.gsa) THAT YtdcojinnjpihaaaProg.lean LOADS. Nothing in Lean hashes anything: it is a label: what it is worth is what the hold of that sum in a sandbox is worth. -/
noncomputable def Try.pinned : Pinned := { name := "ytdcojinnjpihaaa", sum := "5a41632599b0388a65ffd0377647af2694efb9d8ed60c0b606489709239b2546", checked := Try.checked }
namespace Rows
def none {H : Type} : Left H := { results := [], args := [] }

/-- 'headgatelaw13.UnitsApart': WHATEVER THE INPUT: true; the input reads as it did. -/
def unitsApartSpec : ChangeSpec := { name := "unitsApart", fn := fun _ => fun
  | [d1, d2] => { results := [.lit (.bool true)], args := [d1, d2] }
  | _ => none }
def unitsApartRow : OpenClaim := { program := "ytdcojinnjpihaaa", sum := "5a41632599b0388a65ffd0377647af2694efb9d8ed60c0b606489709239b2546", func := "headgate/headgatelaw13.UnitsApart", spec := "unitsApart", plainKeys := false, apart := false }
def UnitsApartSaid : Prop := unitsApartRow.holds Try.pinned (OpenSpec.ofChange unitsApartSpec)

/-- ITS FALSE NEIGHBOUR: 'it returns false'. Refute it at one input. -/
def unitsApartWrong : ChangeSpec := { name := "unitsApart", fn := fun _ => fun
  | [d1, d2] => { results := [.lit (.bool false)], args := [d1, d2] }
  | _ => none }
def UnitsApartWrongFalsely : Prop := unitsApartRow.holds Try.pinned (OpenSpec.ofChange unitsApartWrong)

/-- 'headgatelaw13.UnitsOrder': WHATEVER THE INPUT: true; the input reads as it did. -/
def unitsOrderSpec : ChangeSpec := { name := "unitsOrder", fn := fun _ => fun
  | [d1, d2, d3] => { results := [.lit (.bool true)], args := [d1, d2, d3] }
  | _ => none }
def unitsOrderRow : OpenClaim := { program := "ytdcojinnjpihaaa", sum := "5a41632599b0388a65ffd0377647af2694efb9d8ed60c0b606489709239b2546", func := "headgate/headgatelaw13.UnitsOrder", spec := "unitsOrder", recurses := true, plainKeys := false, apart := false }
def UnitsOrderSaid : Prop := unitsOrderRow.holds Try.pinned (OpenSpec.ofChange unitsOrderSpec)

/-- ITS FALSE NEIGHBOUR: 'it returns false'. Refute it at one input. -/
def unitsOrderWrong : ChangeSpec := { name := "unitsOrder", fn := fun _ => fun
  | [d1, d2, d3] => { results := [.lit (.bool false)], args := [d1, d2, d3] }
  | _ => none }
def UnitsOrderWrongFalsely : Prop := unitsOrderRow.holds Try.pinned (OpenSpec.ofChange unitsOrderWrong)

/-- 'headgatelaw13.UnitsPlays': WHATEVER THE INPUT: true; the input reads as it did. -/
def unitsPlaysSpec : ChangeSpec := { name := "unitsPlays", fn := fun _ => fun
  | [d] => { results := [.lit (.bool true)], args := [d] }
  | _ => none }
def unitsPlaysRow : OpenClaim := { program := "ytdcojinnjpihaaa", sum := "5a41632599b0388a65ffd0377647af2694efb9d8ed60c0b606489709239b2546", func := "headgate/headgatelaw13.UnitsPlays", spec := "unitsPlays", recurses := true, plainKeys := false, apart := false }
def UnitsPlaysSaid : Prop := unitsPlaysRow.holds Try.pinned (OpenSpec.ofChange unitsPlaysSpec)

/-- ITS FALSE NEIGHBOUR: 'it returns false'. Refute it at one input. -/
def unitsPlaysWrong : ChangeSpec := { name := "unitsPlays", fn := fun _ => fun
  | [d] => { results := [.lit (.bool false)], args := [d] }
  | _ => none }
def UnitsPlaysWrongFalsely : Prop := unitsPlaysRow.holds Try.pinned (OpenSpec.ofChange unitsPlaysWrong)

/-- 'headgatelaw13.UnitsNone': WHATEVER THE INPUT: true; the input reads as it did. -/
def unitsNoneSpec : ChangeSpec := { name := "unitsNone", fn := fun _ => fun
  | [d1, d2] => { results := [.lit (.bool true)], args := [d1, d2] }
  | _ => none }
def unitsNoneRow : OpenClaim := { program := "ytdcojinnjpihaaa", sum := "5a41632599b0388a65ffd0377647af2694efb9d8ed60c0b606489709239b2546", func := "headgate/headgatelaw13.UnitsNone", spec := "unitsNone", recurses := true, plainKeys := false, apart := false }
def UnitsNoneSaid : Prop := unitsNoneRow.holds Try.pinned (OpenSpec.ofChange unitsNoneSpec)

/-- ITS FALSE NEIGHBOUR: 'it returns false'. Refute it at one input. -/
def unitsNoneWrong : ChangeSpec := { name := "unitsNone", fn := fun _ => fun
  | [d1, d2] => { results := [.lit (.bool false)], args := [d1, d2] }
  | _ => none }
def UnitsNoneWrongFalsely : Prop := unitsNoneRow.holds Try.pinned (OpenSpec.ofChange unitsNoneWrong)

/- THE SECOND FORM. 'bulk': how many values and letters a reading holds, each counted each time it is reached (what is shared counts as often as it is met; a slice's spare places count too). A statement '..UptoSaid' is the law's where the arguments, and the package variables that the reading takes, are together of bulk at most 1048576: NARROWER than '..Said'. Prove '..Said' where nothing that the law and all that it calls make is longer than what came in: it says more and counts as full. Else prove '..UptoSaid'. A law counts once. -/
mutual
def uptoBulk {H : Type} : DataW H → Nat
  | .lit (.string bytes) => bytes.length + 1
  | .lit _ => 1
  | .nil => 1
  | .ptr d => uptoBulk d + 1
  | .slice elems spare => uptoBulkAll elems + uptoBulkAll spare + 1
  | .agg parts => uptoBulkAll parts + 1
  | .iface _ d => uptoBulk d + 1
  | .map entries => uptoBulkEntries entries + 1
  | .held _ => 1
def uptoBulkAll {H : Type} : List (DataW H) → Nat
  | [] => 0
  | d :: r => uptoBulk d + uptoBulkAll r
def uptoBulkEntries {H : Type} : List (Lit × DataW H) → Nat
  | [] => 0
  | x :: r => uptoBulkEntry x + uptoBulkEntries r
def uptoBulkEntry {H : Type} : Lit × DataW H → Nat
  | (.string bytes, d) => bytes.length + uptoBulk d + 1
  | (_, d) => uptoBulk d + 1
 end
def uptoSmall : (H : Type) → List (DataW H) → Bool := fun _ ds => decide (uptoBulkAll ds ≤ 1048576)
def OpenSpec.upto (s : _root_.Go.ChangeSpec) : _root_.Go.OpenSpec := { _root_.Go.OpenSpec.ofChange s with cond := some uptoSmall }

/-- 'headgatelaw13.UnitsApart', WHERE WHAT IT READS IS OF BULK AT MOST 1048576: true; the input reads as it did. -/
def unitsApartUptoRow : OpenClaim := { program := "ytdcojinnjpihaaa", sum := "5a41632599b0388a65ffd0377647af2694efb9d8ed60c0b606489709239b2546", func := "headgate/headgatelaw13.UnitsApart", spec := "unitsApart", plainKeys := false, apart := false, narrowed := true }
def UnitsApartUptoSaid : Prop := unitsApartUptoRow.holds Try.pinned (OpenSpec.upto unitsApartSpec)

/-- 'headgatelaw13.UnitsOrder', WHERE WHAT IT READS IS OF BULK AT MOST 1048576: true; the input reads as it did. -/
def unitsOrderUptoRow : OpenClaim := { program := "ytdcojinnjpihaaa", sum := "5a41632599b0388a65ffd0377647af2694efb9d8ed60c0b606489709239b2546", func := "headgate/headgatelaw13.UnitsOrder", spec := "unitsOrder", recurses := true, plainKeys := false, apart := false, narrowed := true }
def UnitsOrderUptoSaid : Prop := unitsOrderUptoRow.holds Try.pinned (OpenSpec.upto unitsOrderSpec)

/-- 'headgatelaw13.UnitsPlays', WHERE WHAT IT READS IS OF BULK AT MOST 1048576: true; the input reads as it did. -/
def unitsPlaysUptoRow : OpenClaim := { program := "ytdcojinnjpihaaa", sum := "5a41632599b0388a65ffd0377647af2694efb9d8ed60c0b606489709239b2546", func := "headgate/headgatelaw13.UnitsPlays", spec := "unitsPlays", recurses := true, plainKeys := false, apart := false, narrowed := true }
def UnitsPlaysUptoSaid : Prop := unitsPlaysUptoRow.holds Try.pinned (OpenSpec.upto unitsPlaysSpec)

/-- 'headgatelaw13.UnitsNone', WHERE WHAT IT READS IS OF BULK AT MOST 1048576: true; the input reads as it did. -/
def unitsNoneUptoRow : OpenClaim := { program := "ytdcojinnjpihaaa", sum := "5a41632599b0388a65ffd0377647af2694efb9d8ed60c0b606489709239b2546", func := "headgate/headgatelaw13.UnitsNone", spec := "unitsNone", recurses := true, plainKeys := false, apart := false, narrowed := true }
def UnitsNoneUptoSaid : Prop := unitsNoneUptoRow.holds Try.pinned (OpenSpec.upto unitsNoneSpec)

end Rows
end Go.Proofs.Ytdcojinnjpihaaa
