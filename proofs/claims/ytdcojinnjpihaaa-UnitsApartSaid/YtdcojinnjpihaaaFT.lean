/- The struct types of the functions, as Lean structures. No condition. -/
import Derived.Test.YtdcojinnjpihaaaXTail
import Derived.Test.YtdcojinnjpihaaaProg
namespace Go.Proofs.Ytdcojinnjpihaaa.F
open Go Go.RowKit Go.Proofs.Ytdcojinnjpihaaa.X
set_option linter.unusedVariables false
set_option linter.unusedSimpArgs false
structure T_headgatelaw13_Step where
  f0 : Int
  f1 : Int
  f2 : ByteArray
  f3 : Int

def T_headgatelaw13_Step.z : T_headgatelaw13_Step := ⟨0, 0, ⟨#[]⟩, 0⟩
def T_headgatelaw13_Step.enc (x : T_headgatelaw13_Step) : List Value := [.int .i64 x.f0, .int .i64 x.f1, .string x.f2, .int .i64 x.f3]
structure T_headgatelaw13_Step.ok (x : T_headgatelaw13_Step) : Prop where
  f0 : (-9223372036854775808) ≤ x.f0 ∧ x.f0 ≤ 9223372036854775807
  f1 : (-9223372036854775808) ≤ x.f1 ∧ x.f1 ≤ 9223372036854775807
  f2 : x.f2.size ≤ 140737488351232
  f3 : (-9223372036854775808) ≤ x.f3 ∧ x.f3 ≤ 9223372036854775807
structure T_headgateref13_wait where
  f0 : Int
  f1 : ByteArray
  f2 : List Int

structure T_headgateref13_wait.ok (x : T_headgateref13_wait) : Prop where
  f0 : (-9223372036854775808) ≤ x.f0 ∧ x.f0 ≤ 9223372036854775807
  f1 : x.f1.size ≤ 140737488351232
  f2 : x.f2.length * 8 ≤ 140737488351232 ∧ ∀ y ∈ x.f2, (-9223372036854775808) ≤ y ∧ y ≤ 9223372036854775807

end Go.Proofs.Ytdcojinnjpihaaa.F
