/- The struct types of the functions, as Lean structures. No condition. -/
import Derived.Test.YtccmdlbdpapigaaXLate
import Derived.Test.YtccmdlbdpapigaaProg
namespace Go.Proofs.Ytccmdlbdpapigaa.F
open Go Go.RowKit Go.Proofs.Ytccmdlbdpapigaa.X
set_option linter.unusedVariables false
set_option linter.unusedSimpArgs false
structure T_api_Unit where
  f0 : Int
  f1 : ByteArray

def T_api_Unit.z : T_api_Unit := ⟨0, ⟨#[]⟩⟩
def T_api_Unit.enc (x : T_api_Unit) : List Value := [.int .i64 x.f0, .string x.f1]
structure T_api_Unit.ok (x : T_api_Unit) : Prop where
  f0 : (-9223372036854775808) ≤ x.f0 ∧ x.f0 ≤ 9223372036854775807
  f1 : x.f1.size ≤ 140737488351232
structure T_api_Range where
  f0 : Int
  f1 : Int

def T_api_Range.z : T_api_Range := ⟨0, 0⟩
def T_api_Range.enc (x : T_api_Range) : List Value := [.int .i64 x.f0, .int .i64 x.f1]
structure T_api_Range.ok (x : T_api_Range) : Prop where
  f0 : (-9223372036854775808) ≤ x.f0 ∧ x.f0 ≤ 9223372036854775807
  f1 : (-9223372036854775808) ≤ x.f1 ∧ x.f1 ≤ 9223372036854775807

end Go.Proofs.Ytccmdlbdpapigaa.F
