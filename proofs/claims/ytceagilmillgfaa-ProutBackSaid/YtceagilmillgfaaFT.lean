/- The struct types of the functions, as Lean structures. No condition. -/
import Derived.Test.YtceagilmillgfaaXDraw
import Derived.Test.YtceagilmillgfaaProg
namespace Go.Proofs.Ytceagilmillgfaa.F
open Go Go.RowKit Go.Proofs.Ytceagilmillgfaa.X
set_option linter.unusedVariables false
set_option linter.unusedSimpArgs false
structure T_api_Range where
  f0 : Int
  f1 : Int

def T_api_Range.z : T_api_Range := ⟨0, 0⟩
def T_api_Range.enc (x : T_api_Range) : List Value := [.int .i64 x.f0, .int .i64 x.f1]
structure T_api_Range.ok (x : T_api_Range) : Prop where
  f0 : (-9223372036854775808) ≤ x.f0 ∧ x.f0 ≤ 9223372036854775807
  f1 : (-9223372036854775808) ≤ x.f1 ∧ x.f1 ≤ 9223372036854775807
structure T_api_Cmd where
  f0 : Int
  f1 : Int
  f2 : ByteArray
  f3 : Int
  f4 : Int
  f5 : ByteArray
  f6 : Bool
  f7 : List T_api_Range
  f8 : Int
  f9 : Int
  f10 : Int
  f11 : Int
  f12 : Bool
  f13 : Int

structure T_api_Cmd.ok (x : T_api_Cmd) : Prop where
  f0 : (-9223372036854775808) ≤ x.f0 ∧ x.f0 ≤ 9223372036854775807
  f1 : (-9223372036854775808) ≤ x.f1 ∧ x.f1 ≤ 9223372036854775807
  f2 : x.f2.size ≤ 140737488351232
  f3 : (-9223372036854775808) ≤ x.f3 ∧ x.f3 ≤ 9223372036854775807
  f4 : (-9223372036854775808) ≤ x.f4 ∧ x.f4 ≤ 9223372036854775807
  f5 : x.f5.size ≤ 140737488351232
  f6 : True
  f7 : x.f7.length * 16 ≤ 140737488351232 ∧ ∀ y ∈ x.f7, y.ok
  f8 : 0 ≤ x.f8 ∧ x.f8 ≤ 18446744073709551615
  f9 : 0 ≤ x.f9 ∧ x.f9 ≤ 18446744073709551615
  f10 : 0 ≤ x.f10 ∧ x.f10 ≤ 18446744073709551615
  f11 : (-9223372036854775808) ≤ x.f11 ∧ x.f11 ≤ 9223372036854775807
  f12 : True
  f13 : (-9223372036854775808) ≤ x.f13 ∧ x.f13 ≤ 9223372036854775807
structure T_arr7_3 where
  f0 : Int
  f1 : Int
  f2 : Int
  f3 : Int
  f4 : Int
  f5 : Int
  f6 : Int

def T_arr7_3.z : T_arr7_3 := ⟨0, 0, 0, 0, 0, 0, 0⟩
def T_arr7_3.enc (x : T_arr7_3) : List Value := [.int .i64 x.f0, .int .i64 x.f1, .int .i64 x.f2, .int .i64 x.f3, .int .i64 x.f4, .int .i64 x.f5, .int .i64 x.f6]
structure T_arr7_3.ok (x : T_arr7_3) : Prop where
  f0 : (-9223372036854775808) ≤ x.f0 ∧ x.f0 ≤ 9223372036854775807
  f1 : (-9223372036854775808) ≤ x.f1 ∧ x.f1 ≤ 9223372036854775807
  f2 : (-9223372036854775808) ≤ x.f2 ∧ x.f2 ≤ 9223372036854775807
  f3 : (-9223372036854775808) ≤ x.f3 ∧ x.f3 ≤ 9223372036854775807
  f4 : (-9223372036854775808) ≤ x.f4 ∧ x.f4 ≤ 9223372036854775807
  f5 : (-9223372036854775808) ≤ x.f5 ∧ x.f5 ≤ 9223372036854775807
  f6 : (-9223372036854775808) ≤ x.f6 ∧ x.f6 ≤ 9223372036854775807
structure T_api_Reg where
  f0 : ByteArray
  f1 : Int

def T_api_Reg.z : T_api_Reg := ⟨⟨#[]⟩, 0⟩
def T_api_Reg.enc (x : T_api_Reg) : List Value := [.string x.f0, .int .u64 x.f1]
structure T_api_Reg.ok (x : T_api_Reg) : Prop where
  f0 : x.f0.size ≤ 140737488351232
  f1 : 0 ≤ x.f1 ∧ x.f1 ≤ 18446744073709551615
structure T_headgateref18_Listed where
  f0 : Int
  f1 : ByteArray

def T_headgateref18_Listed.z : T_headgateref18_Listed := ⟨0, ⟨#[]⟩⟩
def T_headgateref18_Listed.enc (x : T_headgateref18_Listed) : List Value := [.int .i64 x.f0, .string x.f1]
structure T_headgateref18_Listed.ok (x : T_headgateref18_Listed) : Prop where
  f0 : (-9223372036854775808) ≤ x.f0 ∧ x.f0 ≤ 9223372036854775807
  f1 : x.f1.size ≤ 140737488351232
structure T_arr2_3 where
  f0 : Int
  f1 : Int

def T_arr2_3.z : T_arr2_3 := ⟨0, 0⟩
def T_arr2_3.enc (x : T_arr2_3) : List Value := [.int .i64 x.f0, .int .i64 x.f1]
structure T_arr2_3.ok (x : T_arr2_3) : Prop where
  f0 : (-9223372036854775808) ≤ x.f0 ∧ x.f0 ≤ 9223372036854775807
  f1 : (-9223372036854775808) ≤ x.f1 ∧ x.f1 ≤ 9223372036854775807
end Go.Proofs.Ytceagilmillgfaa.F
