/- The struct types of the functions, as Lean structures. No condition. -/
import Derived.Test.YtljpkcaljnahfaaGreatDoorXTail
import Derived.Test.YtljpkcaljnahfaaGreatDoorProg
namespace Go.Proofs.YtljpkcaljnahfaaGreatDoor.F
open Go Go.RowKit Go.Proofs.YtljpkcaljnahfaaGreatDoor.X
set_option linter.unusedVariables false
set_option linter.unusedSimpArgs false
structure T_api_Unit where
  f0 : Int
  f1 : ByteArray

def T_api_Unit.z : T_api_Unit := ⟨0, ⟨#[]⟩⟩
def T_api_Unit.enc (x : T_api_Unit) : List Value := [.int .i64 x.f0, .string x.f1]
structure T_api_Unit.ok (x : T_api_Unit) : Prop where
  f0 : (-9223372036854775808) ≤ x.f0 ∧ x.f0 ≤ 9223372036854775807
  f1 : x.f1.size ≤ 140737488351232
structure T_api_Extent where
  f0 : Int
  f1 : Int
  f2 : Int

def T_api_Extent.z : T_api_Extent := ⟨0, 0, 0⟩
def T_api_Extent.enc (x : T_api_Extent) : List Value := [.int .i64 x.f0, .int .i64 x.f1, .int .i64 x.f2]
structure T_api_Extent.ok (x : T_api_Extent) : Prop where
  f0 : (-9223372036854775808) ≤ x.f0 ∧ x.f0 ≤ 9223372036854775807
  f1 : (-9223372036854775808) ≤ x.f1 ∧ x.f1 ≤ 9223372036854775807
  f2 : (-9223372036854775808) ≤ x.f2 ∧ x.f2 ≤ 9223372036854775807
structure T_api_Range where
  f0 : Int
  f1 : Int

def T_api_Range.z : T_api_Range := ⟨0, 0⟩
def T_api_Range.enc (x : T_api_Range) : List Value := [.int .i64 x.f0, .int .i64 x.f1]
structure T_api_Range.ok (x : T_api_Range) : Prop where
  f0 : (-9223372036854775808) ≤ x.f0 ∧ x.f0 ≤ 9223372036854775807
  f1 : (-9223372036854775808) ≤ x.f1 ∧ x.f1 ≤ 9223372036854775807
structure T_headgatelaw09_Step where
  f0 : Int
  f1 : Int
  f2 : Int
  f3 : Int
  f4 : Int
  f5 : ByteArray
  f6 : List T_api_Range

structure T_headgatelaw09_Step.ok (x : T_headgatelaw09_Step) : Prop where
  f0 : (-9223372036854775808) ≤ x.f0 ∧ x.f0 ≤ 9223372036854775807
  f1 : (-9223372036854775808) ≤ x.f1 ∧ x.f1 ≤ 9223372036854775807
  f2 : (-9223372036854775808) ≤ x.f2 ∧ x.f2 ≤ 9223372036854775807
  f3 : (-9223372036854775808) ≤ x.f3 ∧ x.f3 ≤ 9223372036854775807
  f4 : 0 ≤ x.f4 ∧ x.f4 ≤ 255
  f5 : x.f5.size ≤ 140737488351232
  f6 : x.f6.length * 16 ≤ 140737488351232 ∧ ∀ y ∈ x.f6, y.ok
structure T_cache_change where
  f0 : Int
  f1 : Int
  f2 : ByteArray
  f3 : List T_api_Range

structure T_cache_change.ok (x : T_cache_change) : Prop where
  f0 : (-9223372036854775808) ≤ x.f0 ∧ x.f0 ≤ 9223372036854775807
  f1 : (-9223372036854775808) ≤ x.f1 ∧ x.f1 ≤ 9223372036854775807
  f2 : x.f2.size ≤ 140737488351232
  f3 : x.f3.length * 16 ≤ 140737488351232 ∧ ∀ y ∈ x.f3, y.ok
structure T_headgateref09_change where
  f0 : Int
  f1 : Int
  f2 : ByteArray
  f3 : Int
  f4 : List T_api_Range
  f5 : Bool

structure T_headgateref09_change.ok (x : T_headgateref09_change) : Prop where
  f0 : (-9223372036854775808) ≤ x.f0 ∧ x.f0 ≤ 9223372036854775807
  f1 : (-9223372036854775808) ≤ x.f1 ∧ x.f1 ≤ 9223372036854775807
  f2 : x.f2.size ≤ 140737488351232
  f3 : (-9223372036854775808) ≤ x.f3 ∧ x.f3 ≤ 9223372036854775807
  f4 : x.f4.length * 16 ≤ 140737488351232 ∧ ∀ y ∈ x.f4, y.ok
  f5 : True
structure T_headgateref08_Unit where
  f0 : List ByteArray
  f1 : List Int
  f2 : ByteArray

structure T_headgateref08_Unit.ok (x : T_headgateref08_Unit) : Prop where
  f0 : x.f0.length * 16 ≤ 140737488351232 ∧ ∀ y ∈ x.f0, y.size ≤ 140737488351232
  f1 : x.f1.length * 8 ≤ 140737488351232 ∧ ∀ y ∈ x.f1, (-9223372036854775808) ≤ y ∧ y ≤ 9223372036854775807
  f2 : x.f2.size ≤ 140737488351232
structure T_arr2_3 where
  f0 : Int
  f1 : Int

def T_arr2_3.z : T_arr2_3 := ⟨0, 0⟩
def T_arr2_3.enc (x : T_arr2_3) : List Value := [.int .i64 x.f0, .int .i64 x.f1]
structure T_arr2_3.ok (x : T_arr2_3) : Prop where
  f0 : (-9223372036854775808) ≤ x.f0 ∧ x.f0 ≤ 9223372036854775807
  f1 : (-9223372036854775808) ≤ x.f1 ∧ x.f1 ≤ 9223372036854775807
structure T_arr2_5 where
  f0 : Int
  f1 : Int

def T_arr2_5.z : T_arr2_5 := ⟨0, 0⟩
def T_arr2_5.enc (x : T_arr2_5) : List Value := [.int .u8 x.f0, .int .u8 x.f1]
structure T_arr2_5.ok (x : T_arr2_5) : Prop where
  f0 : 0 ≤ x.f0 ∧ x.f0 ≤ 255
  f1 : 0 ≤ x.f1 ∧ x.f1 ≤ 255
structure T_headgatelaw08_Step where
  f0 : Int
  f1 : Int
  f2 : Int
  f3 : Int
  f4 : Int
  f5 : ByteArray
  f6 : List T_api_Range
  f7 : List Int

structure T_headgatelaw08_Step.ok (x : T_headgatelaw08_Step) : Prop where
  f0 : (-9223372036854775808) ≤ x.f0 ∧ x.f0 ≤ 9223372036854775807
  f1 : (-9223372036854775808) ≤ x.f1 ∧ x.f1 ≤ 9223372036854775807
  f2 : (-9223372036854775808) ≤ x.f2 ∧ x.f2 ≤ 9223372036854775807
  f3 : (-9223372036854775808) ≤ x.f3 ∧ x.f3 ≤ 9223372036854775807
  f4 : 0 ≤ x.f4 ∧ x.f4 ≤ 255
  f5 : x.f5.size ≤ 140737488351232
  f6 : x.f6.length * 16 ≤ 140737488351232 ∧ ∀ y ∈ x.f6, y.ok
  f7 : x.f7.length * 8 ≤ 140737488351232 ∧ ∀ y ∈ x.f7, (-9223372036854775808) ≤ y ∧ y ≤ 9223372036854775807
/-- The table headgate/crc.steps. -/
def G_crc_steps : List Int := [0, 274646895, 549293790, 820201905, 1098587580, 1361435347, 1640403810, 1905808397, 2197175160, 2460548119, 2722870694, 2987750089, 3280807620, 3553878443, 3811616794, 4084100981]
end Go.Proofs.YtljpkcaljnahfaaGreatDoor.F
