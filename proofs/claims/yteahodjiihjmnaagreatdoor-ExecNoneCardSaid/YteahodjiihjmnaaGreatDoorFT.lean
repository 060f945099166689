/- The struct types of the functions, as Lean structures. No condition. -/
import Derived.Test.YteahodjiihjmnaaGreatDoorXTail
import Derived.Test.YteahodjiihjmnaaGreatDoorProg
namespace Go.Proofs.YteahodjiihjmnaaGreatDoor.F
open Go Go.RowKit Go.Proofs.YteahodjiihjmnaaGreatDoor.X
set_option linter.unusedVariables false
set_option linter.unusedSimpArgs false
structure T_api_Unit where
  f0 : Int
  f1 : ByteArray

def T_api_Unit.z : T_api_Unit := ⟨0, ⟨#[]⟩⟩
def T_api_Unit.enc (x : T_api_Unit) : List Value := [.int .i64 x.f0, .string x.f1]
structure T_api_Unit.ok (x : T_api_Unit) : Prop where
  f0 : (-9223372036854775808) ≤ x.f0 ∧ x.f0 ≤ 9223372036854775807
  f1 : x.f1.size ≤ 140737488351232
structure T_api_Reg where
  f0 : ByteArray
  f1 : Int

def T_api_Reg.z : T_api_Reg := ⟨⟨#[]⟩, 0⟩
def T_api_Reg.enc (x : T_api_Reg) : List Value := [.string x.f0, .int .u64 x.f1]
structure T_api_Reg.ok (x : T_api_Reg) : Prop where
  f0 : x.f0.size ≤ 140737488351232
  f1 : 0 ≤ x.f1 ∧ x.f1 ≤ 18446744073709551615
structure T_api_Hold where
  f0 : Int
  f1 : ByteArray

def T_api_Hold.z : T_api_Hold := ⟨0, ⟨#[]⟩⟩
def T_api_Hold.enc (x : T_api_Hold) : List Value := [.int .i64 x.f0, .string x.f1]
structure T_api_Hold.ok (x : T_api_Hold) : Prop where
  f0 : (-9223372036854775808) ≤ x.f0 ∧ x.f0 ≤ 9223372036854775807
  f1 : x.f1.size ≤ 140737488351232
structure T_api_Table where
  f0 : List T_api_Reg
  f1 : T_api_Hold
  f2 : Int
  f3 : Bool

structure T_api_Table.ok (x : T_api_Table) : Prop where
  f0 : x.f0.length * 24 ≤ 140737488351232 ∧ ∀ y ∈ x.f0, y.ok
  f1 : x.f1.ok
  f2 : 0 ≤ x.f2 ∧ x.f2 ≤ 4294967295
  f3 : True
structure T_api_Extent where
  f0 : Int
  f1 : Int
  f2 : Int

def T_api_Extent.z : T_api_Extent := ⟨0, 0, 0⟩
def T_api_Extent.enc (x : T_api_Extent) : List Value := [.int .i64 x.f0, .int .i64 x.f1, .int .i64 x.f2]
structure T_api_Extent.ok (x : T_api_Extent) : Prop where
  f0 : (-9223372036854775808) ≤ x.f0 ∧ x.f0 ≤ 9223372036854775807
  f1 : (-9223372036854775808) ≤ x.f1 ∧ x.f1 ≤ 9223372036854775807
  f2 : (-9223372036854775808) ≤ x.f2 ∧ x.f2 ≤ 9223372036854775807
structure T_headgateref13_wait where
  f0 : Int
  f1 : ByteArray
  f2 : List Int

structure T_headgateref13_wait.ok (x : T_headgateref13_wait) : Prop where
  f0 : (-9223372036854775808) ≤ x.f0 ∧ x.f0 ≤ 9223372036854775807
  f1 : x.f1.size ≤ 140737488351232
  f2 : x.f2.length * 8 ≤ 140737488351232 ∧ ∀ y ∈ x.f2, (-9223372036854775808) ≤ y ∧ y ≤ 9223372036854775807
structure T_api_Range where
  f0 : Int
  f1 : Int

def T_api_Range.z : T_api_Range := ⟨0, 0⟩
def T_api_Range.enc (x : T_api_Range) : List Value := [.int .i64 x.f0, .int .i64 x.f1]
structure T_api_Range.ok (x : T_api_Range) : Prop where
  f0 : (-9223372036854775808) ≤ x.f0 ∧ x.f0 ≤ 9223372036854775807
  f1 : (-9223372036854775808) ≤ x.f1 ∧ x.f1 ≤ 9223372036854775807
structure T_api_Cmd where
  f0 : Int
  f1 : Int
  f2 : ByteArray
  f3 : Int
  f4 : Int
  f5 : ByteArray
  f6 : Bool
  f7 : List T_api_Range
  f8 : Int
  f9 : Int
  f10 : Int
  f11 : Int
  f12 : Bool
  f13 : Int

structure T_api_Cmd.ok (x : T_api_Cmd) : Prop where
  f0 : (-9223372036854775808) ≤ x.f0 ∧ x.f0 ≤ 9223372036854775807
  f1 : (-9223372036854775808) ≤ x.f1 ∧ x.f1 ≤ 9223372036854775807
  f2 : x.f2.size ≤ 140737488351232
  f3 : (-9223372036854775808) ≤ x.f3 ∧ x.f3 ≤ 9223372036854775807
  f4 : (-9223372036854775808) ≤ x.f4 ∧ x.f4 ≤ 9223372036854775807
  f5 : x.f5.size ≤ 140737488351232
  f6 : True
  f7 : x.f7.length * 16 ≤ 140737488351232 ∧ ∀ y ∈ x.f7, y.ok
  f8 : 0 ≤ x.f8 ∧ x.f8 ≤ 18446744073709551615
  f9 : 0 ≤ x.f9 ∧ x.f9 ≤ 18446744073709551615
  f10 : 0 ≤ x.f10 ∧ x.f10 ≤ 18446744073709551615
  f11 : (-9223372036854775808) ≤ x.f11 ∧ x.f11 ≤ 9223372036854775807
  f12 : True
  f13 : (-9223372036854775808) ≤ x.f13 ∧ x.f13 ≤ 9223372036854775807
structure T_api_Out where
  f0 : Int
  f1 : ByteArray
  f2 : Int
  f3 : Int
  f4 : List T_api_Reg
  f5 : Int
  f6 : T_api_Hold
  f7 : Int

structure T_api_Out.ok (x : T_api_Out) : Prop where
  f0 : (-9223372036854775808) ≤ x.f0 ∧ x.f0 ≤ 9223372036854775807
  f1 : x.f1.size ≤ 140737488351232
  f2 : (-9223372036854775808) ≤ x.f2 ∧ x.f2 ≤ 9223372036854775807
  f3 : (-9223372036854775808) ≤ x.f3 ∧ x.f3 ≤ 9223372036854775807
  f4 : x.f4.length * 24 ≤ 140737488351232 ∧ ∀ y ∈ x.f4, y.ok
  f5 : 0 ≤ x.f5 ∧ x.f5 ≤ 4294967295
  f6 : x.f6.ok
  f7 : (-9223372036854775808) ≤ x.f7 ∧ x.f7 ≤ 9223372036854775807
structure T_cache_change where
  f0 : Int
  f1 : Int
  f2 : ByteArray
  f3 : List T_api_Range

structure T_cache_change.ok (x : T_cache_change) : Prop where
  f0 : (-9223372036854775808) ≤ x.f0 ∧ x.f0 ≤ 9223372036854775807
  f1 : (-9223372036854775808) ≤ x.f1 ∧ x.f1 ≤ 9223372036854775807
  f2 : x.f2.size ≤ 140737488351232
  f3 : x.f3.length * 16 ≤ 140737488351232 ∧ ∀ y ∈ x.f3, y.ok
structure T_api_Event where
  f0 : ByteArray
  f1 : Int

def T_api_Event.z : T_api_Event := ⟨⟨#[]⟩, 0⟩
def T_api_Event.enc (x : T_api_Event) : List Value := [.string x.f0, .int .i64 x.f1]
structure T_api_Event.ok (x : T_api_Event) : Prop where
  f0 : x.f0.size ≤ 140737488351232
  f1 : (-9223372036854775808) ≤ x.f1 ∧ x.f1 ≤ 9223372036854775807
structure T_headgateref08_Unit where
  f0 : List ByteArray
  f1 : List Int
  f2 : ByteArray

structure T_headgateref08_Unit.ok (x : T_headgateref08_Unit) : Prop where
  f0 : x.f0.length * 16 ≤ 140737488351232 ∧ ∀ y ∈ x.f0, y.size ≤ 140737488351232
  f1 : x.f1.length * 8 ≤ 140737488351232 ∧ ∀ y ∈ x.f1, (-9223372036854775808) ≤ y ∧ y ≤ 9223372036854775807
  f2 : x.f2.size ≤ 140737488351232
structure T_utf8_acceptRange where
  f0 : Int
  f1 : Int

def T_utf8_acceptRange.z : T_utf8_acceptRange := ⟨0, 0⟩
def T_utf8_acceptRange.enc (x : T_utf8_acceptRange) : List Value := [.int .u8 x.f0, .int .u8 x.f1]
structure T_utf8_acceptRange.ok (x : T_utf8_acceptRange) : Prop where
  f0 : 0 ≤ x.f0 ∧ x.f0 ≤ 255
  f1 : 0 ≤ x.f1 ∧ x.f1 ≤ 255
structure T_arr2_5 where
  f0 : Int
  f1 : Int

def T_arr2_5.z : T_arr2_5 := ⟨0, 0⟩
def T_arr2_5.enc (x : T_arr2_5) : List Value := [.int .u8 x.f0, .int .u8 x.f1]
structure T_arr2_5.ok (x : T_arr2_5) : Prop where
  f0 : 0 ≤ x.f0 ∧ x.f0 ≤ 255
  f1 : 0 ≤ x.f1 ∧ x.f1 ≤ 255
structure T_headgateref11_Told where
  f0 : T_api_Table
  f1 : List T_api_Event
  f2 : Int

structure T_headgateref11_Told.ok (x : T_headgateref11_Told) : Prop where
  f0 : x.f0.ok
  f1 : x.f1.length * 24 ≤ 140737488351232 ∧ ∀ y ∈ x.f1, y.ok
  f2 : (-9223372036854775808) ≤ x.f2 ∧ x.f2 ≤ 9223372036854775807
/-- The table headgate/access.lets. -/
def G_access_lets : List Int := [0, 1, 0, 5, 6, 13, 14]
/-- The table headgate/crc.steps. -/
def G_crc_steps : List Int := [0, 274646895, 549293790, 820201905, 1098587580, 1361435347, 1640403810, 1905808397, 2197175160, 2460548119, 2722870694, 2987750089, 3280807620, 3553878443, 3811616794, 4084100981]
/-- The table unicode/utf8.first. -/
def G_utf8_first : List Int := [240, 240, 240, 240, 240, 240, 240, 240, 240, 240, 240, 240, 240, 240, 240, 240, 240, 240, 240, 240, 240, 240, 240, 240, 240, 240, 240, 240, 240, 240, 240, 240, 240, 240, 240, 240, 240, 240, 240, 240, 240, 240, 240, 240, 240, 240, 240, 240, 240, 240, 240, 240, 240, 240, 240, 240, 240, 240, 240, 240, 240, 240, 240, 240, 240, 240, 240, 240, 240, 240, 240, 240, 240, 240, 240, 240, 240, 240, 240, 240, 240, 240, 240, 240, 240, 240, 240, 240, 240, 240, 240, 240, 240, 240, 240, 240, 240, 240, 240, 240, 240, 240, 240, 240, 240, 240, 240, 240, 240, 240, 240, 240, 240, 240, 240, 240, 240, 240, 240, 240, 240, 240, 240, 240, 240, 240, 240, 240, 241, 241, 241, 241, 241, 241, 241, 241, 241, 241, 241, 241, 241, 241, 241, 241, 241, 241, 241, 241, 241, 241, 241, 241, 241, 241, 241, 241, 241, 241, 241, 241, 241, 241, 241, 241, 241, 241, 241, 241, 241, 241, 241, 241, 241, 241, 241, 241, 241, 241, 241, 241, 241, 241, 241, 241, 241, 241, 241, 241, 241, 241, 241, 241, 241, 241, 2, 2, 2, 2, 2, 2, 2, 2, 2, 2, 2, 2, 2, 2, 2, 2, 2, 2, 2, 2, 2, 2, 2, 2, 2, 2, 2, 2, 2, 2, 19, 3, 3, 3, 3, 3, 3, 3, 3, 3, 3, 3, 3, 35, 3, 3, 52, 4, 4, 4, 68, 241, 241, 241, 241, 241, 241, 241, 241, 241, 241, 241]
/-- The table unicode/utf8.acceptRanges. -/
def G_utf8_acceptRanges : List T_utf8_acceptRange := [⟨128, 191⟩, ⟨160, 191⟩, ⟨128, 159⟩, ⟨144, 191⟩, ⟨128, 143⟩, ⟨0, 0⟩, ⟨0, 0⟩, ⟨0, 0⟩, ⟨0, 0⟩, ⟨0, 0⟩, ⟨0, 0⟩, ⟨0, 0⟩, ⟨0, 0⟩, ⟨0, 0⟩, ⟨0, 0⟩, ⟨0, 0⟩]
end Go.Proofs.YteahodjiihjmnaaGreatDoor.F
