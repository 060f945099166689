/- The struct types of the functions, as Lean structures. No condition. -/
import Derived.Test.YtdcojinnjpihaaaDoorXTail
import Derived.Test.YtdcojinnjpihaaaDoorProg
namespace Go.Proofs.YtdcojinnjpihaaaDoor.F
open Go Go.RowKit Go.Proofs.YtdcojinnjpihaaaDoor.X
set_option linter.unusedVariables false
set_option linter.unusedSimpArgs false
structure T_utf8_acceptRange where
  f0 : Int
  f1 : Int

def T_utf8_acceptRange.z : T_utf8_acceptRange := ⟨0, 0⟩
def T_utf8_acceptRange.enc (x : T_utf8_acceptRange) : List Value := [.int .u8 x.f0, .int .u8 x.f1]
structure T_utf8_acceptRange.ok (x : T_utf8_acceptRange) : Prop where
  f0 : 0 ≤ x.f0 ∧ x.f0 ≤ 255
  f1 : 0 ≤ x.f1 ∧ x.f1 ≤ 255
structure T_headgateref05_Frame where
  f0 : Int
  f1 : ByteArray
  f2 : Int

def T_headgateref05_Frame.z : T_headgateref05_Frame := ⟨0, ⟨#[]⟩, 0⟩
def T_headgateref05_Frame.enc (x : T_headgateref05_Frame) : List Value := [.int .u64 x.f0, .string x.f1, .int .i64 x.f2]
structure T_headgateref05_Frame.ok (x : T_headgateref05_Frame) : Prop where
  f0 : 0 ≤ x.f0 ∧ x.f0 ≤ 18446744073709551615
  f1 : x.f1.size ≤ 140737488351232
  f2 : (-9223372036854775808) ≤ x.f2 ∧ x.f2 ≤ 9223372036854775807
structure T_arr2_3 where
  f0 : Int
  f1 : Int

def T_arr2_3.z : T_arr2_3 := ⟨0, 0⟩
def T_arr2_3.enc (x : T_arr2_3) : List Value := [.int .i64 x.f0, .int .i64 x.f1]
structure T_arr2_3.ok (x : T_arr2_3) : Prop where
  f0 : (-9223372036854775808) ≤ x.f0 ∧ x.f0 ≤ 9223372036854775807
  f1 : (-9223372036854775808) ≤ x.f1 ∧ x.f1 ≤ 9223372036854775807
structure T_api_Write where
  f0 : Int
  f1 : ByteArray

def T_api_Write.z : T_api_Write := ⟨0, ⟨#[]⟩⟩
def T_api_Write.enc (x : T_api_Write) : List Value := [.int .i64 x.f0, .string x.f1]
structure T_api_Write.ok (x : T_api_Write) : Prop where
  f0 : (-9223372036854775808) ≤ x.f0 ∧ x.f0 ≤ 9223372036854775807
  f1 : x.f1.size ≤ 140737488351232
structure T_arr2_9 where
  f0 : ByteArray
  f1 : ByteArray

def T_arr2_9.z : T_arr2_9 := ⟨⟨#[]⟩, ⟨#[]⟩⟩
def T_arr2_9.enc (x : T_arr2_9) : List Value := [.string x.f0, .string x.f1]
structure T_arr2_9.ok (x : T_arr2_9) : Prop where
  f0 : x.f0.size ≤ 140737488351232
  f1 : x.f1.size ≤ 140737488351232
/-- The table headgate/crc.steps. -/
def G_crc_steps : List Int := [0, 274646895, 549293790, 820201905, 1098587580, 1361435347, 1640403810, 1905808397, 2197175160, 2460548119, 2722870694, 2987750089, 3280807620, 3553878443, 3811616794, 4084100981]
/-- The table unicode/utf8.first. -/
def G_utf8_first : List Int := [240, 240, 240, 240, 240, 240, 240, 240, 240, 240, 240, 240, 240, 240, 240, 240, 240, 240, 240, 240, 240, 240, 240, 240, 240, 240, 240, 240, 240, 240, 240, 240, 240, 240, 240, 240, 240, 240, 240, 240, 240, 240, 240, 240, 240, 240, 240, 240, 240, 240, 240, 240, 240, 240, 240, 240, 240, 240, 240, 240, 240, 240, 240, 240, 240, 240, 240, 240, 240, 240, 240, 240, 240, 240, 240, 240, 240, 240, 240, 240, 240, 240, 240, 240, 240, 240, 240, 240, 240, 240, 240, 240, 240, 240, 240, 240, 240, 240, 240, 240, 240, 240, 240, 240, 240, 240, 240, 240, 240, 240, 240, 240, 240, 240, 240, 240, 240, 240, 240, 240, 240, 240, 240, 240, 240, 240, 240, 240, 241, 241, 241, 241, 241, 241, 241, 241, 241, 241, 241, 241, 241, 241, 241, 241, 241, 241, 241, 241, 241, 241, 241, 241, 241, 241, 241, 241, 241, 241, 241, 241, 241, 241, 241, 241, 241, 241, 241, 241, 241, 241, 241, 241, 241, 241, 241, 241, 241, 241, 241, 241, 241, 241, 241, 241, 241, 241, 241, 241, 241, 241, 241, 241, 241, 241, 2, 2, 2, 2, 2, 2, 2, 2, 2, 2, 2, 2, 2, 2, 2, 2, 2, 2, 2, 2, 2, 2, 2, 2, 2, 2, 2, 2, 2, 2, 19, 3, 3, 3, 3, 3, 3, 3, 3, 3, 3, 3, 3, 35, 3, 3, 52, 4, 4, 4, 68, 241, 241, 241, 241, 241, 241, 241, 241, 241, 241, 241]
/-- The table unicode/utf8.acceptRanges. -/
def G_utf8_acceptRanges : List T_utf8_acceptRange := [⟨128, 191⟩, ⟨160, 191⟩, ⟨128, 159⟩, ⟨144, 191⟩, ⟨128, 143⟩, ⟨0, 0⟩, ⟨0, 0⟩, ⟨0, 0⟩, ⟨0, 0⟩, ⟨0, 0⟩, ⟨0, 0⟩, ⟨0, 0⟩, ⟨0, 0⟩, ⟨0, 0⟩, ⟨0, 0⟩, ⟨0, 0⟩]
end Go.Proofs.YtdcojinnjpihaaaDoor.F
