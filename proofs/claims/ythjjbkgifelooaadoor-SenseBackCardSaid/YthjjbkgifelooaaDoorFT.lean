/- The struct types of the functions, as Lean structures. No condition. -/
import Derived.Test.YthjjbkgifelooaaDoorXLate
import Derived.Test.YthjjbkgifelooaaDoorProg
namespace Go.Proofs.YthjjbkgifelooaaDoor.F
open Go Go.RowKit Go.Proofs.YthjjbkgifelooaaDoor.X
set_option linter.unusedVariables false
set_option linter.unusedSimpArgs false
structure T_api_Reg where
  f0 : ByteArray
  f1 : Int

def T_api_Reg.z : T_api_Reg := ⟨⟨#[]⟩, 0⟩
def T_api_Reg.enc (x : T_api_Reg) : List Value := [.string x.f0, .int .u64 x.f1]
structure T_api_Reg.ok (x : T_api_Reg) : Prop where
  f0 : x.f0.size ≤ 140737488351232
  f1 : 0 ≤ x.f1 ∧ x.f1 ≤ 18446744073709551615
structure T_api_Hold where
  f0 : Int
  f1 : ByteArray

def T_api_Hold.z : T_api_Hold := ⟨0, ⟨#[]⟩⟩
def T_api_Hold.enc (x : T_api_Hold) : List Value := [.int .i64 x.f0, .string x.f1]
structure T_api_Hold.ok (x : T_api_Hold) : Prop where
  f0 : (-9223372036854775808) ≤ x.f0 ∧ x.f0 ≤ 9223372036854775807
  f1 : x.f1.size ≤ 140737488351232
structure T_api_Table where
  f0 : List T_api_Reg
  f1 : T_api_Hold
  f2 : Int
  f3 : Bool

structure T_api_Table.ok (x : T_api_Table) : Prop where
  f0 : x.f0.length * 24 ≤ 140737488351232 ∧ ∀ y ∈ x.f0, y.ok
  f1 : x.f1.ok
  f2 : 0 ≤ x.f2 ∧ x.f2 ≤ 4294967295
  f3 : True
structure T_api_Range where
  f0 : Int
  f1 : Int

def T_api_Range.z : T_api_Range := ⟨0, 0⟩
def T_api_Range.enc (x : T_api_Range) : List Value := [.int .i64 x.f0, .int .i64 x.f1]
structure T_api_Range.ok (x : T_api_Range) : Prop where
  f0 : (-9223372036854775808) ≤ x.f0 ∧ x.f0 ≤ 9223372036854775807
  f1 : (-9223372036854775808) ≤ x.f1 ∧ x.f1 ≤ 9223372036854775807
structure T_api_Cmd where
  f0 : Int
  f1 : Int
  f2 : ByteArray
  f3 : Int
  f4 : Int
  f5 : ByteArray
  f6 : Bool
  f7 : List T_api_Range
  f8 : Int
  f9 : Int
  f10 : Int
  f11 : Int
  f12 : Bool
  f13 : Int

structure T_api_Cmd.ok (x : T_api_Cmd) : Prop where
  f0 : (-9223372036854775808) ≤ x.f0 ∧ x.f0 ≤ 9223372036854775807
  f1 : (-9223372036854775808) ≤ x.f1 ∧ x.f1 ≤ 9223372036854775807
  f2 : x.f2.size ≤ 140737488351232
  f3 : (-9223372036854775808) ≤ x.f3 ∧ x.f3 ≤ 9223372036854775807
  f4 : (-9223372036854775808) ≤ x.f4 ∧ x.f4 ≤ 9223372036854775807
  f5 : x.f5.size ≤ 140737488351232
  f6 : True
  f7 : x.f7.length * 16 ≤ 140737488351232 ∧ ∀ y ∈ x.f7, y.ok
  f8 : 0 ≤ x.f8 ∧ x.f8 ≤ 18446744073709551615
  f9 : 0 ≤ x.f9 ∧ x.f9 ≤ 18446744073709551615
  f10 : 0 ≤ x.f10 ∧ x.f10 ≤ 18446744073709551615
  f11 : (-9223372036854775808) ≤ x.f11 ∧ x.f11 ≤ 9223372036854775807
  f12 : True
  f13 : (-9223372036854775808) ≤ x.f13 ∧ x.f13 ≤ 9223372036854775807
structure T_nresv_action where
  f0 : Int
  f1 : Int
  f2 : Int

def T_nresv_action.z : T_nresv_action := ⟨0, 0, 0⟩
def T_nresv_action.enc (x : T_nresv_action) : List Value := [.int .i64 x.f0, .int .i64 x.f1, .int .i64 x.f2]
structure T_nresv_action.ok (x : T_nresv_action) : Prop where
  f0 : (-9223372036854775808) ≤ x.f0 ∧ x.f0 ≤ 9223372036854775807
  f1 : (-9223372036854775808) ≤ x.f1 ∧ x.f1 ≤ 9223372036854775807
  f2 : (-9223372036854775808) ≤ x.f2 ∧ x.f2 ≤ 9223372036854775807
structure T_headgateref27_Told where
  f0 : Int
  f1 : Int
  f2 : List T_api_Reg
  f3 : Int

structure T_headgateref27_Told.ok (x : T_headgateref27_Told) : Prop where
  f0 : 0 ≤ x.f0 ∧ x.f0 ≤ 4294967295
  f1 : (-9223372036854775808) ≤ x.f1 ∧ x.f1 ≤ 9223372036854775807
  f2 : x.f2.length * 24 ≤ 140737488351232 ∧ ∀ y ∈ x.f2, y.ok
  f3 : (-9223372036854775808) ≤ x.f3 ∧ x.f3 ≤ 9223372036854775807
structure T_headgateref27_Word where
  f0 : Int
  f1 : Int
  f2 : ByteArray

def T_headgateref27_Word.z : T_headgateref27_Word := ⟨0, 0, ⟨#[]⟩⟩
def T_headgateref27_Word.enc (x : T_headgateref27_Word) : List Value := [.int .i64 x.f0, .int .u32 x.f1, .string x.f2]
structure T_headgateref27_Word.ok (x : T_headgateref27_Word) : Prop where
  f0 : (-9223372036854775808) ≤ x.f0 ∧ x.f0 ≤ 9223372036854775807
  f1 : 0 ≤ x.f1 ∧ x.f1 ≤ 4294967295
  f2 : x.f2.size ≤ 140737488351232
structure T_headgatelaw27_Word where
  f0 : Int
  f1 : Int
  f2 : ByteArray

def T_headgatelaw27_Word.z : T_headgatelaw27_Word := ⟨0, 0, ⟨#[]⟩⟩
def T_headgatelaw27_Word.enc (x : T_headgatelaw27_Word) : List Value := [.int .i64 x.f0, .int .u32 x.f1, .string x.f2]
structure T_headgatelaw27_Word.ok (x : T_headgatelaw27_Word) : Prop where
  f0 : (-9223372036854775808) ≤ x.f0 ∧ x.f0 ≤ 9223372036854775807
  f1 : 0 ≤ x.f1 ∧ x.f1 ≤ 4294967295
  f2 : x.f2.size ≤ 140737488351232
structure T_sense_row where
  f0 : Int
  f1 : Int
  f2 : Int
  f3 : Int
  f4 : Int
  f5 : Int

def T_sense_row.z : T_sense_row := ⟨0, 0, 0, 0, 0, 0⟩
def T_sense_row.enc (x : T_sense_row) : List Value := [.int .i64 x.f0, .int .i64 x.f1, .int .i64 x.f2, .int .i64 x.f3, .int .i64 x.f4, .int .i64 x.f5]
structure T_sense_row.ok (x : T_sense_row) : Prop where
  f0 : (-9223372036854775808) ≤ x.f0 ∧ x.f0 ≤ 9223372036854775807
  f1 : (-9223372036854775808) ≤ x.f1 ∧ x.f1 ≤ 9223372036854775807
  f2 : (-9223372036854775808) ≤ x.f2 ∧ x.f2 ≤ 9223372036854775807
  f3 : (-9223372036854775808) ≤ x.f3 ∧ x.f3 ≤ 9223372036854775807
  f4 : (-9223372036854775808) ≤ x.f4 ∧ x.f4 ≤ 9223372036854775807
  f5 : (-9223372036854775808) ≤ x.f5 ∧ x.f5 ≤ 9223372036854775807
structure T_api_Out where
  f0 : Int
  f1 : ByteArray
  f2 : Int
  f3 : Int
  f4 : List T_api_Reg
  f5 : Int
  f6 : T_api_Hold
  f7 : Int

structure T_api_Out.ok (x : T_api_Out) : Prop where
  f0 : (-9223372036854775808) ≤ x.f0 ∧ x.f0 ≤ 9223372036854775807
  f1 : x.f1.size ≤ 140737488351232
  f2 : (-9223372036854775808) ≤ x.f2 ∧ x.f2 ≤ 9223372036854775807
  f3 : (-9223372036854775808) ≤ x.f3 ∧ x.f3 ≤ 9223372036854775807
  f4 : x.f4.length * 24 ≤ 140737488351232 ∧ ∀ y ∈ x.f4, y.ok
  f5 : 0 ≤ x.f5 ∧ x.f5 ≤ 4294967295
  f6 : x.f6.ok
  f7 : (-9223372036854775808) ≤ x.f7 ∧ x.f7 ≤ 9223372036854775807
structure T_api_Sense where
  f0 : Int
  f1 : Int
  f2 : Int
  f3 : Int

def T_api_Sense.z : T_api_Sense := ⟨0, 0, 0, 0⟩
def T_api_Sense.enc (x : T_api_Sense) : List Value := [.int .i64 x.f0, .int .i64 x.f1, .int .i64 x.f2, .int .i64 x.f3]
structure T_api_Sense.ok (x : T_api_Sense) : Prop where
  f0 : (-9223372036854775808) ≤ x.f0 ∧ x.f0 ≤ 9223372036854775807
  f1 : (-9223372036854775808) ≤ x.f1 ∧ x.f1 ≤ 9223372036854775807
  f2 : (-9223372036854775808) ≤ x.f2 ∧ x.f2 ≤ 9223372036854775807
  f3 : (-9223372036854775808) ≤ x.f3 ∧ x.f3 ≤ 9223372036854775807
structure T_headgateref16_Reply where
  f0 : Int
  f1 : T_api_Sense

def T_headgateref16_Reply.z : T_headgateref16_Reply := ⟨0, T_api_Sense.z⟩
def T_headgateref16_Reply.enc (x : T_headgateref16_Reply) : List Value := [.int .i64 x.f0, .int .i64 x.f1.f0, .int .i64 x.f1.f1, .int .i64 x.f1.f2, .int .i64 x.f1.f3]
structure T_headgateref16_Reply.ok (x : T_headgateref16_Reply) : Prop where
  f0 : (-9223372036854775808) ≤ x.f0 ∧ x.f0 ≤ 9223372036854775807
  f1 : x.f1.ok
structure T_arr7_3 where
  f0 : Int
  f1 : Int
  f2 : Int
  f3 : Int
  f4 : Int
  f5 : Int
  f6 : Int

def T_arr7_3.z : T_arr7_3 := ⟨0, 0, 0, 0, 0, 0, 0⟩
def T_arr7_3.enc (x : T_arr7_3) : List Value := [.int .i64 x.f0, .int .i64 x.f1, .int .i64 x.f2, .int .i64 x.f3, .int .i64 x.f4, .int .i64 x.f5, .int .i64 x.f6]
structure T_arr7_3.ok (x : T_arr7_3) : Prop where
  f0 : (-9223372036854775808) ≤ x.f0 ∧ x.f0 ≤ 9223372036854775807
  f1 : (-9223372036854775808) ≤ x.f1 ∧ x.f1 ≤ 9223372036854775807
  f2 : (-9223372036854775808) ≤ x.f2 ∧ x.f2 ≤ 9223372036854775807
  f3 : (-9223372036854775808) ≤ x.f3 ∧ x.f3 ≤ 9223372036854775807
  f4 : (-9223372036854775808) ≤ x.f4 ∧ x.f4 ≤ 9223372036854775807
  f5 : (-9223372036854775808) ≤ x.f5 ∧ x.f5 ≤ 9223372036854775807
  f6 : (-9223372036854775808) ≤ x.f6 ∧ x.f6 ≤ 9223372036854775807
/-- The table headgate/access.lets. -/
def G_access_lets : List Int := [0, 1, 0, 5, 6, 13, 14]
/-- The table headgate/nresv.actions. -/
def G_nresv_actions : List T_nresv_action := [⟨13, 0, 8⟩, ⟨13, 1, 8⟩, ⟨13, 2, 8⟩, ⟨17, 0, 9⟩, ⟨17, 1, 12⟩, ⟨21, 0, 10⟩, ⟨21, 1, 11⟩]
/-- The table headgate/nresv.aptpls. -/
def G_nresv_aptpls : List Int := [0, (-1), 1, 2]
/-- The table headgate/sense.rows. -/
def G_sense_rows : List T_sense_row := [⟨1, 0, 0, 0, 0, 0⟩, ⟨2, 0, 24, 0, 0, 0⟩, ⟨3, 0, 2, 14, 29, 0⟩, ⟨4, 0, 2, 5, 33, 0⟩, ⟨5, 0, 2, 5, 36, 0⟩, ⟨6, 0, 2, 5, 37, 0⟩, ⟨8, 0, 2, 3, 12, 0⟩, ⟨7, 1, 2, 6, 41, 0⟩, ⟨7, 2, 2, 6, 42, 5⟩, ⟨7, 3, 2, 6, 42, 4⟩, ⟨7, 4, 2, 6, 42, 3⟩]
end Go.Proofs.YthjjbkgifelooaaDoor.F
