/- The struct types of the functions, as Lean structures. No condition. -/
import Derived.Test.YteilejfncdacfaaGreatDoorXTail
import Derived.Test.YteilejfncdacfaaGreatDoorProg
namespace Go.Proofs.YteilejfncdacfaaGreatDoor.F
open Go Go.RowKit Go.Proofs.YteilejfncdacfaaGreatDoor.X
set_option linter.unusedVariables false
set_option linter.unusedSimpArgs false
structure T_api_Unit where
  f0 : Int
  f1 : ByteArray

def T_api_Unit.z : T_api_Unit := ⟨0, ⟨#[]⟩⟩
def T_api_Unit.enc (x : T_api_Unit) : List Value := [.int .i64 x.f0, .string x.f1]
structure T_api_Unit.ok (x : T_api_Unit) : Prop where
  f0 : (-9223372036854775808) ≤ x.f0 ∧ x.f0 ≤ 9223372036854775807
  f1 : x.f1.size ≤ 140737488351232
structure T_api_Extent where
  f0 : Int
  f1 : Int
  f2 : Int

def T_api_Extent.z : T_api_Extent := ⟨0, 0, 0⟩
def T_api_Extent.enc (x : T_api_Extent) : List Value := [.int .i64 x.f0, .int .i64 x.f1, .int .i64 x.f2]
structure T_api_Extent.ok (x : T_api_Extent) : Prop where
  f0 : (-9223372036854775808) ≤ x.f0 ∧ x.f0 ≤ 9223372036854775807
  f1 : (-9223372036854775808) ≤ x.f1 ∧ x.f1 ≤ 9223372036854775807
  f2 : (-9223372036854775808) ≤ x.f2 ∧ x.f2 ≤ 9223372036854775807
structure T_api_Reg where
  f0 : ByteArray
  f1 : Int

def T_api_Reg.z : T_api_Reg := ⟨⟨#[]⟩, 0⟩
def T_api_Reg.enc (x : T_api_Reg) : List Value := [.string x.f0, .int .u64 x.f1]
structure T_api_Reg.ok (x : T_api_Reg) : Prop where
  f0 : x.f0.size ≤ 140737488351232
  f1 : 0 ≤ x.f1 ∧ x.f1 ≤ 18446744073709551615
structure T_api_Hold where
  f0 : Int
  f1 : ByteArray

def T_api_Hold.z : T_api_Hold := ⟨0, ⟨#[]⟩⟩
def T_api_Hold.enc (x : T_api_Hold) : List Value := [.int .i64 x.f0, .string x.f1]
structure T_api_Hold.ok (x : T_api_Hold) : Prop where
  f0 : (-9223372036854775808) ≤ x.f0 ∧ x.f0 ≤ 9223372036854775807
  f1 : x.f1.size ≤ 140737488351232
structure T_api_Table where
  f0 : List T_api_Reg
  f1 : T_api_Hold
  f2 : Int
  f3 : Bool

structure T_api_Table.ok (x : T_api_Table) : Prop where
  f0 : x.f0.length * 24 ≤ 140737488351232 ∧ ∀ y ∈ x.f0, y.ok
  f1 : x.f1.ok
  f2 : 0 ≤ x.f2 ∧ x.f2 ≤ 4294967295
  f3 : True
structure T_headgateref13_wait where
  f0 : Int
  f1 : ByteArray
  f2 : List Int

structure T_headgateref13_wait.ok (x : T_headgateref13_wait) : Prop where
  f0 : (-9223372036854775808) ≤ x.f0 ∧ x.f0 ≤ 9223372036854775807
  f1 : x.f1.size ≤ 140737488351232
  f2 : x.f2.length * 8 ≤ 140737488351232 ∧ ∀ y ∈ x.f2, (-9223372036854775808) ≤ y ∧ y ≤ 9223372036854775807
structure T_headgatelaw19_Ask where
  f0 : ByteArray
  f1 : Int
  f2 : ByteArray
  f3 : ByteArray

def T_headgatelaw19_Ask.z : T_headgatelaw19_Ask := ⟨⟨#[]⟩, 0, ⟨#[]⟩, ⟨#[]⟩⟩
def T_headgatelaw19_Ask.enc (x : T_headgatelaw19_Ask) : List Value := [.string x.f0, .int .i64 x.f1, .string x.f2, .string x.f3]
structure T_headgatelaw19_Ask.ok (x : T_headgatelaw19_Ask) : Prop where
  f0 : x.f0.size ≤ 140737488351232
  f1 : (-9223372036854775808) ≤ x.f1 ∧ x.f1 ≤ 9223372036854775807
  f2 : x.f2.size ≤ 140737488351232
  f3 : x.f3.size ≤ 140737488351232
structure T_cdb_span where
  f0 : Int
  f1 : Int

def T_cdb_span.z : T_cdb_span := ⟨0, 0⟩
def T_cdb_span.enc (x : T_cdb_span) : List Value := [.int .i64 x.f0, .int .i64 x.f1]
structure T_cdb_span.ok (x : T_cdb_span) : Prop where
  f0 : (-9223372036854775808) ≤ x.f0 ∧ x.f0 ≤ 9223372036854775807
  f1 : (-9223372036854775808) ≤ x.f1 ∧ x.f1 ≤ 9223372036854775807
structure T_cdb_form where
  f0 : Int
  f1 : Int
  f2 : T_cdb_span
  f3 : T_cdb_span
  f4 : T_cdb_span

def T_cdb_form.z : T_cdb_form := ⟨0, 0, T_cdb_span.z, T_cdb_span.z, T_cdb_span.z⟩
def T_cdb_form.enc (x : T_cdb_form) : List Value := [.int .i64 x.f0, .int .i64 x.f1, .int .i64 x.f2.f0, .int .i64 x.f2.f1, .int .i64 x.f3.f0, .int .i64 x.f3.f1, .int .i64 x.f4.f0, .int .i64 x.f4.f1]
structure T_cdb_form.ok (x : T_cdb_form) : Prop where
  f0 : (-9223372036854775808) ≤ x.f0 ∧ x.f0 ≤ 9223372036854775807
  f1 : (-9223372036854775808) ≤ x.f1 ∧ x.f1 ≤ 9223372036854775807
  f2 : x.f2.ok
  f3 : x.f3.ok
  f4 : x.f4.ok
structure T_cdb_Ask where
  f0 : Int
  f1 : Int
  f2 : Int
  f3 : Bool
  f4 : Int
  f5 : Int
  f6 : Int

def T_cdb_Ask.z : T_cdb_Ask := ⟨0, 0, 0, false, 0, 0, 0⟩
def T_cdb_Ask.enc (x : T_cdb_Ask) : List Value := [.int .i64 x.f0, .int .i64 x.f1, .int .i64 x.f2, .bool x.f3, .int .i64 x.f4, .int .i64 x.f5, .int .i64 x.f6]
structure T_cdb_Ask.ok (x : T_cdb_Ask) : Prop where
  f0 : (-9223372036854775808) ≤ x.f0 ∧ x.f0 ≤ 9223372036854775807
  f1 : (-9223372036854775808) ≤ x.f1 ∧ x.f1 ≤ 9223372036854775807
  f2 : (-9223372036854775808) ≤ x.f2 ∧ x.f2 ≤ 9223372036854775807
  f3 : True
  f4 : (-9223372036854775808) ≤ x.f4 ∧ x.f4 ≤ 9223372036854775807
  f5 : (-9223372036854775808) ≤ x.f5 ∧ x.f5 ≤ 9223372036854775807
  f6 : (-9223372036854775808) ≤ x.f6 ∧ x.f6 ≤ 9223372036854775807
structure T_api_Sense where
  f0 : Int
  f1 : Int
  f2 : Int
  f3 : Int

def T_api_Sense.z : T_api_Sense := ⟨0, 0, 0, 0⟩
def T_api_Sense.enc (x : T_api_Sense) : List Value := [.int .i64 x.f0, .int .i64 x.f1, .int .i64 x.f2, .int .i64 x.f3]
structure T_api_Sense.ok (x : T_api_Sense) : Prop where
  f0 : (-9223372036854775808) ≤ x.f0 ∧ x.f0 ≤ 9223372036854775807
  f1 : (-9223372036854775808) ≤ x.f1 ∧ x.f1 ≤ 9223372036854775807
  f2 : (-9223372036854775808) ≤ x.f2 ∧ x.f2 ≤ 9223372036854775807
  f3 : (-9223372036854775808) ≤ x.f3 ∧ x.f3 ≤ 9223372036854775807
structure T_sense_row where
  f0 : Int
  f1 : Int
  f2 : Int
  f3 : Int
  f4 : Int
  f5 : Int

def T_sense_row.z : T_sense_row := ⟨0, 0, 0, 0, 0, 0⟩
def T_sense_row.enc (x : T_sense_row) : List Value := [.int .i64 x.f0, .int .i64 x.f1, .int .i64 x.f2, .int .i64 x.f3, .int .i64 x.f4, .int .i64 x.f5]
structure T_sense_row.ok (x : T_sense_row) : Prop where
  f0 : (-9223372036854775808) ≤ x.f0 ∧ x.f0 ≤ 9223372036854775807
  f1 : (-9223372036854775808) ≤ x.f1 ∧ x.f1 ≤ 9223372036854775807
  f2 : (-9223372036854775808) ≤ x.f2 ∧ x.f2 ≤ 9223372036854775807
  f3 : (-9223372036854775808) ≤ x.f3 ∧ x.f3 ≤ 9223372036854775807
  f4 : (-9223372036854775808) ≤ x.f4 ∧ x.f4 ≤ 9223372036854775807
  f5 : (-9223372036854775808) ≤ x.f5 ∧ x.f5 ≤ 9223372036854775807
structure T_api_Out where
  f0 : Int
  f1 : ByteArray
  f2 : Int
  f3 : Int
  f4 : List T_api_Reg
  f5 : Int
  f6 : T_api_Hold
  f7 : Int

structure T_api_Out.ok (x : T_api_Out) : Prop where
  f0 : (-9223372036854775808) ≤ x.f0 ∧ x.f0 ≤ 9223372036854775807
  f1 : x.f1.size ≤ 140737488351232
  f2 : (-9223372036854775808) ≤ x.f2 ∧ x.f2 ≤ 9223372036854775807
  f3 : (-9223372036854775808) ≤ x.f3 ∧ x.f3 ≤ 9223372036854775807
  f4 : x.f4.length * 24 ≤ 140737488351232 ∧ ∀ y ∈ x.f4, y.ok
  f5 : 0 ≤ x.f5 ∧ x.f5 ≤ 4294967295
  f6 : x.f6.ok
  f7 : (-9223372036854775808) ≤ x.f7 ∧ x.f7 ≤ 9223372036854775807
structure T_api_Reply where
  f0 : Int
  f1 : T_api_Sense
  f2 : ByteArray

def T_api_Reply.z : T_api_Reply := ⟨0, T_api_Sense.z, ⟨#[]⟩⟩
def T_api_Reply.enc (x : T_api_Reply) : List Value := [.int .i64 x.f0, .int .i64 x.f1.f0, .int .i64 x.f1.f1, .int .i64 x.f1.f2, .int .i64 x.f1.f3, .string x.f2]
structure T_api_Reply.ok (x : T_api_Reply) : Prop where
  f0 : (-9223372036854775808) ≤ x.f0 ∧ x.f0 ≤ 9223372036854775807
  f1 : x.f1.ok
  f2 : x.f2.size ≤ 140737488351232
structure T_api_Range where
  f0 : Int
  f1 : Int

def T_api_Range.z : T_api_Range := ⟨0, 0⟩
def T_api_Range.enc (x : T_api_Range) : List Value := [.int .i64 x.f0, .int .i64 x.f1]
structure T_api_Range.ok (x : T_api_Range) : Prop where
  f0 : (-9223372036854775808) ≤ x.f0 ∧ x.f0 ≤ 9223372036854775807
  f1 : (-9223372036854775808) ≤ x.f1 ∧ x.f1 ≤ 9223372036854775807
structure T_api_Cmd where
  f0 : Int
  f1 : Int
  f2 : ByteArray
  f3 : Int
  f4 : Int
  f5 : ByteArray
  f6 : Bool
  f7 : List T_api_Range
  f8 : Int
  f9 : Int
  f10 : Int
  f11 : Int
  f12 : Bool
  f13 : Int

structure T_api_Cmd.ok (x : T_api_Cmd) : Prop where
  f0 : (-9223372036854775808) ≤ x.f0 ∧ x.f0 ≤ 9223372036854775807
  f1 : (-9223372036854775808) ≤ x.f1 ∧ x.f1 ≤ 9223372036854775807
  f2 : x.f2.size ≤ 140737488351232
  f3 : (-9223372036854775808) ≤ x.f3 ∧ x.f3 ≤ 9223372036854775807
  f4 : (-9223372036854775808) ≤ x.f4 ∧ x.f4 ≤ 9223372036854775807
  f5 : x.f5.size ≤ 140737488351232
  f6 : True
  f7 : x.f7.length * 16 ≤ 140737488351232 ∧ ∀ y ∈ x.f7, y.ok
  f8 : 0 ≤ x.f8 ∧ x.f8 ≤ 18446744073709551615
  f9 : 0 ≤ x.f9 ∧ x.f9 ≤ 18446744073709551615
  f10 : 0 ≤ x.f10 ∧ x.f10 ≤ 18446744073709551615
  f11 : (-9223372036854775808) ≤ x.f11 ∧ x.f11 ≤ 9223372036854775807
  f12 : True
  f13 : (-9223372036854775808) ≤ x.f13 ∧ x.f13 ≤ 9223372036854775807
structure T_cache_change where
  f0 : Int
  f1 : Int
  f2 : ByteArray
  f3 : List T_api_Range

structure T_cache_change.ok (x : T_cache_change) : Prop where
  f0 : (-9223372036854775808) ≤ x.f0 ∧ x.f0 ≤ 9223372036854775807
  f1 : (-9223372036854775808) ≤ x.f1 ∧ x.f1 ≤ 9223372036854775807
  f2 : x.f2.size ≤ 140737488351232
  f3 : x.f3.length * 16 ≤ 140737488351232 ∧ ∀ y ∈ x.f3, y.ok
structure T_api_Event where
  f0 : ByteArray
  f1 : Int

def T_api_Event.z : T_api_Event := ⟨⟨#[]⟩, 0⟩
def T_api_Event.enc (x : T_api_Event) : List Value := [.string x.f0, .int .i64 x.f1]
structure T_api_Event.ok (x : T_api_Event) : Prop where
  f0 : x.f0.size ≤ 140737488351232
  f1 : (-9223372036854775808) ≤ x.f1 ∧ x.f1 ≤ 9223372036854775807
structure T_arr7_3 where
  f0 : Int
  f1 : Int
  f2 : Int
  f3 : Int
  f4 : Int
  f5 : Int
  f6 : Int

def T_arr7_3.z : T_arr7_3 := ⟨0, 0, 0, 0, 0, 0, 0⟩
def T_arr7_3.enc (x : T_arr7_3) : List Value := [.int .i64 x.f0, .int .i64 x.f1, .int .i64 x.f2, .int .i64 x.f3, .int .i64 x.f4, .int .i64 x.f5, .int .i64 x.f6]
structure T_arr7_3.ok (x : T_arr7_3) : Prop where
  f0 : (-9223372036854775808) ≤ x.f0 ∧ x.f0 ≤ 9223372036854775807
  f1 : (-9223372036854775808) ≤ x.f1 ∧ x.f1 ≤ 9223372036854775807
  f2 : (-9223372036854775808) ≤ x.f2 ∧ x.f2 ≤ 9223372036854775807
  f3 : (-9223372036854775808) ≤ x.f3 ∧ x.f3 ≤ 9223372036854775807
  f4 : (-9223372036854775808) ≤ x.f4 ∧ x.f4 ≤ 9223372036854775807
  f5 : (-9223372036854775808) ≤ x.f5 ∧ x.f5 ≤ 9223372036854775807
  f6 : (-9223372036854775808) ≤ x.f6 ∧ x.f6 ≤ 9223372036854775807
structure T_headgateref15_Ask where
  f0 : Int
  f1 : Int
  f2 : Int
  f3 : Bool
  f4 : Int
  f5 : Int
  f6 : Int

def T_headgateref15_Ask.z : T_headgateref15_Ask := ⟨0, 0, 0, false, 0, 0, 0⟩
def T_headgateref15_Ask.enc (x : T_headgateref15_Ask) : List Value := [.int .i64 x.f0, .int .i64 x.f1, .int .i64 x.f2, .bool x.f3, .int .i64 x.f4, .int .i64 x.f5, .int .i64 x.f6]
structure T_headgateref15_Ask.ok (x : T_headgateref15_Ask) : Prop where
  f0 : (-9223372036854775808) ≤ x.f0 ∧ x.f0 ≤ 9223372036854775807
  f1 : (-9223372036854775808) ≤ x.f1 ∧ x.f1 ≤ 9223372036854775807
  f2 : (-9223372036854775808) ≤ x.f2 ∧ x.f2 ≤ 9223372036854775807
  f3 : True
  f4 : (-9223372036854775808) ≤ x.f4 ∧ x.f4 ≤ 9223372036854775807
  f5 : (-9223372036854775808) ≤ x.f5 ∧ x.f5 ≤ 9223372036854775807
  f6 : (-9223372036854775808) ≤ x.f6 ∧ x.f6 ≤ 9223372036854775807
structure T_headgateref16_Reply where
  f0 : Int
  f1 : T_api_Sense

def T_headgateref16_Reply.z : T_headgateref16_Reply := ⟨0, T_api_Sense.z⟩
def T_headgateref16_Reply.enc (x : T_headgateref16_Reply) : List Value := [.int .i64 x.f0, .int .i64 x.f1.f0, .int .i64 x.f1.f1, .int .i64 x.f1.f2, .int .i64 x.f1.f3]
structure T_headgateref16_Reply.ok (x : T_headgateref16_Reply) : Prop where
  f0 : (-9223372036854775808) ≤ x.f0 ∧ x.f0 ≤ 9223372036854775807
  f1 : x.f1.ok
structure T_headgateref11_Told where
  f0 : T_api_Table
  f1 : List T_api_Event
  f2 : Int

structure T_headgateref11_Told.ok (x : T_headgateref11_Told) : Prop where
  f0 : x.f0.ok
  f1 : x.f1.length * 24 ≤ 140737488351232 ∧ ∀ y ∈ x.f1, y.ok
  f2 : (-9223372036854775808) ≤ x.f2 ∧ x.f2 ≤ 9223372036854775807
structure T_headgateref08_Unit where
  f0 : List ByteArray
  f1 : List Int
  f2 : ByteArray

structure T_headgateref08_Unit.ok (x : T_headgateref08_Unit) : Prop where
  f0 : x.f0.length * 16 ≤ 140737488351232 ∧ ∀ y ∈ x.f0, y.size ≤ 140737488351232
  f1 : x.f1.length * 8 ≤ 140737488351232 ∧ ∀ y ∈ x.f1, (-9223372036854775808) ≤ y ∧ y ≤ 9223372036854775807
  f2 : x.f2.size ≤ 140737488351232
/-- The table headgate/access.lets. -/
def G_access_lets : List Int := [0, 1, 0, 5, 6, 13, 14]
/-- The table headgate/sense.rows. -/
def G_sense_rows : List T_sense_row := [⟨1, 0, 0, 0, 0, 0⟩, ⟨2, 0, 24, 0, 0, 0⟩, ⟨3, 0, 2, 14, 29, 0⟩, ⟨4, 0, 2, 5, 33, 0⟩, ⟨5, 0, 2, 5, 36, 0⟩, ⟨6, 0, 2, 5, 37, 0⟩, ⟨8, 0, 2, 3, 12, 0⟩, ⟨7, 1, 2, 6, 41, 0⟩, ⟨7, 2, 2, 6, 42, 5⟩, ⟨7, 3, 2, 6, 42, 4⟩, ⟨7, 4, 2, 6, 42, 3⟩]
/-- The table headgate/cdb.forms. -/
def G_cdb_forms : List T_cdb_form := [⟨0, 6, ⟨0, 0⟩, ⟨0, 0⟩, ⟨0, 0⟩⟩, ⟨18, 6, ⟨0, 0⟩, ⟨0, 0⟩, ⟨3, 2⟩⟩, ⟨37, 10, ⟨0, 0⟩, ⟨0, 0⟩, ⟨0, 0⟩⟩, ⟨40, 10, ⟨2, 4⟩, ⟨7, 2⟩, ⟨0, 0⟩⟩, ⟨136, 16, ⟨2, 8⟩, ⟨10, 4⟩, ⟨0, 0⟩⟩, ⟨42, 10, ⟨2, 4⟩, ⟨7, 2⟩, ⟨0, 0⟩⟩, ⟨138, 16, ⟨2, 8⟩, ⟨10, 4⟩, ⟨0, 0⟩⟩, ⟨53, 10, ⟨0, 0⟩, ⟨0, 0⟩, ⟨0, 0⟩⟩, ⟨66, 10, ⟨0, 0⟩, ⟨0, 0⟩, ⟨7, 2⟩⟩, ⟨137, 16, ⟨2, 8⟩, ⟨13, 1⟩, ⟨0, 0⟩⟩, ⟨147, 16, ⟨2, 8⟩, ⟨10, 4⟩, ⟨0, 0⟩⟩, ⟨94, 10, ⟨0, 0⟩, ⟨0, 0⟩, ⟨7, 2⟩⟩, ⟨95, 10, ⟨0, 0⟩, ⟨0, 0⟩, ⟨5, 4⟩⟩, ⟨160, 12, ⟨0, 0⟩, ⟨0, 0⟩, ⟨6, 4⟩⟩]
/-- The table headgate/cdb.numbers. -/
def G_cdb_numbers : List Int := [0, 1, 3, 5, 6, 7, 8]
/-- The table headgate/crc.steps. -/
def G_crc_steps : List Int := [0, 274646895, 549293790, 820201905, 1098587580, 1361435347, 1640403810, 1905808397, 2197175160, 2460548119, 2722870694, 2987750089, 3280807620, 3553878443, 3811616794, 4084100981]
end Go.Proofs.YteilejfncdacfaaGreatDoor.F
