/- The struct types of the functions, as Lean structures. No condition. -/
import Derived.Test.YtceagilmillgfaaDoorXDraw
import Derived.Test.YtceagilmillgfaaDoorProg
namespace Go.Proofs.YtceagilmillgfaaDoor.F
open Go Go.RowKit Go.Proofs.YtceagilmillgfaaDoor.X
set_option linter.unusedVariables false
set_option linter.unusedSimpArgs false
structure T_sqe_field where
  f0 : Int
  f1 : Int
  f2 : Int

def T_sqe_field.z : T_sqe_field := ⟨0, 0, 0⟩
def T_sqe_field.enc (x : T_sqe_field) : List Value := [.int .i64 x.f0, .int .i64 x.f1, .int .u64 x.f2]
structure T_sqe_field.ok (x : T_sqe_field) : Prop where
  f0 : (-9223372036854775808) ≤ x.f0 ∧ x.f0 ≤ 9223372036854775807
  f1 : (-9223372036854775808) ≤ x.f1 ∧ x.f1 ≤ 9223372036854775807
  f2 : 0 ≤ x.f2 ∧ x.f2 ≤ 18446744073709551615
structure T_arr6_22 where
  f0 : Int
  f1 : Int
  f2 : Int
  f3 : Int
  f4 : Int
  f5 : Int

def T_arr6_22.z : T_arr6_22 := ⟨0, 0, 0, 0, 0, 0⟩
def T_arr6_22.enc (x : T_arr6_22) : List Value := [.int .u32 x.f0, .int .u32 x.f1, .int .u32 x.f2, .int .u32 x.f3, .int .u32 x.f4, .int .u32 x.f5]
structure T_arr6_22.ok (x : T_arr6_22) : Prop where
  f0 : 0 ≤ x.f0 ∧ x.f0 ≤ 4294967295
  f1 : 0 ≤ x.f1 ∧ x.f1 ≤ 4294967295
  f2 : 0 ≤ x.f2 ∧ x.f2 ≤ 4294967295
  f3 : 0 ≤ x.f3 ∧ x.f3 ≤ 4294967295
  f4 : 0 ≤ x.f4 ∧ x.f4 ≤ 4294967295
  f5 : 0 ≤ x.f5 ∧ x.f5 ≤ 4294967295
structure T_api_Sqe where
  f0 : Int
  f1 : Int
  f2 : Int
  f3 : Int
  f4 : Int
  f5 : T_arr6_22

def T_api_Sqe.z : T_api_Sqe := ⟨0, 0, 0, 0, 0, T_arr6_22.z⟩
def T_api_Sqe.enc (x : T_api_Sqe) : List Value := [.int .i64 x.f0, .int .i64 x.f1, .int .i64 x.f2, .int .u32 x.f3, .int .i64 x.f4, .int .u32 x.f5.f0, .int .u32 x.f5.f1, .int .u32 x.f5.f2, .int .u32 x.f5.f3, .int .u32 x.f5.f4, .int .u32 x.f5.f5]
structure T_api_Sqe.ok (x : T_api_Sqe) : Prop where
  f0 : (-9223372036854775808) ≤ x.f0 ∧ x.f0 ≤ 9223372036854775807
  f1 : (-9223372036854775808) ≤ x.f1 ∧ x.f1 ≤ 9223372036854775807
  f2 : (-9223372036854775808) ≤ x.f2 ∧ x.f2 ≤ 9223372036854775807
  f3 : 0 ≤ x.f3 ∧ x.f3 ≤ 4294967295
  f4 : (-9223372036854775808) ≤ x.f4 ∧ x.f4 ≤ 9223372036854775807
  f5 : x.f5.ok
structure T_api_Cqe where
  f0 : Int
  f1 : Int
  f2 : Int
  f3 : Int
  f4 : Int
  f5 : Int

def T_api_Cqe.z : T_api_Cqe := ⟨0, 0, 0, 0, 0, 0⟩
def T_api_Cqe.enc (x : T_api_Cqe) : List Value := [.int .u32 x.f0, .int .u32 x.f1, .int .i64 x.f2, .int .i64 x.f3, .int .i64 x.f4, .int .i64 x.f5]
structure T_api_Cqe.ok (x : T_api_Cqe) : Prop where
  f0 : 0 ≤ x.f0 ∧ x.f0 ≤ 4294967295
  f1 : 0 ≤ x.f1 ∧ x.f1 ≤ 4294967295
  f2 : (-9223372036854775808) ≤ x.f2 ∧ x.f2 ≤ 9223372036854775807
  f3 : (-9223372036854775808) ≤ x.f3 ∧ x.f3 ≤ 9223372036854775807
  f4 : (-9223372036854775808) ≤ x.f4 ∧ x.f4 ≤ 9223372036854775807
  f5 : (-9223372036854775808) ≤ x.f5 ∧ x.f5 ≤ 9223372036854775807
structure T_api_Reg where
  f0 : ByteArray
  f1 : Int

def T_api_Reg.z : T_api_Reg := ⟨⟨#[]⟩, 0⟩
def T_api_Reg.enc (x : T_api_Reg) : List Value := [.string x.f0, .int .u64 x.f1]
structure T_api_Reg.ok (x : T_api_Reg) : Prop where
  f0 : x.f0.size ≤ 140737488351232
  f1 : 0 ≤ x.f1 ∧ x.f1 ≤ 18446744073709551615
structure T_api_Hold where
  f0 : Int
  f1 : ByteArray

def T_api_Hold.z : T_api_Hold := ⟨0, ⟨#[]⟩⟩
def T_api_Hold.enc (x : T_api_Hold) : List Value := [.int .i64 x.f0, .string x.f1]
structure T_api_Hold.ok (x : T_api_Hold) : Prop where
  f0 : (-9223372036854775808) ≤ x.f0 ∧ x.f0 ≤ 9223372036854775807
  f1 : x.f1.size ≤ 140737488351232
structure T_api_Table where
  f0 : List T_api_Reg
  f1 : T_api_Hold
  f2 : Int
  f3 : Bool

structure T_api_Table.ok (x : T_api_Table) : Prop where
  f0 : x.f0.length * 24 ≤ 140737488351232 ∧ ∀ y ∈ x.f0, y.ok
  f1 : x.f1.ok
  f2 : 0 ≤ x.f2 ∧ x.f2 ≤ 4294967295
  f3 : True
structure T_arr7_3 where
  f0 : Int
  f1 : Int
  f2 : Int
  f3 : Int
  f4 : Int
  f5 : Int
  f6 : Int

def T_arr7_3.z : T_arr7_3 := ⟨0, 0, 0, 0, 0, 0, 0⟩
def T_arr7_3.enc (x : T_arr7_3) : List Value := [.int .i64 x.f0, .int .i64 x.f1, .int .i64 x.f2, .int .i64 x.f3, .int .i64 x.f4, .int .i64 x.f5, .int .i64 x.f6]
structure T_arr7_3.ok (x : T_arr7_3) : Prop where
  f0 : (-9223372036854775808) ≤ x.f0 ∧ x.f0 ≤ 9223372036854775807
  f1 : (-9223372036854775808) ≤ x.f1 ∧ x.f1 ≤ 9223372036854775807
  f2 : (-9223372036854775808) ≤ x.f2 ∧ x.f2 ≤ 9223372036854775807
  f3 : (-9223372036854775808) ≤ x.f3 ∧ x.f3 ≤ 9223372036854775807
  f4 : (-9223372036854775808) ≤ x.f4 ∧ x.f4 ≤ 9223372036854775807
  f5 : (-9223372036854775808) ≤ x.f5 ∧ x.f5 ≤ 9223372036854775807
  f6 : (-9223372036854775808) ≤ x.f6 ∧ x.f6 ≤ 9223372036854775807
structure T_api_Range where
  f0 : Int
  f1 : Int

def T_api_Range.z : T_api_Range := ⟨0, 0⟩
def T_api_Range.enc (x : T_api_Range) : List Value := [.int .i64 x.f0, .int .i64 x.f1]
structure T_api_Range.ok (x : T_api_Range) : Prop where
  f0 : (-9223372036854775808) ≤ x.f0 ∧ x.f0 ≤ 9223372036854775807
  f1 : (-9223372036854775808) ≤ x.f1 ∧ x.f1 ≤ 9223372036854775807
structure T_api_Cmd where
  f0 : Int
  f1 : Int
  f2 : ByteArray
  f3 : Int
  f4 : Int
  f5 : ByteArray
  f6 : Bool
  f7 : List T_api_Range
  f8 : Int
  f9 : Int
  f10 : Int
  f11 : Int
  f12 : Bool
  f13 : Int

structure T_api_Cmd.ok (x : T_api_Cmd) : Prop where
  f0 : (-9223372036854775808) ≤ x.f0 ∧ x.f0 ≤ 9223372036854775807
  f1 : (-9223372036854775808) ≤ x.f1 ∧ x.f1 ≤ 9223372036854775807
  f2 : x.f2.size ≤ 140737488351232
  f3 : (-9223372036854775808) ≤ x.f3 ∧ x.f3 ≤ 9223372036854775807
  f4 : (-9223372036854775808) ≤ x.f4 ∧ x.f4 ≤ 9223372036854775807
  f5 : x.f5.size ≤ 140737488351232
  f6 : True
  f7 : x.f7.length * 16 ≤ 140737488351232 ∧ ∀ y ∈ x.f7, y.ok
  f8 : 0 ≤ x.f8 ∧ x.f8 ≤ 18446744073709551615
  f9 : 0 ≤ x.f9 ∧ x.f9 ≤ 18446744073709551615
  f10 : 0 ≤ x.f10 ∧ x.f10 ≤ 18446744073709551615
  f11 : (-9223372036854775808) ≤ x.f11 ∧ x.f11 ≤ 9223372036854775807
  f12 : True
  f13 : (-9223372036854775808) ≤ x.f13 ∧ x.f13 ≤ 9223372036854775807
structure T_headgateref25_Got where
  f0 : T_api_Sqe
  f1 : Bool

def T_headgateref25_Got.z : T_headgateref25_Got := ⟨T_api_Sqe.z, false⟩
def T_headgateref25_Got.enc (x : T_headgateref25_Got) : List Value := [.int .i64 x.f0.f0, .int .i64 x.f0.f1, .int .i64 x.f0.f2, .int .u32 x.f0.f3, .int .i64 x.f0.f4, .int .u32 x.f0.f5.f0, .int .u32 x.f0.f5.f1, .int .u32 x.f0.f5.f2, .int .u32 x.f0.f5.f3, .int .u32 x.f0.f5.f4, .int .u32 x.f0.f5.f5, .bool x.f1]
structure T_headgateref25_Got.ok (x : T_headgateref25_Got) : Prop where
  f0 : x.f0.ok
  f1 : True
structure T_cdb_Ask where
  f0 : Int
  f1 : Int
  f2 : Int
  f3 : Bool
  f4 : Int
  f5 : Int
  f6 : Int

def T_cdb_Ask.z : T_cdb_Ask := ⟨0, 0, 0, false, 0, 0, 0⟩
def T_cdb_Ask.enc (x : T_cdb_Ask) : List Value := [.int .i64 x.f0, .int .i64 x.f1, .int .i64 x.f2, .bool x.f3, .int .i64 x.f4, .int .i64 x.f5, .int .i64 x.f6]
structure T_cdb_Ask.ok (x : T_cdb_Ask) : Prop where
  f0 : (-9223372036854775808) ≤ x.f0 ∧ x.f0 ≤ 9223372036854775807
  f1 : (-9223372036854775808) ≤ x.f1 ∧ x.f1 ≤ 9223372036854775807
  f2 : (-9223372036854775808) ≤ x.f2 ∧ x.f2 ≤ 9223372036854775807
  f3 : True
  f4 : (-9223372036854775808) ≤ x.f4 ∧ x.f4 ≤ 9223372036854775807
  f5 : (-9223372036854775808) ≤ x.f5 ∧ x.f5 ≤ 9223372036854775807
  f6 : (-9223372036854775808) ≤ x.f6 ∧ x.f6 ≤ 9223372036854775807
structure T_headgateref15_Ask where
  f0 : Int
  f1 : Int
  f2 : Int
  f3 : Bool
  f4 : Int
  f5 : Int
  f6 : Int

def T_headgateref15_Ask.z : T_headgateref15_Ask := ⟨0, 0, 0, false, 0, 0, 0⟩
def T_headgateref15_Ask.enc (x : T_headgateref15_Ask) : List Value := [.int .i64 x.f0, .int .i64 x.f1, .int .i64 x.f2, .bool x.f3, .int .i64 x.f4, .int .i64 x.f5, .int .i64 x.f6]
structure T_headgateref15_Ask.ok (x : T_headgateref15_Ask) : Prop where
  f0 : (-9223372036854775808) ≤ x.f0 ∧ x.f0 ≤ 9223372036854775807
  f1 : (-9223372036854775808) ≤ x.f1 ∧ x.f1 ≤ 9223372036854775807
  f2 : (-9223372036854775808) ≤ x.f2 ∧ x.f2 ≤ 9223372036854775807
  f3 : True
  f4 : (-9223372036854775808) ≤ x.f4 ∧ x.f4 ≤ 9223372036854775807
  f5 : (-9223372036854775808) ≤ x.f5 ∧ x.f5 ≤ 9223372036854775807
  f6 : (-9223372036854775808) ≤ x.f6 ∧ x.f6 ≤ 9223372036854775807
/-- The table headgate/cdb.numbers. -/
def G_cdb_numbers : List Int := [0, 1, 3, 5, 6, 7, 8]
/-- The table headgate/sqe.endsOf. -/
def G_sqe_endsOf : List T_sqe_field := [⟨0, 4, 4294967296⟩, ⟨4, 4, 4294967296⟩, ⟨8, 2, 65536⟩, ⟨10, 2, 65536⟩, ⟨12, 2, 65536⟩, ⟨14, 2, 32768⟩]
/-- The table headgate/sqe.fieldsOf. -/
def G_sqe_fieldsOf : List T_sqe_field := [⟨0, 1, 256⟩, ⟨1, 1, 3⟩, ⟨2, 2, 65536⟩, ⟨4, 4, 4294967296⟩, ⟨32, 4, 4294967296⟩, ⟨40, 4, 4294967296⟩, ⟨44, 4, 4294967296⟩, ⟨48, 4, 4294967296⟩, ⟨52, 4, 4294967296⟩, ⟨56, 4, 4294967296⟩, ⟨60, 4, 4294967296⟩]
end Go.Proofs.YtceagilmillgfaaDoor.F
