/- headgate/headgateref16.Code: plain functions, and that the calls come to what they say. No condition. -/
import Derived.Test.YthjjbkgifelooaaDoorFT
import Derived.Test.YthjjbkgifelooaaDoorF64
import Derived.Test.YthjjbkgifelooaaDoorF66
namespace Go.Proofs.YthjjbkgifelooaaDoor.F
open Go Go.RowKit Go.Proofs.YthjjbkgifelooaaDoor.X
set_option linter.unusedVariables false
set_option linter.unusedSimpArgs false
/-! ### headgate/headgateref16.Code: function 34 -/
def headgateref16_Code.j10 (K : Nat)  : Option (T_api_Out × Bool) :=
  some ((⟨0, (⟨#[]⟩ : ByteArray), 0, 0, ([] : List T_api_Reg), 0, (⟨0, (⟨#[]⟩ : ByteArray)⟩ : T_api_Hold), 0⟩ : T_api_Out), false)
def headgateref16_Code.j9 (K : Nat) (a0 : Int) (a1 : T_api_Sense) : Option (T_api_Out × Bool) :=
  (headgateref16_Of.f K (⟨3, (⟨#[]⟩ : ByteArray), a1.f3, 0, ([] : List T_api_Reg), 0, (⟨0, (⟨#[]⟩ : ByteArray)⟩ : T_api_Hold), 0⟩ : T_api_Out)).bind fun t5272 => (if t5272.f0 = a0 then ((headgatekeep_Senses.f (⟨t5272.f1.f0, t5272.f1.f1, t5272.f1.f2, t5272.f1.f3⟩ : T_api_Sense) a1).bind fun t5282 => (if t5282 = true then (some ((⟨3, (⟨#[]⟩ : ByteArray), a1.f3, 0, ([] : List T_api_Reg), 0, (⟨0, (⟨#[]⟩ : ByteArray)⟩ : T_api_Hold), 0⟩ : T_api_Out), true)) else (headgateref16_Code.j10 K ))) else (headgateref16_Code.j10 K ))
def headgateref16_Code.j8 (K : Nat) (a0 : Int) (a1 : T_api_Sense) : Option (T_api_Out × Bool) :=
  (headgateref16_Of.f K (⟨7, (⟨#[]⟩ : ByteArray), 0, 4, ([] : List T_api_Reg), 0, (⟨0, (⟨#[]⟩ : ByteArray)⟩ : T_api_Hold), 0⟩ : T_api_Out)).bind fun t5242 => (if t5242.f0 = a0 then ((headgatekeep_Senses.f (⟨t5242.f1.f0, t5242.f1.f1, t5242.f1.f2, t5242.f1.f3⟩ : T_api_Sense) a1).bind fun t5252 => (if t5252 = true then (some ((⟨7, (⟨#[]⟩ : ByteArray), 0, 4, ([] : List T_api_Reg), 0, (⟨0, (⟨#[]⟩ : ByteArray)⟩ : T_api_Hold), 0⟩ : T_api_Out), true)) else (headgateref16_Code.j9 K a0 a1))) else (headgateref16_Code.j9 K a0 a1))
def headgateref16_Code.j7 (K : Nat) (a0 : Int) (a1 : T_api_Sense) : Option (T_api_Out × Bool) :=
  (headgateref16_Of.f K (⟨7, (⟨#[]⟩ : ByteArray), 0, 3, ([] : List T_api_Reg), 0, (⟨0, (⟨#[]⟩ : ByteArray)⟩ : T_api_Hold), 0⟩ : T_api_Out)).bind fun t5212 => (if t5212.f0 = a0 then ((headgatekeep_Senses.f (⟨t5212.f1.f0, t5212.f1.f1, t5212.f1.f2, t5212.f1.f3⟩ : T_api_Sense) a1).bind fun t5222 => (if t5222 = true then (some ((⟨7, (⟨#[]⟩ : ByteArray), 0, 3, ([] : List T_api_Reg), 0, (⟨0, (⟨#[]⟩ : ByteArray)⟩ : T_api_Hold), 0⟩ : T_api_Out), true)) else (headgateref16_Code.j8 K a0 a1))) else (headgateref16_Code.j8 K a0 a1))
def headgateref16_Code.j6 (K : Nat) (a0 : Int) (a1 : T_api_Sense) : Option (T_api_Out × Bool) :=
  (headgateref16_Of.f K (⟨7, (⟨#[]⟩ : ByteArray), 0, 2, ([] : List T_api_Reg), 0, (⟨0, (⟨#[]⟩ : ByteArray)⟩ : T_api_Hold), 0⟩ : T_api_Out)).bind fun t5182 => (if t5182.f0 = a0 then ((headgatekeep_Senses.f (⟨t5182.f1.f0, t5182.f1.f1, t5182.f1.f2, t5182.f1.f3⟩ : T_api_Sense) a1).bind fun t5192 => (if t5192 = true then (some ((⟨7, (⟨#[]⟩ : ByteArray), 0, 2, ([] : List T_api_Reg), 0, (⟨0, (⟨#[]⟩ : ByteArray)⟩ : T_api_Hold), 0⟩ : T_api_Out), true)) else (headgateref16_Code.j7 K a0 a1))) else (headgateref16_Code.j7 K a0 a1))
def headgateref16_Code.j5 (K : Nat) (a0 : Int) (a1 : T_api_Sense) : Option (T_api_Out × Bool) :=
  (headgateref16_Of.f K (⟨7, (⟨#[]⟩ : ByteArray), 0, 1, ([] : List T_api_Reg), 0, (⟨0, (⟨#[]⟩ : ByteArray)⟩ : T_api_Hold), 0⟩ : T_api_Out)).bind fun t5152 => (if t5152.f0 = a0 then ((headgatekeep_Senses.f (⟨t5152.f1.f0, t5152.f1.f1, t5152.f1.f2, t5152.f1.f3⟩ : T_api_Sense) a1).bind fun t5162 => (if t5162 = true then (some ((⟨7, (⟨#[]⟩ : ByteArray), 0, 1, ([] : List T_api_Reg), 0, (⟨0, (⟨#[]⟩ : ByteArray)⟩ : T_api_Hold), 0⟩ : T_api_Out), true)) else (headgateref16_Code.j6 K a0 a1))) else (headgateref16_Code.j6 K a0 a1))
def headgateref16_Code.j4 (K : Nat) (a0 : Int) (a1 : T_api_Sense) : Option (T_api_Out × Bool) :=
  (headgateref16_Of.f K (⟨8, (⟨#[]⟩ : ByteArray), 0, 0, ([] : List T_api_Reg), 0, (⟨0, (⟨#[]⟩ : ByteArray)⟩ : T_api_Hold), 0⟩ : T_api_Out)).bind fun t5122 => (if t5122.f0 = a0 then ((headgatekeep_Senses.f (⟨t5122.f1.f0, t5122.f1.f1, t5122.f1.f2, t5122.f1.f3⟩ : T_api_Sense) a1).bind fun t5132 => (if t5132 = true then (some ((⟨8, (⟨#[]⟩ : ByteArray), 0, 0, ([] : List T_api_Reg), 0, (⟨0, (⟨#[]⟩ : ByteArray)⟩ : T_api_Hold), 0⟩ : T_api_Out), true)) else (headgateref16_Code.j5 K a0 a1))) else (headgateref16_Code.j5 K a0 a1))
def headgateref16_Code.j3 (K : Nat) (a0 : Int) (a1 : T_api_Sense) : Option (T_api_Out × Bool) :=
  (headgateref16_Of.f K (⟨6, (⟨#[]⟩ : ByteArray), 0, 0, ([] : List T_api_Reg), 0, (⟨0, (⟨#[]⟩ : ByteArray)⟩ : T_api_Hold), 0⟩ : T_api_Out)).bind fun t5092 => (if t5092.f0 = a0 then ((headgatekeep_Senses.f (⟨t5092.f1.f0, t5092.f1.f1, t5092.f1.f2, t5092.f1.f3⟩ : T_api_Sense) a1).bind fun t5102 => (if t5102 = true then (some ((⟨6, (⟨#[]⟩ : ByteArray), 0, 0, ([] : List T_api_Reg), 0, (⟨0, (⟨#[]⟩ : ByteArray)⟩ : T_api_Hold), 0⟩ : T_api_Out), true)) else (headgateref16_Code.j4 K a0 a1))) else (headgateref16_Code.j4 K a0 a1))
def headgateref16_Code.j2 (K : Nat) (a0 : Int) (a1 : T_api_Sense) : Option (T_api_Out × Bool) :=
  (headgateref16_Of.f K (⟨5, (⟨#[]⟩ : ByteArray), 0, 0, ([] : List T_api_Reg), 0, (⟨0, (⟨#[]⟩ : ByteArray)⟩ : T_api_Hold), 0⟩ : T_api_Out)).bind fun t5062 => (if t5062.f0 = a0 then ((headgatekeep_Senses.f (⟨t5062.f1.f0, t5062.f1.f1, t5062.f1.f2, t5062.f1.f3⟩ : T_api_Sense) a1).bind fun t5072 => (if t5072 = true then (some ((⟨5, (⟨#[]⟩ : ByteArray), 0, 0, ([] : List T_api_Reg), 0, (⟨0, (⟨#[]⟩ : ByteArray)⟩ : T_api_Hold), 0⟩ : T_api_Out), true)) else (headgateref16_Code.j3 K a0 a1))) else (headgateref16_Code.j3 K a0 a1))
def headgateref16_Code.j1 (K : Nat) (a0 : Int) (a1 : T_api_Sense) : Option (T_api_Out × Bool) :=
  (headgateref16_Of.f K (⟨4, (⟨#[]⟩ : ByteArray), 0, 0, ([] : List T_api_Reg), 0, (⟨0, (⟨#[]⟩ : ByteArray)⟩ : T_api_Hold), 0⟩ : T_api_Out)).bind fun t5032 => (if t5032.f0 = a0 then ((headgatekeep_Senses.f (⟨t5032.f1.f0, t5032.f1.f1, t5032.f1.f2, t5032.f1.f3⟩ : T_api_Sense) a1).bind fun t5042 => (if t5042 = true then (some ((⟨4, (⟨#[]⟩ : ByteArray), 0, 0, ([] : List T_api_Reg), 0, (⟨0, (⟨#[]⟩ : ByteArray)⟩ : T_api_Hold), 0⟩ : T_api_Out), true)) else (headgateref16_Code.j2 K a0 a1))) else (headgateref16_Code.j2 K a0 a1))
def headgateref16_Code.j0 (K : Nat) (a0 : Int) (a1 : T_api_Sense) : Option (T_api_Out × Bool) :=
  (headgateref16_Of.f K (⟨2, (⟨#[]⟩ : ByteArray), 0, 0, ([] : List T_api_Reg), 0, (⟨0, (⟨#[]⟩ : ByteArray)⟩ : T_api_Hold), 0⟩ : T_api_Out)).bind fun t5002 => (if t5002.f0 = a0 then ((headgatekeep_Senses.f (⟨t5002.f1.f0, t5002.f1.f1, t5002.f1.f2, t5002.f1.f3⟩ : T_api_Sense) a1).bind fun t5012 => (if t5012 = true then (some ((⟨2, (⟨#[]⟩ : ByteArray), 0, 0, ([] : List T_api_Reg), 0, (⟨0, (⟨#[]⟩ : ByteArray)⟩ : T_api_Hold), 0⟩ : T_api_Out), true)) else (headgateref16_Code.j1 K a0 a1))) else (headgateref16_Code.j1 K a0 a1))
def headgateref16_Code.f (K : Nat) (a0 : Int) (a1 : T_api_Sense) : Option (T_api_Out × Bool) :=
  (headgateref16_Of.f K (⟨1, (⟨#[]⟩ : ByteArray), 0, 0, ([] : List T_api_Reg), 0, (⟨0, (⟨#[]⟩ : ByteArray)⟩ : T_api_Hold), 0⟩ : T_api_Out)).bind fun t4972 => (if t4972.f0 = a0 then ((headgatekeep_Senses.f (⟨t4972.f1.f0, t4972.f1.f1, t4972.f1.f2, t4972.f1.f3⟩ : T_api_Sense) a1).bind fun t4982 => (if t4982 = true then (some ((⟨1, (⟨#[]⟩ : ByteArray), 0, 0, ([] : List T_api_Reg), 0, (⟨0, (⟨#[]⟩ : ByteArray)⟩ : T_api_Hold), 0⟩ : T_api_Out), true)) else (headgateref16_Code.j0 K a0 a1))) else (headgateref16_Code.j0 K a0 a1))
set_option maxRecDepth 100000 in
set_option maxHeartbeats 4000000 in
theorem headgateref16_Code.calls (K : Nat) (a0 : Int) (a1 : T_api_Sense)  (r : T_api_Out × Bool) (w : World)  (h : headgateref16_Code.f K a0 a1 = some r) :
    Calls Tryd.prog 34 #[.int .i64 a0, .agg #[.int .i64 a1.f0, .int .i64 a1.f1, .int .i64 a1.f2, .int .i64 a1.f3]] w (fun e W' => ∃ A_0 c_0, e = .returned (.tuple #[.agg #[.int .i64 r.1.f0, .string r.1.f1, .int .i64 r.1.f2, .int .i64 r.1.f3, .slice A_0 r.1.f4.length c_0, .int .u32 r.1.f5, .int .i64 r.1.f6.f0, .string r.1.f6.f1, .int .i64 r.1.f7], .bool r.2]) ∧ Wd w W' [] [⟨44, 2, .slice A_0 r.1.f4.length c_0, r.1.f4.length, encs T_api_Reg.enc r.1.f4⟩] ) := by
  refine sxstart (n := 49) (l := [(0, .int .i64 a0), (1, .agg #[.int .i64 a1.f0, .int .i64 a1.f1, .int .i64 a1.f2, .int .i64 a1.f3])]) Tryd.func34 rfl rfl (Nat.le_of_ble_eq_true KR) (subsA_cons rfl (subsA_cons rfl (subsA_nil _))) ?_
  intro a ha
  have HW := Wd.refl w
  unfold headgateref16_Code.f at h
  refine wp_seq_k (fun K4909 hK4910 => ?_)
  refine wp_region_lit ?_
  refine stepnew ha HW 3 #[.int .i64 a1.f0, .int .i64 a1.f1, .int .i64 a1.f2, .int .i64 a1.f3] 66 KR KR ?_; clear ha HW a; intro b4911 a W4912 HW ha
  refine stepnew ha HW 4 #[.int .i64 0, .string (⟨#[]⟩ : ByteArray), .int .i64 0, .int .i64 0, .slice none 0 0, .int .u32 0, .int .i64 0, .string (⟨#[]⟩ : ByteArray), .int .i64 0] 64 KR KR ?_; clear ha HW a; intro b4913 a W4914 HW ha
  refine stepp ha 5 (.bool false) KR KR ?_; clear ha a; intro a ha
  refine endl ?_
  refine thenN (hK4910 _ _ ?_); clear hK4910
  refine wp_seq_k (fun K4915 hK4916 => ?_)
  refine wp_region_lit ?_
  refine stepp ha 9 (.agg #[.int .i64 1, .string (⟨#[]⟩ : ByteArray), .int .i64 0, .int .i64 0, .slice none 0 0, .int .u32 0, .int .i64 0, .string (⟨#[]⟩ : ByteArray), .int .i64 0]) KR KR ?_; clear ha a; intro a ha
  refine stepp ha 10 (.agg #[.int .i64 2, .string (⟨#[]⟩ : ByteArray), .int .i64 0, .int .i64 0, .slice none 0 0, .int .u32 0, .int .i64 0, .string (⟨#[]⟩ : ByteArray), .int .i64 0]) KR KR ?_; clear ha a; intro a ha
  refine stepp ha 11 (.agg #[.int .i64 4, .string (⟨#[]⟩ : ByteArray), .int .i64 0, .int .i64 0, .slice none 0 0, .int .u32 0, .int .i64 0, .string (⟨#[]⟩ : ByteArray), .int .i64 0]) KR KR ?_; clear ha a; intro a ha
  refine stepp ha 12 (.agg #[.int .i64 5, .string (⟨#[]⟩ : ByteArray), .int .i64 0, .int .i64 0, .slice none 0 0, .int .u32 0, .int .i64 0, .string (⟨#[]⟩ : ByteArray), .int .i64 0]) KR KR ?_; clear ha a; intro a ha
  refine stepp ha 13 (.agg #[.int .i64 6, .string (⟨#[]⟩ : ByteArray), .int .i64 0, .int .i64 0, .slice none 0 0, .int .u32 0, .int .i64 0, .string (⟨#[]⟩ : ByteArray), .int .i64 0]) KR KR ?_; clear ha a; intro a ha
  refine stepp ha 14 (.agg #[.int .i64 8, .string (⟨#[]⟩ : ByteArray), .int .i64 0, .int .i64 0, .slice none 0 0, .int .u32 0, .int .i64 0, .string (⟨#[]⟩ : ByteArray), .int .i64 0]) KR KR ?_; clear ha a; intro a ha
  refine stepp ha 15 (.agg #[.int .i64 7, .string (⟨#[]⟩ : ByteArray), .int .i64 0, .int .i64 1, .slice none 0 0, .int .u32 0, .int .i64 0, .string (⟨#[]⟩ : ByteArray), .int .i64 0]) KR KR ?_; clear ha a; intro a ha
  refine stepp ha 16 (.agg #[.int .i64 7, .string (⟨#[]⟩ : ByteArray), .int .i64 0, .int .i64 2, .slice none 0 0, .int .u32 0, .int .i64 0, .string (⟨#[]⟩ : ByteArray), .int .i64 0]) KR KR ?_; clear ha a; intro a ha
  refine stepp ha 17 (.agg #[.int .i64 7, .string (⟨#[]⟩ : ByteArray), .int .i64 0, .int .i64 3, .slice none 0 0, .int .u32 0, .int .i64 0, .string (⟨#[]⟩ : ByteArray), .int .i64 0]) KR KR ?_; clear ha a; intro a ha
  refine stepp ha 18 (.agg #[.int .i64 7, .string (⟨#[]⟩ : ByteArray), .int .i64 0, .int .i64 4, .slice none 0 0, .int .u32 0, .int .i64 0, .string (⟨#[]⟩ : ByteArray), .int .i64 0]) KR KR ?_; clear ha a; intro a ha
  refine stepp ha 19 (.pointer (some ⟨b4911, 3, none⟩)) KR KR ?_; clear ha a; intro a ha
  refine stepl ha 20 (HW.ca (i := 1) (b := b4911) (C := #[.int .i64 a1.f0, .int .i64 a1.f1, .int .i64 a1.f2, .int .i64 a1.f3]) (T := 66) (fr := (0, 0)) KR) 3 3 (.tmp 19) (.int .i64 a1.f3) rfl KR KR KR ?_; clear ha a; intro a ha
  refine stepp ha 21 (.agg #[.int .i64 3, .string (⟨#[]⟩ : ByteArray), .int .i64 a1.f3, .int .i64 0, .slice none 0 0, .int .u32 0, .int .i64 0, .string (⟨#[]⟩ : ByteArray), .int .i64 0]) KR KR ?_; clear ha a; intro a ha
  refine stepbk ha HW 22 64 11 #[.int .i64 1, .string (⟨#[]⟩ : ByteArray), .int .i64 0, .int .i64 0, .slice none 0 0, .int .u32 0, .int .i64 0, .string (⟨#[]⟩ : ByteArray), .int .i64 0, .int .i64 2, .string (⟨#[]⟩ : ByteArray), .int .i64 0, .int .i64 0, .slice none 0 0, .int .u32 0, .int .i64 0, .string (⟨#[]⟩ : ByteArray), .int .i64 0, .int .i64 4, .string (⟨#[]⟩ : ByteArray), .int .i64 0, .int .i64 0, .slice none 0 0, .int .u32 0, .int .i64 0, .string (⟨#[]⟩ : ByteArray), .int .i64 0, .int .i64 5, .string (⟨#[]⟩ : ByteArray), .int .i64 0, .int .i64 0, .slice none 0 0, .int .u32 0, .int .i64 0, .string (⟨#[]⟩ : ByteArray), .int .i64 0, .int .i64 6, .string (⟨#[]⟩ : ByteArray), .int .i64 0, .int .i64 0, .slice none 0 0, .int .u32 0, .int .i64 0, .string (⟨#[]⟩ : ByteArray), .int .i64 0, .int .i64 8, .string (⟨#[]⟩ : ByteArray), .int .i64 0, .int .i64 0, .slice none 0 0, .int .u32 0, .int .i64 0, .string (⟨#[]⟩ : ByteArray), .int .i64 0, .int .i64 7, .string (⟨#[]⟩ : ByteArray), .int .i64 0, .int .i64 1, .slice none 0 0, .int .u32 0, .int .i64 0, .string (⟨#[]⟩ : ByteArray), .int .i64 0, .int .i64 7, .string (⟨#[]⟩ : ByteArray), .int .i64 0, .int .i64 2, .slice none 0 0, .int .u32 0, .int .i64 0, .string (⟨#[]⟩ : ByteArray), .int .i64 0, .int .i64 7, .string (⟨#[]⟩ : ByteArray), .int .i64 0, .int .i64 3, .slice none 0 0, .int .u32 0, .int .i64 0, .string (⟨#[]⟩ : ByteArray), .int .i64 0, .int .i64 7, .string (⟨#[]⟩ : ByteArray), .int .i64 0, .int .i64 4, .slice none 0 0, .int .u32 0, .int .i64 0, .string (⟨#[]⟩ : ByteArray), .int .i64 0, .int .i64 3, .string (⟨#[]⟩ : ByteArray), .int .i64 a1.f3, .int .i64 0, .slice none 0 0, .int .u32 0, .int .i64 0, .string (⟨#[]⟩ : ByteArray), .int .i64 0] KR KR ?_; clear ha HW a; intro b4917 a W4918 HW ha
  refine stepp ha 6 (.slice (some ⟨b4917, 0, none⟩) 11 11) KR KR ?_; clear ha a; intro a ha
  refine endl ?_
  refine thenN (hK4916 _ _ ?_); clear hK4916
  refine wp_seq_k (fun K4919 hK4920 => ?_)
  refine wp_seq_k (fun K4921 hK4922 => ?_)
  refine wp_region_lit ?_
  refine stepp ha 7 (.int .i64 0) KR KR ?_; clear ha a; intro a ha
  refine endl ?_
  refine thenN (hK4922 _ _ ?_); clear hK4922
  refine wp_block ?_
  refine wp_loop_rounds 24 ?_
  refine roundK (n := 23) (fun K4962 hK4963 => ?_)
  refine cutn (fun a W4991 => headgateref16_Code.j0 K a0 a1 = some r ∧ Has 49 [(0, .int .i64 a0), (3, .pointer (some ⟨b4911, 0, none⟩)), (4, .pointer (some ⟨b4913, 0, none⟩)), (6, .slice (some ⟨b4917, 0, none⟩) 11 11), (7, .int .i64 1)] a ∧ Wd w W4991 [(b4911, .cells #[.int .i64 a1.f0, .int .i64 a1.f1, .int .i64 a1.f2, .int .i64 a1.f3] 66 (0, 0)), (b4913, .cells #[.int .i64 0, .string (⟨#[]⟩ : ByteArray), .int .i64 0, .int .i64 0, .slice none 0 0, .int .u32 0, .int .i64 0, .string (⟨#[]⟩ : ByteArray), .int .i64 0] 64 (0, 0)), (b4917, .cells #[.int .i64 1, .string (⟨#[]⟩ : ByteArray), .int .i64 0, .int .i64 0, .slice none 0 0, .int .u32 0, .int .i64 0, .string (⟨#[]⟩ : ByteArray), .int .i64 0, .int .i64 2, .string (⟨#[]⟩ : ByteArray), .int .i64 0, .int .i64 0, .slice none 0 0, .int .u32 0, .int .i64 0, .string (⟨#[]⟩ : ByteArray), .int .i64 0, .int .i64 4, .string (⟨#[]⟩ : ByteArray), .int .i64 0, .int .i64 0, .slice none 0 0, .int .u32 0, .int .i64 0, .string (⟨#[]⟩ : ByteArray), .int .i64 0, .int .i64 5, .string (⟨#[]⟩ : ByteArray), .int .i64 0, .int .i64 0, .slice none 0 0, .int .u32 0, .int .i64 0, .string (⟨#[]⟩ : ByteArray), .int .i64 0, .int .i64 6, .string (⟨#[]⟩ : ByteArray), .int .i64 0, .int .i64 0, .slice none 0 0, .int .u32 0, .int .i64 0, .string (⟨#[]⟩ : ByteArray), .int .i64 0, .int .i64 8, .string (⟨#[]⟩ : ByteArray), .int .i64 0, .int .i64 0, .slice none 0 0, .int .u32 0, .int .i64 0, .string (⟨#[]⟩ : ByteArray), .int .i64 0, .int .i64 7, .string (⟨#[]⟩ : ByteArray), .int .i64 0, .int .i64 1, .slice none 0 0, .int .u32 0, .int .i64 0, .string (⟨#[]⟩ : ByteArray), .int .i64 0, .int .i64 7, .string (⟨#[]⟩ : ByteArray), .int .i64 0, .int .i64 2, .slice none 0 0, .int .u32 0, .int .i64 0, .string (⟨#[]⟩ : ByteArray), .int .i64 0, .int .i64 7, .string (⟨#[]⟩ : ByteArray), .int .i64 0, .int .i64 3, .slice none 0 0, .int .u32 0, .int .i64 0, .string (⟨#[]⟩ : ByteArray), .int .i64 0, .int .i64 7, .string (⟨#[]⟩ : ByteArray), .int .i64 0, .int .i64 4, .slice none 0 0, .int .u32 0, .int .i64 0, .string (⟨#[]⟩ : ByteArray), .int .i64 0, .int .i64 3, .string (⟨#[]⟩ : ByteArray), .int .i64 a1.f3, .int .i64 0, .slice none 0 0, .int .u32 0, .int .i64 0, .string (⟨#[]⟩ : ByteArray), .int .i64 0] 64 (0, 0))] []) ?_ ?_
  · skip
    refine wp_seq_k (fun K4964 hK4965 => ?_)
    refine wp_seq_k (fun K4966 hK4967 => ?_)
    refine wp_region_lit ?_
    refine stepp ha 23 (.int .i64 0) KR KR ?_; clear ha a; intro a ha
    refine stepp ha 24 (.slice (some ⟨b4917, 0, none⟩) 11 11) KR KR ?_; clear ha a; intro a ha
    refine stepp ha 25 (.int .i64 11) KR KR ?_; clear ha a; intro a ha
    refine stepp ha 26 (.bool true) KR KR ?_; clear ha a; intro a ha
    refine endl ?_
    refine thenN (hK4967 _ _ ?_); clear hK4967
    refine condT ha KR KR (t := true) (rfl) ?_
    refine wp_skip ?_
    refine thenN (hK4965 _ _ ?_); clear hK4965
    refine wp_seq_k (fun K4968 hK4969 => ?_)
    refine wp_block ?_
    refine wp_seq_k (fun K4970 hK4971 => ?_)
    refine wp_region_lit ?_
    refine stepp ha 29 (.slice (some ⟨b4917, 0, none⟩) 11 11) KR KR ?_; clear ha a; intro a ha
    refine stepp ha 30 (.int .i64 0) KR KR ?_; clear ha a; intro a ha
    refine stepp ha 31 (.pointer (some ⟨b4917, 0, none⟩)) KR KR ?_; clear ha a; intro a ha
    refine stepl ha 32 (HW.ca (i := 0) (b := b4917) (C := #[.int .i64 1, .string (⟨#[]⟩ : ByteArray), .int .i64 0, .int .i64 0, .slice none 0 0, .int .u32 0, .int .i64 0, .string (⟨#[]⟩ : ByteArray), .int .i64 0, .int .i64 2, .string (⟨#[]⟩ : ByteArray), .int .i64 0, .int .i64 0, .slice none 0 0, .int .u32 0, .int .i64 0, .string (⟨#[]⟩ : ByteArray), .int .i64 0, .int .i64 4, .string (⟨#[]⟩ : ByteArray), .int .i64 0, .int .i64 0, .slice none 0 0, .int .u32 0, .int .i64 0, .string (⟨#[]⟩ : ByteArray), .int .i64 0, .int .i64 5, .string (⟨#[]⟩ : ByteArray), .int .i64 0, .int .i64 0, .slice none 0 0, .int .u32 0, .int .i64 0, .string (⟨#[]⟩ : ByteArray), .int .i64 0, .int .i64 6, .string (⟨#[]⟩ : ByteArray), .int .i64 0, .int .i64 0, .slice none 0 0, .int .u32 0, .int .i64 0, .string (⟨#[]⟩ : ByteArray), .int .i64 0, .int .i64 8, .string (⟨#[]⟩ : ByteArray), .int .i64 0, .int .i64 0, .slice none 0 0, .int .u32 0, .int .i64 0, .string (⟨#[]⟩ : ByteArray), .int .i64 0, .int .i64 7, .string (⟨#[]⟩ : ByteArray), .int .i64 0, .int .i64 1, .slice none 0 0, .int .u32 0, .int .i64 0, .string (⟨#[]⟩ : ByteArray), .int .i64 0, .int .i64 7, .string (⟨#[]⟩ : ByteArray), .int .i64 0, .int .i64 2, .slice none 0 0, .int .u32 0, .int .i64 0, .string (⟨#[]⟩ : ByteArray), .int .i64 0, .int .i64 7, .string (⟨#[]⟩ : ByteArray), .int .i64 0, .int .i64 3, .slice none 0 0, .int .u32 0, .int .i64 0, .string (⟨#[]⟩ : ByteArray), .int .i64 0, .int .i64 7, .string (⟨#[]⟩ : ByteArray), .int .i64 0, .int .i64 4, .slice none 0 0, .int .u32 0, .int .i64 0, .string (⟨#[]⟩ : ByteArray), .int .i64 0, .int .i64 3, .string (⟨#[]⟩ : ByteArray), .int .i64 a1.f3, .int .i64 0, .slice none 0 0, .int .u32 0, .int .i64 0, .string (⟨#[]⟩ : ByteArray), .int .i64 0]) (T := 64) (fr := (0, 0)) KR) 64 0 (.tmp 31) (.agg #[.int .i64 1, .string (⟨#[]⟩ : ByteArray), .int .i64 0, .int .i64 0, .slice none 0 0, .int .u32 0, .int .i64 0, .string (⟨#[]⟩ : ByteArray), .int .i64 0]) rfl KR KR KR ?_; clear ha a; intro a ha
    obtain ⟨t4972, ht4973, h_⟩ := bind_some' h; clear h; have h := h_; clear h_
    refine stepc ha 33 KR KR (headgateref16_Of.calls K (⟨1, (⟨#[]⟩ : ByteArray), 0, 0, ([] : List T_api_Reg), 0, (⟨0, (⟨#[]⟩ : ByteArray)⟩ : T_api_Hold), 0⟩ : T_api_Out) none 0 t4972 _ (Rd.nil _ _) ht4973) ?_; clear ha a; rintro e W4974 ⟨rfl, HX4975⟩
    refine ⟨_, rfl, ?_⟩; intro a ha; replace HW := HW.callw HX4975; clear HX4975
    refine stepnew ha HW 8 #[.int .i64 0, .int .i64 0, .int .i64 0, .int .i64 0, .int .i64 0] 70 KR KR ?_; clear ha HW a; intro b4976 a W4977 HW ha
    refine stepst ha HW 0 (b := b4976) (C := #[.int .i64 0, .int .i64 0, .int .i64 0, .int .i64 0, .int .i64 0]) (T := 70) KR 70 0 (.tmp 8) (.tmp 33) (.agg #[.int .i64 t4972.f0, .int .i64 t4972.f1.f0, .int .i64 t4972.f1.f1, .int .i64 t4972.f1.f2, .int .i64 t4972.f1.f3]) #[.int .i64 t4972.f0, .int .i64 t4972.f1.f0, .int .i64 t4972.f1.f1, .int .i64 t4972.f1.f2, .int .i64 t4972.f1.f3] rfl KR KR KR KR KR KR KR ?_; clear ha HW a; intro a W4978 HW ha
    refine endl ?_
    refine thenN (hK4971 _ _ ?_); clear hK4971
    refine wp_seq_k (fun K4979 hK4980 => ?_)
    refine wp_region_lit ?_
    refine stepp ha 34 (.pointer (some ⟨b4976, 0, none⟩)) KR KR ?_; clear ha a; intro a ha
    refine stepl ha 35 (HW.ca (i := 0) (b := b4976) (C := #[.int .i64 t4972.f0, .int .i64 t4972.f1.f0, .int .i64 t4972.f1.f1, .int .i64 t4972.f1.f2, .int .i64 t4972.f1.f3]) (T := 70) (fr := (0, 0)) KR) 3 0 (.tmp 34) (.int .i64 t4972.f0) rfl KR KR KR ?_; clear ha a; intro a ha
    refine stepp ha 36 (.int .i64 a0) KR KR ?_; clear ha a; intro a ha
    refine stepp ha 37 (.bool (t4972.f0 == a0)) KR KR ?_; clear ha a; intro a ha
    refine stepp ha 38 (.bool (t4972.f0 == a0)) KR KR ?_; clear ha a; intro a ha
    by_cases hp4981 : t4972.f0 = a0
    · skip
      replace h := ite_pos' h hp4981
      replace ha := ha.bool 38 KR (ieq_t hp4981)
      refine stepp ha 39 (.pointer (some ⟨b4976, 1, none⟩)) KR KR ?_; clear ha a; intro a ha
      refine stepl ha 40 (HW.ca (i := 0) (b := b4976) (C := #[.int .i64 t4972.f0, .int .i64 t4972.f1.f0, .int .i64 t4972.f1.f1, .int .i64 t4972.f1.f2, .int .i64 t4972.f1.f3]) (T := 70) (fr := (0, 0)) KR) 66 1 (.tmp 39) (.agg #[.int .i64 t4972.f1.f0, .int .i64 t4972.f1.f1, .int .i64 t4972.f1.f2, .int .i64 t4972.f1.f3]) rfl KR KR KR ?_; clear ha a; intro a ha
      refine stepl ha 41 (HW.ca (i := 3) (b := b4911) (C := #[.int .i64 a1.f0, .int .i64 a1.f1, .int .i64 a1.f2, .int .i64 a1.f3]) (T := 66) (fr := (0, 0)) KR) 66 0 (.tmp 3) (.agg #[.int .i64 a1.f0, .int .i64 a1.f1, .int .i64 a1.f2, .int .i64 a1.f3]) rfl KR KR KR ?_; clear ha a; intro a ha
      obtain ⟨t4982, ht4983, h_⟩ := bind_some' h; clear h; have h := h_; clear h_
      refine stepc ha 42 KR KR (headgatekeep_Senses.calls (⟨t4972.f1.f0, t4972.f1.f1, t4972.f1.f2, t4972.f1.f3⟩ : T_api_Sense) a1 t4982 _ ht4983) ?_; clear ha a; rintro e W4984 ⟨rfl, HX4985⟩
      refine ⟨_, rfl, ?_⟩; intro a ha; replace HW := HW.callw HX4985; clear HX4985
      refine stepp ha 43 (.bool t4982) KR KR ?_; clear ha a; intro a ha
      refine endl ?_
      refine thenN (hK4980 _ _ ?_); clear hK4980
      by_cases hp4986 : t4982 = true
      · skip
        replace h := ite_pos' h hp4986
        refine condT ha KR KR (t := t4982) (hp4986) ?_
        refine wp_seq_k (fun K4987 hK4988 => ?_)
        refine wp_region_lit ?_
        refine stepp ha 44 (.slice (some ⟨b4917, 0, none⟩) 11 11) KR KR ?_; clear ha a; intro a ha
        refine stepp ha 45 (.int .i64 0) KR KR ?_; clear ha a; intro a ha
        refine stepp ha 46 (.pointer (some ⟨b4917, 0, none⟩)) KR KR ?_; clear ha a; intro a ha
        refine stepl ha 47 (HW.ca (i := 1) (b := b4917) (C := #[.int .i64 1, .string (⟨#[]⟩ : ByteArray), .int .i64 0, .int .i64 0, .slice none 0 0, .int .u32 0, .int .i64 0, .string (⟨#[]⟩ : ByteArray), .int .i64 0, .int .i64 2, .string (⟨#[]⟩ : ByteArray), .int .i64 0, .int .i64 0, .slice none 0 0, .int .u32 0, .int .i64 0, .string (⟨#[]⟩ : ByteArray), .int .i64 0, .int .i64 4, .string (⟨#[]⟩ : ByteArray), .int .i64 0, .int .i64 0, .slice none 0 0, .int .u32 0, .int .i64 0, .string (⟨#[]⟩ : ByteArray), .int .i64 0, .int .i64 5, .string (⟨#[]⟩ : ByteArray), .int .i64 0, .int .i64 0, .slice none 0 0, .int .u32 0, .int .i64 0, .string (⟨#[]⟩ : ByteArray), .int .i64 0, .int .i64 6, .string (⟨#[]⟩ : ByteArray), .int .i64 0, .int .i64 0, .slice none 0 0, .int .u32 0, .int .i64 0, .string (⟨#[]⟩ : ByteArray), .int .i64 0, .int .i64 8, .string (⟨#[]⟩ : ByteArray), .int .i64 0, .int .i64 0, .slice none 0 0, .int .u32 0, .int .i64 0, .string (⟨#[]⟩ : ByteArray), .int .i64 0, .int .i64 7, .string (⟨#[]⟩ : ByteArray), .int .i64 0, .int .i64 1, .slice none 0 0, .int .u32 0, .int .i64 0, .string (⟨#[]⟩ : ByteArray), .int .i64 0, .int .i64 7, .string (⟨#[]⟩ : ByteArray), .int .i64 0, .int .i64 2, .slice none 0 0, .int .u32 0, .int .i64 0, .string (⟨#[]⟩ : ByteArray), .int .i64 0, .int .i64 7, .string (⟨#[]⟩ : ByteArray), .int .i64 0, .int .i64 3, .slice none 0 0, .int .u32 0, .int .i64 0, .string (⟨#[]⟩ : ByteArray), .int .i64 0, .int .i64 7, .string (⟨#[]⟩ : ByteArray), .int .i64 0, .int .i64 4, .slice none 0 0, .int .u32 0, .int .i64 0, .string (⟨#[]⟩ : ByteArray), .int .i64 0, .int .i64 3, .string (⟨#[]⟩ : ByteArray), .int .i64 a1.f3, .int .i64 0, .slice none 0 0, .int .u32 0, .int .i64 0, .string (⟨#[]⟩ : ByteArray), .int .i64 0]) (T := 64) (fr := (0, 0)) KR) 64 0 (.tmp 46) (.agg #[.int .i64 1, .string (⟨#[]⟩ : ByteArray), .int .i64 0, .int .i64 0, .slice none 0 0, .int .u32 0, .int .i64 0, .string (⟨#[]⟩ : ByteArray), .int .i64 0]) rfl KR KR KR ?_; clear ha a; intro a ha
        refine stepst ha HW 2 (b := b4913) (C := #[.int .i64 0, .string (⟨#[]⟩ : ByteArray), .int .i64 0, .int .i64 0, .slice none 0 0, .int .u32 0, .int .i64 0, .string (⟨#[]⟩ : ByteArray), .int .i64 0]) (T := 64) KR 64 0 (.tmp 4) (.tmp 47) (.agg #[.int .i64 1, .string (⟨#[]⟩ : ByteArray), .int .i64 0, .int .i64 0, .slice none 0 0, .int .u32 0, .int .i64 0, .string (⟨#[]⟩ : ByteArray), .int .i64 0]) #[.int .i64 1, .string (⟨#[]⟩ : ByteArray), .int .i64 0, .int .i64 0, .slice none 0 0, .int .u32 0, .int .i64 0, .string (⟨#[]⟩ : ByteArray), .int .i64 0] rfl KR KR KR KR KR KR KR ?_; clear ha HW a; intro a W4989 HW ha
        refine stepp ha 5 (.bool true) KR KR ?_; clear ha a; intro a ha
        refine endl ?_
        refine thenN (hK4988 _ _ ?_); clear hK4988
        refine wp_ret ?_
        refine blkR ?_
        refine thenR ?_
        refine thenR ?_
        refine blkR ?_
        refine thenR ?_
        obtain rfl := Option.some.inj h
        replace HW := HW.nilo 44 2
        exact finv ha _ _ rfl (.cell (ad := ⟨b4913, 0, none⟩) (v := .agg #[.int .i64 1, .string (⟨#[]⟩ : ByteArray), .int .i64 0, .int .i64 0, .slice none 0 0, .int .u32 0, .int .i64 0, .string (⟨#[]⟩ : ByteArray), .int .i64 0]) KR (run_loadVar_ca0 (HW.ca (i := 2) (b := b4913) (C := #[.int .i64 1, .string (⟨#[]⟩ : ByteArray), .int .i64 0, .int .i64 0, .slice none 0 0, .int .u32 0, .int .i64 0, .string (⟨#[]⟩ : ByteArray), .int .i64 0]) (T := 64) (fr := (0, 0)) KR) 64 0 (.agg #[.int .i64 1, .string (⟨#[]⟩ : ByteArray), .int .i64 0, .int .i64 0, .slice none 0 0, .int .u32 0, .int .i64 0, .string (⟨#[]⟩ : ByteArray), .int .i64 0]) KR) (.tmp (v := .bool true) KR .nil)) (.tuple #[.agg #[.int .i64 1, .string (⟨#[]⟩ : ByteArray), .int .i64 0, .int .i64 0, .slice none 0 0, .int .u32 0, .int .i64 0, .string (⟨#[]⟩ : ByteArray), .int .i64 0], .bool true]) rfl ⟨none, 0, rfl, HW.pick [] [0] (by decide) (by decide) rfl KR⟩
      · skip
        replace h := ite_neg' h hp4986
        refine condF ha KR KR (t := t4982) (bool_f hp4986) ?_
        refine wp_skip ?_
        refine blkN ?_
        refine thenN (hK4969 _ _ ?_); clear hK4969
        refine wp_region_lit ?_
        refine stepp ha 27 (.int .i64 0) KR KR ?_; clear ha a; intro a ha
        refine stepp ha 28 (.int .i64 1) KR KR ?_; clear ha a; intro a ha
        refine stepp ha 7 (.int .i64 1) KR KR ?_; clear ha a; intro a ha
        refine endl ?_
        exact thenN ⟨h, ha.sub (subs_cons KR (subs_cons KR (subs_cons KR (subs_cons KR (subs_cons KR (subs_nil _)))))), HW.pick [3, 2, 1] [] (by decide) (by decide) KR KR⟩
    · skip
      replace h := ite_neg' h hp4981
      replace ha := ha.bool 38 KR (ieq_f hp4981)
      refine stepo ha 39 KR ?_; clear ha a; intro a ha
      refine stepo ha 40 KR ?_; clear ha a; intro a ha
      refine stepo ha 41 KR ?_; clear ha a; intro a ha
      refine stepo ha 42 KR ?_; clear ha a; intro a ha
      refine stepp ha 43 (.bool false) KR KR ?_; clear ha a; intro a ha
      refine endl ?_
      refine thenN (hK4980 _ _ ?_); clear hK4980
      refine condF ha KR KR (t := false) (rfl) ?_
      refine wp_skip ?_
      refine blkN ?_
      refine thenN (hK4969 _ _ ?_); clear hK4969
      refine wp_region_lit ?_
      refine stepp ha 27 (.int .i64 0) KR KR ?_; clear ha a; intro a ha
      refine stepp ha 28 (.int .i64 1) KR KR ?_; clear ha a; intro a ha
      refine stepp ha 7 (.int .i64 1) KR KR ?_; clear ha a; intro a ha
      refine endl ?_
      exact thenN ⟨h, ha.sub (subs_cons KR (subs_cons KR (subs_cons KR (subs_cons KR (subs_cons KR (subs_nil _)))))), HW.pick [3, 2, 1] [] (by decide) (by decide) KR KR⟩
  · skip
    intro a W4991 hJ
    obtain ⟨h, ha, HW⟩ := hJ
    replace h : headgateref16_Code.j0 K a0 a1 = some r := h
    unfold headgateref16_Code.j0 at h
    refine hK4963 _ _ ?_; clear hK4963
    refine roundK (n := 22) (fun K4992 hK4993 => ?_)
    refine cutn (fun a W5021 => headgateref16_Code.j1 K a0 a1 = some r ∧ Has 49 [(0, .int .i64 a0), (3, .pointer (some ⟨b4911, 0, none⟩)), (4, .pointer (some ⟨b4913, 0, none⟩)), (6, .slice (some ⟨b4917, 0, none⟩) 11 11), (7, .int .i64 2)] a ∧ Wd w W5021 [(b4911, .cells #[.int .i64 a1.f0, .int .i64 a1.f1, .int .i64 a1.f2, .int .i64 a1.f3] 66 (0, 0)), (b4913, .cells #[.int .i64 0, .string (⟨#[]⟩ : ByteArray), .int .i64 0, .int .i64 0, .slice none 0 0, .int .u32 0, .int .i64 0, .string (⟨#[]⟩ : ByteArray), .int .i64 0] 64 (0, 0)), (b4917, .cells #[.int .i64 1, .string (⟨#[]⟩ : ByteArray), .int .i64 0, .int .i64 0, .slice none 0 0, .int .u32 0, .int .i64 0, .string (⟨#[]⟩ : ByteArray), .int .i64 0, .int .i64 2, .string (⟨#[]⟩ : ByteArray), .int .i64 0, .int .i64 0, .slice none 0 0, .int .u32 0, .int .i64 0, .string (⟨#[]⟩ : ByteArray), .int .i64 0, .int .i64 4, .string (⟨#[]⟩ : ByteArray), .int .i64 0, .int .i64 0, .slice none 0 0, .int .u32 0, .int .i64 0, .string (⟨#[]⟩ : ByteArray), .int .i64 0, .int .i64 5, .string (⟨#[]⟩ : ByteArray), .int .i64 0, .int .i64 0, .slice none 0 0, .int .u32 0, .int .i64 0, .string (⟨#[]⟩ : ByteArray), .int .i64 0, .int .i64 6, .string (⟨#[]⟩ : ByteArray), .int .i64 0, .int .i64 0, .slice none 0 0, .int .u32 0, .int .i64 0, .string (⟨#[]⟩ : ByteArray), .int .i64 0, .int .i64 8, .string (⟨#[]⟩ : ByteArray), .int .i64 0, .int .i64 0, .slice none 0 0, .int .u32 0, .int .i64 0, .string (⟨#[]⟩ : ByteArray), .int .i64 0, .int .i64 7, .string (⟨#[]⟩ : ByteArray), .int .i64 0, .int .i64 1, .slice none 0 0, .int .u32 0, .int .i64 0, .string (⟨#[]⟩ : ByteArray), .int .i64 0, .int .i64 7, .string (⟨#[]⟩ : ByteArray), .int .i64 0, .int .i64 2, .slice none 0 0, .int .u32 0, .int .i64 0, .string (⟨#[]⟩ : ByteArray), .int .i64 0, .int .i64 7, .string (⟨#[]⟩ : ByteArray), .int .i64 0, .int .i64 3, .slice none 0 0, .int .u32 0, .int .i64 0, .string (⟨#[]⟩ : ByteArray), .int .i64 0, .int .i64 7, .string (⟨#[]⟩ : ByteArray), .int .i64 0, .int .i64 4, .slice none 0 0, .int .u32 0, .int .i64 0, .string (⟨#[]⟩ : ByteArray), .int .i64 0, .int .i64 3, .string (⟨#[]⟩ : ByteArray), .int .i64 a1.f3, .int .i64 0, .slice none 0 0, .int .u32 0, .int .i64 0, .string (⟨#[]⟩ : ByteArray), .int .i64 0] 64 (0, 0))] []) ?_ ?_
    · skip
      refine wp_seq_k (fun K4994 hK4995 => ?_)
      refine wp_seq_k (fun K4996 hK4997 => ?_)
      refine wp_region_lit ?_
      refine stepp ha 23 (.int .i64 1) KR KR ?_; clear ha a; intro a ha
      refine stepp ha 24 (.slice (some ⟨b4917, 0, none⟩) 11 11) KR KR ?_; clear ha a; intro a ha
      refine stepp ha 25 (.int .i64 11) KR KR ?_; clear ha a; intro a ha
      refine stepp ha 26 (.bool true) KR KR ?_; clear ha a; intro a ha
      refine endl ?_
      refine thenN (hK4997 _ _ ?_); clear hK4997
      refine condT ha KR KR (t := true) (rfl) ?_
      refine wp_skip ?_
      refine thenN (hK4995 _ _ ?_); clear hK4995
      refine wp_seq_k (fun K4998 hK4999 => ?_)
      refine wp_block ?_
      refine wp_seq_k (fun K5000 hK5001 => ?_)
      refine wp_region_lit ?_
      refine stepp ha 29 (.slice (some ⟨b4917, 0, none⟩) 11 11) KR KR ?_; clear ha a; intro a ha
      refine stepp ha 30 (.int .i64 1) KR KR ?_; clear ha a; intro a ha
      refine stepp ha 31 (.pointer (some ⟨b4917, 9, none⟩)) KR KR ?_; clear ha a; intro a ha
      refine stepl ha 32 (HW.ca (i := 2) (b := b4917) (C := #[.int .i64 1, .string (⟨#[]⟩ : ByteArray), .int .i64 0, .int .i64 0, .slice none 0 0, .int .u32 0, .int .i64 0, .string (⟨#[]⟩ : ByteArray), .int .i64 0, .int .i64 2, .string (⟨#[]⟩ : ByteArray), .int .i64 0, .int .i64 0, .slice none 0 0, .int .u32 0, .int .i64 0, .string (⟨#[]⟩ : ByteArray), .int .i64 0, .int .i64 4, .string (⟨#[]⟩ : ByteArray), .int .i64 0, .int .i64 0, .slice none 0 0, .int .u32 0, .int .i64 0, .string (⟨#[]⟩ : ByteArray), .int .i64 0, .int .i64 5, .string (⟨#[]⟩ : ByteArray), .int .i64 0, .int .i64 0, .slice none 0 0, .int .u32 0, .int .i64 0, .string (⟨#[]⟩ : ByteArray), .int .i64 0, .int .i64 6, .string (⟨#[]⟩ : ByteArray), .int .i64 0, .int .i64 0, .slice none 0 0, .int .u32 0, .int .i64 0, .string (⟨#[]⟩ : ByteArray), .int .i64 0, .int .i64 8, .string (⟨#[]⟩ : ByteArray), .int .i64 0, .int .i64 0, .slice none 0 0, .int .u32 0, .int .i64 0, .string (⟨#[]⟩ : ByteArray), .int .i64 0, .int .i64 7, .string (⟨#[]⟩ : ByteArray), .int .i64 0, .int .i64 1, .slice none 0 0, .int .u32 0, .int .i64 0, .string (⟨#[]⟩ : ByteArray), .int .i64 0, .int .i64 7, .string (⟨#[]⟩ : ByteArray), .int .i64 0, .int .i64 2, .slice none 0 0, .int .u32 0, .int .i64 0, .string (⟨#[]⟩ : ByteArray), .int .i64 0, .int .i64 7, .string (⟨#[]⟩ : ByteArray), .int .i64 0, .int .i64 3, .slice none 0 0, .int .u32 0, .int .i64 0, .string (⟨#[]⟩ : ByteArray), .int .i64 0, .int .i64 7, .string (⟨#[]⟩ : ByteArray), .int .i64 0, .int .i64 4, .slice none 0 0, .int .u32 0, .int .i64 0, .string (⟨#[]⟩ : ByteArray), .int .i64 0, .int .i64 3, .string (⟨#[]⟩ : ByteArray), .int .i64 a1.f3, .int .i64 0, .slice none 0 0, .int .u32 0, .int .i64 0, .string (⟨#[]⟩ : ByteArray), .int .i64 0]) (T := 64) (fr := (0, 0)) KR) 64 9 (.tmp 31) (.agg #[.int .i64 2, .string (⟨#[]⟩ : ByteArray), .int .i64 0, .int .i64 0, .slice none 0 0, .int .u32 0, .int .i64 0, .string (⟨#[]⟩ : ByteArray), .int .i64 0]) rfl KR KR KR ?_; clear ha a; intro a ha
      obtain ⟨t5002, ht5003, h_⟩ := bind_some' h; clear h; have h := h_; clear h_
      refine stepc ha 33 KR KR (headgateref16_Of.calls K (⟨2, (⟨#[]⟩ : ByteArray), 0, 0, ([] : List T_api_Reg), 0, (⟨0, (⟨#[]⟩ : ByteArray)⟩ : T_api_Hold), 0⟩ : T_api_Out) none 0 t5002 _ (Rd.nil _ _) ht5003) ?_; clear ha a; rintro e W5004 ⟨rfl, HX5005⟩
      refine ⟨_, rfl, ?_⟩; intro a ha; replace HW := HW.callw HX5005; clear HX5005
      refine stepnew ha HW 8 #[.int .i64 0, .int .i64 0, .int .i64 0, .int .i64 0, .int .i64 0] 70 KR KR ?_; clear ha HW a; intro b5006 a W5007 HW ha
      refine stepst ha HW 0 (b := b5006) (C := #[.int .i64 0, .int .i64 0, .int .i64 0, .int .i64 0, .int .i64 0]) (T := 70) KR 70 0 (.tmp 8) (.tmp 33) (.agg #[.int .i64 t5002.f0, .int .i64 t5002.f1.f0, .int .i64 t5002.f1.f1, .int .i64 t5002.f1.f2, .int .i64 t5002.f1.f3]) #[.int .i64 t5002.f0, .int .i64 t5002.f1.f0, .int .i64 t5002.f1.f1, .int .i64 t5002.f1.f2, .int .i64 t5002.f1.f3] rfl KR KR KR KR KR KR KR ?_; clear ha HW a; intro a W5008 HW ha
      refine endl ?_
      refine thenN (hK5001 _ _ ?_); clear hK5001
      refine wp_seq_k (fun K5009 hK5010 => ?_)
      refine wp_region_lit ?_
      refine stepp ha 34 (.pointer (some ⟨b5006, 0, none⟩)) KR KR ?_; clear ha a; intro a ha
      refine stepl ha 35 (HW.ca (i := 0) (b := b5006) (C := #[.int .i64 t5002.f0, .int .i64 t5002.f1.f0, .int .i64 t5002.f1.f1, .int .i64 t5002.f1.f2, .int .i64 t5002.f1.f3]) (T := 70) (fr := (0, 0)) KR) 3 0 (.tmp 34) (.int .i64 t5002.f0) rfl KR KR KR ?_; clear ha a; intro a ha
      refine stepp ha 36 (.int .i64 a0) KR KR ?_; clear ha a; intro a ha
      refine stepp ha 37 (.bool (t5002.f0 == a0)) KR KR ?_; clear ha a; intro a ha
      refine stepp ha 38 (.bool (t5002.f0 == a0)) KR KR ?_; clear ha a; intro a ha
      by_cases hp5011 : t5002.f0 = a0
      · skip
        replace h := ite_pos' h hp5011
        replace ha := ha.bool 38 KR (ieq_t hp5011)
        refine stepp ha 39 (.pointer (some ⟨b5006, 1, none⟩)) KR KR ?_; clear ha a; intro a ha
        refine stepl ha 40 (HW.ca (i := 0) (b := b5006) (C := #[.int .i64 t5002.f0, .int .i64 t5002.f1.f0, .int .i64 t5002.f1.f1, .int .i64 t5002.f1.f2, .int .i64 t5002.f1.f3]) (T := 70) (fr := (0, 0)) KR) 66 1 (.tmp 39) (.agg #[.int .i64 t5002.f1.f0, .int .i64 t5002.f1.f1, .int .i64 t5002.f1.f2, .int .i64 t5002.f1.f3]) rfl KR KR KR ?_; clear ha a; intro a ha
        refine stepl ha 41 (HW.ca (i := 1) (b := b4911) (C := #[.int .i64 a1.f0, .int .i64 a1.f1, .int .i64 a1.f2, .int .i64 a1.f3]) (T := 66) (fr := (0, 0)) KR) 66 0 (.tmp 3) (.agg #[.int .i64 a1.f0, .int .i64 a1.f1, .int .i64 a1.f2, .int .i64 a1.f3]) rfl KR KR KR ?_; clear ha a; intro a ha
        obtain ⟨t5012, ht5013, h_⟩ := bind_some' h; clear h; have h := h_; clear h_
        refine stepc ha 42 KR KR (headgatekeep_Senses.calls (⟨t5002.f1.f0, t5002.f1.f1, t5002.f1.f2, t5002.f1.f3⟩ : T_api_Sense) a1 t5012 _ ht5013) ?_; clear ha a; rintro e W5014 ⟨rfl, HX5015⟩
        refine ⟨_, rfl, ?_⟩; intro a ha; replace HW := HW.callw HX5015; clear HX5015
        refine stepp ha 43 (.bool t5012) KR KR ?_; clear ha a; intro a ha
        refine endl ?_
        refine thenN (hK5010 _ _ ?_); clear hK5010
        by_cases hp5016 : t5012 = true
        · skip
          replace h := ite_pos' h hp5016
          refine condT ha KR KR (t := t5012) (hp5016) ?_
          refine wp_seq_k (fun K5017 hK5018 => ?_)
          refine wp_region_lit ?_
          refine stepp ha 44 (.slice (some ⟨b4917, 0, none⟩) 11 11) KR KR ?_; clear ha a; intro a ha
          refine stepp ha 45 (.int .i64 1) KR KR ?_; clear ha a; intro a ha
          refine stepp ha 46 (.pointer (some ⟨b4917, 9, none⟩)) KR KR ?_; clear ha a; intro a ha
          refine stepl ha 47 (HW.ca (i := 3) (b := b4917) (C := #[.int .i64 1, .string (⟨#[]⟩ : ByteArray), .int .i64 0, .int .i64 0, .slice none 0 0, .int .u32 0, .int .i64 0, .string (⟨#[]⟩ : ByteArray), .int .i64 0, .int .i64 2, .string (⟨#[]⟩ : ByteArray), .int .i64 0, .int .i64 0, .slice none 0 0, .int .u32 0, .int .i64 0, .string (⟨#[]⟩ : ByteArray), .int .i64 0, .int .i64 4, .string (⟨#[]⟩ : ByteArray), .int .i64 0, .int .i64 0, .slice none 0 0, .int .u32 0, .int .i64 0, .string (⟨#[]⟩ : ByteArray), .int .i64 0, .int .i64 5, .string (⟨#[]⟩ : ByteArray), .int .i64 0, .int .i64 0, .slice none 0 0, .int .u32 0, .int .i64 0, .string (⟨#[]⟩ : ByteArray), .int .i64 0, .int .i64 6, .string (⟨#[]⟩ : ByteArray), .int .i64 0, .int .i64 0, .slice none 0 0, .int .u32 0, .int .i64 0, .string (⟨#[]⟩ : ByteArray), .int .i64 0, .int .i64 8, .string (⟨#[]⟩ : ByteArray), .int .i64 0, .int .i64 0, .slice none 0 0, .int .u32 0, .int .i64 0, .string (⟨#[]⟩ : ByteArray), .int .i64 0, .int .i64 7, .string (⟨#[]⟩ : ByteArray), .int .i64 0, .int .i64 1, .slice none 0 0, .int .u32 0, .int .i64 0, .string (⟨#[]⟩ : ByteArray), .int .i64 0, .int .i64 7, .string (⟨#[]⟩ : ByteArray), .int .i64 0, .int .i64 2, .slice none 0 0, .int .u32 0, .int .i64 0, .string (⟨#[]⟩ : ByteArray), .int .i64 0, .int .i64 7, .string (⟨#[]⟩ : ByteArray), .int .i64 0, .int .i64 3, .slice none 0 0, .int .u32 0, .int .i64 0, .string (⟨#[]⟩ : ByteArray), .int .i64 0, .int .i64 7, .string (⟨#[]⟩ : ByteArray), .int .i64 0, .int .i64 4, .slice none 0 0, .int .u32 0, .int .i64 0, .string (⟨#[]⟩ : ByteArray), .int .i64 0, .int .i64 3, .string (⟨#[]⟩ : ByteArray), .int .i64 a1.f3, .int .i64 0, .slice none 0 0, .int .u32 0, .int .i64 0, .string (⟨#[]⟩ : ByteArray), .int .i64 0]) (T := 64) (fr := (0, 0)) KR) 64 9 (.tmp 46) (.agg #[.int .i64 2, .string (⟨#[]⟩ : ByteArray), .int .i64 0, .int .i64 0, .slice none 0 0, .int .u32 0, .int .i64 0, .string (⟨#[]⟩ : ByteArray), .int .i64 0]) rfl KR KR KR ?_; clear ha a; intro a ha
          refine stepst ha HW 2 (b := b4913) (C := #[.int .i64 0, .string (⟨#[]⟩ : ByteArray), .int .i64 0, .int .i64 0, .slice none 0 0, .int .u32 0, .int .i64 0, .string (⟨#[]⟩ : ByteArray), .int .i64 0]) (T := 64) KR 64 0 (.tmp 4) (.tmp 47) (.agg #[.int .i64 2, .string (⟨#[]⟩ : ByteArray), .int .i64 0, .int .i64 0, .slice none 0 0, .int .u32 0, .int .i64 0, .string (⟨#[]⟩ : ByteArray), .int .i64 0]) #[.int .i64 2, .string (⟨#[]⟩ : ByteArray), .int .i64 0, .int .i64 0, .slice none 0 0, .int .u32 0, .int .i64 0, .string (⟨#[]⟩ : ByteArray), .int .i64 0] rfl KR KR KR KR KR KR KR ?_; clear ha HW a; intro a W5019 HW ha
          refine stepp ha 5 (.bool true) KR KR ?_; clear ha a; intro a ha
          refine endl ?_
          refine thenN (hK5018 _ _ ?_); clear hK5018
          refine wp_ret ?_
          refine blkR ?_
          refine thenR ?_
          refine thenR ?_
          refine blkR ?_
          refine thenR ?_
          obtain rfl := Option.some.inj h
          replace HW := HW.nilo 44 2
          exact finv ha _ _ rfl (.cell (ad := ⟨b4913, 0, none⟩) (v := .agg #[.int .i64 2, .string (⟨#[]⟩ : ByteArray), .int .i64 0, .int .i64 0, .slice none 0 0, .int .u32 0, .int .i64 0, .string (⟨#[]⟩ : ByteArray), .int .i64 0]) KR (run_loadVar_ca0 (HW.ca (i := 2) (b := b4913) (C := #[.int .i64 2, .string (⟨#[]⟩ : ByteArray), .int .i64 0, .int .i64 0, .slice none 0 0, .int .u32 0, .int .i64 0, .string (⟨#[]⟩ : ByteArray), .int .i64 0]) (T := 64) (fr := (0, 0)) KR) 64 0 (.agg #[.int .i64 2, .string (⟨#[]⟩ : ByteArray), .int .i64 0, .int .i64 0, .slice none 0 0, .int .u32 0, .int .i64 0, .string (⟨#[]⟩ : ByteArray), .int .i64 0]) KR) (.tmp (v := .bool true) KR .nil)) (.tuple #[.agg #[.int .i64 2, .string (⟨#[]⟩ : ByteArray), .int .i64 0, .int .i64 0, .slice none 0 0, .int .u32 0, .int .i64 0, .string (⟨#[]⟩ : ByteArray), .int .i64 0], .bool true]) rfl ⟨none, 0, rfl, HW.pick [] [0] (by decide) (by decide) rfl KR⟩
        · skip
          replace h := ite_neg' h hp5016
          refine condF ha KR KR (t := t5012) (bool_f hp5016) ?_
          refine wp_skip ?_
          refine blkN ?_
          refine thenN (hK4999 _ _ ?_); clear hK4999
          refine wp_region_lit ?_
          refine stepp ha 27 (.int .i64 1) KR KR ?_; clear ha a; intro a ha
          refine stepp ha 28 (.int .i64 2) KR KR ?_; clear ha a; intro a ha
          refine stepp ha 7 (.int .i64 2) KR KR ?_; clear ha a; intro a ha
          refine endl ?_
          exact thenN ⟨h, ha.sub (subs_cons KR (subs_cons KR (subs_cons KR (subs_cons KR (subs_cons KR (subs_nil _)))))), HW.pick [1, 2, 3] [] (by decide) (by decide) KR KR⟩
      · skip
        replace h := ite_neg' h hp5011
        replace ha := ha.bool 38 KR (ieq_f hp5011)
        refine stepo ha 39 KR ?_; clear ha a; intro a ha
        refine stepo ha 40 KR ?_; clear ha a; intro a ha
        refine stepo ha 41 KR ?_; clear ha a; intro a ha
        refine stepo ha 42 KR ?_; clear ha a; intro a ha
        refine stepp ha 43 (.bool false) KR KR ?_; clear ha a; intro a ha
        refine endl ?_
        refine thenN (hK5010 _ _ ?_); clear hK5010
        refine condF ha KR KR (t := false) (rfl) ?_
        refine wp_skip ?_
        refine blkN ?_
        refine thenN (hK4999 _ _ ?_); clear hK4999
        refine wp_region_lit ?_
        refine stepp ha 27 (.int .i64 1) KR KR ?_; clear ha a; intro a ha
        refine stepp ha 28 (.int .i64 2) KR KR ?_; clear ha a; intro a ha
        refine stepp ha 7 (.int .i64 2) KR KR ?_; clear ha a; intro a ha
        refine endl ?_
        exact thenN ⟨h, ha.sub (subs_cons KR (subs_cons KR (subs_cons KR (subs_cons KR (subs_cons KR (subs_nil _)))))), HW.pick [1, 2, 3] [] (by decide) (by decide) KR KR⟩
    · skip
      intro a W5021 hJ
      obtain ⟨h, ha, HW⟩ := hJ
      replace h : headgateref16_Code.j1 K a0 a1 = some r := h
      unfold headgateref16_Code.j1 at h
      refine hK4993 _ _ ?_; clear hK4993
      refine roundK (n := 21) (fun K5022 hK5023 => ?_)
      refine cutn (fun a W5051 => headgateref16_Code.j2 K a0 a1 = some r ∧ Has 49 [(0, .int .i64 a0), (3, .pointer (some ⟨b4911, 0, none⟩)), (4, .pointer (some ⟨b4913, 0, none⟩)), (6, .slice (some ⟨b4917, 0, none⟩) 11 11), (7, .int .i64 3)] a ∧ Wd w W5051 [(b4911, .cells #[.int .i64 a1.f0, .int .i64 a1.f1, .int .i64 a1.f2, .int .i64 a1.f3] 66 (0, 0)), (b4913, .cells #[.int .i64 0, .string (⟨#[]⟩ : ByteArray), .int .i64 0, .int .i64 0, .slice none 0 0, .int .u32 0, .int .i64 0, .string (⟨#[]⟩ : ByteArray), .int .i64 0] 64 (0, 0)), (b4917, .cells #[.int .i64 1, .string (⟨#[]⟩ : ByteArray), .int .i64 0, .int .i64 0, .slice none 0 0, .int .u32 0, .int .i64 0, .string (⟨#[]⟩ : ByteArray), .int .i64 0, .int .i64 2, .string (⟨#[]⟩ : ByteArray), .int .i64 0, .int .i64 0, .slice none 0 0, .int .u32 0, .int .i64 0, .string (⟨#[]⟩ : ByteArray), .int .i64 0, .int .i64 4, .string (⟨#[]⟩ : ByteArray), .int .i64 0, .int .i64 0, .slice none 0 0, .int .u32 0, .int .i64 0, .string (⟨#[]⟩ : ByteArray), .int .i64 0, .int .i64 5, .string (⟨#[]⟩ : ByteArray), .int .i64 0, .int .i64 0, .slice none 0 0, .int .u32 0, .int .i64 0, .string (⟨#[]⟩ : ByteArray), .int .i64 0, .int .i64 6, .string (⟨#[]⟩ : ByteArray), .int .i64 0, .int .i64 0, .slice none 0 0, .int .u32 0, .int .i64 0, .string (⟨#[]⟩ : ByteArray), .int .i64 0, .int .i64 8, .string (⟨#[]⟩ : ByteArray), .int .i64 0, .int .i64 0, .slice none 0 0, .int .u32 0, .int .i64 0, .string (⟨#[]⟩ : ByteArray), .int .i64 0, .int .i64 7, .string (⟨#[]⟩ : ByteArray), .int .i64 0, .int .i64 1, .slice none 0 0, .int .u32 0, .int .i64 0, .string (⟨#[]⟩ : ByteArray), .int .i64 0, .int .i64 7, .string (⟨#[]⟩ : ByteArray), .int .i64 0, .int .i64 2, .slice none 0 0, .int .u32 0, .int .i64 0, .string (⟨#[]⟩ : ByteArray), .int .i64 0, .int .i64 7, .string (⟨#[]⟩ : ByteArray), .int .i64 0, .int .i64 3, .slice none 0 0, .int .u32 0, .int .i64 0, .string (⟨#[]⟩ : ByteArray), .int .i64 0, .int .i64 7, .string (⟨#[]⟩ : ByteArray), .int .i64 0, .int .i64 4, .slice none 0 0, .int .u32 0, .int .i64 0, .string (⟨#[]⟩ : ByteArray), .int .i64 0, .int .i64 3, .string (⟨#[]⟩ : ByteArray), .int .i64 a1.f3, .int .i64 0, .slice none 0 0, .int .u32 0, .int .i64 0, .string (⟨#[]⟩ : ByteArray), .int .i64 0] 64 (0, 0))] []) ?_ ?_
      · skip
        refine wp_seq_k (fun K5024 hK5025 => ?_)
        refine wp_seq_k (fun K5026 hK5027 => ?_)
        refine wp_region_lit ?_
        refine stepp ha 23 (.int .i64 2) KR KR ?_; clear ha a; intro a ha
        refine stepp ha 24 (.slice (some ⟨b4917, 0, none⟩) 11 11) KR KR ?_; clear ha a; intro a ha
        refine stepp ha 25 (.int .i64 11) KR KR ?_; clear ha a; intro a ha
        refine stepp ha 26 (.bool true) KR KR ?_; clear ha a; intro a ha
        refine endl ?_
        refine thenN (hK5027 _ _ ?_); clear hK5027
        refine condT ha KR KR (t := true) (rfl) ?_
        refine wp_skip ?_
        refine thenN (hK5025 _ _ ?_); clear hK5025
        refine wp_seq_k (fun K5028 hK5029 => ?_)
        refine wp_block ?_
        refine wp_seq_k (fun K5030 hK5031 => ?_)
        refine wp_region_lit ?_
        refine stepp ha 29 (.slice (some ⟨b4917, 0, none⟩) 11 11) KR KR ?_; clear ha a; intro a ha
        refine stepp ha 30 (.int .i64 2) KR KR ?_; clear ha a; intro a ha
        refine stepp ha 31 (.pointer (some ⟨b4917, 18, none⟩)) KR KR ?_; clear ha a; intro a ha
        refine stepl ha 32 (HW.ca (i := 2) (b := b4917) (C := #[.int .i64 1, .string (⟨#[]⟩ : ByteArray), .int .i64 0, .int .i64 0, .slice none 0 0, .int .u32 0, .int .i64 0, .string (⟨#[]⟩ : ByteArray), .int .i64 0, .int .i64 2, .string (⟨#[]⟩ : ByteArray), .int .i64 0, .int .i64 0, .slice none 0 0, .int .u32 0, .int .i64 0, .string (⟨#[]⟩ : ByteArray), .int .i64 0, .int .i64 4, .string (⟨#[]⟩ : ByteArray), .int .i64 0, .int .i64 0, .slice none 0 0, .int .u32 0, .int .i64 0, .string (⟨#[]⟩ : ByteArray), .int .i64 0, .int .i64 5, .string (⟨#[]⟩ : ByteArray), .int .i64 0, .int .i64 0, .slice none 0 0, .int .u32 0, .int .i64 0, .string (⟨#[]⟩ : ByteArray), .int .i64 0, .int .i64 6, .string (⟨#[]⟩ : ByteArray), .int .i64 0, .int .i64 0, .slice none 0 0, .int .u32 0, .int .i64 0, .string (⟨#[]⟩ : ByteArray), .int .i64 0, .int .i64 8, .string (⟨#[]⟩ : ByteArray), .int .i64 0, .int .i64 0, .slice none 0 0, .int .u32 0, .int .i64 0, .string (⟨#[]⟩ : ByteArray), .int .i64 0, .int .i64 7, .string (⟨#[]⟩ : ByteArray), .int .i64 0, .int .i64 1, .slice none 0 0, .int .u32 0, .int .i64 0, .string (⟨#[]⟩ : ByteArray), .int .i64 0, .int .i64 7, .string (⟨#[]⟩ : ByteArray), .int .i64 0, .int .i64 2, .slice none 0 0, .int .u32 0, .int .i64 0, .string (⟨#[]⟩ : ByteArray), .int .i64 0, .int .i64 7, .string (⟨#[]⟩ : ByteArray), .int .i64 0, .int .i64 3, .slice none 0 0, .int .u32 0, .int .i64 0, .string (⟨#[]⟩ : ByteArray), .int .i64 0, .int .i64 7, .string (⟨#[]⟩ : ByteArray), .int .i64 0, .int .i64 4, .slice none 0 0, .int .u32 0, .int .i64 0, .string (⟨#[]⟩ : ByteArray), .int .i64 0, .int .i64 3, .string (⟨#[]⟩ : ByteArray), .int .i64 a1.f3, .int .i64 0, .slice none 0 0, .int .u32 0, .int .i64 0, .string (⟨#[]⟩ : ByteArray), .int .i64 0]) (T := 64) (fr := (0, 0)) KR) 64 18 (.tmp 31) (.agg #[.int .i64 4, .string (⟨#[]⟩ : ByteArray), .int .i64 0, .int .i64 0, .slice none 0 0, .int .u32 0, .int .i64 0, .string (⟨#[]⟩ : ByteArray), .int .i64 0]) rfl KR KR KR ?_; clear ha a; intro a ha
        obtain ⟨t5032, ht5033, h_⟩ := bind_some' h; clear h; have h := h_; clear h_
        refine stepc ha 33 KR KR (headgateref16_Of.calls K (⟨4, (⟨#[]⟩ : ByteArray), 0, 0, ([] : List T_api_Reg), 0, (⟨0, (⟨#[]⟩ : ByteArray)⟩ : T_api_Hold), 0⟩ : T_api_Out) none 0 t5032 _ (Rd.nil _ _) ht5033) ?_; clear ha a; rintro e W5034 ⟨rfl, HX5035⟩
        refine ⟨_, rfl, ?_⟩; intro a ha; replace HW := HW.callw HX5035; clear HX5035
        refine stepnew ha HW 8 #[.int .i64 0, .int .i64 0, .int .i64 0, .int .i64 0, .int .i64 0] 70 KR KR ?_; clear ha HW a; intro b5036 a W5037 HW ha
        refine stepst ha HW 0 (b := b5036) (C := #[.int .i64 0, .int .i64 0, .int .i64 0, .int .i64 0, .int .i64 0]) (T := 70) KR 70 0 (.tmp 8) (.tmp 33) (.agg #[.int .i64 t5032.f0, .int .i64 t5032.f1.f0, .int .i64 t5032.f1.f1, .int .i64 t5032.f1.f2, .int .i64 t5032.f1.f3]) #[.int .i64 t5032.f0, .int .i64 t5032.f1.f0, .int .i64 t5032.f1.f1, .int .i64 t5032.f1.f2, .int .i64 t5032.f1.f3] rfl KR KR KR KR KR KR KR ?_; clear ha HW a; intro a W5038 HW ha
        refine endl ?_
        refine thenN (hK5031 _ _ ?_); clear hK5031
        refine wp_seq_k (fun K5039 hK5040 => ?_)
        refine wp_region_lit ?_
        refine stepp ha 34 (.pointer (some ⟨b5036, 0, none⟩)) KR KR ?_; clear ha a; intro a ha
        refine stepl ha 35 (HW.ca (i := 0) (b := b5036) (C := #[.int .i64 t5032.f0, .int .i64 t5032.f1.f0, .int .i64 t5032.f1.f1, .int .i64 t5032.f1.f2, .int .i64 t5032.f1.f3]) (T := 70) (fr := (0, 0)) KR) 3 0 (.tmp 34) (.int .i64 t5032.f0) rfl KR KR KR ?_; clear ha a; intro a ha
        refine stepp ha 36 (.int .i64 a0) KR KR ?_; clear ha a; intro a ha
        refine stepp ha 37 (.bool (t5032.f0 == a0)) KR KR ?_; clear ha a; intro a ha
        refine stepp ha 38 (.bool (t5032.f0 == a0)) KR KR ?_; clear ha a; intro a ha
        by_cases hp5041 : t5032.f0 = a0
        · skip
          replace h := ite_pos' h hp5041
          replace ha := ha.bool 38 KR (ieq_t hp5041)
          refine stepp ha 39 (.pointer (some ⟨b5036, 1, none⟩)) KR KR ?_; clear ha a; intro a ha
          refine stepl ha 40 (HW.ca (i := 0) (b := b5036) (C := #[.int .i64 t5032.f0, .int .i64 t5032.f1.f0, .int .i64 t5032.f1.f1, .int .i64 t5032.f1.f2, .int .i64 t5032.f1.f3]) (T := 70) (fr := (0, 0)) KR) 66 1 (.tmp 39) (.agg #[.int .i64 t5032.f1.f0, .int .i64 t5032.f1.f1, .int .i64 t5032.f1.f2, .int .i64 t5032.f1.f3]) rfl KR KR KR ?_; clear ha a; intro a ha
          refine stepl ha 41 (HW.ca (i := 1) (b := b4911) (C := #[.int .i64 a1.f0, .int .i64 a1.f1, .int .i64 a1.f2, .int .i64 a1.f3]) (T := 66) (fr := (0, 0)) KR) 66 0 (.tmp 3) (.agg #[.int .i64 a1.f0, .int .i64 a1.f1, .int .i64 a1.f2, .int .i64 a1.f3]) rfl KR KR KR ?_; clear ha a; intro a ha
          obtain ⟨t5042, ht5043, h_⟩ := bind_some' h; clear h; have h := h_; clear h_
          refine stepc ha 42 KR KR (headgatekeep_Senses.calls (⟨t5032.f1.f0, t5032.f1.f1, t5032.f1.f2, t5032.f1.f3⟩ : T_api_Sense) a1 t5042 _ ht5043) ?_; clear ha a; rintro e W5044 ⟨rfl, HX5045⟩
          refine ⟨_, rfl, ?_⟩; intro a ha; replace HW := HW.callw HX5045; clear HX5045
          refine stepp ha 43 (.bool t5042) KR KR ?_; clear ha a; intro a ha
          refine endl ?_
          refine thenN (hK5040 _ _ ?_); clear hK5040
          by_cases hp5046 : t5042 = true
          · skip
            replace h := ite_pos' h hp5046
            refine condT ha KR KR (t := t5042) (hp5046) ?_
            refine wp_seq_k (fun K5047 hK5048 => ?_)
            refine wp_region_lit ?_
            refine stepp ha 44 (.slice (some ⟨b4917, 0, none⟩) 11 11) KR KR ?_; clear ha a; intro a ha
            refine stepp ha 45 (.int .i64 2) KR KR ?_; clear ha a; intro a ha
            refine stepp ha 46 (.pointer (some ⟨b4917, 18, none⟩)) KR KR ?_; clear ha a; intro a ha
            refine stepl ha 47 (HW.ca (i := 3) (b := b4917) (C := #[.int .i64 1, .string (⟨#[]⟩ : ByteArray), .int .i64 0, .int .i64 0, .slice none 0 0, .int .u32 0, .int .i64 0, .string (⟨#[]⟩ : ByteArray), .int .i64 0, .int .i64 2, .string (⟨#[]⟩ : ByteArray), .int .i64 0, .int .i64 0, .slice none 0 0, .int .u32 0, .int .i64 0, .string (⟨#[]⟩ : ByteArray), .int .i64 0, .int .i64 4, .string (⟨#[]⟩ : ByteArray), .int .i64 0, .int .i64 0, .slice none 0 0, .int .u32 0, .int .i64 0, .string (⟨#[]⟩ : ByteArray), .int .i64 0, .int .i64 5, .string (⟨#[]⟩ : ByteArray), .int .i64 0, .int .i64 0, .slice none 0 0, .int .u32 0, .int .i64 0, .string (⟨#[]⟩ : ByteArray), .int .i64 0, .int .i64 6, .string (⟨#[]⟩ : ByteArray), .int .i64 0, .int .i64 0, .slice none 0 0, .int .u32 0, .int .i64 0, .string (⟨#[]⟩ : ByteArray), .int .i64 0, .int .i64 8, .string (⟨#[]⟩ : ByteArray), .int .i64 0, .int .i64 0, .slice none 0 0, .int .u32 0, .int .i64 0, .string (⟨#[]⟩ : ByteArray), .int .i64 0, .int .i64 7, .string (⟨#[]⟩ : ByteArray), .int .i64 0, .int .i64 1, .slice none 0 0, .int .u32 0, .int .i64 0, .string (⟨#[]⟩ : ByteArray), .int .i64 0, .int .i64 7, .string (⟨#[]⟩ : ByteArray), .int .i64 0, .int .i64 2, .slice none 0 0, .int .u32 0, .int .i64 0, .string (⟨#[]⟩ : ByteArray), .int .i64 0, .int .i64 7, .string (⟨#[]⟩ : ByteArray), .int .i64 0, .int .i64 3, .slice none 0 0, .int .u32 0, .int .i64 0, .string (⟨#[]⟩ : ByteArray), .int .i64 0, .int .i64 7, .string (⟨#[]⟩ : ByteArray), .int .i64 0, .int .i64 4, .slice none 0 0, .int .u32 0, .int .i64 0, .string (⟨#[]⟩ : ByteArray), .int .i64 0, .int .i64 3, .string (⟨#[]⟩ : ByteArray), .int .i64 a1.f3, .int .i64 0, .slice none 0 0, .int .u32 0, .int .i64 0, .string (⟨#[]⟩ : ByteArray), .int .i64 0]) (T := 64) (fr := (0, 0)) KR) 64 18 (.tmp 46) (.agg #[.int .i64 4, .string (⟨#[]⟩ : ByteArray), .int .i64 0, .int .i64 0, .slice none 0 0, .int .u32 0, .int .i64 0, .string (⟨#[]⟩ : ByteArray), .int .i64 0]) rfl KR KR KR ?_; clear ha a; intro a ha
            refine stepst ha HW 2 (b := b4913) (C := #[.int .i64 0, .string (⟨#[]⟩ : ByteArray), .int .i64 0, .int .i64 0, .slice none 0 0, .int .u32 0, .int .i64 0, .string (⟨#[]⟩ : ByteArray), .int .i64 0]) (T := 64) KR 64 0 (.tmp 4) (.tmp 47) (.agg #[.int .i64 4, .string (⟨#[]⟩ : ByteArray), .int .i64 0, .int .i64 0, .slice none 0 0, .int .u32 0, .int .i64 0, .string (⟨#[]⟩ : ByteArray), .int .i64 0]) #[.int .i64 4, .string (⟨#[]⟩ : ByteArray), .int .i64 0, .int .i64 0, .slice none 0 0, .int .u32 0, .int .i64 0, .string (⟨#[]⟩ : ByteArray), .int .i64 0] rfl KR KR KR KR KR KR KR ?_; clear ha HW a; intro a W5049 HW ha
            refine stepp ha 5 (.bool true) KR KR ?_; clear ha a; intro a ha
            refine endl ?_
            refine thenN (hK5048 _ _ ?_); clear hK5048
            refine wp_ret ?_
            refine blkR ?_
            refine thenR ?_
            refine thenR ?_
            refine blkR ?_
            refine thenR ?_
            obtain rfl := Option.some.inj h
            replace HW := HW.nilo 44 2
            exact finv ha _ _ rfl (.cell (ad := ⟨b4913, 0, none⟩) (v := .agg #[.int .i64 4, .string (⟨#[]⟩ : ByteArray), .int .i64 0, .int .i64 0, .slice none 0 0, .int .u32 0, .int .i64 0, .string (⟨#[]⟩ : ByteArray), .int .i64 0]) KR (run_loadVar_ca0 (HW.ca (i := 2) (b := b4913) (C := #[.int .i64 4, .string (⟨#[]⟩ : ByteArray), .int .i64 0, .int .i64 0, .slice none 0 0, .int .u32 0, .int .i64 0, .string (⟨#[]⟩ : ByteArray), .int .i64 0]) (T := 64) (fr := (0, 0)) KR) 64 0 (.agg #[.int .i64 4, .string (⟨#[]⟩ : ByteArray), .int .i64 0, .int .i64 0, .slice none 0 0, .int .u32 0, .int .i64 0, .string (⟨#[]⟩ : ByteArray), .int .i64 0]) KR) (.tmp (v := .bool true) KR .nil)) (.tuple #[.agg #[.int .i64 4, .string (⟨#[]⟩ : ByteArray), .int .i64 0, .int .i64 0, .slice none 0 0, .int .u32 0, .int .i64 0, .string (⟨#[]⟩ : ByteArray), .int .i64 0], .bool true]) rfl ⟨none, 0, rfl, HW.pick [] [0] (by decide) (by decide) rfl KR⟩
          · skip
            replace h := ite_neg' h hp5046
            refine condF ha KR KR (t := t5042) (bool_f hp5046) ?_
            refine wp_skip ?_
            refine blkN ?_
            refine thenN (hK5029 _ _ ?_); clear hK5029
            refine wp_region_lit ?_
            refine stepp ha 27 (.int .i64 2) KR KR ?_; clear ha a; intro a ha
            refine stepp ha 28 (.int .i64 3) KR KR ?_; clear ha a; intro a ha
            refine stepp ha 7 (.int .i64 3) KR KR ?_; clear ha a; intro a ha
            refine endl ?_
            exact thenN ⟨h, ha.sub (subs_cons KR (subs_cons KR (subs_cons KR (subs_cons KR (subs_cons KR (subs_nil _)))))), HW.pick [1, 2, 3] [] (by decide) (by decide) KR KR⟩
        · skip
          replace h := ite_neg' h hp5041
          replace ha := ha.bool 38 KR (ieq_f hp5041)
          refine stepo ha 39 KR ?_; clear ha a; intro a ha
          refine stepo ha 40 KR ?_; clear ha a; intro a ha
          refine stepo ha 41 KR ?_; clear ha a; intro a ha
          refine stepo ha 42 KR ?_; clear ha a; intro a ha
          refine stepp ha 43 (.bool false) KR KR ?_; clear ha a; intro a ha
          refine endl ?_
          refine thenN (hK5040 _ _ ?_); clear hK5040
          refine condF ha KR KR (t := false) (rfl) ?_
          refine wp_skip ?_
          refine blkN ?_
          refine thenN (hK5029 _ _ ?_); clear hK5029
          refine wp_region_lit ?_
          refine stepp ha 27 (.int .i64 2) KR KR ?_; clear ha a; intro a ha
          refine stepp ha 28 (.int .i64 3) KR KR ?_; clear ha a; intro a ha
          refine stepp ha 7 (.int .i64 3) KR KR ?_; clear ha a; intro a ha
          refine endl ?_
          exact thenN ⟨h, ha.sub (subs_cons KR (subs_cons KR (subs_cons KR (subs_cons KR (subs_cons KR (subs_nil _)))))), HW.pick [1, 2, 3] [] (by decide) (by decide) KR KR⟩
      · skip
        intro a W5051 hJ
        obtain ⟨h, ha, HW⟩ := hJ
        replace h : headgateref16_Code.j2 K a0 a1 = some r := h
        unfold headgateref16_Code.j2 at h
        refine hK5023 _ _ ?_; clear hK5023
        refine roundK (n := 20) (fun K5052 hK5053 => ?_)
        refine cutn (fun a W5081 => headgateref16_Code.j3 K a0 a1 = some r ∧ Has 49 [(0, .int .i64 a0), (3, .pointer (some ⟨b4911, 0, none⟩)), (4, .pointer (some ⟨b4913, 0, none⟩)), (6, .slice (some ⟨b4917, 0, none⟩) 11 11), (7, .int .i64 4)] a ∧ Wd w W5081 [(b4911, .cells #[.int .i64 a1.f0, .int .i64 a1.f1, .int .i64 a1.f2, .int .i64 a1.f3] 66 (0, 0)), (b4913, .cells #[.int .i64 0, .string (⟨#[]⟩ : ByteArray), .int .i64 0, .int .i64 0, .slice none 0 0, .int .u32 0, .int .i64 0, .string (⟨#[]⟩ : ByteArray), .int .i64 0] 64 (0, 0)), (b4917, .cells #[.int .i64 1, .string (⟨#[]⟩ : ByteArray), .int .i64 0, .int .i64 0, .slice none 0 0, .int .u32 0, .int .i64 0, .string (⟨#[]⟩ : ByteArray), .int .i64 0, .int .i64 2, .string (⟨#[]⟩ : ByteArray), .int .i64 0, .int .i64 0, .slice none 0 0, .int .u32 0, .int .i64 0, .string (⟨#[]⟩ : ByteArray), .int .i64 0, .int .i64 4, .string (⟨#[]⟩ : ByteArray), .int .i64 0, .int .i64 0, .slice none 0 0, .int .u32 0, .int .i64 0, .string (⟨#[]⟩ : ByteArray), .int .i64 0, .int .i64 5, .string (⟨#[]⟩ : ByteArray), .int .i64 0, .int .i64 0, .slice none 0 0, .int .u32 0, .int .i64 0, .string (⟨#[]⟩ : ByteArray), .int .i64 0, .int .i64 6, .string (⟨#[]⟩ : ByteArray), .int .i64 0, .int .i64 0, .slice none 0 0, .int .u32 0, .int .i64 0, .string (⟨#[]⟩ : ByteArray), .int .i64 0, .int .i64 8, .string (⟨#[]⟩ : ByteArray), .int .i64 0, .int .i64 0, .slice none 0 0, .int .u32 0, .int .i64 0, .string (⟨#[]⟩ : ByteArray), .int .i64 0, .int .i64 7, .string (⟨#[]⟩ : ByteArray), .int .i64 0, .int .i64 1, .slice none 0 0, .int .u32 0, .int .i64 0, .string (⟨#[]⟩ : ByteArray), .int .i64 0, .int .i64 7, .string (⟨#[]⟩ : ByteArray), .int .i64 0, .int .i64 2, .slice none 0 0, .int .u32 0, .int .i64 0, .string (⟨#[]⟩ : ByteArray), .int .i64 0, .int .i64 7, .string (⟨#[]⟩ : ByteArray), .int .i64 0, .int .i64 3, .slice none 0 0, .int .u32 0, .int .i64 0, .string (⟨#[]⟩ : ByteArray), .int .i64 0, .int .i64 7, .string (⟨#[]⟩ : ByteArray), .int .i64 0, .int .i64 4, .slice none 0 0, .int .u32 0, .int .i64 0, .string (⟨#[]⟩ : ByteArray), .int .i64 0, .int .i64 3, .string (⟨#[]⟩ : ByteArray), .int .i64 a1.f3, .int .i64 0, .slice none 0 0, .int .u32 0, .int .i64 0, .string (⟨#[]⟩ : ByteArray), .int .i64 0] 64 (0, 0))] []) ?_ ?_
        · skip
          refine wp_seq_k (fun K5054 hK5055 => ?_)
          refine wp_seq_k (fun K5056 hK5057 => ?_)
          refine wp_region_lit ?_
          refine stepp ha 23 (.int .i64 3) KR KR ?_; clear ha a; intro a ha
          refine stepp ha 24 (.slice (some ⟨b4917, 0, none⟩) 11 11) KR KR ?_; clear ha a; intro a ha
          refine stepp ha 25 (.int .i64 11) KR KR ?_; clear ha a; intro a ha
          refine stepp ha 26 (.bool true) KR KR ?_; clear ha a; intro a ha
          refine endl ?_
          refine thenN (hK5057 _ _ ?_); clear hK5057
          refine condT ha KR KR (t := true) (rfl) ?_
          refine wp_skip ?_
          refine thenN (hK5055 _ _ ?_); clear hK5055
          refine wp_seq_k (fun K5058 hK5059 => ?_)
          refine wp_block ?_
          refine wp_seq_k (fun K5060 hK5061 => ?_)
          refine wp_region_lit ?_
          refine stepp ha 29 (.slice (some ⟨b4917, 0, none⟩) 11 11) KR KR ?_; clear ha a; intro a ha
          refine stepp ha 30 (.int .i64 3) KR KR ?_; clear ha a; intro a ha
          refine stepp ha 31 (.pointer (some ⟨b4917, 27, none⟩)) KR KR ?_; clear ha a; intro a ha
          refine stepl ha 32 (HW.ca (i := 2) (b := b4917) (C := #[.int .i64 1, .string (⟨#[]⟩ : ByteArray), .int .i64 0, .int .i64 0, .slice none 0 0, .int .u32 0, .int .i64 0, .string (⟨#[]⟩ : ByteArray), .int .i64 0, .int .i64 2, .string (⟨#[]⟩ : ByteArray), .int .i64 0, .int .i64 0, .slice none 0 0, .int .u32 0, .int .i64 0, .string (⟨#[]⟩ : ByteArray), .int .i64 0, .int .i64 4, .string (⟨#[]⟩ : ByteArray), .int .i64 0, .int .i64 0, .slice none 0 0, .int .u32 0, .int .i64 0, .string (⟨#[]⟩ : ByteArray), .int .i64 0, .int .i64 5, .string (⟨#[]⟩ : ByteArray), .int .i64 0, .int .i64 0, .slice none 0 0, .int .u32 0, .int .i64 0, .string (⟨#[]⟩ : ByteArray), .int .i64 0, .int .i64 6, .string (⟨#[]⟩ : ByteArray), .int .i64 0, .int .i64 0, .slice none 0 0, .int .u32 0, .int .i64 0, .string (⟨#[]⟩ : ByteArray), .int .i64 0, .int .i64 8, .string (⟨#[]⟩ : ByteArray), .int .i64 0, .int .i64 0, .slice none 0 0, .int .u32 0, .int .i64 0, .string (⟨#[]⟩ : ByteArray), .int .i64 0, .int .i64 7, .string (⟨#[]⟩ : ByteArray), .int .i64 0, .int .i64 1, .slice none 0 0, .int .u32 0, .int .i64 0, .string (⟨#[]⟩ : ByteArray), .int .i64 0, .int .i64 7, .string (⟨#[]⟩ : ByteArray), .int .i64 0, .int .i64 2, .slice none 0 0, .int .u32 0, .int .i64 0, .string (⟨#[]⟩ : ByteArray), .int .i64 0, .int .i64 7, .string (⟨#[]⟩ : ByteArray), .int .i64 0, .int .i64 3, .slice none 0 0, .int .u32 0, .int .i64 0, .string (⟨#[]⟩ : ByteArray), .int .i64 0, .int .i64 7, .string (⟨#[]⟩ : ByteArray), .int .i64 0, .int .i64 4, .slice none 0 0, .int .u32 0, .int .i64 0, .string (⟨#[]⟩ : ByteArray), .int .i64 0, .int .i64 3, .string (⟨#[]⟩ : ByteArray), .int .i64 a1.f3, .int .i64 0, .slice none 0 0, .int .u32 0, .int .i64 0, .string (⟨#[]⟩ : ByteArray), .int .i64 0]) (T := 64) (fr := (0, 0)) KR) 64 27 (.tmp 31) (.agg #[.int .i64 5, .string (⟨#[]⟩ : ByteArray), .int .i64 0, .int .i64 0, .slice none 0 0, .int .u32 0, .int .i64 0, .string (⟨#[]⟩ : ByteArray), .int .i64 0]) rfl KR KR KR ?_; clear ha a; intro a ha
          obtain ⟨t5062, ht5063, h_⟩ := bind_some' h; clear h; have h := h_; clear h_
          refine stepc ha 33 KR KR (headgateref16_Of.calls K (⟨5, (⟨#[]⟩ : ByteArray), 0, 0, ([] : List T_api_Reg), 0, (⟨0, (⟨#[]⟩ : ByteArray)⟩ : T_api_Hold), 0⟩ : T_api_Out) none 0 t5062 _ (Rd.nil _ _) ht5063) ?_; clear ha a; rintro e W5064 ⟨rfl, HX5065⟩
          refine ⟨_, rfl, ?_⟩; intro a ha; replace HW := HW.callw HX5065; clear HX5065
          refine stepnew ha HW 8 #[.int .i64 0, .int .i64 0, .int .i64 0, .int .i64 0, .int .i64 0] 70 KR KR ?_; clear ha HW a; intro b5066 a W5067 HW ha
          refine stepst ha HW 0 (b := b5066) (C := #[.int .i64 0, .int .i64 0, .int .i64 0, .int .i64 0, .int .i64 0]) (T := 70) KR 70 0 (.tmp 8) (.tmp 33) (.agg #[.int .i64 t5062.f0, .int .i64 t5062.f1.f0, .int .i64 t5062.f1.f1, .int .i64 t5062.f1.f2, .int .i64 t5062.f1.f3]) #[.int .i64 t5062.f0, .int .i64 t5062.f1.f0, .int .i64 t5062.f1.f1, .int .i64 t5062.f1.f2, .int .i64 t5062.f1.f3] rfl KR KR KR KR KR KR KR ?_; clear ha HW a; intro a W5068 HW ha
          refine endl ?_
          refine thenN (hK5061 _ _ ?_); clear hK5061
          refine wp_seq_k (fun K5069 hK5070 => ?_)
          refine wp_region_lit ?_
          refine stepp ha 34 (.pointer (some ⟨b5066, 0, none⟩)) KR KR ?_; clear ha a; intro a ha
          refine stepl ha 35 (HW.ca (i := 0) (b := b5066) (C := #[.int .i64 t5062.f0, .int .i64 t5062.f1.f0, .int .i64 t5062.f1.f1, .int .i64 t5062.f1.f2, .int .i64 t5062.f1.f3]) (T := 70) (fr := (0, 0)) KR) 3 0 (.tmp 34) (.int .i64 t5062.f0) rfl KR KR KR ?_; clear ha a; intro a ha
          refine stepp ha 36 (.int .i64 a0) KR KR ?_; clear ha a; intro a ha
          refine stepp ha 37 (.bool (t5062.f0 == a0)) KR KR ?_; clear ha a; intro a ha
          refine stepp ha 38 (.bool (t5062.f0 == a0)) KR KR ?_; clear ha a; intro a ha
          by_cases hp5071 : t5062.f0 = a0
          · skip
            replace h := ite_pos' h hp5071
            replace ha := ha.bool 38 KR (ieq_t hp5071)
            refine stepp ha 39 (.pointer (some ⟨b5066, 1, none⟩)) KR KR ?_; clear ha a; intro a ha
            refine stepl ha 40 (HW.ca (i := 0) (b := b5066) (C := #[.int .i64 t5062.f0, .int .i64 t5062.f1.f0, .int .i64 t5062.f1.f1, .int .i64 t5062.f1.f2, .int .i64 t5062.f1.f3]) (T := 70) (fr := (0, 0)) KR) 66 1 (.tmp 39) (.agg #[.int .i64 t5062.f1.f0, .int .i64 t5062.f1.f1, .int .i64 t5062.f1.f2, .int .i64 t5062.f1.f3]) rfl KR KR KR ?_; clear ha a; intro a ha
            refine stepl ha 41 (HW.ca (i := 1) (b := b4911) (C := #[.int .i64 a1.f0, .int .i64 a1.f1, .int .i64 a1.f2, .int .i64 a1.f3]) (T := 66) (fr := (0, 0)) KR) 66 0 (.tmp 3) (.agg #[.int .i64 a1.f0, .int .i64 a1.f1, .int .i64 a1.f2, .int .i64 a1.f3]) rfl KR KR KR ?_; clear ha a; intro a ha
            obtain ⟨t5072, ht5073, h_⟩ := bind_some' h; clear h; have h := h_; clear h_
            refine stepc ha 42 KR KR (headgatekeep_Senses.calls (⟨t5062.f1.f0, t5062.f1.f1, t5062.f1.f2, t5062.f1.f3⟩ : T_api_Sense) a1 t5072 _ ht5073) ?_; clear ha a; rintro e W5074 ⟨rfl, HX5075⟩
            refine ⟨_, rfl, ?_⟩; intro a ha; replace HW := HW.callw HX5075; clear HX5075
            refine stepp ha 43 (.bool t5072) KR KR ?_; clear ha a; intro a ha
            refine endl ?_
            refine thenN (hK5070 _ _ ?_); clear hK5070
            by_cases hp5076 : t5072 = true
            · skip
              replace h := ite_pos' h hp5076
              refine condT ha KR KR (t := t5072) (hp5076) ?_
              refine wp_seq_k (fun K5077 hK5078 => ?_)
              refine wp_region_lit ?_
              refine stepp ha 44 (.slice (some ⟨b4917, 0, none⟩) 11 11) KR KR ?_; clear ha a; intro a ha
              refine stepp ha 45 (.int .i64 3) KR KR ?_; clear ha a; intro a ha
              refine stepp ha 46 (.pointer (some ⟨b4917, 27, none⟩)) KR KR ?_; clear ha a; intro a ha
              refine stepl ha 47 (HW.ca (i := 3) (b := b4917) (C := #[.int .i64 1, .string (⟨#[]⟩ : ByteArray), .int .i64 0, .int .i64 0, .slice none 0 0, .int .u32 0, .int .i64 0, .string (⟨#[]⟩ : ByteArray), .int .i64 0, .int .i64 2, .string (⟨#[]⟩ : ByteArray), .int .i64 0, .int .i64 0, .slice none 0 0, .int .u32 0, .int .i64 0, .string (⟨#[]⟩ : ByteArray), .int .i64 0, .int .i64 4, .string (⟨#[]⟩ : ByteArray), .int .i64 0, .int .i64 0, .slice none 0 0, .int .u32 0, .int .i64 0, .string (⟨#[]⟩ : ByteArray), .int .i64 0, .int .i64 5, .string (⟨#[]⟩ : ByteArray), .int .i64 0, .int .i64 0, .slice none 0 0, .int .u32 0, .int .i64 0, .string (⟨#[]⟩ : ByteArray), .int .i64 0, .int .i64 6, .string (⟨#[]⟩ : ByteArray), .int .i64 0, .int .i64 0, .slice none 0 0, .int .u32 0, .int .i64 0, .string (⟨#[]⟩ : ByteArray), .int .i64 0, .int .i64 8, .string (⟨#[]⟩ : ByteArray), .int .i64 0, .int .i64 0, .slice none 0 0, .int .u32 0, .int .i64 0, .string (⟨#[]⟩ : ByteArray), .int .i64 0, .int .i64 7, .string (⟨#[]⟩ : ByteArray), .int .i64 0, .int .i64 1, .slice none 0 0, .int .u32 0, .int .i64 0, .string (⟨#[]⟩ : ByteArray), .int .i64 0, .int .i64 7, .string (⟨#[]⟩ : ByteArray), .int .i64 0, .int .i64 2, .slice none 0 0, .int .u32 0, .int .i64 0, .string (⟨#[]⟩ : ByteArray), .int .i64 0, .int .i64 7, .string (⟨#[]⟩ : ByteArray), .int .i64 0, .int .i64 3, .slice none 0 0, .int .u32 0, .int .i64 0, .string (⟨#[]⟩ : ByteArray), .int .i64 0, .int .i64 7, .string (⟨#[]⟩ : ByteArray), .int .i64 0, .int .i64 4, .slice none 0 0, .int .u32 0, .int .i64 0, .string (⟨#[]⟩ : ByteArray), .int .i64 0, .int .i64 3, .string (⟨#[]⟩ : ByteArray), .int .i64 a1.f3, .int .i64 0, .slice none 0 0, .int .u32 0, .int .i64 0, .string (⟨#[]⟩ : ByteArray), .int .i64 0]) (T := 64) (fr := (0, 0)) KR) 64 27 (.tmp 46) (.agg #[.int .i64 5, .string (⟨#[]⟩ : ByteArray), .int .i64 0, .int .i64 0, .slice none 0 0, .int .u32 0, .int .i64 0, .string (⟨#[]⟩ : ByteArray), .int .i64 0]) rfl KR KR KR ?_; clear ha a; intro a ha
              refine stepst ha HW 2 (b := b4913) (C := #[.int .i64 0, .string (⟨#[]⟩ : ByteArray), .int .i64 0, .int .i64 0, .slice none 0 0, .int .u32 0, .int .i64 0, .string (⟨#[]⟩ : ByteArray), .int .i64 0]) (T := 64) KR 64 0 (.tmp 4) (.tmp 47) (.agg #[.int .i64 5, .string (⟨#[]⟩ : ByteArray), .int .i64 0, .int .i64 0, .slice none 0 0, .int .u32 0, .int .i64 0, .string (⟨#[]⟩ : ByteArray), .int .i64 0]) #[.int .i64 5, .string (⟨#[]⟩ : ByteArray), .int .i64 0, .int .i64 0, .slice none 0 0, .int .u32 0, .int .i64 0, .string (⟨#[]⟩ : ByteArray), .int .i64 0] rfl KR KR KR KR KR KR KR ?_; clear ha HW a; intro a W5079 HW ha
              refine stepp ha 5 (.bool true) KR KR ?_; clear ha a; intro a ha
              refine endl ?_
              refine thenN (hK5078 _ _ ?_); clear hK5078
              refine wp_ret ?_
              refine blkR ?_
              refine thenR ?_
              refine thenR ?_
              refine blkR ?_
              refine thenR ?_
              obtain rfl := Option.some.inj h
              replace HW := HW.nilo 44 2
              exact finv ha _ _ rfl (.cell (ad := ⟨b4913, 0, none⟩) (v := .agg #[.int .i64 5, .string (⟨#[]⟩ : ByteArray), .int .i64 0, .int .i64 0, .slice none 0 0, .int .u32 0, .int .i64 0, .string (⟨#[]⟩ : ByteArray), .int .i64 0]) KR (run_loadVar_ca0 (HW.ca (i := 2) (b := b4913) (C := #[.int .i64 5, .string (⟨#[]⟩ : ByteArray), .int .i64 0, .int .i64 0, .slice none 0 0, .int .u32 0, .int .i64 0, .string (⟨#[]⟩ : ByteArray), .int .i64 0]) (T := 64) (fr := (0, 0)) KR) 64 0 (.agg #[.int .i64 5, .string (⟨#[]⟩ : ByteArray), .int .i64 0, .int .i64 0, .slice none 0 0, .int .u32 0, .int .i64 0, .string (⟨#[]⟩ : ByteArray), .int .i64 0]) KR) (.tmp (v := .bool true) KR .nil)) (.tuple #[.agg #[.int .i64 5, .string (⟨#[]⟩ : ByteArray), .int .i64 0, .int .i64 0, .slice none 0 0, .int .u32 0, .int .i64 0, .string (⟨#[]⟩ : ByteArray), .int .i64 0], .bool true]) rfl ⟨none, 0, rfl, HW.pick [] [0] (by decide) (by decide) rfl KR⟩
            · skip
              replace h := ite_neg' h hp5076
              refine condF ha KR KR (t := t5072) (bool_f hp5076) ?_
              refine wp_skip ?_
              refine blkN ?_
              refine thenN (hK5059 _ _ ?_); clear hK5059
              refine wp_region_lit ?_
              refine stepp ha 27 (.int .i64 3) KR KR ?_; clear ha a; intro a ha
              refine stepp ha 28 (.int .i64 4) KR KR ?_; clear ha a; intro a ha
              refine stepp ha 7 (.int .i64 4) KR KR ?_; clear ha a; intro a ha
              refine endl ?_
              exact thenN ⟨h, ha.sub (subs_cons KR (subs_cons KR (subs_cons KR (subs_cons KR (subs_cons KR (subs_nil _)))))), HW.pick [1, 2, 3] [] (by decide) (by decide) KR KR⟩
          · skip
            replace h := ite_neg' h hp5071
            replace ha := ha.bool 38 KR (ieq_f hp5071)
            refine stepo ha 39 KR ?_; clear ha a; intro a ha
            refine stepo ha 40 KR ?_; clear ha a; intro a ha
            refine stepo ha 41 KR ?_; clear ha a; intro a ha
            refine stepo ha 42 KR ?_; clear ha a; intro a ha
            refine stepp ha 43 (.bool false) KR KR ?_; clear ha a; intro a ha
            refine endl ?_
            refine thenN (hK5070 _ _ ?_); clear hK5070
            refine condF ha KR KR (t := false) (rfl) ?_
            refine wp_skip ?_
            refine blkN ?_
            refine thenN (hK5059 _ _ ?_); clear hK5059
            refine wp_region_lit ?_
            refine stepp ha 27 (.int .i64 3) KR KR ?_; clear ha a; intro a ha
            refine stepp ha 28 (.int .i64 4) KR KR ?_; clear ha a; intro a ha
            refine stepp ha 7 (.int .i64 4) KR KR ?_; clear ha a; intro a ha
            refine endl ?_
            exact thenN ⟨h, ha.sub (subs_cons KR (subs_cons KR (subs_cons KR (subs_cons KR (subs_cons KR (subs_nil _)))))), HW.pick [1, 2, 3] [] (by decide) (by decide) KR KR⟩
        · skip
          intro a W5081 hJ
          obtain ⟨h, ha, HW⟩ := hJ
          replace h : headgateref16_Code.j3 K a0 a1 = some r := h
          unfold headgateref16_Code.j3 at h
          refine hK5053 _ _ ?_; clear hK5053
          refine roundK (n := 19) (fun K5082 hK5083 => ?_)
          refine cutn (fun a W5111 => headgateref16_Code.j4 K a0 a1 = some r ∧ Has 49 [(0, .int .i64 a0), (3, .pointer (some ⟨b4911, 0, none⟩)), (4, .pointer (some ⟨b4913, 0, none⟩)), (6, .slice (some ⟨b4917, 0, none⟩) 11 11), (7, .int .i64 5)] a ∧ Wd w W5111 [(b4911, .cells #[.int .i64 a1.f0, .int .i64 a1.f1, .int .i64 a1.f2, .int .i64 a1.f3] 66 (0, 0)), (b4913, .cells #[.int .i64 0, .string (⟨#[]⟩ : ByteArray), .int .i64 0, .int .i64 0, .slice none 0 0, .int .u32 0, .int .i64 0, .string (⟨#[]⟩ : ByteArray), .int .i64 0] 64 (0, 0)), (b4917, .cells #[.int .i64 1, .string (⟨#[]⟩ : ByteArray), .int .i64 0, .int .i64 0, .slice none 0 0, .int .u32 0, .int .i64 0, .string (⟨#[]⟩ : ByteArray), .int .i64 0, .int .i64 2, .string (⟨#[]⟩ : ByteArray), .int .i64 0, .int .i64 0, .slice none 0 0, .int .u32 0, .int .i64 0, .string (⟨#[]⟩ : ByteArray), .int .i64 0, .int .i64 4, .string (⟨#[]⟩ : ByteArray), .int .i64 0, .int .i64 0, .slice none 0 0, .int .u32 0, .int .i64 0, .string (⟨#[]⟩ : ByteArray), .int .i64 0, .int .i64 5, .string (⟨#[]⟩ : ByteArray), .int .i64 0, .int .i64 0, .slice none 0 0, .int .u32 0, .int .i64 0, .string (⟨#[]⟩ : ByteArray), .int .i64 0, .int .i64 6, .string (⟨#[]⟩ : ByteArray), .int .i64 0, .int .i64 0, .slice none 0 0, .int .u32 0, .int .i64 0, .string (⟨#[]⟩ : ByteArray), .int .i64 0, .int .i64 8, .string (⟨#[]⟩ : ByteArray), .int .i64 0, .int .i64 0, .slice none 0 0, .int .u32 0, .int .i64 0, .string (⟨#[]⟩ : ByteArray), .int .i64 0, .int .i64 7, .string (⟨#[]⟩ : ByteArray), .int .i64 0, .int .i64 1, .slice none 0 0, .int .u32 0, .int .i64 0, .string (⟨#[]⟩ : ByteArray), .int .i64 0, .int .i64 7, .string (⟨#[]⟩ : ByteArray), .int .i64 0, .int .i64 2, .slice none 0 0, .int .u32 0, .int .i64 0, .string (⟨#[]⟩ : ByteArray), .int .i64 0, .int .i64 7, .string (⟨#[]⟩ : ByteArray), .int .i64 0, .int .i64 3, .slice none 0 0, .int .u32 0, .int .i64 0, .string (⟨#[]⟩ : ByteArray), .int .i64 0, .int .i64 7, .string (⟨#[]⟩ : ByteArray), .int .i64 0, .int .i64 4, .slice none 0 0, .int .u32 0, .int .i64 0, .string (⟨#[]⟩ : ByteArray), .int .i64 0, .int .i64 3, .string (⟨#[]⟩ : ByteArray), .int .i64 a1.f3, .int .i64 0, .slice none 0 0, .int .u32 0, .int .i64 0, .string (⟨#[]⟩ : ByteArray), .int .i64 0] 64 (0, 0))] []) ?_ ?_
          · skip
            refine wp_seq_k (fun K5084 hK5085 => ?_)
            refine wp_seq_k (fun K5086 hK5087 => ?_)
            refine wp_region_lit ?_
            refine stepp ha 23 (.int .i64 4) KR KR ?_; clear ha a; intro a ha
            refine stepp ha 24 (.slice (some ⟨b4917, 0, none⟩) 11 11) KR KR ?_; clear ha a; intro a ha
            refine stepp ha 25 (.int .i64 11) KR KR ?_; clear ha a; intro a ha
            refine stepp ha 26 (.bool true) KR KR ?_; clear ha a; intro a ha
            refine endl ?_
            refine thenN (hK5087 _ _ ?_); clear hK5087
            refine condT ha KR KR (t := true) (rfl) ?_
            refine wp_skip ?_
            refine thenN (hK5085 _ _ ?_); clear hK5085
            refine wp_seq_k (fun K5088 hK5089 => ?_)
            refine wp_block ?_
            refine wp_seq_k (fun K5090 hK5091 => ?_)
            refine wp_region_lit ?_
            refine stepp ha 29 (.slice (some ⟨b4917, 0, none⟩) 11 11) KR KR ?_; clear ha a; intro a ha
            refine stepp ha 30 (.int .i64 4) KR KR ?_; clear ha a; intro a ha
            refine stepp ha 31 (.pointer (some ⟨b4917, 36, none⟩)) KR KR ?_; clear ha a; intro a ha
            refine stepl ha 32 (HW.ca (i := 2) (b := b4917) (C := #[.int .i64 1, .string (⟨#[]⟩ : ByteArray), .int .i64 0, .int .i64 0, .slice none 0 0, .int .u32 0, .int .i64 0, .string (⟨#[]⟩ : ByteArray), .int .i64 0, .int .i64 2, .string (⟨#[]⟩ : ByteArray), .int .i64 0, .int .i64 0, .slice none 0 0, .int .u32 0, .int .i64 0, .string (⟨#[]⟩ : ByteArray), .int .i64 0, .int .i64 4, .string (⟨#[]⟩ : ByteArray), .int .i64 0, .int .i64 0, .slice none 0 0, .int .u32 0, .int .i64 0, .string (⟨#[]⟩ : ByteArray), .int .i64 0, .int .i64 5, .string (⟨#[]⟩ : ByteArray), .int .i64 0, .int .i64 0, .slice none 0 0, .int .u32 0, .int .i64 0, .string (⟨#[]⟩ : ByteArray), .int .i64 0, .int .i64 6, .string (⟨#[]⟩ : ByteArray), .int .i64 0, .int .i64 0, .slice none 0 0, .int .u32 0, .int .i64 0, .string (⟨#[]⟩ : ByteArray), .int .i64 0, .int .i64 8, .string (⟨#[]⟩ : ByteArray), .int .i64 0, .int .i64 0, .slice none 0 0, .int .u32 0, .int .i64 0, .string (⟨#[]⟩ : ByteArray), .int .i64 0, .int .i64 7, .string (⟨#[]⟩ : ByteArray), .int .i64 0, .int .i64 1, .slice none 0 0, .int .u32 0, .int .i64 0, .string (⟨#[]⟩ : ByteArray), .int .i64 0, .int .i64 7, .string (⟨#[]⟩ : ByteArray), .int .i64 0, .int .i64 2, .slice none 0 0, .int .u32 0, .int .i64 0, .string (⟨#[]⟩ : ByteArray), .int .i64 0, .int .i64 7, .string (⟨#[]⟩ : ByteArray), .int .i64 0, .int .i64 3, .slice none 0 0, .int .u32 0, .int .i64 0, .string (⟨#[]⟩ : ByteArray), .int .i64 0, .int .i64 7, .string (⟨#[]⟩ : ByteArray), .int .i64 0, .int .i64 4, .slice none 0 0, .int .u32 0, .int .i64 0, .string (⟨#[]⟩ : ByteArray), .int .i64 0, .int .i64 3, .string (⟨#[]⟩ : ByteArray), .int .i64 a1.f3, .int .i64 0, .slice none 0 0, .int .u32 0, .int .i64 0, .string (⟨#[]⟩ : ByteArray), .int .i64 0]) (T := 64) (fr := (0, 0)) KR) 64 36 (.tmp 31) (.agg #[.int .i64 6, .string (⟨#[]⟩ : ByteArray), .int .i64 0, .int .i64 0, .slice none 0 0, .int .u32 0, .int .i64 0, .string (⟨#[]⟩ : ByteArray), .int .i64 0]) rfl KR KR KR ?_; clear ha a; intro a ha
            obtain ⟨t5092, ht5093, h_⟩ := bind_some' h; clear h; have h := h_; clear h_
            refine stepc ha 33 KR KR (headgateref16_Of.calls K (⟨6, (⟨#[]⟩ : ByteArray), 0, 0, ([] : List T_api_Reg), 0, (⟨0, (⟨#[]⟩ : ByteArray)⟩ : T_api_Hold), 0⟩ : T_api_Out) none 0 t5092 _ (Rd.nil _ _) ht5093) ?_; clear ha a; rintro e W5094 ⟨rfl, HX5095⟩
            refine ⟨_, rfl, ?_⟩; intro a ha; replace HW := HW.callw HX5095; clear HX5095
            refine stepnew ha HW 8 #[.int .i64 0, .int .i64 0, .int .i64 0, .int .i64 0, .int .i64 0] 70 KR KR ?_; clear ha HW a; intro b5096 a W5097 HW ha
            refine stepst ha HW 0 (b := b5096) (C := #[.int .i64 0, .int .i64 0, .int .i64 0, .int .i64 0, .int .i64 0]) (T := 70) KR 70 0 (.tmp 8) (.tmp 33) (.agg #[.int .i64 t5092.f0, .int .i64 t5092.f1.f0, .int .i64 t5092.f1.f1, .int .i64 t5092.f1.f2, .int .i64 t5092.f1.f3]) #[.int .i64 t5092.f0, .int .i64 t5092.f1.f0, .int .i64 t5092.f1.f1, .int .i64 t5092.f1.f2, .int .i64 t5092.f1.f3] rfl KR KR KR KR KR KR KR ?_; clear ha HW a; intro a W5098 HW ha
            refine endl ?_
            refine thenN (hK5091 _ _ ?_); clear hK5091
            refine wp_seq_k (fun K5099 hK5100 => ?_)
            refine wp_region_lit ?_
            refine stepp ha 34 (.pointer (some ⟨b5096, 0, none⟩)) KR KR ?_; clear ha a; intro a ha
            refine stepl ha 35 (HW.ca (i := 0) (b := b5096) (C := #[.int .i64 t5092.f0, .int .i64 t5092.f1.f0, .int .i64 t5092.f1.f1, .int .i64 t5092.f1.f2, .int .i64 t5092.f1.f3]) (T := 70) (fr := (0, 0)) KR) 3 0 (.tmp 34) (.int .i64 t5092.f0) rfl KR KR KR ?_; clear ha a; intro a ha
            refine stepp ha 36 (.int .i64 a0) KR KR ?_; clear ha a; intro a ha
            refine stepp ha 37 (.bool (t5092.f0 == a0)) KR KR ?_; clear ha a; intro a ha
            refine stepp ha 38 (.bool (t5092.f0 == a0)) KR KR ?_; clear ha a; intro a ha
            by_cases hp5101 : t5092.f0 = a0
            · skip
              replace h := ite_pos' h hp5101
              replace ha := ha.bool 38 KR (ieq_t hp5101)
              refine stepp ha 39 (.pointer (some ⟨b5096, 1, none⟩)) KR KR ?_; clear ha a; intro a ha
              refine stepl ha 40 (HW.ca (i := 0) (b := b5096) (C := #[.int .i64 t5092.f0, .int .i64 t5092.f1.f0, .int .i64 t5092.f1.f1, .int .i64 t5092.f1.f2, .int .i64 t5092.f1.f3]) (T := 70) (fr := (0, 0)) KR) 66 1 (.tmp 39) (.agg #[.int .i64 t5092.f1.f0, .int .i64 t5092.f1.f1, .int .i64 t5092.f1.f2, .int .i64 t5092.f1.f3]) rfl KR KR KR ?_; clear ha a; intro a ha
              refine stepl ha 41 (HW.ca (i := 1) (b := b4911) (C := #[.int .i64 a1.f0, .int .i64 a1.f1, .int .i64 a1.f2, .int .i64 a1.f3]) (T := 66) (fr := (0, 0)) KR) 66 0 (.tmp 3) (.agg #[.int .i64 a1.f0, .int .i64 a1.f1, .int .i64 a1.f2, .int .i64 a1.f3]) rfl KR KR KR ?_; clear ha a; intro a ha
              obtain ⟨t5102, ht5103, h_⟩ := bind_some' h; clear h; have h := h_; clear h_
              refine stepc ha 42 KR KR (headgatekeep_Senses.calls (⟨t5092.f1.f0, t5092.f1.f1, t5092.f1.f2, t5092.f1.f3⟩ : T_api_Sense) a1 t5102 _ ht5103) ?_; clear ha a; rintro e W5104 ⟨rfl, HX5105⟩
              refine ⟨_, rfl, ?_⟩; intro a ha; replace HW := HW.callw HX5105; clear HX5105
              refine stepp ha 43 (.bool t5102) KR KR ?_; clear ha a; intro a ha
              refine endl ?_
              refine thenN (hK5100 _ _ ?_); clear hK5100
              by_cases hp5106 : t5102 = true
              · skip
                replace h := ite_pos' h hp5106
                refine condT ha KR KR (t := t5102) (hp5106) ?_
                refine wp_seq_k (fun K5107 hK5108 => ?_)
                refine wp_region_lit ?_
                refine stepp ha 44 (.slice (some ⟨b4917, 0, none⟩) 11 11) KR KR ?_; clear ha a; intro a ha
                refine stepp ha 45 (.int .i64 4) KR KR ?_; clear ha a; intro a ha
                refine stepp ha 46 (.pointer (some ⟨b4917, 36, none⟩)) KR KR ?_; clear ha a; intro a ha
                refine stepl ha 47 (HW.ca (i := 3) (b := b4917) (C := #[.int .i64 1, .string (⟨#[]⟩ : ByteArray), .int .i64 0, .int .i64 0, .slice none 0 0, .int .u32 0, .int .i64 0, .string (⟨#[]⟩ : ByteArray), .int .i64 0, .int .i64 2, .string (⟨#[]⟩ : ByteArray), .int .i64 0, .int .i64 0, .slice none 0 0, .int .u32 0, .int .i64 0, .string (⟨#[]⟩ : ByteArray), .int .i64 0, .int .i64 4, .string (⟨#[]⟩ : ByteArray), .int .i64 0, .int .i64 0, .slice none 0 0, .int .u32 0, .int .i64 0, .string (⟨#[]⟩ : ByteArray), .int .i64 0, .int .i64 5, .string (⟨#[]⟩ : ByteArray), .int .i64 0, .int .i64 0, .slice none 0 0, .int .u32 0, .int .i64 0, .string (⟨#[]⟩ : ByteArray), .int .i64 0, .int .i64 6, .string (⟨#[]⟩ : ByteArray), .int .i64 0, .int .i64 0, .slice none 0 0, .int .u32 0, .int .i64 0, .string (⟨#[]⟩ : ByteArray), .int .i64 0, .int .i64 8, .string (⟨#[]⟩ : ByteArray), .int .i64 0, .int .i64 0, .slice none 0 0, .int .u32 0, .int .i64 0, .string (⟨#[]⟩ : ByteArray), .int .i64 0, .int .i64 7, .string (⟨#[]⟩ : ByteArray), .int .i64 0, .int .i64 1, .slice none 0 0, .int .u32 0, .int .i64 0, .string (⟨#[]⟩ : ByteArray), .int .i64 0, .int .i64 7, .string (⟨#[]⟩ : ByteArray), .int .i64 0, .int .i64 2, .slice none 0 0, .int .u32 0, .int .i64 0, .string (⟨#[]⟩ : ByteArray), .int .i64 0, .int .i64 7, .string (⟨#[]⟩ : ByteArray), .int .i64 0, .int .i64 3, .slice none 0 0, .int .u32 0, .int .i64 0, .string (⟨#[]⟩ : ByteArray), .int .i64 0, .int .i64 7, .string (⟨#[]⟩ : ByteArray), .int .i64 0, .int .i64 4, .slice none 0 0, .int .u32 0, .int .i64 0, .string (⟨#[]⟩ : ByteArray), .int .i64 0, .int .i64 3, .string (⟨#[]⟩ : ByteArray), .int .i64 a1.f3, .int .i64 0, .slice none 0 0, .int .u32 0, .int .i64 0, .string (⟨#[]⟩ : ByteArray), .int .i64 0]) (T := 64) (fr := (0, 0)) KR) 64 36 (.tmp 46) (.agg #[.int .i64 6, .string (⟨#[]⟩ : ByteArray), .int .i64 0, .int .i64 0, .slice none 0 0, .int .u32 0, .int .i64 0, .string (⟨#[]⟩ : ByteArray), .int .i64 0]) rfl KR KR KR ?_; clear ha a; intro a ha
                refine stepst ha HW 2 (b := b4913) (C := #[.int .i64 0, .string (⟨#[]⟩ : ByteArray), .int .i64 0, .int .i64 0, .slice none 0 0, .int .u32 0, .int .i64 0, .string (⟨#[]⟩ : ByteArray), .int .i64 0]) (T := 64) KR 64 0 (.tmp 4) (.tmp 47) (.agg #[.int .i64 6, .string (⟨#[]⟩ : ByteArray), .int .i64 0, .int .i64 0, .slice none 0 0, .int .u32 0, .int .i64 0, .string (⟨#[]⟩ : ByteArray), .int .i64 0]) #[.int .i64 6, .string (⟨#[]⟩ : ByteArray), .int .i64 0, .int .i64 0, .slice none 0 0, .int .u32 0, .int .i64 0, .string (⟨#[]⟩ : ByteArray), .int .i64 0] rfl KR KR KR KR KR KR KR ?_; clear ha HW a; intro a W5109 HW ha
                refine stepp ha 5 (.bool true) KR KR ?_; clear ha a; intro a ha
                refine endl ?_
                refine thenN (hK5108 _ _ ?_); clear hK5108
                refine wp_ret ?_
                refine blkR ?_
                refine thenR ?_
                refine thenR ?_
                refine blkR ?_
                refine thenR ?_
                obtain rfl := Option.some.inj h
                replace HW := HW.nilo 44 2
                exact finv ha _ _ rfl (.cell (ad := ⟨b4913, 0, none⟩) (v := .agg #[.int .i64 6, .string (⟨#[]⟩ : ByteArray), .int .i64 0, .int .i64 0, .slice none 0 0, .int .u32 0, .int .i64 0, .string (⟨#[]⟩ : ByteArray), .int .i64 0]) KR (run_loadVar_ca0 (HW.ca (i := 2) (b := b4913) (C := #[.int .i64 6, .string (⟨#[]⟩ : ByteArray), .int .i64 0, .int .i64 0, .slice none 0 0, .int .u32 0, .int .i64 0, .string (⟨#[]⟩ : ByteArray), .int .i64 0]) (T := 64) (fr := (0, 0)) KR) 64 0 (.agg #[.int .i64 6, .string (⟨#[]⟩ : ByteArray), .int .i64 0, .int .i64 0, .slice none 0 0, .int .u32 0, .int .i64 0, .string (⟨#[]⟩ : ByteArray), .int .i64 0]) KR) (.tmp (v := .bool true) KR .nil)) (.tuple #[.agg #[.int .i64 6, .string (⟨#[]⟩ : ByteArray), .int .i64 0, .int .i64 0, .slice none 0 0, .int .u32 0, .int .i64 0, .string (⟨#[]⟩ : ByteArray), .int .i64 0], .bool true]) rfl ⟨none, 0, rfl, HW.pick [] [0] (by decide) (by decide) rfl KR⟩
              · skip
                replace h := ite_neg' h hp5106
                refine condF ha KR KR (t := t5102) (bool_f hp5106) ?_
                refine wp_skip ?_
                refine blkN ?_
                refine thenN (hK5089 _ _ ?_); clear hK5089
                refine wp_region_lit ?_
                refine stepp ha 27 (.int .i64 4) KR KR ?_; clear ha a; intro a ha
                refine stepp ha 28 (.int .i64 5) KR KR ?_; clear ha a; intro a ha
                refine stepp ha 7 (.int .i64 5) KR KR ?_; clear ha a; intro a ha
                refine endl ?_
                exact thenN ⟨h, ha.sub (subs_cons KR (subs_cons KR (subs_cons KR (subs_cons KR (subs_cons KR (subs_nil _)))))), HW.pick [1, 2, 3] [] (by decide) (by decide) KR KR⟩
            · skip
              replace h := ite_neg' h hp5101
              replace ha := ha.bool 38 KR (ieq_f hp5101)
              refine stepo ha 39 KR ?_; clear ha a; intro a ha
              refine stepo ha 40 KR ?_; clear ha a; intro a ha
              refine stepo ha 41 KR ?_; clear ha a; intro a ha
              refine stepo ha 42 KR ?_; clear ha a; intro a ha
              refine stepp ha 43 (.bool false) KR KR ?_; clear ha a; intro a ha
              refine endl ?_
              refine thenN (hK5100 _ _ ?_); clear hK5100
              refine condF ha KR KR (t := false) (rfl) ?_
              refine wp_skip ?_
              refine blkN ?_
              refine thenN (hK5089 _ _ ?_); clear hK5089
              refine wp_region_lit ?_
              refine stepp ha 27 (.int .i64 4) KR KR ?_; clear ha a; intro a ha
              refine stepp ha 28 (.int .i64 5) KR KR ?_; clear ha a; intro a ha
              refine stepp ha 7 (.int .i64 5) KR KR ?_; clear ha a; intro a ha
              refine endl ?_
              exact thenN ⟨h, ha.sub (subs_cons KR (subs_cons KR (subs_cons KR (subs_cons KR (subs_cons KR (subs_nil _)))))), HW.pick [1, 2, 3] [] (by decide) (by decide) KR KR⟩
          · skip
            intro a W5111 hJ
            obtain ⟨h, ha, HW⟩ := hJ
            replace h : headgateref16_Code.j4 K a0 a1 = some r := h
            unfold headgateref16_Code.j4 at h
            refine hK5083 _ _ ?_; clear hK5083
            refine roundK (n := 18) (fun K5112 hK5113 => ?_)
            refine cutn (fun a W5141 => headgateref16_Code.j5 K a0 a1 = some r ∧ Has 49 [(0, .int .i64 a0), (3, .pointer (some ⟨b4911, 0, none⟩)), (4, .pointer (some ⟨b4913, 0, none⟩)), (6, .slice (some ⟨b4917, 0, none⟩) 11 11), (7, .int .i64 6)] a ∧ Wd w W5141 [(b4911, .cells #[.int .i64 a1.f0, .int .i64 a1.f1, .int .i64 a1.f2, .int .i64 a1.f3] 66 (0, 0)), (b4913, .cells #[.int .i64 0, .string (⟨#[]⟩ : ByteArray), .int .i64 0, .int .i64 0, .slice none 0 0, .int .u32 0, .int .i64 0, .string (⟨#[]⟩ : ByteArray), .int .i64 0] 64 (0, 0)), (b4917, .cells #[.int .i64 1, .string (⟨#[]⟩ : ByteArray), .int .i64 0, .int .i64 0, .slice none 0 0, .int .u32 0, .int .i64 0, .string (⟨#[]⟩ : ByteArray), .int .i64 0, .int .i64 2, .string (⟨#[]⟩ : ByteArray), .int .i64 0, .int .i64 0, .slice none 0 0, .int .u32 0, .int .i64 0, .string (⟨#[]⟩ : ByteArray), .int .i64 0, .int .i64 4, .string (⟨#[]⟩ : ByteArray), .int .i64 0, .int .i64 0, .slice none 0 0, .int .u32 0, .int .i64 0, .string (⟨#[]⟩ : ByteArray), .int .i64 0, .int .i64 5, .string (⟨#[]⟩ : ByteArray), .int .i64 0, .int .i64 0, .slice none 0 0, .int .u32 0, .int .i64 0, .string (⟨#[]⟩ : ByteArray), .int .i64 0, .int .i64 6, .string (⟨#[]⟩ : ByteArray), .int .i64 0, .int .i64 0, .slice none 0 0, .int .u32 0, .int .i64 0, .string (⟨#[]⟩ : ByteArray), .int .i64 0, .int .i64 8, .string (⟨#[]⟩ : ByteArray), .int .i64 0, .int .i64 0, .slice none 0 0, .int .u32 0, .int .i64 0, .string (⟨#[]⟩ : ByteArray), .int .i64 0, .int .i64 7, .string (⟨#[]⟩ : ByteArray), .int .i64 0, .int .i64 1, .slice none 0 0, .int .u32 0, .int .i64 0, .string (⟨#[]⟩ : ByteArray), .int .i64 0, .int .i64 7, .string (⟨#[]⟩ : ByteArray), .int .i64 0, .int .i64 2, .slice none 0 0, .int .u32 0, .int .i64 0, .string (⟨#[]⟩ : ByteArray), .int .i64 0, .int .i64 7, .string (⟨#[]⟩ : ByteArray), .int .i64 0, .int .i64 3, .slice none 0 0, .int .u32 0, .int .i64 0, .string (⟨#[]⟩ : ByteArray), .int .i64 0, .int .i64 7, .string (⟨#[]⟩ : ByteArray), .int .i64 0, .int .i64 4, .slice none 0 0, .int .u32 0, .int .i64 0, .string (⟨#[]⟩ : ByteArray), .int .i64 0, .int .i64 3, .string (⟨#[]⟩ : ByteArray), .int .i64 a1.f3, .int .i64 0, .slice none 0 0, .int .u32 0, .int .i64 0, .string (⟨#[]⟩ : ByteArray), .int .i64 0] 64 (0, 0))] []) ?_ ?_
            · skip
              refine wp_seq_k (fun K5114 hK5115 => ?_)
              refine wp_seq_k (fun K5116 hK5117 => ?_)
              refine wp_region_lit ?_
              refine stepp ha 23 (.int .i64 5) KR KR ?_; clear ha a; intro a ha
              refine stepp ha 24 (.slice (some ⟨b4917, 0, none⟩) 11 11) KR KR ?_; clear ha a; intro a ha
              refine stepp ha 25 (.int .i64 11) KR KR ?_; clear ha a; intro a ha
              refine stepp ha 26 (.bool true) KR KR ?_; clear ha a; intro a ha
              refine endl ?_
              refine thenN (hK5117 _ _ ?_); clear hK5117
              refine condT ha KR KR (t := true) (rfl) ?_
              refine wp_skip ?_
              refine thenN (hK5115 _ _ ?_); clear hK5115
              refine wp_seq_k (fun K5118 hK5119 => ?_)
              refine wp_block ?_
              refine wp_seq_k (fun K5120 hK5121 => ?_)
              refine wp_region_lit ?_
              refine stepp ha 29 (.slice (some ⟨b4917, 0, none⟩) 11 11) KR KR ?_; clear ha a; intro a ha
              refine stepp ha 30 (.int .i64 5) KR KR ?_; clear ha a; intro a ha
              refine stepp ha 31 (.pointer (some ⟨b4917, 45, none⟩)) KR KR ?_; clear ha a; intro a ha
              refine stepl ha 32 (HW.ca (i := 2) (b := b4917) (C := #[.int .i64 1, .string (⟨#[]⟩ : ByteArray), .int .i64 0, .int .i64 0, .slice none 0 0, .int .u32 0, .int .i64 0, .string (⟨#[]⟩ : ByteArray), .int .i64 0, .int .i64 2, .string (⟨#[]⟩ : ByteArray), .int .i64 0, .int .i64 0, .slice none 0 0, .int .u32 0, .int .i64 0, .string (⟨#[]⟩ : ByteArray), .int .i64 0, .int .i64 4, .string (⟨#[]⟩ : ByteArray), .int .i64 0, .int .i64 0, .slice none 0 0, .int .u32 0, .int .i64 0, .string (⟨#[]⟩ : ByteArray), .int .i64 0, .int .i64 5, .string (⟨#[]⟩ : ByteArray), .int .i64 0, .int .i64 0, .slice none 0 0, .int .u32 0, .int .i64 0, .string (⟨#[]⟩ : ByteArray), .int .i64 0, .int .i64 6, .string (⟨#[]⟩ : ByteArray), .int .i64 0, .int .i64 0, .slice none 0 0, .int .u32 0, .int .i64 0, .string (⟨#[]⟩ : ByteArray), .int .i64 0, .int .i64 8, .string (⟨#[]⟩ : ByteArray), .int .i64 0, .int .i64 0, .slice none 0 0, .int .u32 0, .int .i64 0, .string (⟨#[]⟩ : ByteArray), .int .i64 0, .int .i64 7, .string (⟨#[]⟩ : ByteArray), .int .i64 0, .int .i64 1, .slice none 0 0, .int .u32 0, .int .i64 0, .string (⟨#[]⟩ : ByteArray), .int .i64 0, .int .i64 7, .string (⟨#[]⟩ : ByteArray), .int .i64 0, .int .i64 2, .slice none 0 0, .int .u32 0, .int .i64 0, .string (⟨#[]⟩ : ByteArray), .int .i64 0, .int .i64 7, .string (⟨#[]⟩ : ByteArray), .int .i64 0, .int .i64 3, .slice none 0 0, .int .u32 0, .int .i64 0, .string (⟨#[]⟩ : ByteArray), .int .i64 0, .int .i64 7, .string (⟨#[]⟩ : ByteArray), .int .i64 0, .int .i64 4, .slice none 0 0, .int .u32 0, .int .i64 0, .string (⟨#[]⟩ : ByteArray), .int .i64 0, .int .i64 3, .string (⟨#[]⟩ : ByteArray), .int .i64 a1.f3, .int .i64 0, .slice none 0 0, .int .u32 0, .int .i64 0, .string (⟨#[]⟩ : ByteArray), .int .i64 0]) (T := 64) (fr := (0, 0)) KR) 64 45 (.tmp 31) (.agg #[.int .i64 8, .string (⟨#[]⟩ : ByteArray), .int .i64 0, .int .i64 0, .slice none 0 0, .int .u32 0, .int .i64 0, .string (⟨#[]⟩ : ByteArray), .int .i64 0]) rfl KR KR KR ?_; clear ha a; intro a ha
              obtain ⟨t5122, ht5123, h_⟩ := bind_some' h; clear h; have h := h_; clear h_
              refine stepc ha 33 KR KR (headgateref16_Of.calls K (⟨8, (⟨#[]⟩ : ByteArray), 0, 0, ([] : List T_api_Reg), 0, (⟨0, (⟨#[]⟩ : ByteArray)⟩ : T_api_Hold), 0⟩ : T_api_Out) none 0 t5122 _ (Rd.nil _ _) ht5123) ?_; clear ha a; rintro e W5124 ⟨rfl, HX5125⟩
              refine ⟨_, rfl, ?_⟩; intro a ha; replace HW := HW.callw HX5125; clear HX5125
              refine stepnew ha HW 8 #[.int .i64 0, .int .i64 0, .int .i64 0, .int .i64 0, .int .i64 0] 70 KR KR ?_; clear ha HW a; intro b5126 a W5127 HW ha
              refine stepst ha HW 0 (b := b5126) (C := #[.int .i64 0, .int .i64 0, .int .i64 0, .int .i64 0, .int .i64 0]) (T := 70) KR 70 0 (.tmp 8) (.tmp 33) (.agg #[.int .i64 t5122.f0, .int .i64 t5122.f1.f0, .int .i64 t5122.f1.f1, .int .i64 t5122.f1.f2, .int .i64 t5122.f1.f3]) #[.int .i64 t5122.f0, .int .i64 t5122.f1.f0, .int .i64 t5122.f1.f1, .int .i64 t5122.f1.f2, .int .i64 t5122.f1.f3] rfl KR KR KR KR KR KR KR ?_; clear ha HW a; intro a W5128 HW ha
              refine endl ?_
              refine thenN (hK5121 _ _ ?_); clear hK5121
              refine wp_seq_k (fun K5129 hK5130 => ?_)
              refine wp_region_lit ?_
              refine stepp ha 34 (.pointer (some ⟨b5126, 0, none⟩)) KR KR ?_; clear ha a; intro a ha
              refine stepl ha 35 (HW.ca (i := 0) (b := b5126) (C := #[.int .i64 t5122.f0, .int .i64 t5122.f1.f0, .int .i64 t5122.f1.f1, .int .i64 t5122.f1.f2, .int .i64 t5122.f1.f3]) (T := 70) (fr := (0, 0)) KR) 3 0 (.tmp 34) (.int .i64 t5122.f0) rfl KR KR KR ?_; clear ha a; intro a ha
              refine stepp ha 36 (.int .i64 a0) KR KR ?_; clear ha a; intro a ha
              refine stepp ha 37 (.bool (t5122.f0 == a0)) KR KR ?_; clear ha a; intro a ha
              refine stepp ha 38 (.bool (t5122.f0 == a0)) KR KR ?_; clear ha a; intro a ha
              by_cases hp5131 : t5122.f0 = a0
              · skip
                replace h := ite_pos' h hp5131
                replace ha := ha.bool 38 KR (ieq_t hp5131)
                refine stepp ha 39 (.pointer (some ⟨b5126, 1, none⟩)) KR KR ?_; clear ha a; intro a ha
                refine stepl ha 40 (HW.ca (i := 0) (b := b5126) (C := #[.int .i64 t5122.f0, .int .i64 t5122.f1.f0, .int .i64 t5122.f1.f1, .int .i64 t5122.f1.f2, .int .i64 t5122.f1.f3]) (T := 70) (fr := (0, 0)) KR) 66 1 (.tmp 39) (.agg #[.int .i64 t5122.f1.f0, .int .i64 t5122.f1.f1, .int .i64 t5122.f1.f2, .int .i64 t5122.f1.f3]) rfl KR KR KR ?_; clear ha a; intro a ha
                refine stepl ha 41 (HW.ca (i := 1) (b := b4911) (C := #[.int .i64 a1.f0, .int .i64 a1.f1, .int .i64 a1.f2, .int .i64 a1.f3]) (T := 66) (fr := (0, 0)) KR) 66 0 (.tmp 3) (.agg #[.int .i64 a1.f0, .int .i64 a1.f1, .int .i64 a1.f2, .int .i64 a1.f3]) rfl KR KR KR ?_; clear ha a; intro a ha
                obtain ⟨t5132, ht5133, h_⟩ := bind_some' h; clear h; have h := h_; clear h_
                refine stepc ha 42 KR KR (headgatekeep_Senses.calls (⟨t5122.f1.f0, t5122.f1.f1, t5122.f1.f2, t5122.f1.f3⟩ : T_api_Sense) a1 t5132 _ ht5133) ?_; clear ha a; rintro e W5134 ⟨rfl, HX5135⟩
                refine ⟨_, rfl, ?_⟩; intro a ha; replace HW := HW.callw HX5135; clear HX5135
                refine stepp ha 43 (.bool t5132) KR KR ?_; clear ha a; intro a ha
                refine endl ?_
                refine thenN (hK5130 _ _ ?_); clear hK5130
                by_cases hp5136 : t5132 = true
                · skip
                  replace h := ite_pos' h hp5136
                  refine condT ha KR KR (t := t5132) (hp5136) ?_
                  refine wp_seq_k (fun K5137 hK5138 => ?_)
                  refine wp_region_lit ?_
                  refine stepp ha 44 (.slice (some ⟨b4917, 0, none⟩) 11 11) KR KR ?_; clear ha a; intro a ha
                  refine stepp ha 45 (.int .i64 5) KR KR ?_; clear ha a; intro a ha
                  refine stepp ha 46 (.pointer (some ⟨b4917, 45, none⟩)) KR KR ?_; clear ha a; intro a ha
                  refine stepl ha 47 (HW.ca (i := 3) (b := b4917) (C := #[.int .i64 1, .string (⟨#[]⟩ : ByteArray), .int .i64 0, .int .i64 0, .slice none 0 0, .int .u32 0, .int .i64 0, .string (⟨#[]⟩ : ByteArray), .int .i64 0, .int .i64 2, .string (⟨#[]⟩ : ByteArray), .int .i64 0, .int .i64 0, .slice none 0 0, .int .u32 0, .int .i64 0, .string (⟨#[]⟩ : ByteArray), .int .i64 0, .int .i64 4, .string (⟨#[]⟩ : ByteArray), .int .i64 0, .int .i64 0, .slice none 0 0, .int .u32 0, .int .i64 0, .string (⟨#[]⟩ : ByteArray), .int .i64 0, .int .i64 5, .string (⟨#[]⟩ : ByteArray), .int .i64 0, .int .i64 0, .slice none 0 0, .int .u32 0, .int .i64 0, .string (⟨#[]⟩ : ByteArray), .int .i64 0, .int .i64 6, .string (⟨#[]⟩ : ByteArray), .int .i64 0, .int .i64 0, .slice none 0 0, .int .u32 0, .int .i64 0, .string (⟨#[]⟩ : ByteArray), .int .i64 0, .int .i64 8, .string (⟨#[]⟩ : ByteArray), .int .i64 0, .int .i64 0, .slice none 0 0, .int .u32 0, .int .i64 0, .string (⟨#[]⟩ : ByteArray), .int .i64 0, .int .i64 7, .string (⟨#[]⟩ : ByteArray), .int .i64 0, .int .i64 1, .slice none 0 0, .int .u32 0, .int .i64 0, .string (⟨#[]⟩ : ByteArray), .int .i64 0, .int .i64 7, .string (⟨#[]⟩ : ByteArray), .int .i64 0, .int .i64 2, .slice none 0 0, .int .u32 0, .int .i64 0, .string (⟨#[]⟩ : ByteArray), .int .i64 0, .int .i64 7, .string (⟨#[]⟩ : ByteArray), .int .i64 0, .int .i64 3, .slice none 0 0, .int .u32 0, .int .i64 0, .string (⟨#[]⟩ : ByteArray), .int .i64 0, .int .i64 7, .string (⟨#[]⟩ : ByteArray), .int .i64 0, .int .i64 4, .slice none 0 0, .int .u32 0, .int .i64 0, .string (⟨#[]⟩ : ByteArray), .int .i64 0, .int .i64 3, .string (⟨#[]⟩ : ByteArray), .int .i64 a1.f3, .int .i64 0, .slice none 0 0, .int .u32 0, .int .i64 0, .string (⟨#[]⟩ : ByteArray), .int .i64 0]) (T := 64) (fr := (0, 0)) KR) 64 45 (.tmp 46) (.agg #[.int .i64 8, .string (⟨#[]⟩ : ByteArray), .int .i64 0, .int .i64 0, .slice none 0 0, .int .u32 0, .int .i64 0, .string (⟨#[]⟩ : ByteArray), .int .i64 0]) rfl KR KR KR ?_; clear ha a; intro a ha
                  refine stepst ha HW 2 (b := b4913) (C := #[.int .i64 0, .string (⟨#[]⟩ : ByteArray), .int .i64 0, .int .i64 0, .slice none 0 0, .int .u32 0, .int .i64 0, .string (⟨#[]⟩ : ByteArray), .int .i64 0]) (T := 64) KR 64 0 (.tmp 4) (.tmp 47) (.agg #[.int .i64 8, .string (⟨#[]⟩ : ByteArray), .int .i64 0, .int .i64 0, .slice none 0 0, .int .u32 0, .int .i64 0, .string (⟨#[]⟩ : ByteArray), .int .i64 0]) #[.int .i64 8, .string (⟨#[]⟩ : ByteArray), .int .i64 0, .int .i64 0, .slice none 0 0, .int .u32 0, .int .i64 0, .string (⟨#[]⟩ : ByteArray), .int .i64 0] rfl KR KR KR KR KR KR KR ?_; clear ha HW a; intro a W5139 HW ha
                  refine stepp ha 5 (.bool true) KR KR ?_; clear ha a; intro a ha
                  refine endl ?_
                  refine thenN (hK5138 _ _ ?_); clear hK5138
                  refine wp_ret ?_
                  refine blkR ?_
                  refine thenR ?_
                  refine thenR ?_
                  refine blkR ?_
                  refine thenR ?_
                  obtain rfl := Option.some.inj h
                  replace HW := HW.nilo 44 2
                  exact finv ha _ _ rfl (.cell (ad := ⟨b4913, 0, none⟩) (v := .agg #[.int .i64 8, .string (⟨#[]⟩ : ByteArray), .int .i64 0, .int .i64 0, .slice none 0 0, .int .u32 0, .int .i64 0, .string (⟨#[]⟩ : ByteArray), .int .i64 0]) KR (run_loadVar_ca0 (HW.ca (i := 2) (b := b4913) (C := #[.int .i64 8, .string (⟨#[]⟩ : ByteArray), .int .i64 0, .int .i64 0, .slice none 0 0, .int .u32 0, .int .i64 0, .string (⟨#[]⟩ : ByteArray), .int .i64 0]) (T := 64) (fr := (0, 0)) KR) 64 0 (.agg #[.int .i64 8, .string (⟨#[]⟩ : ByteArray), .int .i64 0, .int .i64 0, .slice none 0 0, .int .u32 0, .int .i64 0, .string (⟨#[]⟩ : ByteArray), .int .i64 0]) KR) (.tmp (v := .bool true) KR .nil)) (.tuple #[.agg #[.int .i64 8, .string (⟨#[]⟩ : ByteArray), .int .i64 0, .int .i64 0, .slice none 0 0, .int .u32 0, .int .i64 0, .string (⟨#[]⟩ : ByteArray), .int .i64 0], .bool true]) rfl ⟨none, 0, rfl, HW.pick [] [0] (by decide) (by decide) rfl KR⟩
                · skip
                  replace h := ite_neg' h hp5136
                  refine condF ha KR KR (t := t5132) (bool_f hp5136) ?_
                  refine wp_skip ?_
                  refine blkN ?_
                  refine thenN (hK5119 _ _ ?_); clear hK5119
                  refine wp_region_lit ?_
                  refine stepp ha 27 (.int .i64 5) KR KR ?_; clear ha a; intro a ha
                  refine stepp ha 28 (.int .i64 6) KR KR ?_; clear ha a; intro a ha
                  refine stepp ha 7 (.int .i64 6) KR KR ?_; clear ha a; intro a ha
                  refine endl ?_
                  exact thenN ⟨h, ha.sub (subs_cons KR (subs_cons KR (subs_cons KR (subs_cons KR (subs_cons KR (subs_nil _)))))), HW.pick [1, 2, 3] [] (by decide) (by decide) KR KR⟩
              · skip
                replace h := ite_neg' h hp5131
                replace ha := ha.bool 38 KR (ieq_f hp5131)
                refine stepo ha 39 KR ?_; clear ha a; intro a ha
                refine stepo ha 40 KR ?_; clear ha a; intro a ha
                refine stepo ha 41 KR ?_; clear ha a; intro a ha
                refine stepo ha 42 KR ?_; clear ha a; intro a ha
                refine stepp ha 43 (.bool false) KR KR ?_; clear ha a; intro a ha
                refine endl ?_
                refine thenN (hK5130 _ _ ?_); clear hK5130
                refine condF ha KR KR (t := false) (rfl) ?_
                refine wp_skip ?_
                refine blkN ?_
                refine thenN (hK5119 _ _ ?_); clear hK5119
                refine wp_region_lit ?_
                refine stepp ha 27 (.int .i64 5) KR KR ?_; clear ha a; intro a ha
                refine stepp ha 28 (.int .i64 6) KR KR ?_; clear ha a; intro a ha
                refine stepp ha 7 (.int .i64 6) KR KR ?_; clear ha a; intro a ha
                refine endl ?_
                exact thenN ⟨h, ha.sub (subs_cons KR (subs_cons KR (subs_cons KR (subs_cons KR (subs_cons KR (subs_nil _)))))), HW.pick [1, 2, 3] [] (by decide) (by decide) KR KR⟩
            · skip
              intro a W5141 hJ
              obtain ⟨h, ha, HW⟩ := hJ
              replace h : headgateref16_Code.j5 K a0 a1 = some r := h
              unfold headgateref16_Code.j5 at h
              refine hK5113 _ _ ?_; clear hK5113
              refine roundK (n := 17) (fun K5142 hK5143 => ?_)
              refine cutn (fun a W5171 => headgateref16_Code.j6 K a0 a1 = some r ∧ Has 49 [(0, .int .i64 a0), (3, .pointer (some ⟨b4911, 0, none⟩)), (4, .pointer (some ⟨b4913, 0, none⟩)), (6, .slice (some ⟨b4917, 0, none⟩) 11 11), (7, .int .i64 7)] a ∧ Wd w W5171 [(b4911, .cells #[.int .i64 a1.f0, .int .i64 a1.f1, .int .i64 a1.f2, .int .i64 a1.f3] 66 (0, 0)), (b4913, .cells #[.int .i64 0, .string (⟨#[]⟩ : ByteArray), .int .i64 0, .int .i64 0, .slice none 0 0, .int .u32 0, .int .i64 0, .string (⟨#[]⟩ : ByteArray), .int .i64 0] 64 (0, 0)), (b4917, .cells #[.int .i64 1, .string (⟨#[]⟩ : ByteArray), .int .i64 0, .int .i64 0, .slice none 0 0, .int .u32 0, .int .i64 0, .string (⟨#[]⟩ : ByteArray), .int .i64 0, .int .i64 2, .string (⟨#[]⟩ : ByteArray), .int .i64 0, .int .i64 0, .slice none 0 0, .int .u32 0, .int .i64 0, .string (⟨#[]⟩ : ByteArray), .int .i64 0, .int .i64 4, .string (⟨#[]⟩ : ByteArray), .int .i64 0, .int .i64 0, .slice none 0 0, .int .u32 0, .int .i64 0, .string (⟨#[]⟩ : ByteArray), .int .i64 0, .int .i64 5, .string (⟨#[]⟩ : ByteArray), .int .i64 0, .int .i64 0, .slice none 0 0, .int .u32 0, .int .i64 0, .string (⟨#[]⟩ : ByteArray), .int .i64 0, .int .i64 6, .string (⟨#[]⟩ : ByteArray), .int .i64 0, .int .i64 0, .slice none 0 0, .int .u32 0, .int .i64 0, .string (⟨#[]⟩ : ByteArray), .int .i64 0, .int .i64 8, .string (⟨#[]⟩ : ByteArray), .int .i64 0, .int .i64 0, .slice none 0 0, .int .u32 0, .int .i64 0, .string (⟨#[]⟩ : ByteArray), .int .i64 0, .int .i64 7, .string (⟨#[]⟩ : ByteArray), .int .i64 0, .int .i64 1, .slice none 0 0, .int .u32 0, .int .i64 0, .string (⟨#[]⟩ : ByteArray), .int .i64 0, .int .i64 7, .string (⟨#[]⟩ : ByteArray), .int .i64 0, .int .i64 2, .slice none 0 0, .int .u32 0, .int .i64 0, .string (⟨#[]⟩ : ByteArray), .int .i64 0, .int .i64 7, .string (⟨#[]⟩ : ByteArray), .int .i64 0, .int .i64 3, .slice none 0 0, .int .u32 0, .int .i64 0, .string (⟨#[]⟩ : ByteArray), .int .i64 0, .int .i64 7, .string (⟨#[]⟩ : ByteArray), .int .i64 0, .int .i64 4, .slice none 0 0, .int .u32 0, .int .i64 0, .string (⟨#[]⟩ : ByteArray), .int .i64 0, .int .i64 3, .string (⟨#[]⟩ : ByteArray), .int .i64 a1.f3, .int .i64 0, .slice none 0 0, .int .u32 0, .int .i64 0, .string (⟨#[]⟩ : ByteArray), .int .i64 0] 64 (0, 0))] []) ?_ ?_
              · skip
                refine wp_seq_k (fun K5144 hK5145 => ?_)
                refine wp_seq_k (fun K5146 hK5147 => ?_)
                refine wp_region_lit ?_
                refine stepp ha 23 (.int .i64 6) KR KR ?_; clear ha a; intro a ha
                refine stepp ha 24 (.slice (some ⟨b4917, 0, none⟩) 11 11) KR KR ?_; clear ha a; intro a ha
                refine stepp ha 25 (.int .i64 11) KR KR ?_; clear ha a; intro a ha
                refine stepp ha 26 (.bool true) KR KR ?_; clear ha a; intro a ha
                refine endl ?_
                refine thenN (hK5147 _ _ ?_); clear hK5147
                refine condT ha KR KR (t := true) (rfl) ?_
                refine wp_skip ?_
                refine thenN (hK5145 _ _ ?_); clear hK5145
                refine wp_seq_k (fun K5148 hK5149 => ?_)
                refine wp_block ?_
                refine wp_seq_k (fun K5150 hK5151 => ?_)
                refine wp_region_lit ?_
                refine stepp ha 29 (.slice (some ⟨b4917, 0, none⟩) 11 11) KR KR ?_; clear ha a; intro a ha
                refine stepp ha 30 (.int .i64 6) KR KR ?_; clear ha a; intro a ha
                refine stepp ha 31 (.pointer (some ⟨b4917, 54, none⟩)) KR KR ?_; clear ha a; intro a ha
                refine stepl ha 32 (HW.ca (i := 2) (b := b4917) (C := #[.int .i64 1, .string (⟨#[]⟩ : ByteArray), .int .i64 0, .int .i64 0, .slice none 0 0, .int .u32 0, .int .i64 0, .string (⟨#[]⟩ : ByteArray), .int .i64 0, .int .i64 2, .string (⟨#[]⟩ : ByteArray), .int .i64 0, .int .i64 0, .slice none 0 0, .int .u32 0, .int .i64 0, .string (⟨#[]⟩ : ByteArray), .int .i64 0, .int .i64 4, .string (⟨#[]⟩ : ByteArray), .int .i64 0, .int .i64 0, .slice none 0 0, .int .u32 0, .int .i64 0, .string (⟨#[]⟩ : ByteArray), .int .i64 0, .int .i64 5, .string (⟨#[]⟩ : ByteArray), .int .i64 0, .int .i64 0, .slice none 0 0, .int .u32 0, .int .i64 0, .string (⟨#[]⟩ : ByteArray), .int .i64 0, .int .i64 6, .string (⟨#[]⟩ : ByteArray), .int .i64 0, .int .i64 0, .slice none 0 0, .int .u32 0, .int .i64 0, .string (⟨#[]⟩ : ByteArray), .int .i64 0, .int .i64 8, .string (⟨#[]⟩ : ByteArray), .int .i64 0, .int .i64 0, .slice none 0 0, .int .u32 0, .int .i64 0, .string (⟨#[]⟩ : ByteArray), .int .i64 0, .int .i64 7, .string (⟨#[]⟩ : ByteArray), .int .i64 0, .int .i64 1, .slice none 0 0, .int .u32 0, .int .i64 0, .string (⟨#[]⟩ : ByteArray), .int .i64 0, .int .i64 7, .string (⟨#[]⟩ : ByteArray), .int .i64 0, .int .i64 2, .slice none 0 0, .int .u32 0, .int .i64 0, .string (⟨#[]⟩ : ByteArray), .int .i64 0, .int .i64 7, .string (⟨#[]⟩ : ByteArray), .int .i64 0, .int .i64 3, .slice none 0 0, .int .u32 0, .int .i64 0, .string (⟨#[]⟩ : ByteArray), .int .i64 0, .int .i64 7, .string (⟨#[]⟩ : ByteArray), .int .i64 0, .int .i64 4, .slice none 0 0, .int .u32 0, .int .i64 0, .string (⟨#[]⟩ : ByteArray), .int .i64 0, .int .i64 3, .string (⟨#[]⟩ : ByteArray), .int .i64 a1.f3, .int .i64 0, .slice none 0 0, .int .u32 0, .int .i64 0, .string (⟨#[]⟩ : ByteArray), .int .i64 0]) (T := 64) (fr := (0, 0)) KR) 64 54 (.tmp 31) (.agg #[.int .i64 7, .string (⟨#[]⟩ : ByteArray), .int .i64 0, .int .i64 1, .slice none 0 0, .int .u32 0, .int .i64 0, .string (⟨#[]⟩ : ByteArray), .int .i64 0]) rfl KR KR KR ?_; clear ha a; intro a ha
                obtain ⟨t5152, ht5153, h_⟩ := bind_some' h; clear h; have h := h_; clear h_
                refine stepc ha 33 KR KR (headgateref16_Of.calls K (⟨7, (⟨#[]⟩ : ByteArray), 0, 1, ([] : List T_api_Reg), 0, (⟨0, (⟨#[]⟩ : ByteArray)⟩ : T_api_Hold), 0⟩ : T_api_Out) none 0 t5152 _ (Rd.nil _ _) ht5153) ?_; clear ha a; rintro e W5154 ⟨rfl, HX5155⟩
                refine ⟨_, rfl, ?_⟩; intro a ha; replace HW := HW.callw HX5155; clear HX5155
                refine stepnew ha HW 8 #[.int .i64 0, .int .i64 0, .int .i64 0, .int .i64 0, .int .i64 0] 70 KR KR ?_; clear ha HW a; intro b5156 a W5157 HW ha
                refine stepst ha HW 0 (b := b5156) (C := #[.int .i64 0, .int .i64 0, .int .i64 0, .int .i64 0, .int .i64 0]) (T := 70) KR 70 0 (.tmp 8) (.tmp 33) (.agg #[.int .i64 t5152.f0, .int .i64 t5152.f1.f0, .int .i64 t5152.f1.f1, .int .i64 t5152.f1.f2, .int .i64 t5152.f1.f3]) #[.int .i64 t5152.f0, .int .i64 t5152.f1.f0, .int .i64 t5152.f1.f1, .int .i64 t5152.f1.f2, .int .i64 t5152.f1.f3] rfl KR KR KR KR KR KR KR ?_; clear ha HW a; intro a W5158 HW ha
                refine endl ?_
                refine thenN (hK5151 _ _ ?_); clear hK5151
                refine wp_seq_k (fun K5159 hK5160 => ?_)
                refine wp_region_lit ?_
                refine stepp ha 34 (.pointer (some ⟨b5156, 0, none⟩)) KR KR ?_; clear ha a; intro a ha
                refine stepl ha 35 (HW.ca (i := 0) (b := b5156) (C := #[.int .i64 t5152.f0, .int .i64 t5152.f1.f0, .int .i64 t5152.f1.f1, .int .i64 t5152.f1.f2, .int .i64 t5152.f1.f3]) (T := 70) (fr := (0, 0)) KR) 3 0 (.tmp 34) (.int .i64 t5152.f0) rfl KR KR KR ?_; clear ha a; intro a ha
                refine stepp ha 36 (.int .i64 a0) KR KR ?_; clear ha a; intro a ha
                refine stepp ha 37 (.bool (t5152.f0 == a0)) KR KR ?_; clear ha a; intro a ha
                refine stepp ha 38 (.bool (t5152.f0 == a0)) KR KR ?_; clear ha a; intro a ha
                by_cases hp5161 : t5152.f0 = a0
                · skip
                  replace h := ite_pos' h hp5161
                  replace ha := ha.bool 38 KR (ieq_t hp5161)
                  refine stepp ha 39 (.pointer (some ⟨b5156, 1, none⟩)) KR KR ?_; clear ha a; intro a ha
                  refine stepl ha 40 (HW.ca (i := 0) (b := b5156) (C := #[.int .i64 t5152.f0, .int .i64 t5152.f1.f0, .int .i64 t5152.f1.f1, .int .i64 t5152.f1.f2, .int .i64 t5152.f1.f3]) (T := 70) (fr := (0, 0)) KR) 66 1 (.tmp 39) (.agg #[.int .i64 t5152.f1.f0, .int .i64 t5152.f1.f1, .int .i64 t5152.f1.f2, .int .i64 t5152.f1.f3]) rfl KR KR KR ?_; clear ha a; intro a ha
                  refine stepl ha 41 (HW.ca (i := 1) (b := b4911) (C := #[.int .i64 a1.f0, .int .i64 a1.f1, .int .i64 a1.f2, .int .i64 a1.f3]) (T := 66) (fr := (0, 0)) KR) 66 0 (.tmp 3) (.agg #[.int .i64 a1.f0, .int .i64 a1.f1, .int .i64 a1.f2, .int .i64 a1.f3]) rfl KR KR KR ?_; clear ha a; intro a ha
                  obtain ⟨t5162, ht5163, h_⟩ := bind_some' h; clear h; have h := h_; clear h_
                  refine stepc ha 42 KR KR (headgatekeep_Senses.calls (⟨t5152.f1.f0, t5152.f1.f1, t5152.f1.f2, t5152.f1.f3⟩ : T_api_Sense) a1 t5162 _ ht5163) ?_; clear ha a; rintro e W5164 ⟨rfl, HX5165⟩
                  refine ⟨_, rfl, ?_⟩; intro a ha; replace HW := HW.callw HX5165; clear HX5165
                  refine stepp ha 43 (.bool t5162) KR KR ?_; clear ha a; intro a ha
                  refine endl ?_
                  refine thenN (hK5160 _ _ ?_); clear hK5160
                  by_cases hp5166 : t5162 = true
                  · skip
                    replace h := ite_pos' h hp5166
                    refine condT ha KR KR (t := t5162) (hp5166) ?_
                    refine wp_seq_k (fun K5167 hK5168 => ?_)
                    refine wp_region_lit ?_
                    refine stepp ha 44 (.slice (some ⟨b4917, 0, none⟩) 11 11) KR KR ?_; clear ha a; intro a ha
                    refine stepp ha 45 (.int .i64 6) KR KR ?_; clear ha a; intro a ha
                    refine stepp ha 46 (.pointer (some ⟨b4917, 54, none⟩)) KR KR ?_; clear ha a; intro a ha
                    refine stepl ha 47 (HW.ca (i := 3) (b := b4917) (C := #[.int .i64 1, .string (⟨#[]⟩ : ByteArray), .int .i64 0, .int .i64 0, .slice none 0 0, .int .u32 0, .int .i64 0, .string (⟨#[]⟩ : ByteArray), .int .i64 0, .int .i64 2, .string (⟨#[]⟩ : ByteArray), .int .i64 0, .int .i64 0, .slice none 0 0, .int .u32 0, .int .i64 0, .string (⟨#[]⟩ : ByteArray), .int .i64 0, .int .i64 4, .string (⟨#[]⟩ : ByteArray), .int .i64 0, .int .i64 0, .slice none 0 0, .int .u32 0, .int .i64 0, .string (⟨#[]⟩ : ByteArray), .int .i64 0, .int .i64 5, .string (⟨#[]⟩ : ByteArray), .int .i64 0, .int .i64 0, .slice none 0 0, .int .u32 0, .int .i64 0, .string (⟨#[]⟩ : ByteArray), .int .i64 0, .int .i64 6, .string (⟨#[]⟩ : ByteArray), .int .i64 0, .int .i64 0, .slice none 0 0, .int .u32 0, .int .i64 0, .string (⟨#[]⟩ : ByteArray), .int .i64 0, .int .i64 8, .string (⟨#[]⟩ : ByteArray), .int .i64 0, .int .i64 0, .slice none 0 0, .int .u32 0, .int .i64 0, .string (⟨#[]⟩ : ByteArray), .int .i64 0, .int .i64 7, .string (⟨#[]⟩ : ByteArray), .int .i64 0, .int .i64 1, .slice none 0 0, .int .u32 0, .int .i64 0, .string (⟨#[]⟩ : ByteArray), .int .i64 0, .int .i64 7, .string (⟨#[]⟩ : ByteArray), .int .i64 0, .int .i64 2, .slice none 0 0, .int .u32 0, .int .i64 0, .string (⟨#[]⟩ : ByteArray), .int .i64 0, .int .i64 7, .string (⟨#[]⟩ : ByteArray), .int .i64 0, .int .i64 3, .slice none 0 0, .int .u32 0, .int .i64 0, .string (⟨#[]⟩ : ByteArray), .int .i64 0, .int .i64 7, .string (⟨#[]⟩ : ByteArray), .int .i64 0, .int .i64 4, .slice none 0 0, .int .u32 0, .int .i64 0, .string (⟨#[]⟩ : ByteArray), .int .i64 0, .int .i64 3, .string (⟨#[]⟩ : ByteArray), .int .i64 a1.f3, .int .i64 0, .slice none 0 0, .int .u32 0, .int .i64 0, .string (⟨#[]⟩ : ByteArray), .int .i64 0]) (T := 64) (fr := (0, 0)) KR) 64 54 (.tmp 46) (.agg #[.int .i64 7, .string (⟨#[]⟩ : ByteArray), .int .i64 0, .int .i64 1, .slice none 0 0, .int .u32 0, .int .i64 0, .string (⟨#[]⟩ : ByteArray), .int .i64 0]) rfl KR KR KR ?_; clear ha a; intro a ha
                    refine stepst ha HW 2 (b := b4913) (C := #[.int .i64 0, .string (⟨#[]⟩ : ByteArray), .int .i64 0, .int .i64 0, .slice none 0 0, .int .u32 0, .int .i64 0, .string (⟨#[]⟩ : ByteArray), .int .i64 0]) (T := 64) KR 64 0 (.tmp 4) (.tmp 47) (.agg #[.int .i64 7, .string (⟨#[]⟩ : ByteArray), .int .i64 0, .int .i64 1, .slice none 0 0, .int .u32 0, .int .i64 0, .string (⟨#[]⟩ : ByteArray), .int .i64 0]) #[.int .i64 7, .string (⟨#[]⟩ : ByteArray), .int .i64 0, .int .i64 1, .slice none 0 0, .int .u32 0, .int .i64 0, .string (⟨#[]⟩ : ByteArray), .int .i64 0] rfl KR KR KR KR KR KR KR ?_; clear ha HW a; intro a W5169 HW ha
                    refine stepp ha 5 (.bool true) KR KR ?_; clear ha a; intro a ha
                    refine endl ?_
                    refine thenN (hK5168 _ _ ?_); clear hK5168
                    refine wp_ret ?_
                    refine blkR ?_
                    refine thenR ?_
                    refine thenR ?_
                    refine blkR ?_
                    refine thenR ?_
                    obtain rfl := Option.some.inj h
                    replace HW := HW.nilo 44 2
                    exact finv ha _ _ rfl (.cell (ad := ⟨b4913, 0, none⟩) (v := .agg #[.int .i64 7, .string (⟨#[]⟩ : ByteArray), .int .i64 0, .int .i64 1, .slice none 0 0, .int .u32 0, .int .i64 0, .string (⟨#[]⟩ : ByteArray), .int .i64 0]) KR (run_loadVar_ca0 (HW.ca (i := 2) (b := b4913) (C := #[.int .i64 7, .string (⟨#[]⟩ : ByteArray), .int .i64 0, .int .i64 1, .slice none 0 0, .int .u32 0, .int .i64 0, .string (⟨#[]⟩ : ByteArray), .int .i64 0]) (T := 64) (fr := (0, 0)) KR) 64 0 (.agg #[.int .i64 7, .string (⟨#[]⟩ : ByteArray), .int .i64 0, .int .i64 1, .slice none 0 0, .int .u32 0, .int .i64 0, .string (⟨#[]⟩ : ByteArray), .int .i64 0]) KR) (.tmp (v := .bool true) KR .nil)) (.tuple #[.agg #[.int .i64 7, .string (⟨#[]⟩ : ByteArray), .int .i64 0, .int .i64 1, .slice none 0 0, .int .u32 0, .int .i64 0, .string (⟨#[]⟩ : ByteArray), .int .i64 0], .bool true]) rfl ⟨none, 0, rfl, HW.pick [] [0] (by decide) (by decide) rfl KR⟩
                  · skip
                    replace h := ite_neg' h hp5166
                    refine condF ha KR KR (t := t5162) (bool_f hp5166) ?_
                    refine wp_skip ?_
                    refine blkN ?_
                    refine thenN (hK5149 _ _ ?_); clear hK5149
                    refine wp_region_lit ?_
                    refine stepp ha 27 (.int .i64 6) KR KR ?_; clear ha a; intro a ha
                    refine stepp ha 28 (.int .i64 7) KR KR ?_; clear ha a; intro a ha
                    refine stepp ha 7 (.int .i64 7) KR KR ?_; clear ha a; intro a ha
                    refine endl ?_
                    exact thenN ⟨h, ha.sub (subs_cons KR (subs_cons KR (subs_cons KR (subs_cons KR (subs_cons KR (subs_nil _)))))), HW.pick [1, 2, 3] [] (by decide) (by decide) KR KR⟩
                · skip
                  replace h := ite_neg' h hp5161
                  replace ha := ha.bool 38 KR (ieq_f hp5161)
                  refine stepo ha 39 KR ?_; clear ha a; intro a ha
                  refine stepo ha 40 KR ?_; clear ha a; intro a ha
                  refine stepo ha 41 KR ?_; clear ha a; intro a ha
                  refine stepo ha 42 KR ?_; clear ha a; intro a ha
                  refine stepp ha 43 (.bool false) KR KR ?_; clear ha a; intro a ha
                  refine endl ?_
                  refine thenN (hK5160 _ _ ?_); clear hK5160
                  refine condF ha KR KR (t := false) (rfl) ?_
                  refine wp_skip ?_
                  refine blkN ?_
                  refine thenN (hK5149 _ _ ?_); clear hK5149
                  refine wp_region_lit ?_
                  refine stepp ha 27 (.int .i64 6) KR KR ?_; clear ha a; intro a ha
                  refine stepp ha 28 (.int .i64 7) KR KR ?_; clear ha a; intro a ha
                  refine stepp ha 7 (.int .i64 7) KR KR ?_; clear ha a; intro a ha
                  refine endl ?_
                  exact thenN ⟨h, ha.sub (subs_cons KR (subs_cons KR (subs_cons KR (subs_cons KR (subs_cons KR (subs_nil _)))))), HW.pick [1, 2, 3] [] (by decide) (by decide) KR KR⟩
              · skip
                intro a W5171 hJ
                obtain ⟨h, ha, HW⟩ := hJ
                replace h : headgateref16_Code.j6 K a0 a1 = some r := h
                unfold headgateref16_Code.j6 at h
                refine hK5143 _ _ ?_; clear hK5143
                refine roundK (n := 16) (fun K5172 hK5173 => ?_)
                refine cutn (fun a W5201 => headgateref16_Code.j7 K a0 a1 = some r ∧ Has 49 [(0, .int .i64 a0), (3, .pointer (some ⟨b4911, 0, none⟩)), (4, .pointer (some ⟨b4913, 0, none⟩)), (6, .slice (some ⟨b4917, 0, none⟩) 11 11), (7, .int .i64 8)] a ∧ Wd w W5201 [(b4911, .cells #[.int .i64 a1.f0, .int .i64 a1.f1, .int .i64 a1.f2, .int .i64 a1.f3] 66 (0, 0)), (b4913, .cells #[.int .i64 0, .string (⟨#[]⟩ : ByteArray), .int .i64 0, .int .i64 0, .slice none 0 0, .int .u32 0, .int .i64 0, .string (⟨#[]⟩ : ByteArray), .int .i64 0] 64 (0, 0)), (b4917, .cells #[.int .i64 1, .string (⟨#[]⟩ : ByteArray), .int .i64 0, .int .i64 0, .slice none 0 0, .int .u32 0, .int .i64 0, .string (⟨#[]⟩ : ByteArray), .int .i64 0, .int .i64 2, .string (⟨#[]⟩ : ByteArray), .int .i64 0, .int .i64 0, .slice none 0 0, .int .u32 0, .int .i64 0, .string (⟨#[]⟩ : ByteArray), .int .i64 0, .int .i64 4, .string (⟨#[]⟩ : ByteArray), .int .i64 0, .int .i64 0, .slice none 0 0, .int .u32 0, .int .i64 0, .string (⟨#[]⟩ : ByteArray), .int .i64 0, .int .i64 5, .string (⟨#[]⟩ : ByteArray), .int .i64 0, .int .i64 0, .slice none 0 0, .int .u32 0, .int .i64 0, .string (⟨#[]⟩ : ByteArray), .int .i64 0, .int .i64 6, .string (⟨#[]⟩ : ByteArray), .int .i64 0, .int .i64 0, .slice none 0 0, .int .u32 0, .int .i64 0, .string (⟨#[]⟩ : ByteArray), .int .i64 0, .int .i64 8, .string (⟨#[]⟩ : ByteArray), .int .i64 0, .int .i64 0, .slice none 0 0, .int .u32 0, .int .i64 0, .string (⟨#[]⟩ : ByteArray), .int .i64 0, .int .i64 7, .string (⟨#[]⟩ : ByteArray), .int .i64 0, .int .i64 1, .slice none 0 0, .int .u32 0, .int .i64 0, .string (⟨#[]⟩ : ByteArray), .int .i64 0, .int .i64 7, .string (⟨#[]⟩ : ByteArray), .int .i64 0, .int .i64 2, .slice none 0 0, .int .u32 0, .int .i64 0, .string (⟨#[]⟩ : ByteArray), .int .i64 0, .int .i64 7, .string (⟨#[]⟩ : ByteArray), .int .i64 0, .int .i64 3, .slice none 0 0, .int .u32 0, .int .i64 0, .string (⟨#[]⟩ : ByteArray), .int .i64 0, .int .i64 7, .string (⟨#[]⟩ : ByteArray), .int .i64 0, .int .i64 4, .slice none 0 0, .int .u32 0, .int .i64 0, .string (⟨#[]⟩ : ByteArray), .int .i64 0, .int .i64 3, .string (⟨#[]⟩ : ByteArray), .int .i64 a1.f3, .int .i64 0, .slice none 0 0, .int .u32 0, .int .i64 0, .string (⟨#[]⟩ : ByteArray), .int .i64 0] 64 (0, 0))] []) ?_ ?_
                · skip
                  refine wp_seq_k (fun K5174 hK5175 => ?_)
                  refine wp_seq_k (fun K5176 hK5177 => ?_)
                  refine wp_region_lit ?_
                  refine stepp ha 23 (.int .i64 7) KR KR ?_; clear ha a; intro a ha
                  refine stepp ha 24 (.slice (some ⟨b4917, 0, none⟩) 11 11) KR KR ?_; clear ha a; intro a ha
                  refine stepp ha 25 (.int .i64 11) KR KR ?_; clear ha a; intro a ha
                  refine stepp ha 26 (.bool true) KR KR ?_; clear ha a; intro a ha
                  refine endl ?_
                  refine thenN (hK5177 _ _ ?_); clear hK5177
                  refine condT ha KR KR (t := true) (rfl) ?_
                  refine wp_skip ?_
                  refine thenN (hK5175 _ _ ?_); clear hK5175
                  refine wp_seq_k (fun K5178 hK5179 => ?_)
                  refine wp_block ?_
                  refine wp_seq_k (fun K5180 hK5181 => ?_)
                  refine wp_region_lit ?_
                  refine stepp ha 29 (.slice (some ⟨b4917, 0, none⟩) 11 11) KR KR ?_; clear ha a; intro a ha
                  refine stepp ha 30 (.int .i64 7) KR KR ?_; clear ha a; intro a ha
                  refine stepp ha 31 (.pointer (some ⟨b4917, 63, none⟩)) KR KR ?_; clear ha a; intro a ha
                  refine stepl ha 32 (HW.ca (i := 2) (b := b4917) (C := #[.int .i64 1, .string (⟨#[]⟩ : ByteArray), .int .i64 0, .int .i64 0, .slice none 0 0, .int .u32 0, .int .i64 0, .string (⟨#[]⟩ : ByteArray), .int .i64 0, .int .i64 2, .string (⟨#[]⟩ : ByteArray), .int .i64 0, .int .i64 0, .slice none 0 0, .int .u32 0, .int .i64 0, .string (⟨#[]⟩ : ByteArray), .int .i64 0, .int .i64 4, .string (⟨#[]⟩ : ByteArray), .int .i64 0, .int .i64 0, .slice none 0 0, .int .u32 0, .int .i64 0, .string (⟨#[]⟩ : ByteArray), .int .i64 0, .int .i64 5, .string (⟨#[]⟩ : ByteArray), .int .i64 0, .int .i64 0, .slice none 0 0, .int .u32 0, .int .i64 0, .string (⟨#[]⟩ : ByteArray), .int .i64 0, .int .i64 6, .string (⟨#[]⟩ : ByteArray), .int .i64 0, .int .i64 0, .slice none 0 0, .int .u32 0, .int .i64 0, .string (⟨#[]⟩ : ByteArray), .int .i64 0, .int .i64 8, .string (⟨#[]⟩ : ByteArray), .int .i64 0, .int .i64 0, .slice none 0 0, .int .u32 0, .int .i64 0, .string (⟨#[]⟩ : ByteArray), .int .i64 0, .int .i64 7, .string (⟨#[]⟩ : ByteArray), .int .i64 0, .int .i64 1, .slice none 0 0, .int .u32 0, .int .i64 0, .string (⟨#[]⟩ : ByteArray), .int .i64 0, .int .i64 7, .string (⟨#[]⟩ : ByteArray), .int .i64 0, .int .i64 2, .slice none 0 0, .int .u32 0, .int .i64 0, .string (⟨#[]⟩ : ByteArray), .int .i64 0, .int .i64 7, .string (⟨#[]⟩ : ByteArray), .int .i64 0, .int .i64 3, .slice none 0 0, .int .u32 0, .int .i64 0, .string (⟨#[]⟩ : ByteArray), .int .i64 0, .int .i64 7, .string (⟨#[]⟩ : ByteArray), .int .i64 0, .int .i64 4, .slice none 0 0, .int .u32 0, .int .i64 0, .string (⟨#[]⟩ : ByteArray), .int .i64 0, .int .i64 3, .string (⟨#[]⟩ : ByteArray), .int .i64 a1.f3, .int .i64 0, .slice none 0 0, .int .u32 0, .int .i64 0, .string (⟨#[]⟩ : ByteArray), .int .i64 0]) (T := 64) (fr := (0, 0)) KR) 64 63 (.tmp 31) (.agg #[.int .i64 7, .string (⟨#[]⟩ : ByteArray), .int .i64 0, .int .i64 2, .slice none 0 0, .int .u32 0, .int .i64 0, .string (⟨#[]⟩ : ByteArray), .int .i64 0]) rfl KR KR KR ?_; clear ha a; intro a ha
                  obtain ⟨t5182, ht5183, h_⟩ := bind_some' h; clear h; have h := h_; clear h_
                  refine stepc ha 33 KR KR (headgateref16_Of.calls K (⟨7, (⟨#[]⟩ : ByteArray), 0, 2, ([] : List T_api_Reg), 0, (⟨0, (⟨#[]⟩ : ByteArray)⟩ : T_api_Hold), 0⟩ : T_api_Out) none 0 t5182 _ (Rd.nil _ _) ht5183) ?_; clear ha a; rintro e W5184 ⟨rfl, HX5185⟩
                  refine ⟨_, rfl, ?_⟩; intro a ha; replace HW := HW.callw HX5185; clear HX5185
                  refine stepnew ha HW 8 #[.int .i64 0, .int .i64 0, .int .i64 0, .int .i64 0, .int .i64 0] 70 KR KR ?_; clear ha HW a; intro b5186 a W5187 HW ha
                  refine stepst ha HW 0 (b := b5186) (C := #[.int .i64 0, .int .i64 0, .int .i64 0, .int .i64 0, .int .i64 0]) (T := 70) KR 70 0 (.tmp 8) (.tmp 33) (.agg #[.int .i64 t5182.f0, .int .i64 t5182.f1.f0, .int .i64 t5182.f1.f1, .int .i64 t5182.f1.f2, .int .i64 t5182.f1.f3]) #[.int .i64 t5182.f0, .int .i64 t5182.f1.f0, .int .i64 t5182.f1.f1, .int .i64 t5182.f1.f2, .int .i64 t5182.f1.f3] rfl KR KR KR KR KR KR KR ?_; clear ha HW a; intro a W5188 HW ha
                  refine endl ?_
                  refine thenN (hK5181 _ _ ?_); clear hK5181
                  refine wp_seq_k (fun K5189 hK5190 => ?_)
                  refine wp_region_lit ?_
                  refine stepp ha 34 (.pointer (some ⟨b5186, 0, none⟩)) KR KR ?_; clear ha a; intro a ha
                  refine stepl ha 35 (HW.ca (i := 0) (b := b5186) (C := #[.int .i64 t5182.f0, .int .i64 t5182.f1.f0, .int .i64 t5182.f1.f1, .int .i64 t5182.f1.f2, .int .i64 t5182.f1.f3]) (T := 70) (fr := (0, 0)) KR) 3 0 (.tmp 34) (.int .i64 t5182.f0) rfl KR KR KR ?_; clear ha a; intro a ha
                  refine stepp ha 36 (.int .i64 a0) KR KR ?_; clear ha a; intro a ha
                  refine stepp ha 37 (.bool (t5182.f0 == a0)) KR KR ?_; clear ha a; intro a ha
                  refine stepp ha 38 (.bool (t5182.f0 == a0)) KR KR ?_; clear ha a; intro a ha
                  by_cases hp5191 : t5182.f0 = a0
                  · skip
                    replace h := ite_pos' h hp5191
                    replace ha := ha.bool 38 KR (ieq_t hp5191)
                    refine stepp ha 39 (.pointer (some ⟨b5186, 1, none⟩)) KR KR ?_; clear ha a; intro a ha
                    refine stepl ha 40 (HW.ca (i := 0) (b := b5186) (C := #[.int .i64 t5182.f0, .int .i64 t5182.f1.f0, .int .i64 t5182.f1.f1, .int .i64 t5182.f1.f2, .int .i64 t5182.f1.f3]) (T := 70) (fr := (0, 0)) KR) 66 1 (.tmp 39) (.agg #[.int .i64 t5182.f1.f0, .int .i64 t5182.f1.f1, .int .i64 t5182.f1.f2, .int .i64 t5182.f1.f3]) rfl KR KR KR ?_; clear ha a; intro a ha
                    refine stepl ha 41 (HW.ca (i := 1) (b := b4911) (C := #[.int .i64 a1.f0, .int .i64 a1.f1, .int .i64 a1.f2, .int .i64 a1.f3]) (T := 66) (fr := (0, 0)) KR) 66 0 (.tmp 3) (.agg #[.int .i64 a1.f0, .int .i64 a1.f1, .int .i64 a1.f2, .int .i64 a1.f3]) rfl KR KR KR ?_; clear ha a; intro a ha
                    obtain ⟨t5192, ht5193, h_⟩ := bind_some' h; clear h; have h := h_; clear h_
                    refine stepc ha 42 KR KR (headgatekeep_Senses.calls (⟨t5182.f1.f0, t5182.f1.f1, t5182.f1.f2, t5182.f1.f3⟩ : T_api_Sense) a1 t5192 _ ht5193) ?_; clear ha a; rintro e W5194 ⟨rfl, HX5195⟩
                    refine ⟨_, rfl, ?_⟩; intro a ha; replace HW := HW.callw HX5195; clear HX5195
                    refine stepp ha 43 (.bool t5192) KR KR ?_; clear ha a; intro a ha
                    refine endl ?_
                    refine thenN (hK5190 _ _ ?_); clear hK5190
                    by_cases hp5196 : t5192 = true
                    · skip
                      replace h := ite_pos' h hp5196
                      refine condT ha KR KR (t := t5192) (hp5196) ?_
                      refine wp_seq_k (fun K5197 hK5198 => ?_)
                      refine wp_region_lit ?_
                      refine stepp ha 44 (.slice (some ⟨b4917, 0, none⟩) 11 11) KR KR ?_; clear ha a; intro a ha
                      refine stepp ha 45 (.int .i64 7) KR KR ?_; clear ha a; intro a ha
                      refine stepp ha 46 (.pointer (some ⟨b4917, 63, none⟩)) KR KR ?_; clear ha a; intro a ha
                      refine stepl ha 47 (HW.ca (i := 3) (b := b4917) (C := #[.int .i64 1, .string (⟨#[]⟩ : ByteArray), .int .i64 0, .int .i64 0, .slice none 0 0, .int .u32 0, .int .i64 0, .string (⟨#[]⟩ : ByteArray), .int .i64 0, .int .i64 2, .string (⟨#[]⟩ : ByteArray), .int .i64 0, .int .i64 0, .slice none 0 0, .int .u32 0, .int .i64 0, .string (⟨#[]⟩ : ByteArray), .int .i64 0, .int .i64 4, .string (⟨#[]⟩ : ByteArray), .int .i64 0, .int .i64 0, .slice none 0 0, .int .u32 0, .int .i64 0, .string (⟨#[]⟩ : ByteArray), .int .i64 0, .int .i64 5, .string (⟨#[]⟩ : ByteArray), .int .i64 0, .int .i64 0, .slice none 0 0, .int .u32 0, .int .i64 0, .string (⟨#[]⟩ : ByteArray), .int .i64 0, .int .i64 6, .string (⟨#[]⟩ : ByteArray), .int .i64 0, .int .i64 0, .slice none 0 0, .int .u32 0, .int .i64 0, .string (⟨#[]⟩ : ByteArray), .int .i64 0, .int .i64 8, .string (⟨#[]⟩ : ByteArray), .int .i64 0, .int .i64 0, .slice none 0 0, .int .u32 0, .int .i64 0, .string (⟨#[]⟩ : ByteArray), .int .i64 0, .int .i64 7, .string (⟨#[]⟩ : ByteArray), .int .i64 0, .int .i64 1, .slice none 0 0, .int .u32 0, .int .i64 0, .string (⟨#[]⟩ : ByteArray), .int .i64 0, .int .i64 7, .string (⟨#[]⟩ : ByteArray), .int .i64 0, .int .i64 2, .slice none 0 0, .int .u32 0, .int .i64 0, .string (⟨#[]⟩ : ByteArray), .int .i64 0, .int .i64 7, .string (⟨#[]⟩ : ByteArray), .int .i64 0, .int .i64 3, .slice none 0 0, .int .u32 0, .int .i64 0, .string (⟨#[]⟩ : ByteArray), .int .i64 0, .int .i64 7, .string (⟨#[]⟩ : ByteArray), .int .i64 0, .int .i64 4, .slice none 0 0, .int .u32 0, .int .i64 0, .string (⟨#[]⟩ : ByteArray), .int .i64 0, .int .i64 3, .string (⟨#[]⟩ : ByteArray), .int .i64 a1.f3, .int .i64 0, .slice none 0 0, .int .u32 0, .int .i64 0, .string (⟨#[]⟩ : ByteArray), .int .i64 0]) (T := 64) (fr := (0, 0)) KR) 64 63 (.tmp 46) (.agg #[.int .i64 7, .string (⟨#[]⟩ : ByteArray), .int .i64 0, .int .i64 2, .slice none 0 0, .int .u32 0, .int .i64 0, .string (⟨#[]⟩ : ByteArray), .int .i64 0]) rfl KR KR KR ?_; clear ha a; intro a ha
                      refine stepst ha HW 2 (b := b4913) (C := #[.int .i64 0, .string (⟨#[]⟩ : ByteArray), .int .i64 0, .int .i64 0, .slice none 0 0, .int .u32 0, .int .i64 0, .string (⟨#[]⟩ : ByteArray), .int .i64 0]) (T := 64) KR 64 0 (.tmp 4) (.tmp 47) (.agg #[.int .i64 7, .string (⟨#[]⟩ : ByteArray), .int .i64 0, .int .i64 2, .slice none 0 0, .int .u32 0, .int .i64 0, .string (⟨#[]⟩ : ByteArray), .int .i64 0]) #[.int .i64 7, .string (⟨#[]⟩ : ByteArray), .int .i64 0, .int .i64 2, .slice none 0 0, .int .u32 0, .int .i64 0, .string (⟨#[]⟩ : ByteArray), .int .i64 0] rfl KR KR KR KR KR KR KR ?_; clear ha HW a; intro a W5199 HW ha
                      refine stepp ha 5 (.bool true) KR KR ?_; clear ha a; intro a ha
                      refine endl ?_
                      refine thenN (hK5198 _ _ ?_); clear hK5198
                      refine wp_ret ?_
                      refine blkR ?_
                      refine thenR ?_
                      refine thenR ?_
                      refine blkR ?_
                      refine thenR ?_
                      obtain rfl := Option.some.inj h
                      replace HW := HW.nilo 44 2
                      exact finv ha _ _ rfl (.cell (ad := ⟨b4913, 0, none⟩) (v := .agg #[.int .i64 7, .string (⟨#[]⟩ : ByteArray), .int .i64 0, .int .i64 2, .slice none 0 0, .int .u32 0, .int .i64 0, .string (⟨#[]⟩ : ByteArray), .int .i64 0]) KR (run_loadVar_ca0 (HW.ca (i := 2) (b := b4913) (C := #[.int .i64 7, .string (⟨#[]⟩ : ByteArray), .int .i64 0, .int .i64 2, .slice none 0 0, .int .u32 0, .int .i64 0, .string (⟨#[]⟩ : ByteArray), .int .i64 0]) (T := 64) (fr := (0, 0)) KR) 64 0 (.agg #[.int .i64 7, .string (⟨#[]⟩ : ByteArray), .int .i64 0, .int .i64 2, .slice none 0 0, .int .u32 0, .int .i64 0, .string (⟨#[]⟩ : ByteArray), .int .i64 0]) KR) (.tmp (v := .bool true) KR .nil)) (.tuple #[.agg #[.int .i64 7, .string (⟨#[]⟩ : ByteArray), .int .i64 0, .int .i64 2, .slice none 0 0, .int .u32 0, .int .i64 0, .string (⟨#[]⟩ : ByteArray), .int .i64 0], .bool true]) rfl ⟨none, 0, rfl, HW.pick [] [0] (by decide) (by decide) rfl KR⟩
                    · skip
                      replace h := ite_neg' h hp5196
                      refine condF ha KR KR (t := t5192) (bool_f hp5196) ?_
                      refine wp_skip ?_
                      refine blkN ?_
                      refine thenN (hK5179 _ _ ?_); clear hK5179
                      refine wp_region_lit ?_
                      refine stepp ha 27 (.int .i64 7) KR KR ?_; clear ha a; intro a ha
                      refine stepp ha 28 (.int .i64 8) KR KR ?_; clear ha a; intro a ha
                      refine stepp ha 7 (.int .i64 8) KR KR ?_; clear ha a; intro a ha
                      refine endl ?_
                      exact thenN ⟨h, ha.sub (subs_cons KR (subs_cons KR (subs_cons KR (subs_cons KR (subs_cons KR (subs_nil _)))))), HW.pick [1, 2, 3] [] (by decide) (by decide) KR KR⟩
                  · skip
                    replace h := ite_neg' h hp5191
                    replace ha := ha.bool 38 KR (ieq_f hp5191)
                    refine stepo ha 39 KR ?_; clear ha a; intro a ha
                    refine stepo ha 40 KR ?_; clear ha a; intro a ha
                    refine stepo ha 41 KR ?_; clear ha a; intro a ha
                    refine stepo ha 42 KR ?_; clear ha a; intro a ha
                    refine stepp ha 43 (.bool false) KR KR ?_; clear ha a; intro a ha
                    refine endl ?_
                    refine thenN (hK5190 _ _ ?_); clear hK5190
                    refine condF ha KR KR (t := false) (rfl) ?_
                    refine wp_skip ?_
                    refine blkN ?_
                    refine thenN (hK5179 _ _ ?_); clear hK5179
                    refine wp_region_lit ?_
                    refine stepp ha 27 (.int .i64 7) KR KR ?_; clear ha a; intro a ha
                    refine stepp ha 28 (.int .i64 8) KR KR ?_; clear ha a; intro a ha
                    refine stepp ha 7 (.int .i64 8) KR KR ?_; clear ha a; intro a ha
                    refine endl ?_
                    exact thenN ⟨h, ha.sub (subs_cons KR (subs_cons KR (subs_cons KR (subs_cons KR (subs_cons KR (subs_nil _)))))), HW.pick [1, 2, 3] [] (by decide) (by decide) KR KR⟩
                · skip
                  intro a W5201 hJ
                  obtain ⟨h, ha, HW⟩ := hJ
                  replace h : headgateref16_Code.j7 K a0 a1 = some r := h
                  unfold headgateref16_Code.j7 at h
                  refine hK5173 _ _ ?_; clear hK5173
                  refine roundK (n := 15) (fun K5202 hK5203 => ?_)
                  refine cutn (fun a W5231 => headgateref16_Code.j8 K a0 a1 = some r ∧ Has 49 [(0, .int .i64 a0), (3, .pointer (some ⟨b4911, 0, none⟩)), (4, .pointer (some ⟨b4913, 0, none⟩)), (6, .slice (some ⟨b4917, 0, none⟩) 11 11), (7, .int .i64 9)] a ∧ Wd w W5231 [(b4911, .cells #[.int .i64 a1.f0, .int .i64 a1.f1, .int .i64 a1.f2, .int .i64 a1.f3] 66 (0, 0)), (b4913, .cells #[.int .i64 0, .string (⟨#[]⟩ : ByteArray), .int .i64 0, .int .i64 0, .slice none 0 0, .int .u32 0, .int .i64 0, .string (⟨#[]⟩ : ByteArray), .int .i64 0] 64 (0, 0)), (b4917, .cells #[.int .i64 1, .string (⟨#[]⟩ : ByteArray), .int .i64 0, .int .i64 0, .slice none 0 0, .int .u32 0, .int .i64 0, .string (⟨#[]⟩ : ByteArray), .int .i64 0, .int .i64 2, .string (⟨#[]⟩ : ByteArray), .int .i64 0, .int .i64 0, .slice none 0 0, .int .u32 0, .int .i64 0, .string (⟨#[]⟩ : ByteArray), .int .i64 0, .int .i64 4, .string (⟨#[]⟩ : ByteArray), .int .i64 0, .int .i64 0, .slice none 0 0, .int .u32 0, .int .i64 0, .string (⟨#[]⟩ : ByteArray), .int .i64 0, .int .i64 5, .string (⟨#[]⟩ : ByteArray), .int .i64 0, .int .i64 0, .slice none 0 0, .int .u32 0, .int .i64 0, .string (⟨#[]⟩ : ByteArray), .int .i64 0, .int .i64 6, .string (⟨#[]⟩ : ByteArray), .int .i64 0, .int .i64 0, .slice none 0 0, .int .u32 0, .int .i64 0, .string (⟨#[]⟩ : ByteArray), .int .i64 0, .int .i64 8, .string (⟨#[]⟩ : ByteArray), .int .i64 0, .int .i64 0, .slice none 0 0, .int .u32 0, .int .i64 0, .string (⟨#[]⟩ : ByteArray), .int .i64 0, .int .i64 7, .string (⟨#[]⟩ : ByteArray), .int .i64 0, .int .i64 1, .slice none 0 0, .int .u32 0, .int .i64 0, .string (⟨#[]⟩ : ByteArray), .int .i64 0, .int .i64 7, .string (⟨#[]⟩ : ByteArray), .int .i64 0, .int .i64 2, .slice none 0 0, .int .u32 0, .int .i64 0, .string (⟨#[]⟩ : ByteArray), .int .i64 0, .int .i64 7, .string (⟨#[]⟩ : ByteArray), .int .i64 0, .int .i64 3, .slice none 0 0, .int .u32 0, .int .i64 0, .string (⟨#[]⟩ : ByteArray), .int .i64 0, .int .i64 7, .string (⟨#[]⟩ : ByteArray), .int .i64 0, .int .i64 4, .slice none 0 0, .int .u32 0, .int .i64 0, .string (⟨#[]⟩ : ByteArray), .int .i64 0, .int .i64 3, .string (⟨#[]⟩ : ByteArray), .int .i64 a1.f3, .int .i64 0, .slice none 0 0, .int .u32 0, .int .i64 0, .string (⟨#[]⟩ : ByteArray), .int .i64 0] 64 (0, 0))] []) ?_ ?_
                  · skip
                    refine wp_seq_k (fun K5204 hK5205 => ?_)
                    refine wp_seq_k (fun K5206 hK5207 => ?_)
                    refine wp_region_lit ?_
                    refine stepp ha 23 (.int .i64 8) KR KR ?_; clear ha a; intro a ha
                    refine stepp ha 24 (.slice (some ⟨b4917, 0, none⟩) 11 11) KR KR ?_; clear ha a; intro a ha
                    refine stepp ha 25 (.int .i64 11) KR KR ?_; clear ha a; intro a ha
                    refine stepp ha 26 (.bool true) KR KR ?_; clear ha a; intro a ha
                    refine endl ?_
                    refine thenN (hK5207 _ _ ?_); clear hK5207
                    refine condT ha KR KR (t := true) (rfl) ?_
                    refine wp_skip ?_
                    refine thenN (hK5205 _ _ ?_); clear hK5205
                    refine wp_seq_k (fun K5208 hK5209 => ?_)
                    refine wp_block ?_
                    refine wp_seq_k (fun K5210 hK5211 => ?_)
                    refine wp_region_lit ?_
                    refine stepp ha 29 (.slice (some ⟨b4917, 0, none⟩) 11 11) KR KR ?_; clear ha a; intro a ha
                    refine stepp ha 30 (.int .i64 8) KR KR ?_; clear ha a; intro a ha
                    refine stepp ha 31 (.pointer (some ⟨b4917, 72, none⟩)) KR KR ?_; clear ha a; intro a ha
                    refine stepl ha 32 (HW.ca (i := 2) (b := b4917) (C := #[.int .i64 1, .string (⟨#[]⟩ : ByteArray), .int .i64 0, .int .i64 0, .slice none 0 0, .int .u32 0, .int .i64 0, .string (⟨#[]⟩ : ByteArray), .int .i64 0, .int .i64 2, .string (⟨#[]⟩ : ByteArray), .int .i64 0, .int .i64 0, .slice none 0 0, .int .u32 0, .int .i64 0, .string (⟨#[]⟩ : ByteArray), .int .i64 0, .int .i64 4, .string (⟨#[]⟩ : ByteArray), .int .i64 0, .int .i64 0, .slice none 0 0, .int .u32 0, .int .i64 0, .string (⟨#[]⟩ : ByteArray), .int .i64 0, .int .i64 5, .string (⟨#[]⟩ : ByteArray), .int .i64 0, .int .i64 0, .slice none 0 0, .int .u32 0, .int .i64 0, .string (⟨#[]⟩ : ByteArray), .int .i64 0, .int .i64 6, .string (⟨#[]⟩ : ByteArray), .int .i64 0, .int .i64 0, .slice none 0 0, .int .u32 0, .int .i64 0, .string (⟨#[]⟩ : ByteArray), .int .i64 0, .int .i64 8, .string (⟨#[]⟩ : ByteArray), .int .i64 0, .int .i64 0, .slice none 0 0, .int .u32 0, .int .i64 0, .string (⟨#[]⟩ : ByteArray), .int .i64 0, .int .i64 7, .string (⟨#[]⟩ : ByteArray), .int .i64 0, .int .i64 1, .slice none 0 0, .int .u32 0, .int .i64 0, .string (⟨#[]⟩ : ByteArray), .int .i64 0, .int .i64 7, .string (⟨#[]⟩ : ByteArray), .int .i64 0, .int .i64 2, .slice none 0 0, .int .u32 0, .int .i64 0, .string (⟨#[]⟩ : ByteArray), .int .i64 0, .int .i64 7, .string (⟨#[]⟩ : ByteArray), .int .i64 0, .int .i64 3, .slice none 0 0, .int .u32 0, .int .i64 0, .string (⟨#[]⟩ : ByteArray), .int .i64 0, .int .i64 7, .string (⟨#[]⟩ : ByteArray), .int .i64 0, .int .i64 4, .slice none 0 0, .int .u32 0, .int .i64 0, .string (⟨#[]⟩ : ByteArray), .int .i64 0, .int .i64 3, .string (⟨#[]⟩ : ByteArray), .int .i64 a1.f3, .int .i64 0, .slice none 0 0, .int .u32 0, .int .i64 0, .string (⟨#[]⟩ : ByteArray), .int .i64 0]) (T := 64) (fr := (0, 0)) KR) 64 72 (.tmp 31) (.agg #[.int .i64 7, .string (⟨#[]⟩ : ByteArray), .int .i64 0, .int .i64 3, .slice none 0 0, .int .u32 0, .int .i64 0, .string (⟨#[]⟩ : ByteArray), .int .i64 0]) rfl KR KR KR ?_; clear ha a; intro a ha
                    obtain ⟨t5212, ht5213, h_⟩ := bind_some' h; clear h; have h := h_; clear h_
                    refine stepc ha 33 KR KR (headgateref16_Of.calls K (⟨7, (⟨#[]⟩ : ByteArray), 0, 3, ([] : List T_api_Reg), 0, (⟨0, (⟨#[]⟩ : ByteArray)⟩ : T_api_Hold), 0⟩ : T_api_Out) none 0 t5212 _ (Rd.nil _ _) ht5213) ?_; clear ha a; rintro e W5214 ⟨rfl, HX5215⟩
                    refine ⟨_, rfl, ?_⟩; intro a ha; replace HW := HW.callw HX5215; clear HX5215
                    refine stepnew ha HW 8 #[.int .i64 0, .int .i64 0, .int .i64 0, .int .i64 0, .int .i64 0] 70 KR KR ?_; clear ha HW a; intro b5216 a W5217 HW ha
                    refine stepst ha HW 0 (b := b5216) (C := #[.int .i64 0, .int .i64 0, .int .i64 0, .int .i64 0, .int .i64 0]) (T := 70) KR 70 0 (.tmp 8) (.tmp 33) (.agg #[.int .i64 t5212.f0, .int .i64 t5212.f1.f0, .int .i64 t5212.f1.f1, .int .i64 t5212.f1.f2, .int .i64 t5212.f1.f3]) #[.int .i64 t5212.f0, .int .i64 t5212.f1.f0, .int .i64 t5212.f1.f1, .int .i64 t5212.f1.f2, .int .i64 t5212.f1.f3] rfl KR KR KR KR KR KR KR ?_; clear ha HW a; intro a W5218 HW ha
                    refine endl ?_
                    refine thenN (hK5211 _ _ ?_); clear hK5211
                    refine wp_seq_k (fun K5219 hK5220 => ?_)
                    refine wp_region_lit ?_
                    refine stepp ha 34 (.pointer (some ⟨b5216, 0, none⟩)) KR KR ?_; clear ha a; intro a ha
                    refine stepl ha 35 (HW.ca (i := 0) (b := b5216) (C := #[.int .i64 t5212.f0, .int .i64 t5212.f1.f0, .int .i64 t5212.f1.f1, .int .i64 t5212.f1.f2, .int .i64 t5212.f1.f3]) (T := 70) (fr := (0, 0)) KR) 3 0 (.tmp 34) (.int .i64 t5212.f0) rfl KR KR KR ?_; clear ha a; intro a ha
                    refine stepp ha 36 (.int .i64 a0) KR KR ?_; clear ha a; intro a ha
                    refine stepp ha 37 (.bool (t5212.f0 == a0)) KR KR ?_; clear ha a; intro a ha
                    refine stepp ha 38 (.bool (t5212.f0 == a0)) KR KR ?_; clear ha a; intro a ha
                    by_cases hp5221 : t5212.f0 = a0
                    · skip
                      replace h := ite_pos' h hp5221
                      replace ha := ha.bool 38 KR (ieq_t hp5221)
                      refine stepp ha 39 (.pointer (some ⟨b5216, 1, none⟩)) KR KR ?_; clear ha a; intro a ha
                      refine stepl ha 40 (HW.ca (i := 0) (b := b5216) (C := #[.int .i64 t5212.f0, .int .i64 t5212.f1.f0, .int .i64 t5212.f1.f1, .int .i64 t5212.f1.f2, .int .i64 t5212.f1.f3]) (T := 70) (fr := (0, 0)) KR) 66 1 (.tmp 39) (.agg #[.int .i64 t5212.f1.f0, .int .i64 t5212.f1.f1, .int .i64 t5212.f1.f2, .int .i64 t5212.f1.f3]) rfl KR KR KR ?_; clear ha a; intro a ha
                      refine stepl ha 41 (HW.ca (i := 1) (b := b4911) (C := #[.int .i64 a1.f0, .int .i64 a1.f1, .int .i64 a1.f2, .int .i64 a1.f3]) (T := 66) (fr := (0, 0)) KR) 66 0 (.tmp 3) (.agg #[.int .i64 a1.f0, .int .i64 a1.f1, .int .i64 a1.f2, .int .i64 a1.f3]) rfl KR KR KR ?_; clear ha a; intro a ha
                      obtain ⟨t5222, ht5223, h_⟩ := bind_some' h; clear h; have h := h_; clear h_
                      refine stepc ha 42 KR KR (headgatekeep_Senses.calls (⟨t5212.f1.f0, t5212.f1.f1, t5212.f1.f2, t5212.f1.f3⟩ : T_api_Sense) a1 t5222 _ ht5223) ?_; clear ha a; rintro e W5224 ⟨rfl, HX5225⟩
                      refine ⟨_, rfl, ?_⟩; intro a ha; replace HW := HW.callw HX5225; clear HX5225
                      refine stepp ha 43 (.bool t5222) KR KR ?_; clear ha a; intro a ha
                      refine endl ?_
                      refine thenN (hK5220 _ _ ?_); clear hK5220
                      by_cases hp5226 : t5222 = true
                      · skip
                        replace h := ite_pos' h hp5226
                        refine condT ha KR KR (t := t5222) (hp5226) ?_
                        refine wp_seq_k (fun K5227 hK5228 => ?_)
                        refine wp_region_lit ?_
                        refine stepp ha 44 (.slice (some ⟨b4917, 0, none⟩) 11 11) KR KR ?_; clear ha a; intro a ha
                        refine stepp ha 45 (.int .i64 8) KR KR ?_; clear ha a; intro a ha
                        refine stepp ha 46 (.pointer (some ⟨b4917, 72, none⟩)) KR KR ?_; clear ha a; intro a ha
                        refine stepl ha 47 (HW.ca (i := 3) (b := b4917) (C := #[.int .i64 1, .string (⟨#[]⟩ : ByteArray), .int .i64 0, .int .i64 0, .slice none 0 0, .int .u32 0, .int .i64 0, .string (⟨#[]⟩ : ByteArray), .int .i64 0, .int .i64 2, .string (⟨#[]⟩ : ByteArray), .int .i64 0, .int .i64 0, .slice none 0 0, .int .u32 0, .int .i64 0, .string (⟨#[]⟩ : ByteArray), .int .i64 0, .int .i64 4, .string (⟨#[]⟩ : ByteArray), .int .i64 0, .int .i64 0, .slice none 0 0, .int .u32 0, .int .i64 0, .string (⟨#[]⟩ : ByteArray), .int .i64 0, .int .i64 5, .string (⟨#[]⟩ : ByteArray), .int .i64 0, .int .i64 0, .slice none 0 0, .int .u32 0, .int .i64 0, .string (⟨#[]⟩ : ByteArray), .int .i64 0, .int .i64 6, .string (⟨#[]⟩ : ByteArray), .int .i64 0, .int .i64 0, .slice none 0 0, .int .u32 0, .int .i64 0, .string (⟨#[]⟩ : ByteArray), .int .i64 0, .int .i64 8, .string (⟨#[]⟩ : ByteArray), .int .i64 0, .int .i64 0, .slice none 0 0, .int .u32 0, .int .i64 0, .string (⟨#[]⟩ : ByteArray), .int .i64 0, .int .i64 7, .string (⟨#[]⟩ : ByteArray), .int .i64 0, .int .i64 1, .slice none 0 0, .int .u32 0, .int .i64 0, .string (⟨#[]⟩ : ByteArray), .int .i64 0, .int .i64 7, .string (⟨#[]⟩ : ByteArray), .int .i64 0, .int .i64 2, .slice none 0 0, .int .u32 0, .int .i64 0, .string (⟨#[]⟩ : ByteArray), .int .i64 0, .int .i64 7, .string (⟨#[]⟩ : ByteArray), .int .i64 0, .int .i64 3, .slice none 0 0, .int .u32 0, .int .i64 0, .string (⟨#[]⟩ : ByteArray), .int .i64 0, .int .i64 7, .string (⟨#[]⟩ : ByteArray), .int .i64 0, .int .i64 4, .slice none 0 0, .int .u32 0, .int .i64 0, .string (⟨#[]⟩ : ByteArray), .int .i64 0, .int .i64 3, .string (⟨#[]⟩ : ByteArray), .int .i64 a1.f3, .int .i64 0, .slice none 0 0, .int .u32 0, .int .i64 0, .string (⟨#[]⟩ : ByteArray), .int .i64 0]) (T := 64) (fr := (0, 0)) KR) 64 72 (.tmp 46) (.agg #[.int .i64 7, .string (⟨#[]⟩ : ByteArray), .int .i64 0, .int .i64 3, .slice none 0 0, .int .u32 0, .int .i64 0, .string (⟨#[]⟩ : ByteArray), .int .i64 0]) rfl KR KR KR ?_; clear ha a; intro a ha
                        refine stepst ha HW 2 (b := b4913) (C := #[.int .i64 0, .string (⟨#[]⟩ : ByteArray), .int .i64 0, .int .i64 0, .slice none 0 0, .int .u32 0, .int .i64 0, .string (⟨#[]⟩ : ByteArray), .int .i64 0]) (T := 64) KR 64 0 (.tmp 4) (.tmp 47) (.agg #[.int .i64 7, .string (⟨#[]⟩ : ByteArray), .int .i64 0, .int .i64 3, .slice none 0 0, .int .u32 0, .int .i64 0, .string (⟨#[]⟩ : ByteArray), .int .i64 0]) #[.int .i64 7, .string (⟨#[]⟩ : ByteArray), .int .i64 0, .int .i64 3, .slice none 0 0, .int .u32 0, .int .i64 0, .string (⟨#[]⟩ : ByteArray), .int .i64 0] rfl KR KR KR KR KR KR KR ?_; clear ha HW a; intro a W5229 HW ha
                        refine stepp ha 5 (.bool true) KR KR ?_; clear ha a; intro a ha
                        refine endl ?_
                        refine thenN (hK5228 _ _ ?_); clear hK5228
                        refine wp_ret ?_
                        refine blkR ?_
                        refine thenR ?_
                        refine thenR ?_
                        refine blkR ?_
                        refine thenR ?_
                        obtain rfl := Option.some.inj h
                        replace HW := HW.nilo 44 2
                        exact finv ha _ _ rfl (.cell (ad := ⟨b4913, 0, none⟩) (v := .agg #[.int .i64 7, .string (⟨#[]⟩ : ByteArray), .int .i64 0, .int .i64 3, .slice none 0 0, .int .u32 0, .int .i64 0, .string (⟨#[]⟩ : ByteArray), .int .i64 0]) KR (run_loadVar_ca0 (HW.ca (i := 2) (b := b4913) (C := #[.int .i64 7, .string (⟨#[]⟩ : ByteArray), .int .i64 0, .int .i64 3, .slice none 0 0, .int .u32 0, .int .i64 0, .string (⟨#[]⟩ : ByteArray), .int .i64 0]) (T := 64) (fr := (0, 0)) KR) 64 0 (.agg #[.int .i64 7, .string (⟨#[]⟩ : ByteArray), .int .i64 0, .int .i64 3, .slice none 0 0, .int .u32 0, .int .i64 0, .string (⟨#[]⟩ : ByteArray), .int .i64 0]) KR) (.tmp (v := .bool true) KR .nil)) (.tuple #[.agg #[.int .i64 7, .string (⟨#[]⟩ : ByteArray), .int .i64 0, .int .i64 3, .slice none 0 0, .int .u32 0, .int .i64 0, .string (⟨#[]⟩ : ByteArray), .int .i64 0], .bool true]) rfl ⟨none, 0, rfl, HW.pick [] [0] (by decide) (by decide) rfl KR⟩
                      · skip
                        replace h := ite_neg' h hp5226
                        refine condF ha KR KR (t := t5222) (bool_f hp5226) ?_
                        refine wp_skip ?_
                        refine blkN ?_
                        refine thenN (hK5209 _ _ ?_); clear hK5209
                        refine wp_region_lit ?_
                        refine stepp ha 27 (.int .i64 8) KR KR ?_; clear ha a; intro a ha
                        refine stepp ha 28 (.int .i64 9) KR KR ?_; clear ha a; intro a ha
                        refine stepp ha 7 (.int .i64 9) KR KR ?_; clear ha a; intro a ha
                        refine endl ?_
                        exact thenN ⟨h, ha.sub (subs_cons KR (subs_cons KR (subs_cons KR (subs_cons KR (subs_cons KR (subs_nil _)))))), HW.pick [1, 2, 3] [] (by decide) (by decide) KR KR⟩
                    · skip
                      replace h := ite_neg' h hp5221
                      replace ha := ha.bool 38 KR (ieq_f hp5221)
                      refine stepo ha 39 KR ?_; clear ha a; intro a ha
                      refine stepo ha 40 KR ?_; clear ha a; intro a ha
                      refine stepo ha 41 KR ?_; clear ha a; intro a ha
                      refine stepo ha 42 KR ?_; clear ha a; intro a ha
                      refine stepp ha 43 (.bool false) KR KR ?_; clear ha a; intro a ha
                      refine endl ?_
                      refine thenN (hK5220 _ _ ?_); clear hK5220
                      refine condF ha KR KR (t := false) (rfl) ?_
                      refine wp_skip ?_
                      refine blkN ?_
                      refine thenN (hK5209 _ _ ?_); clear hK5209
                      refine wp_region_lit ?_
                      refine stepp ha 27 (.int .i64 8) KR KR ?_; clear ha a; intro a ha
                      refine stepp ha 28 (.int .i64 9) KR KR ?_; clear ha a; intro a ha
                      refine stepp ha 7 (.int .i64 9) KR KR ?_; clear ha a; intro a ha
                      refine endl ?_
                      exact thenN ⟨h, ha.sub (subs_cons KR (subs_cons KR (subs_cons KR (subs_cons KR (subs_cons KR (subs_nil _)))))), HW.pick [1, 2, 3] [] (by decide) (by decide) KR KR⟩
                  · skip
                    intro a W5231 hJ
                    obtain ⟨h, ha, HW⟩ := hJ
                    replace h : headgateref16_Code.j8 K a0 a1 = some r := h
                    unfold headgateref16_Code.j8 at h
                    refine hK5203 _ _ ?_; clear hK5203
                    refine roundK (n := 14) (fun K5232 hK5233 => ?_)
                    refine cutn (fun a W5261 => headgateref16_Code.j9 K a0 a1 = some r ∧ Has 49 [(0, .int .i64 a0), (3, .pointer (some ⟨b4911, 0, none⟩)), (4, .pointer (some ⟨b4913, 0, none⟩)), (6, .slice (some ⟨b4917, 0, none⟩) 11 11), (7, .int .i64 10)] a ∧ Wd w W5261 [(b4911, .cells #[.int .i64 a1.f0, .int .i64 a1.f1, .int .i64 a1.f2, .int .i64 a1.f3] 66 (0, 0)), (b4913, .cells #[.int .i64 0, .string (⟨#[]⟩ : ByteArray), .int .i64 0, .int .i64 0, .slice none 0 0, .int .u32 0, .int .i64 0, .string (⟨#[]⟩ : ByteArray), .int .i64 0] 64 (0, 0)), (b4917, .cells #[.int .i64 1, .string (⟨#[]⟩ : ByteArray), .int .i64 0, .int .i64 0, .slice none 0 0, .int .u32 0, .int .i64 0, .string (⟨#[]⟩ : ByteArray), .int .i64 0, .int .i64 2, .string (⟨#[]⟩ : ByteArray), .int .i64 0, .int .i64 0, .slice none 0 0, .int .u32 0, .int .i64 0, .string (⟨#[]⟩ : ByteArray), .int .i64 0, .int .i64 4, .string (⟨#[]⟩ : ByteArray), .int .i64 0, .int .i64 0, .slice none 0 0, .int .u32 0, .int .i64 0, .string (⟨#[]⟩ : ByteArray), .int .i64 0, .int .i64 5, .string (⟨#[]⟩ : ByteArray), .int .i64 0, .int .i64 0, .slice none 0 0, .int .u32 0, .int .i64 0, .string (⟨#[]⟩ : ByteArray), .int .i64 0, .int .i64 6, .string (⟨#[]⟩ : ByteArray), .int .i64 0, .int .i64 0, .slice none 0 0, .int .u32 0, .int .i64 0, .string (⟨#[]⟩ : ByteArray), .int .i64 0, .int .i64 8, .string (⟨#[]⟩ : ByteArray), .int .i64 0, .int .i64 0, .slice none 0 0, .int .u32 0, .int .i64 0, .string (⟨#[]⟩ : ByteArray), .int .i64 0, .int .i64 7, .string (⟨#[]⟩ : ByteArray), .int .i64 0, .int .i64 1, .slice none 0 0, .int .u32 0, .int .i64 0, .string (⟨#[]⟩ : ByteArray), .int .i64 0, .int .i64 7, .string (⟨#[]⟩ : ByteArray), .int .i64 0, .int .i64 2, .slice none 0 0, .int .u32 0, .int .i64 0, .string (⟨#[]⟩ : ByteArray), .int .i64 0, .int .i64 7, .string (⟨#[]⟩ : ByteArray), .int .i64 0, .int .i64 3, .slice none 0 0, .int .u32 0, .int .i64 0, .string (⟨#[]⟩ : ByteArray), .int .i64 0, .int .i64 7, .string (⟨#[]⟩ : ByteArray), .int .i64 0, .int .i64 4, .slice none 0 0, .int .u32 0, .int .i64 0, .string (⟨#[]⟩ : ByteArray), .int .i64 0, .int .i64 3, .string (⟨#[]⟩ : ByteArray), .int .i64 a1.f3, .int .i64 0, .slice none 0 0, .int .u32 0, .int .i64 0, .string (⟨#[]⟩ : ByteArray), .int .i64 0] 64 (0, 0))] []) ?_ ?_
                    · skip
                      refine wp_seq_k (fun K5234 hK5235 => ?_)
                      refine wp_seq_k (fun K5236 hK5237 => ?_)
                      refine wp_region_lit ?_
                      refine stepp ha 23 (.int .i64 9) KR KR ?_; clear ha a; intro a ha
                      refine stepp ha 24 (.slice (some ⟨b4917, 0, none⟩) 11 11) KR KR ?_; clear ha a; intro a ha
                      refine stepp ha 25 (.int .i64 11) KR KR ?_; clear ha a; intro a ha
                      refine stepp ha 26 (.bool true) KR KR ?_; clear ha a; intro a ha
                      refine endl ?_
                      refine thenN (hK5237 _ _ ?_); clear hK5237
                      refine condT ha KR KR (t := true) (rfl) ?_
                      refine wp_skip ?_
                      refine thenN (hK5235 _ _ ?_); clear hK5235
                      refine wp_seq_k (fun K5238 hK5239 => ?_)
                      refine wp_block ?_
                      refine wp_seq_k (fun K5240 hK5241 => ?_)
                      refine wp_region_lit ?_
                      refine stepp ha 29 (.slice (some ⟨b4917, 0, none⟩) 11 11) KR KR ?_; clear ha a; intro a ha
                      refine stepp ha 30 (.int .i64 9) KR KR ?_; clear ha a; intro a ha
                      refine stepp ha 31 (.pointer (some ⟨b4917, 81, none⟩)) KR KR ?_; clear ha a; intro a ha
                      refine stepl ha 32 (HW.ca (i := 2) (b := b4917) (C := #[.int .i64 1, .string (⟨#[]⟩ : ByteArray), .int .i64 0, .int .i64 0, .slice none 0 0, .int .u32 0, .int .i64 0, .string (⟨#[]⟩ : ByteArray), .int .i64 0, .int .i64 2, .string (⟨#[]⟩ : ByteArray), .int .i64 0, .int .i64 0, .slice none 0 0, .int .u32 0, .int .i64 0, .string (⟨#[]⟩ : ByteArray), .int .i64 0, .int .i64 4, .string (⟨#[]⟩ : ByteArray), .int .i64 0, .int .i64 0, .slice none 0 0, .int .u32 0, .int .i64 0, .string (⟨#[]⟩ : ByteArray), .int .i64 0, .int .i64 5, .string (⟨#[]⟩ : ByteArray), .int .i64 0, .int .i64 0, .slice none 0 0, .int .u32 0, .int .i64 0, .string (⟨#[]⟩ : ByteArray), .int .i64 0, .int .i64 6, .string (⟨#[]⟩ : ByteArray), .int .i64 0, .int .i64 0, .slice none 0 0, .int .u32 0, .int .i64 0, .string (⟨#[]⟩ : ByteArray), .int .i64 0, .int .i64 8, .string (⟨#[]⟩ : ByteArray), .int .i64 0, .int .i64 0, .slice none 0 0, .int .u32 0, .int .i64 0, .string (⟨#[]⟩ : ByteArray), .int .i64 0, .int .i64 7, .string (⟨#[]⟩ : ByteArray), .int .i64 0, .int .i64 1, .slice none 0 0, .int .u32 0, .int .i64 0, .string (⟨#[]⟩ : ByteArray), .int .i64 0, .int .i64 7, .string (⟨#[]⟩ : ByteArray), .int .i64 0, .int .i64 2, .slice none 0 0, .int .u32 0, .int .i64 0, .string (⟨#[]⟩ : ByteArray), .int .i64 0, .int .i64 7, .string (⟨#[]⟩ : ByteArray), .int .i64 0, .int .i64 3, .slice none 0 0, .int .u32 0, .int .i64 0, .string (⟨#[]⟩ : ByteArray), .int .i64 0, .int .i64 7, .string (⟨#[]⟩ : ByteArray), .int .i64 0, .int .i64 4, .slice none 0 0, .int .u32 0, .int .i64 0, .string (⟨#[]⟩ : ByteArray), .int .i64 0, .int .i64 3, .string (⟨#[]⟩ : ByteArray), .int .i64 a1.f3, .int .i64 0, .slice none 0 0, .int .u32 0, .int .i64 0, .string (⟨#[]⟩ : ByteArray), .int .i64 0]) (T := 64) (fr := (0, 0)) KR) 64 81 (.tmp 31) (.agg #[.int .i64 7, .string (⟨#[]⟩ : ByteArray), .int .i64 0, .int .i64 4, .slice none 0 0, .int .u32 0, .int .i64 0, .string (⟨#[]⟩ : ByteArray), .int .i64 0]) rfl KR KR KR ?_; clear ha a; intro a ha
                      obtain ⟨t5242, ht5243, h_⟩ := bind_some' h; clear h; have h := h_; clear h_
                      refine stepc ha 33 KR KR (headgateref16_Of.calls K (⟨7, (⟨#[]⟩ : ByteArray), 0, 4, ([] : List T_api_Reg), 0, (⟨0, (⟨#[]⟩ : ByteArray)⟩ : T_api_Hold), 0⟩ : T_api_Out) none 0 t5242 _ (Rd.nil _ _) ht5243) ?_; clear ha a; rintro e W5244 ⟨rfl, HX5245⟩
                      refine ⟨_, rfl, ?_⟩; intro a ha; replace HW := HW.callw HX5245; clear HX5245
                      refine stepnew ha HW 8 #[.int .i64 0, .int .i64 0, .int .i64 0, .int .i64 0, .int .i64 0] 70 KR KR ?_; clear ha HW a; intro b5246 a W5247 HW ha
                      refine stepst ha HW 0 (b := b5246) (C := #[.int .i64 0, .int .i64 0, .int .i64 0, .int .i64 0, .int .i64 0]) (T := 70) KR 70 0 (.tmp 8) (.tmp 33) (.agg #[.int .i64 t5242.f0, .int .i64 t5242.f1.f0, .int .i64 t5242.f1.f1, .int .i64 t5242.f1.f2, .int .i64 t5242.f1.f3]) #[.int .i64 t5242.f0, .int .i64 t5242.f1.f0, .int .i64 t5242.f1.f1, .int .i64 t5242.f1.f2, .int .i64 t5242.f1.f3] rfl KR KR KR KR KR KR KR ?_; clear ha HW a; intro a W5248 HW ha
                      refine endl ?_
                      refine thenN (hK5241 _ _ ?_); clear hK5241
                      refine wp_seq_k (fun K5249 hK5250 => ?_)
                      refine wp_region_lit ?_
                      refine stepp ha 34 (.pointer (some ⟨b5246, 0, none⟩)) KR KR ?_; clear ha a; intro a ha
                      refine stepl ha 35 (HW.ca (i := 0) (b := b5246) (C := #[.int .i64 t5242.f0, .int .i64 t5242.f1.f0, .int .i64 t5242.f1.f1, .int .i64 t5242.f1.f2, .int .i64 t5242.f1.f3]) (T := 70) (fr := (0, 0)) KR) 3 0 (.tmp 34) (.int .i64 t5242.f0) rfl KR KR KR ?_; clear ha a; intro a ha
                      refine stepp ha 36 (.int .i64 a0) KR KR ?_; clear ha a; intro a ha
                      refine stepp ha 37 (.bool (t5242.f0 == a0)) KR KR ?_; clear ha a; intro a ha
                      refine stepp ha 38 (.bool (t5242.f0 == a0)) KR KR ?_; clear ha a; intro a ha
                      by_cases hp5251 : t5242.f0 = a0
                      · skip
                        replace h := ite_pos' h hp5251
                        replace ha := ha.bool 38 KR (ieq_t hp5251)
                        refine stepp ha 39 (.pointer (some ⟨b5246, 1, none⟩)) KR KR ?_; clear ha a; intro a ha
                        refine stepl ha 40 (HW.ca (i := 0) (b := b5246) (C := #[.int .i64 t5242.f0, .int .i64 t5242.f1.f0, .int .i64 t5242.f1.f1, .int .i64 t5242.f1.f2, .int .i64 t5242.f1.f3]) (T := 70) (fr := (0, 0)) KR) 66 1 (.tmp 39) (.agg #[.int .i64 t5242.f1.f0, .int .i64 t5242.f1.f1, .int .i64 t5242.f1.f2, .int .i64 t5242.f1.f3]) rfl KR KR KR ?_; clear ha a; intro a ha
                        refine stepl ha 41 (HW.ca (i := 1) (b := b4911) (C := #[.int .i64 a1.f0, .int .i64 a1.f1, .int .i64 a1.f2, .int .i64 a1.f3]) (T := 66) (fr := (0, 0)) KR) 66 0 (.tmp 3) (.agg #[.int .i64 a1.f0, .int .i64 a1.f1, .int .i64 a1.f2, .int .i64 a1.f3]) rfl KR KR KR ?_; clear ha a; intro a ha
                        obtain ⟨t5252, ht5253, h_⟩ := bind_some' h; clear h; have h := h_; clear h_
                        refine stepc ha 42 KR KR (headgatekeep_Senses.calls (⟨t5242.f1.f0, t5242.f1.f1, t5242.f1.f2, t5242.f1.f3⟩ : T_api_Sense) a1 t5252 _ ht5253) ?_; clear ha a; rintro e W5254 ⟨rfl, HX5255⟩
                        refine ⟨_, rfl, ?_⟩; intro a ha; replace HW := HW.callw HX5255; clear HX5255
                        refine stepp ha 43 (.bool t5252) KR KR ?_; clear ha a; intro a ha
                        refine endl ?_
                        refine thenN (hK5250 _ _ ?_); clear hK5250
                        by_cases hp5256 : t5252 = true
                        · skip
                          replace h := ite_pos' h hp5256
                          refine condT ha KR KR (t := t5252) (hp5256) ?_
                          refine wp_seq_k (fun K5257 hK5258 => ?_)
                          refine wp_region_lit ?_
                          refine stepp ha 44 (.slice (some ⟨b4917, 0, none⟩) 11 11) KR KR ?_; clear ha a; intro a ha
                          refine stepp ha 45 (.int .i64 9) KR KR ?_; clear ha a; intro a ha
                          refine stepp ha 46 (.pointer (some ⟨b4917, 81, none⟩)) KR KR ?_; clear ha a; intro a ha
                          refine stepl ha 47 (HW.ca (i := 3) (b := b4917) (C := #[.int .i64 1, .string (⟨#[]⟩ : ByteArray), .int .i64 0, .int .i64 0, .slice none 0 0, .int .u32 0, .int .i64 0, .string (⟨#[]⟩ : ByteArray), .int .i64 0, .int .i64 2, .string (⟨#[]⟩ : ByteArray), .int .i64 0, .int .i64 0, .slice none 0 0, .int .u32 0, .int .i64 0, .string (⟨#[]⟩ : ByteArray), .int .i64 0, .int .i64 4, .string (⟨#[]⟩ : ByteArray), .int .i64 0, .int .i64 0, .slice none 0 0, .int .u32 0, .int .i64 0, .string (⟨#[]⟩ : ByteArray), .int .i64 0, .int .i64 5, .string (⟨#[]⟩ : ByteArray), .int .i64 0, .int .i64 0, .slice none 0 0, .int .u32 0, .int .i64 0, .string (⟨#[]⟩ : ByteArray), .int .i64 0, .int .i64 6, .string (⟨#[]⟩ : ByteArray), .int .i64 0, .int .i64 0, .slice none 0 0, .int .u32 0, .int .i64 0, .string (⟨#[]⟩ : ByteArray), .int .i64 0, .int .i64 8, .string (⟨#[]⟩ : ByteArray), .int .i64 0, .int .i64 0, .slice none 0 0, .int .u32 0, .int .i64 0, .string (⟨#[]⟩ : ByteArray), .int .i64 0, .int .i64 7, .string (⟨#[]⟩ : ByteArray), .int .i64 0, .int .i64 1, .slice none 0 0, .int .u32 0, .int .i64 0, .string (⟨#[]⟩ : ByteArray), .int .i64 0, .int .i64 7, .string (⟨#[]⟩ : ByteArray), .int .i64 0, .int .i64 2, .slice none 0 0, .int .u32 0, .int .i64 0, .string (⟨#[]⟩ : ByteArray), .int .i64 0, .int .i64 7, .string (⟨#[]⟩ : ByteArray), .int .i64 0, .int .i64 3, .slice none 0 0, .int .u32 0, .int .i64 0, .string (⟨#[]⟩ : ByteArray), .int .i64 0, .int .i64 7, .string (⟨#[]⟩ : ByteArray), .int .i64 0, .int .i64 4, .slice none 0 0, .int .u32 0, .int .i64 0, .string (⟨#[]⟩ : ByteArray), .int .i64 0, .int .i64 3, .string (⟨#[]⟩ : ByteArray), .int .i64 a1.f3, .int .i64 0, .slice none 0 0, .int .u32 0, .int .i64 0, .string (⟨#[]⟩ : ByteArray), .int .i64 0]) (T := 64) (fr := (0, 0)) KR) 64 81 (.tmp 46) (.agg #[.int .i64 7, .string (⟨#[]⟩ : ByteArray), .int .i64 0, .int .i64 4, .slice none 0 0, .int .u32 0, .int .i64 0, .string (⟨#[]⟩ : ByteArray), .int .i64 0]) rfl KR KR KR ?_; clear ha a; intro a ha
                          refine stepst ha HW 2 (b := b4913) (C := #[.int .i64 0, .string (⟨#[]⟩ : ByteArray), .int .i64 0, .int .i64 0, .slice none 0 0, .int .u32 0, .int .i64 0, .string (⟨#[]⟩ : ByteArray), .int .i64 0]) (T := 64) KR 64 0 (.tmp 4) (.tmp 47) (.agg #[.int .i64 7, .string (⟨#[]⟩ : ByteArray), .int .i64 0, .int .i64 4, .slice none 0 0, .int .u32 0, .int .i64 0, .string (⟨#[]⟩ : ByteArray), .int .i64 0]) #[.int .i64 7, .string (⟨#[]⟩ : ByteArray), .int .i64 0, .int .i64 4, .slice none 0 0, .int .u32 0, .int .i64 0, .string (⟨#[]⟩ : ByteArray), .int .i64 0] rfl KR KR KR KR KR KR KR ?_; clear ha HW a; intro a W5259 HW ha
                          refine stepp ha 5 (.bool true) KR KR ?_; clear ha a; intro a ha
                          refine endl ?_
                          refine thenN (hK5258 _ _ ?_); clear hK5258
                          refine wp_ret ?_
                          refine blkR ?_
                          refine thenR ?_
                          refine thenR ?_
                          refine blkR ?_
                          refine thenR ?_
                          obtain rfl := Option.some.inj h
                          replace HW := HW.nilo 44 2
                          exact finv ha _ _ rfl (.cell (ad := ⟨b4913, 0, none⟩) (v := .agg #[.int .i64 7, .string (⟨#[]⟩ : ByteArray), .int .i64 0, .int .i64 4, .slice none 0 0, .int .u32 0, .int .i64 0, .string (⟨#[]⟩ : ByteArray), .int .i64 0]) KR (run_loadVar_ca0 (HW.ca (i := 2) (b := b4913) (C := #[.int .i64 7, .string (⟨#[]⟩ : ByteArray), .int .i64 0, .int .i64 4, .slice none 0 0, .int .u32 0, .int .i64 0, .string (⟨#[]⟩ : ByteArray), .int .i64 0]) (T := 64) (fr := (0, 0)) KR) 64 0 (.agg #[.int .i64 7, .string (⟨#[]⟩ : ByteArray), .int .i64 0, .int .i64 4, .slice none 0 0, .int .u32 0, .int .i64 0, .string (⟨#[]⟩ : ByteArray), .int .i64 0]) KR) (.tmp (v := .bool true) KR .nil)) (.tuple #[.agg #[.int .i64 7, .string (⟨#[]⟩ : ByteArray), .int .i64 0, .int .i64 4, .slice none 0 0, .int .u32 0, .int .i64 0, .string (⟨#[]⟩ : ByteArray), .int .i64 0], .bool true]) rfl ⟨none, 0, rfl, HW.pick [] [0] (by decide) (by decide) rfl KR⟩
                        · skip
                          replace h := ite_neg' h hp5256
                          refine condF ha KR KR (t := t5252) (bool_f hp5256) ?_
                          refine wp_skip ?_
                          refine blkN ?_
                          refine thenN (hK5239 _ _ ?_); clear hK5239
                          refine wp_region_lit ?_
                          refine stepp ha 27 (.int .i64 9) KR KR ?_; clear ha a; intro a ha
                          refine stepp ha 28 (.int .i64 10) KR KR ?_; clear ha a; intro a ha
                          refine stepp ha 7 (.int .i64 10) KR KR ?_; clear ha a; intro a ha
                          refine endl ?_
                          exact thenN ⟨h, ha.sub (subs_cons KR (subs_cons KR (subs_cons KR (subs_cons KR (subs_cons KR (subs_nil _)))))), HW.pick [1, 2, 3] [] (by decide) (by decide) KR KR⟩
                      · skip
                        replace h := ite_neg' h hp5251
                        replace ha := ha.bool 38 KR (ieq_f hp5251)
                        refine stepo ha 39 KR ?_; clear ha a; intro a ha
                        refine stepo ha 40 KR ?_; clear ha a; intro a ha
                        refine stepo ha 41 KR ?_; clear ha a; intro a ha
                        refine stepo ha 42 KR ?_; clear ha a; intro a ha
                        refine stepp ha 43 (.bool false) KR KR ?_; clear ha a; intro a ha
                        refine endl ?_
                        refine thenN (hK5250 _ _ ?_); clear hK5250
                        refine condF ha KR KR (t := false) (rfl) ?_
                        refine wp_skip ?_
                        refine blkN ?_
                        refine thenN (hK5239 _ _ ?_); clear hK5239
                        refine wp_region_lit ?_
                        refine stepp ha 27 (.int .i64 9) KR KR ?_; clear ha a; intro a ha
                        refine stepp ha 28 (.int .i64 10) KR KR ?_; clear ha a; intro a ha
                        refine stepp ha 7 (.int .i64 10) KR KR ?_; clear ha a; intro a ha
                        refine endl ?_
                        exact thenN ⟨h, ha.sub (subs_cons KR (subs_cons KR (subs_cons KR (subs_cons KR (subs_cons KR (subs_nil _)))))), HW.pick [1, 2, 3] [] (by decide) (by decide) KR KR⟩
                    · skip
                      intro a W5261 hJ
                      obtain ⟨h, ha, HW⟩ := hJ
                      replace h : headgateref16_Code.j9 K a0 a1 = some r := h
                      unfold headgateref16_Code.j9 at h
                      refine hK5233 _ _ ?_; clear hK5233
                      refine roundK (n := 13) (fun K5262 hK5263 => ?_)
                      refine cutn (fun a W5291 => headgateref16_Code.j10 K  = some r ∧ Has 49 [(0, .int .i64 a0), (3, .pointer (some ⟨b4911, 0, none⟩)), (4, .pointer (some ⟨b4913, 0, none⟩)), (6, .slice (some ⟨b4917, 0, none⟩) 11 11), (7, .int .i64 11)] a ∧ Wd w W5291 [(b4911, .cells #[.int .i64 a1.f0, .int .i64 a1.f1, .int .i64 a1.f2, .int .i64 a1.f3] 66 (0, 0)), (b4913, .cells #[.int .i64 0, .string (⟨#[]⟩ : ByteArray), .int .i64 0, .int .i64 0, .slice none 0 0, .int .u32 0, .int .i64 0, .string (⟨#[]⟩ : ByteArray), .int .i64 0] 64 (0, 0)), (b4917, .cells #[.int .i64 1, .string (⟨#[]⟩ : ByteArray), .int .i64 0, .int .i64 0, .slice none 0 0, .int .u32 0, .int .i64 0, .string (⟨#[]⟩ : ByteArray), .int .i64 0, .int .i64 2, .string (⟨#[]⟩ : ByteArray), .int .i64 0, .int .i64 0, .slice none 0 0, .int .u32 0, .int .i64 0, .string (⟨#[]⟩ : ByteArray), .int .i64 0, .int .i64 4, .string (⟨#[]⟩ : ByteArray), .int .i64 0, .int .i64 0, .slice none 0 0, .int .u32 0, .int .i64 0, .string (⟨#[]⟩ : ByteArray), .int .i64 0, .int .i64 5, .string (⟨#[]⟩ : ByteArray), .int .i64 0, .int .i64 0, .slice none 0 0, .int .u32 0, .int .i64 0, .string (⟨#[]⟩ : ByteArray), .int .i64 0, .int .i64 6, .string (⟨#[]⟩ : ByteArray), .int .i64 0, .int .i64 0, .slice none 0 0, .int .u32 0, .int .i64 0, .string (⟨#[]⟩ : ByteArray), .int .i64 0, .int .i64 8, .string (⟨#[]⟩ : ByteArray), .int .i64 0, .int .i64 0, .slice none 0 0, .int .u32 0, .int .i64 0, .string (⟨#[]⟩ : ByteArray), .int .i64 0, .int .i64 7, .string (⟨#[]⟩ : ByteArray), .int .i64 0, .int .i64 1, .slice none 0 0, .int .u32 0, .int .i64 0, .string (⟨#[]⟩ : ByteArray), .int .i64 0, .int .i64 7, .string (⟨#[]⟩ : ByteArray), .int .i64 0, .int .i64 2, .slice none 0 0, .int .u32 0, .int .i64 0, .string (⟨#[]⟩ : ByteArray), .int .i64 0, .int .i64 7, .string (⟨#[]⟩ : ByteArray), .int .i64 0, .int .i64 3, .slice none 0 0, .int .u32 0, .int .i64 0, .string (⟨#[]⟩ : ByteArray), .int .i64 0, .int .i64 7, .string (⟨#[]⟩ : ByteArray), .int .i64 0, .int .i64 4, .slice none 0 0, .int .u32 0, .int .i64 0, .string (⟨#[]⟩ : ByteArray), .int .i64 0, .int .i64 3, .string (⟨#[]⟩ : ByteArray), .int .i64 a1.f3, .int .i64 0, .slice none 0 0, .int .u32 0, .int .i64 0, .string (⟨#[]⟩ : ByteArray), .int .i64 0] 64 (0, 0))] []) ?_ ?_
                      · skip
                        refine wp_seq_k (fun K5264 hK5265 => ?_)
                        refine wp_seq_k (fun K5266 hK5267 => ?_)
                        refine wp_region_lit ?_
                        refine stepp ha 23 (.int .i64 10) KR KR ?_; clear ha a; intro a ha
                        refine stepp ha 24 (.slice (some ⟨b4917, 0, none⟩) 11 11) KR KR ?_; clear ha a; intro a ha
                        refine stepp ha 25 (.int .i64 11) KR KR ?_; clear ha a; intro a ha
                        refine stepp ha 26 (.bool true) KR KR ?_; clear ha a; intro a ha
                        refine endl ?_
                        refine thenN (hK5267 _ _ ?_); clear hK5267
                        refine condT ha KR KR (t := true) (rfl) ?_
                        refine wp_skip ?_
                        refine thenN (hK5265 _ _ ?_); clear hK5265
                        refine wp_seq_k (fun K5268 hK5269 => ?_)
                        refine wp_block ?_
                        refine wp_seq_k (fun K5270 hK5271 => ?_)
                        refine wp_region_lit ?_
                        refine stepp ha 29 (.slice (some ⟨b4917, 0, none⟩) 11 11) KR KR ?_; clear ha a; intro a ha
                        refine stepp ha 30 (.int .i64 10) KR KR ?_; clear ha a; intro a ha
                        refine stepp ha 31 (.pointer (some ⟨b4917, 90, none⟩)) KR KR ?_; clear ha a; intro a ha
                        refine stepl ha 32 (HW.ca (i := 2) (b := b4917) (C := #[.int .i64 1, .string (⟨#[]⟩ : ByteArray), .int .i64 0, .int .i64 0, .slice none 0 0, .int .u32 0, .int .i64 0, .string (⟨#[]⟩ : ByteArray), .int .i64 0, .int .i64 2, .string (⟨#[]⟩ : ByteArray), .int .i64 0, .int .i64 0, .slice none 0 0, .int .u32 0, .int .i64 0, .string (⟨#[]⟩ : ByteArray), .int .i64 0, .int .i64 4, .string (⟨#[]⟩ : ByteArray), .int .i64 0, .int .i64 0, .slice none 0 0, .int .u32 0, .int .i64 0, .string (⟨#[]⟩ : ByteArray), .int .i64 0, .int .i64 5, .string (⟨#[]⟩ : ByteArray), .int .i64 0, .int .i64 0, .slice none 0 0, .int .u32 0, .int .i64 0, .string (⟨#[]⟩ : ByteArray), .int .i64 0, .int .i64 6, .string (⟨#[]⟩ : ByteArray), .int .i64 0, .int .i64 0, .slice none 0 0, .int .u32 0, .int .i64 0, .string (⟨#[]⟩ : ByteArray), .int .i64 0, .int .i64 8, .string (⟨#[]⟩ : ByteArray), .int .i64 0, .int .i64 0, .slice none 0 0, .int .u32 0, .int .i64 0, .string (⟨#[]⟩ : ByteArray), .int .i64 0, .int .i64 7, .string (⟨#[]⟩ : ByteArray), .int .i64 0, .int .i64 1, .slice none 0 0, .int .u32 0, .int .i64 0, .string (⟨#[]⟩ : ByteArray), .int .i64 0, .int .i64 7, .string (⟨#[]⟩ : ByteArray), .int .i64 0, .int .i64 2, .slice none 0 0, .int .u32 0, .int .i64 0, .string (⟨#[]⟩ : ByteArray), .int .i64 0, .int .i64 7, .string (⟨#[]⟩ : ByteArray), .int .i64 0, .int .i64 3, .slice none 0 0, .int .u32 0, .int .i64 0, .string (⟨#[]⟩ : ByteArray), .int .i64 0, .int .i64 7, .string (⟨#[]⟩ : ByteArray), .int .i64 0, .int .i64 4, .slice none 0 0, .int .u32 0, .int .i64 0, .string (⟨#[]⟩ : ByteArray), .int .i64 0, .int .i64 3, .string (⟨#[]⟩ : ByteArray), .int .i64 a1.f3, .int .i64 0, .slice none 0 0, .int .u32 0, .int .i64 0, .string (⟨#[]⟩ : ByteArray), .int .i64 0]) (T := 64) (fr := (0, 0)) KR) 64 90 (.tmp 31) (.agg #[.int .i64 3, .string (⟨#[]⟩ : ByteArray), .int .i64 a1.f3, .int .i64 0, .slice none 0 0, .int .u32 0, .int .i64 0, .string (⟨#[]⟩ : ByteArray), .int .i64 0]) rfl KR KR KR ?_; clear ha a; intro a ha
                        obtain ⟨t5272, ht5273, h_⟩ := bind_some' h; clear h; have h := h_; clear h_
                        refine stepc ha 33 KR KR (headgateref16_Of.calls K (⟨3, (⟨#[]⟩ : ByteArray), a1.f3, 0, ([] : List T_api_Reg), 0, (⟨0, (⟨#[]⟩ : ByteArray)⟩ : T_api_Hold), 0⟩ : T_api_Out) none 0 t5272 _ (Rd.nil _ _) ht5273) ?_; clear ha a; rintro e W5274 ⟨rfl, HX5275⟩
                        refine ⟨_, rfl, ?_⟩; intro a ha; replace HW := HW.callw HX5275; clear HX5275
                        refine stepnew ha HW 8 #[.int .i64 0, .int .i64 0, .int .i64 0, .int .i64 0, .int .i64 0] 70 KR KR ?_; clear ha HW a; intro b5276 a W5277 HW ha
                        refine stepst ha HW 0 (b := b5276) (C := #[.int .i64 0, .int .i64 0, .int .i64 0, .int .i64 0, .int .i64 0]) (T := 70) KR 70 0 (.tmp 8) (.tmp 33) (.agg #[.int .i64 t5272.f0, .int .i64 t5272.f1.f0, .int .i64 t5272.f1.f1, .int .i64 t5272.f1.f2, .int .i64 t5272.f1.f3]) #[.int .i64 t5272.f0, .int .i64 t5272.f1.f0, .int .i64 t5272.f1.f1, .int .i64 t5272.f1.f2, .int .i64 t5272.f1.f3] rfl KR KR KR KR KR KR KR ?_; clear ha HW a; intro a W5278 HW ha
                        refine endl ?_
                        refine thenN (hK5271 _ _ ?_); clear hK5271
                        refine wp_seq_k (fun K5279 hK5280 => ?_)
                        refine wp_region_lit ?_
                        refine stepp ha 34 (.pointer (some ⟨b5276, 0, none⟩)) KR KR ?_; clear ha a; intro a ha
                        refine stepl ha 35 (HW.ca (i := 0) (b := b5276) (C := #[.int .i64 t5272.f0, .int .i64 t5272.f1.f0, .int .i64 t5272.f1.f1, .int .i64 t5272.f1.f2, .int .i64 t5272.f1.f3]) (T := 70) (fr := (0, 0)) KR) 3 0 (.tmp 34) (.int .i64 t5272.f0) rfl KR KR KR ?_; clear ha a; intro a ha
                        refine stepp ha 36 (.int .i64 a0) KR KR ?_; clear ha a; intro a ha
                        refine stepp ha 37 (.bool (t5272.f0 == a0)) KR KR ?_; clear ha a; intro a ha
                        refine stepp ha 38 (.bool (t5272.f0 == a0)) KR KR ?_; clear ha a; intro a ha
                        by_cases hp5281 : t5272.f0 = a0
                        · skip
                          replace h := ite_pos' h hp5281
                          replace ha := ha.bool 38 KR (ieq_t hp5281)
                          refine stepp ha 39 (.pointer (some ⟨b5276, 1, none⟩)) KR KR ?_; clear ha a; intro a ha
                          refine stepl ha 40 (HW.ca (i := 0) (b := b5276) (C := #[.int .i64 t5272.f0, .int .i64 t5272.f1.f0, .int .i64 t5272.f1.f1, .int .i64 t5272.f1.f2, .int .i64 t5272.f1.f3]) (T := 70) (fr := (0, 0)) KR) 66 1 (.tmp 39) (.agg #[.int .i64 t5272.f1.f0, .int .i64 t5272.f1.f1, .int .i64 t5272.f1.f2, .int .i64 t5272.f1.f3]) rfl KR KR KR ?_; clear ha a; intro a ha
                          refine stepl ha 41 (HW.ca (i := 1) (b := b4911) (C := #[.int .i64 a1.f0, .int .i64 a1.f1, .int .i64 a1.f2, .int .i64 a1.f3]) (T := 66) (fr := (0, 0)) KR) 66 0 (.tmp 3) (.agg #[.int .i64 a1.f0, .int .i64 a1.f1, .int .i64 a1.f2, .int .i64 a1.f3]) rfl KR KR KR ?_; clear ha a; intro a ha
                          obtain ⟨t5282, ht5283, h_⟩ := bind_some' h; clear h; have h := h_; clear h_
                          refine stepc ha 42 KR KR (headgatekeep_Senses.calls (⟨t5272.f1.f0, t5272.f1.f1, t5272.f1.f2, t5272.f1.f3⟩ : T_api_Sense) a1 t5282 _ ht5283) ?_; clear ha a; rintro e W5284 ⟨rfl, HX5285⟩
                          refine ⟨_, rfl, ?_⟩; intro a ha; replace HW := HW.callw HX5285; clear HX5285
                          refine stepp ha 43 (.bool t5282) KR KR ?_; clear ha a; intro a ha
                          refine endl ?_
                          refine thenN (hK5280 _ _ ?_); clear hK5280
                          by_cases hp5286 : t5282 = true
                          · skip
                            replace h := ite_pos' h hp5286
                            refine condT ha KR KR (t := t5282) (hp5286) ?_
                            refine wp_seq_k (fun K5287 hK5288 => ?_)
                            refine wp_region_lit ?_
                            refine stepp ha 44 (.slice (some ⟨b4917, 0, none⟩) 11 11) KR KR ?_; clear ha a; intro a ha
                            refine stepp ha 45 (.int .i64 10) KR KR ?_; clear ha a; intro a ha
                            refine stepp ha 46 (.pointer (some ⟨b4917, 90, none⟩)) KR KR ?_; clear ha a; intro a ha
                            refine stepl ha 47 (HW.ca (i := 3) (b := b4917) (C := #[.int .i64 1, .string (⟨#[]⟩ : ByteArray), .int .i64 0, .int .i64 0, .slice none 0 0, .int .u32 0, .int .i64 0, .string (⟨#[]⟩ : ByteArray), .int .i64 0, .int .i64 2, .string (⟨#[]⟩ : ByteArray), .int .i64 0, .int .i64 0, .slice none 0 0, .int .u32 0, .int .i64 0, .string (⟨#[]⟩ : ByteArray), .int .i64 0, .int .i64 4, .string (⟨#[]⟩ : ByteArray), .int .i64 0, .int .i64 0, .slice none 0 0, .int .u32 0, .int .i64 0, .string (⟨#[]⟩ : ByteArray), .int .i64 0, .int .i64 5, .string (⟨#[]⟩ : ByteArray), .int .i64 0, .int .i64 0, .slice none 0 0, .int .u32 0, .int .i64 0, .string (⟨#[]⟩ : ByteArray), .int .i64 0, .int .i64 6, .string (⟨#[]⟩ : ByteArray), .int .i64 0, .int .i64 0, .slice none 0 0, .int .u32 0, .int .i64 0, .string (⟨#[]⟩ : ByteArray), .int .i64 0, .int .i64 8, .string (⟨#[]⟩ : ByteArray), .int .i64 0, .int .i64 0, .slice none 0 0, .int .u32 0, .int .i64 0, .string (⟨#[]⟩ : ByteArray), .int .i64 0, .int .i64 7, .string (⟨#[]⟩ : ByteArray), .int .i64 0, .int .i64 1, .slice none 0 0, .int .u32 0, .int .i64 0, .string (⟨#[]⟩ : ByteArray), .int .i64 0, .int .i64 7, .string (⟨#[]⟩ : ByteArray), .int .i64 0, .int .i64 2, .slice none 0 0, .int .u32 0, .int .i64 0, .string (⟨#[]⟩ : ByteArray), .int .i64 0, .int .i64 7, .string (⟨#[]⟩ : ByteArray), .int .i64 0, .int .i64 3, .slice none 0 0, .int .u32 0, .int .i64 0, .string (⟨#[]⟩ : ByteArray), .int .i64 0, .int .i64 7, .string (⟨#[]⟩ : ByteArray), .int .i64 0, .int .i64 4, .slice none 0 0, .int .u32 0, .int .i64 0, .string (⟨#[]⟩ : ByteArray), .int .i64 0, .int .i64 3, .string (⟨#[]⟩ : ByteArray), .int .i64 a1.f3, .int .i64 0, .slice none 0 0, .int .u32 0, .int .i64 0, .string (⟨#[]⟩ : ByteArray), .int .i64 0]) (T := 64) (fr := (0, 0)) KR) 64 90 (.tmp 46) (.agg #[.int .i64 3, .string (⟨#[]⟩ : ByteArray), .int .i64 a1.f3, .int .i64 0, .slice none 0 0, .int .u32 0, .int .i64 0, .string (⟨#[]⟩ : ByteArray), .int .i64 0]) rfl KR KR KR ?_; clear ha a; intro a ha
                            refine stepst ha HW 2 (b := b4913) (C := #[.int .i64 0, .string (⟨#[]⟩ : ByteArray), .int .i64 0, .int .i64 0, .slice none 0 0, .int .u32 0, .int .i64 0, .string (⟨#[]⟩ : ByteArray), .int .i64 0]) (T := 64) KR 64 0 (.tmp 4) (.tmp 47) (.agg #[.int .i64 3, .string (⟨#[]⟩ : ByteArray), .int .i64 a1.f3, .int .i64 0, .slice none 0 0, .int .u32 0, .int .i64 0, .string (⟨#[]⟩ : ByteArray), .int .i64 0]) #[.int .i64 3, .string (⟨#[]⟩ : ByteArray), .int .i64 a1.f3, .int .i64 0, .slice none 0 0, .int .u32 0, .int .i64 0, .string (⟨#[]⟩ : ByteArray), .int .i64 0] rfl KR KR KR KR KR KR KR ?_; clear ha HW a; intro a W5289 HW ha
                            refine stepp ha 5 (.bool true) KR KR ?_; clear ha a; intro a ha
                            refine endl ?_
                            refine thenN (hK5288 _ _ ?_); clear hK5288
                            refine wp_ret ?_
                            refine blkR ?_
                            refine thenR ?_
                            refine thenR ?_
                            refine blkR ?_
                            refine thenR ?_
                            obtain rfl := Option.some.inj h
                            replace HW := HW.nilo 44 2
                            exact finv ha _ _ rfl (.cell (ad := ⟨b4913, 0, none⟩) (v := .agg #[.int .i64 3, .string (⟨#[]⟩ : ByteArray), .int .i64 a1.f3, .int .i64 0, .slice none 0 0, .int .u32 0, .int .i64 0, .string (⟨#[]⟩ : ByteArray), .int .i64 0]) KR (run_loadVar_ca0 (HW.ca (i := 2) (b := b4913) (C := #[.int .i64 3, .string (⟨#[]⟩ : ByteArray), .int .i64 a1.f3, .int .i64 0, .slice none 0 0, .int .u32 0, .int .i64 0, .string (⟨#[]⟩ : ByteArray), .int .i64 0]) (T := 64) (fr := (0, 0)) KR) 64 0 (.agg #[.int .i64 3, .string (⟨#[]⟩ : ByteArray), .int .i64 a1.f3, .int .i64 0, .slice none 0 0, .int .u32 0, .int .i64 0, .string (⟨#[]⟩ : ByteArray), .int .i64 0]) KR) (.tmp (v := .bool true) KR .nil)) (.tuple #[.agg #[.int .i64 3, .string (⟨#[]⟩ : ByteArray), .int .i64 a1.f3, .int .i64 0, .slice none 0 0, .int .u32 0, .int .i64 0, .string (⟨#[]⟩ : ByteArray), .int .i64 0], .bool true]) rfl ⟨none, 0, rfl, HW.pick [] [0] (by decide) (by decide) rfl KR⟩
                          · skip
                            replace h := ite_neg' h hp5286
                            refine condF ha KR KR (t := t5282) (bool_f hp5286) ?_
                            refine wp_skip ?_
                            refine blkN ?_
                            refine thenN (hK5269 _ _ ?_); clear hK5269
                            refine wp_region_lit ?_
                            refine stepp ha 27 (.int .i64 10) KR KR ?_; clear ha a; intro a ha
                            refine stepp ha 28 (.int .i64 11) KR KR ?_; clear ha a; intro a ha
                            refine stepp ha 7 (.int .i64 11) KR KR ?_; clear ha a; intro a ha
                            refine endl ?_
                            exact thenN ⟨h, ha.sub (subs_cons KR (subs_cons KR (subs_cons KR (subs_cons KR (subs_cons KR (subs_nil _)))))), HW.pick [1, 2, 3] [] (by decide) (by decide) KR KR⟩
                        · skip
                          replace h := ite_neg' h hp5281
                          replace ha := ha.bool 38 KR (ieq_f hp5281)
                          refine stepo ha 39 KR ?_; clear ha a; intro a ha
                          refine stepo ha 40 KR ?_; clear ha a; intro a ha
                          refine stepo ha 41 KR ?_; clear ha a; intro a ha
                          refine stepo ha 42 KR ?_; clear ha a; intro a ha
                          refine stepp ha 43 (.bool false) KR KR ?_; clear ha a; intro a ha
                          refine endl ?_
                          refine thenN (hK5280 _ _ ?_); clear hK5280
                          refine condF ha KR KR (t := false) (rfl) ?_
                          refine wp_skip ?_
                          refine blkN ?_
                          refine thenN (hK5269 _ _ ?_); clear hK5269
                          refine wp_region_lit ?_
                          refine stepp ha 27 (.int .i64 10) KR KR ?_; clear ha a; intro a ha
                          refine stepp ha 28 (.int .i64 11) KR KR ?_; clear ha a; intro a ha
                          refine stepp ha 7 (.int .i64 11) KR KR ?_; clear ha a; intro a ha
                          refine endl ?_
                          exact thenN ⟨h, ha.sub (subs_cons KR (subs_cons KR (subs_cons KR (subs_cons KR (subs_cons KR (subs_nil _)))))), HW.pick [1, 2, 3] [] (by decide) (by decide) KR KR⟩
                      · skip
                        intro a W5291 hJ
                        obtain ⟨h, ha, HW⟩ := hJ
                        replace h : headgateref16_Code.j10 K  = some r := h
                        unfold headgateref16_Code.j10 at h
                        refine hK5263 _ _ ?_; clear hK5263
                        refine roundK (n := 12) (fun K5292 hK5293 => ?_)
                        refine wp_seq_k (fun K5294 hK5295 => ?_)
                        refine wp_seq_k (fun K5296 hK5297 => ?_)
                        refine wp_region_lit ?_
                        refine stepp ha 23 (.int .i64 11) KR KR ?_; clear ha a; intro a ha
                        refine stepp ha 24 (.slice (some ⟨b4917, 0, none⟩) 11 11) KR KR ?_; clear ha a; intro a ha
                        refine stepp ha 25 (.int .i64 11) KR KR ?_; clear ha a; intro a ha
                        refine stepp ha 26 (.bool false) KR KR ?_; clear ha a; intro a ha
                        refine endl ?_
                        refine thenN (hK5297 _ _ ?_); clear hK5297
                        refine condF ha KR KR (t := false) (rfl) ?_
                        refine wp_exit ?_
                        refine thenE ?_
                        refine thenE ?_
                        refine inBlk ?_
                        refine thenN (hK4920 _ _ ?_); clear hK4920
                        refine wp_seq_k (fun K5298 hK5299 => ?_)
                        refine wp_region_lit ?_
                        refine stepp ha 48 (.agg #[.int .i64 0, .string (⟨#[]⟩ : ByteArray), .int .i64 0, .int .i64 0, .slice none 0 0, .int .u32 0, .int .i64 0, .string (⟨#[]⟩ : ByteArray), .int .i64 0]) KR KR ?_; clear ha a; intro a ha
                        refine stepst ha HW 1 (b := b4913) (C := #[.int .i64 0, .string (⟨#[]⟩ : ByteArray), .int .i64 0, .int .i64 0, .slice none 0 0, .int .u32 0, .int .i64 0, .string (⟨#[]⟩ : ByteArray), .int .i64 0]) (T := 64) KR 64 0 (.tmp 4) (.tmp 48) (.agg #[.int .i64 0, .string (⟨#[]⟩ : ByteArray), .int .i64 0, .int .i64 0, .slice none 0 0, .int .u32 0, .int .i64 0, .string (⟨#[]⟩ : ByteArray), .int .i64 0]) #[.int .i64 0, .string (⟨#[]⟩ : ByteArray), .int .i64 0, .int .i64 0, .slice none 0 0, .int .u32 0, .int .i64 0, .string (⟨#[]⟩ : ByteArray), .int .i64 0] rfl KR KR KR KR KR KR KR ?_; clear ha HW a; intro a W5300 HW ha
                        refine stepp ha 5 (.bool false) KR KR ?_; clear ha a; intro a ha
                        refine endl ?_
                        refine thenN (hK5299 _ _ ?_); clear hK5299
                        refine wp_ret ?_
                        obtain rfl := Option.some.inj h
                        replace HW := HW.nilo 44 2
                        exact finv ha _ _ rfl (.cell (ad := ⟨b4913, 0, none⟩) (v := .agg #[.int .i64 0, .string (⟨#[]⟩ : ByteArray), .int .i64 0, .int .i64 0, .slice none 0 0, .int .u32 0, .int .i64 0, .string (⟨#[]⟩ : ByteArray), .int .i64 0]) KR (run_loadVar_ca0 (HW.ca (i := 1) (b := b4913) (C := #[.int .i64 0, .string (⟨#[]⟩ : ByteArray), .int .i64 0, .int .i64 0, .slice none 0 0, .int .u32 0, .int .i64 0, .string (⟨#[]⟩ : ByteArray), .int .i64 0]) (T := 64) (fr := (0, 0)) KR) 64 0 (.agg #[.int .i64 0, .string (⟨#[]⟩ : ByteArray), .int .i64 0, .int .i64 0, .slice none 0 0, .int .u32 0, .int .i64 0, .string (⟨#[]⟩ : ByteArray), .int .i64 0]) KR) (.tmp (v := .bool false) KR .nil)) (.tuple #[.agg #[.int .i64 0, .string (⟨#[]⟩ : ByteArray), .int .i64 0, .int .i64 0, .slice none 0 0, .int .u32 0, .int .i64 0, .string (⟨#[]⟩ : ByteArray), .int .i64 0], .bool false]) rfl ⟨none, 0, rfl, HW.pick [] [0] (by decide) (by decide) rfl KR⟩
end Go.Proofs.YthjjbkgifelooaaDoor.F
