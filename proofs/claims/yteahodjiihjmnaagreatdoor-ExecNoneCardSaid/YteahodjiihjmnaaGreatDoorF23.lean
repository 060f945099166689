/- headgate/exec.New, (*headgate/exec.Exec).Table, (*headgate/exec.Exec).Do, (*headgate/exec.Exec).Cache, headgate/headgatekeep.Regs, headgate/headgatekeep.Tables, (*headgate/exec.Exec).Units: plain functions, and that the calls come to what they say. No condition. -/
import Derived.Test.YteahodjiihjmnaaGreatDoorFT
namespace Go.Proofs.YteahodjiihjmnaaGreatDoor.F
open Go Go.RowKit Go.Proofs.YteahodjiihjmnaaGreatDoor.X
set_option linter.unusedVariables false
set_option linter.unusedSimpArgs false
/-! ### headgate/exec.New: function 23 -/
def exec_New_nil.f  : Option (Unit × Int) :=
  some ((), 1)
set_option maxRecDepth 100000 in
set_option maxHeartbeats 4000000 in
theorem exec_New_nil.calls   (r : Unit × Int) (w : World)  (h : exec_New_nil.f  = some r) :
    Calls Tryz.prog 23 #[.pointer none] w (fun e W' => e = .returned (.tuple #[.pointer none, .int .i64 r.2]) ∧ Wd w W' [] [] ) := by
  refine sxstart (n := 66) (l := [(0, .pointer none)]) Tryz.func23 rfl rfl (Nat.le_of_ble_eq_true KR) (subsA_cons rfl (subsA_nil _)) ?_
  intro a ha
  have HW := Wd.refl w
  unfold exec_New_nil.f at h
  refine wp_seq_k (fun K600 hK601 => ?_)
  refine wp_region_lit ?_
  refine stepp ha 2 (.pointer none) KR KR ?_; clear ha a; intro a ha
  refine stepp ha 3 (.int .i64 0) KR KR ?_; clear ha a; intro a ha
  refine endl ?_
  refine thenN (hK601 _ _ ?_); clear hK601
  refine wp_seq_k (fun K602 hK603 => ?_)
  refine wp_seq_k (fun K604 hK605 => ?_)
  refine wp_region_lit ?_
  refine stepp ha 10 (.pointer none) KR KR ?_; clear ha a; intro a ha
  refine stepp ha 11 (.bool true) KR KR ?_; clear ha a; intro a ha
  refine endl ?_
  refine thenN (hK605 _ _ ?_); clear hK605
  refine condT ha KR KR (t := true) (rfl) ?_
  refine wp_seq_k (fun K606 hK607 => ?_)
  refine wp_region_lit ?_
  refine stepp ha 2 (.pointer none) KR KR ?_; clear ha a; intro a ha
  refine stepp ha 3 (.int .i64 1) KR KR ?_; clear ha a; intro a ha
  refine endl ?_
  refine thenN (hK607 _ _ ?_); clear hK607
  refine wp_ret ?_
  refine thenR ?_
  obtain rfl := Option.some.inj h
  exact finv ha _ _ rfl (.tmp (v := .pointer none) KR (.tmp (v := .int .i64 1) KR .nil)) (.tuple #[.pointer none, .int .i64 1]) rfl ⟨rfl, HW.pick [] [] (by decide) (by decide) rfl KR⟩
/-! ### (*headgate/exec.Exec).Table: function 25 -/
def exec_Exec_Table_nil.f (a1 : Int) : Option T_api_Table :=
  some (⟨([] : List T_api_Reg), (⟨0, (⟨#[]⟩ : ByteArray)⟩ : T_api_Hold), 0, false⟩ : T_api_Table)
set_option maxRecDepth 100000 in
set_option maxHeartbeats 4000000 in
theorem exec_Exec_Table_nil.calls (a1 : Int)  (r : T_api_Table) (w : World)  (h : exec_Exec_Table_nil.f a1 = some r) :
    Calls Tryz.prog 25 #[.pointer none, .int .i64 a1] w (fun e W' => ∃ A_0 c_0, e = .returned (.agg #[.slice A_0 r.f0.length c_0, .int .i64 r.f1.f0, .string r.f1.f1, .int .u32 r.f2, .bool r.f3]) ∧ Wd w W' [] [⟨160, 2, .slice A_0 r.f0.length c_0, r.f0.length, encs T_api_Reg.enc r.f0⟩] ) := by
  refine sxstart (n := 34) (l := [(0, .pointer none), (1, .int .i64 a1)]) Tryz.func25 rfl rfl (Nat.le_of_ble_eq_true KR) (subsA_cons rfl (subsA_cons rfl (subsA_nil _))) ?_
  intro a ha
  have HW := Wd.refl w
  unfold exec_Exec_Table_nil.f at h
  refine wp_seq_k (fun K4303 hK4304 => ?_)
  refine wp_region_lit ?_
  refine stepnew ha HW 4 #[.slice none 0 0, .int .i64 0, .string (⟨#[]⟩ : ByteArray), .int .u32 0, .bool false] 63 KR KR ?_; clear ha HW a; intro b4305 a W4306 HW ha
  refine endl ?_
  refine thenN (hK4304 _ _ ?_); clear hK4304
  refine wp_seq_k (fun K4307 hK4308 => ?_)
  refine wp_seq_k (fun K4309 hK4310 => ?_)
  refine wp_region_lit ?_
  refine stepp ha 6 (.pointer none) KR KR ?_; clear ha a; intro a ha
  refine stepp ha 7 (.bool true) KR KR ?_; clear ha a; intro a ha
  refine stepp ha 8 (.bool true) KR KR ?_; clear ha a; intro a ha
  refine stepo ha 9 KR ?_; clear ha a; intro a ha
  refine stepo ha 10 KR ?_; clear ha a; intro a ha
  refine stepp ha 11 (.bool true) KR KR ?_; clear ha a; intro a ha
  refine stepp ha 12 (.bool true) KR KR ?_; clear ha a; intro a ha
  refine stepo ha 13 KR ?_; clear ha a; intro a ha
  refine stepo ha 14 KR ?_; clear ha a; intro a ha
  refine stepo ha 15 KR ?_; clear ha a; intro a ha
  refine stepo ha 16 KR ?_; clear ha a; intro a ha
  refine stepo ha 17 KR ?_; clear ha a; intro a ha
  refine stepo ha 18 KR ?_; clear ha a; intro a ha
  refine stepo ha 19 KR ?_; clear ha a; intro a ha
  refine stepp ha 20 (.bool true) KR KR ?_; clear ha a; intro a ha
  refine endl ?_
  refine thenN (hK4310 _ _ ?_); clear hK4310
  refine condT ha KR KR (t := true) (rfl) ?_
  refine wp_seq_k (fun K4311 hK4312 => ?_)
  refine wp_region_lit ?_
  refine stepp ha 21 (.agg #[.slice none 0 0, .int .i64 0, .string (⟨#[]⟩ : ByteArray), .int .u32 0, .bool false]) KR KR ?_; clear ha a; intro a ha
  refine stepst ha HW 0 (b := b4305) (C := #[.slice none 0 0, .int .i64 0, .string (⟨#[]⟩ : ByteArray), .int .u32 0, .bool false]) (T := 63) KR 63 0 (.tmp 4) (.tmp 21) (.agg #[.slice none 0 0, .int .i64 0, .string (⟨#[]⟩ : ByteArray), .int .u32 0, .bool false]) #[.slice none 0 0, .int .i64 0, .string (⟨#[]⟩ : ByteArray), .int .u32 0, .bool false] rfl KR KR KR KR KR KR KR ?_; clear ha HW a; intro a W4313 HW ha
  refine endl ?_
  refine thenN (hK4312 _ _ ?_); clear hK4312
  refine wp_ret ?_
  refine thenR ?_
  obtain rfl := Option.some.inj h
  replace HW := HW.nilo 160 2
  exact finv ha _ _ rfl (.cell (ad := ⟨b4305, 0, none⟩) (v := .agg #[.slice none 0 0, .int .i64 0, .string (⟨#[]⟩ : ByteArray), .int .u32 0, .bool false]) KR (run_loadVar_ca0 (HW.ca (i := 0) (b := b4305) (C := #[.slice none 0 0, .int .i64 0, .string (⟨#[]⟩ : ByteArray), .int .u32 0, .bool false]) (T := 63) (fr := (0, 0)) KR) 63 0 (.agg #[.slice none 0 0, .int .i64 0, .string (⟨#[]⟩ : ByteArray), .int .u32 0, .bool false]) KR) .nil) (.agg #[.slice none 0 0, .int .i64 0, .string (⟨#[]⟩ : ByteArray), .int .u32 0, .bool false]) rfl ⟨none, 0, rfl, HW.pick [] [0] (by decide) (by decide) rfl KR⟩
/-! ### (*headgate/exec.Exec).Do: function 14 -/
def exec_Exec_Do_nil.f (a1 : T_api_Cmd) : Option T_api_Out :=
  some (⟨5, (⟨#[]⟩ : ByteArray), 0, 0, ([] : List T_api_Reg), 0, (⟨0, (⟨#[]⟩ : ByteArray)⟩ : T_api_Hold), 0⟩ : T_api_Out)
set_option maxRecDepth 100000 in
set_option maxHeartbeats 4000000 in
theorem exec_Exec_Do_nil.calls (a1 : T_api_Cmd) (A1_0 : Option Addr) (c1_0 : Nat) (r : T_api_Out) (w : World) (hr1_0 : Rd 2 w (.slice A1_0 a1.f7.length c1_0) a1.f7.length (encs T_api_Range.enc a1.f7)) (h : exec_Exec_Do_nil.f a1 = some r) :
    Calls Tryz.prog 14 #[.pointer none, .agg #[.int .i64 a1.f0, .int .i64 a1.f1, .string a1.f2, .int .i64 a1.f3, .int .i64 a1.f4, .string a1.f5, .bool a1.f6, .slice A1_0 a1.f7.length c1_0, .int .u64 a1.f8, .int .u64 a1.f9, .int .u64 a1.f10, .int .i64 a1.f11, .bool a1.f12, .int .i64 a1.f13]] w (fun e W' => ∃ A_0 c_0, e = .returned (.agg #[.int .i64 r.f0, .string r.f1, .int .i64 r.f2, .int .i64 r.f3, .slice A_0 r.f4.length c_0, .int .u32 r.f5, .int .i64 r.f6.f0, .string r.f6.f1, .int .i64 r.f7]) ∧ Wd w W' [] [⟨160, 2, .slice A_0 r.f4.length c_0, r.f4.length, encs T_api_Reg.enc r.f4⟩] ) := by
  refine sxstart (n := 72) (l := [(0, .pointer none), (1, .agg #[.int .i64 a1.f0, .int .i64 a1.f1, .string a1.f2, .int .i64 a1.f3, .int .i64 a1.f4, .string a1.f5, .bool a1.f6, .slice A1_0 a1.f7.length c1_0, .int .u64 a1.f8, .int .u64 a1.f9, .int .u64 a1.f10, .int .i64 a1.f11, .bool a1.f12, .int .i64 a1.f13])]) Tryz.func14 rfl rfl (Nat.le_of_ble_eq_true KR) (subsA_cons rfl (subsA_cons rfl (subsA_nil _))) ?_
  intro a ha
  have HW := Wd.refl w
  unfold exec_Exec_Do_nil.f at h
  refine wp_seq_k (fun K4372 hK4373 => ?_)
  refine wp_region_lit ?_
  refine stepnew ha HW 3 #[.int .i64 a1.f0, .int .i64 a1.f1, .string a1.f2, .int .i64 a1.f3, .int .i64 a1.f4, .string a1.f5, .bool a1.f6, .slice A1_0 a1.f7.length c1_0, .int .u64 a1.f8, .int .u64 a1.f9, .int .u64 a1.f10, .int .i64 a1.f11, .bool a1.f12, .int .i64 a1.f13] 33 KR KR ?_; clear ha HW a; intro b4374 a W4375 HW ha
  refine stepnew ha HW 4 #[.int .i64 0, .string (⟨#[]⟩ : ByteArray), .int .i64 0, .int .i64 0, .slice none 0 0, .int .u32 0, .int .i64 0, .string (⟨#[]⟩ : ByteArray), .int .i64 0] 40 KR KR ?_; clear ha HW a; intro b4376 a W4377 HW ha
  refine endl ?_
  refine thenN (hK4373 _ _ ?_); clear hK4373
  refine wp_seq_k (fun K4378 hK4379 => ?_)
  refine wp_block ?_
  refine wp_seq_k (fun K4380 hK4381 => ?_)
  refine wp_region_lit ?_
  refine stepp ha 6 (.pointer none) KR KR ?_; clear ha a; intro a ha
  refine stepp ha 7 (.bool true) KR KR ?_; clear ha a; intro a ha
  refine stepp ha 8 (.bool true) KR KR ?_; clear ha a; intro a ha
  refine stepo ha 9 KR ?_; clear ha a; intro a ha
  refine stepo ha 10 KR ?_; clear ha a; intro a ha
  refine stepo ha 11 KR ?_; clear ha a; intro a ha
  refine stepp ha 12 (.bool true) KR KR ?_; clear ha a; intro a ha
  refine stepp ha 13 (.bool true) KR KR ?_; clear ha a; intro a ha
  refine stepo ha 14 KR ?_; clear ha a; intro a ha
  refine stepo ha 15 KR ?_; clear ha a; intro a ha
  refine stepo ha 16 KR ?_; clear ha a; intro a ha
  refine stepp ha 17 (.bool true) KR KR ?_; clear ha a; intro a ha
  refine stepp ha 18 (.bool true) KR KR ?_; clear ha a; intro a ha
  refine stepo ha 19 KR ?_; clear ha a; intro a ha
  refine stepo ha 20 KR ?_; clear ha a; intro a ha
  refine stepo ha 21 KR ?_; clear ha a; intro a ha
  refine stepo ha 22 KR ?_; clear ha a; intro a ha
  refine stepp ha 23 (.bool true) KR KR ?_; clear ha a; intro a ha
  refine stepp ha 5 (.bool true) KR KR ?_; clear ha a; intro a ha
  refine endl ?_
  refine thenN (hK4381 _ _ ?_); clear hK4381
  refine condT ha KR KR (t := true) (rfl) ?_
  refine wp_seq_k (fun K4382 hK4383 => ?_)
  refine wp_region_lit ?_
  refine stepp ha 24 (.agg #[.int .i64 5, .string (⟨#[]⟩ : ByteArray), .int .i64 0, .int .i64 0, .slice none 0 0, .int .u32 0, .int .i64 0, .string (⟨#[]⟩ : ByteArray), .int .i64 0]) KR KR ?_; clear ha a; intro a ha
  refine stepst ha HW 0 (b := b4376) (C := #[.int .i64 0, .string (⟨#[]⟩ : ByteArray), .int .i64 0, .int .i64 0, .slice none 0 0, .int .u32 0, .int .i64 0, .string (⟨#[]⟩ : ByteArray), .int .i64 0]) (T := 40) KR 40 0 (.tmp 4) (.tmp 24) (.agg #[.int .i64 5, .string (⟨#[]⟩ : ByteArray), .int .i64 0, .int .i64 0, .slice none 0 0, .int .u32 0, .int .i64 0, .string (⟨#[]⟩ : ByteArray), .int .i64 0]) #[.int .i64 5, .string (⟨#[]⟩ : ByteArray), .int .i64 0, .int .i64 0, .slice none 0 0, .int .u32 0, .int .i64 0, .string (⟨#[]⟩ : ByteArray), .int .i64 0] rfl KR KR KR KR KR KR KR ?_; clear ha HW a; intro a W4384 HW ha
  refine endl ?_
  refine thenN (hK4383 _ _ ?_); clear hK4383
  refine wp_ret ?_
  refine blkR ?_
  refine thenR ?_
  obtain rfl := Option.some.inj h
  replace HW := HW.nilo 160 2
  exact finv ha _ _ rfl (.cell (ad := ⟨b4376, 0, none⟩) (v := .agg #[.int .i64 5, .string (⟨#[]⟩ : ByteArray), .int .i64 0, .int .i64 0, .slice none 0 0, .int .u32 0, .int .i64 0, .string (⟨#[]⟩ : ByteArray), .int .i64 0]) KR (run_loadVar_ca0 (HW.ca (i := 0) (b := b4376) (C := #[.int .i64 5, .string (⟨#[]⟩ : ByteArray), .int .i64 0, .int .i64 0, .slice none 0 0, .int .u32 0, .int .i64 0, .string (⟨#[]⟩ : ByteArray), .int .i64 0]) (T := 40) (fr := (0, 0)) KR) 40 0 (.agg #[.int .i64 5, .string (⟨#[]⟩ : ByteArray), .int .i64 0, .int .i64 0, .slice none 0 0, .int .u32 0, .int .i64 0, .string (⟨#[]⟩ : ByteArray), .int .i64 0]) KR) .nil) (.agg #[.int .i64 5, .string (⟨#[]⟩ : ByteArray), .int .i64 0, .int .i64 0, .slice none 0 0, .int .u32 0, .int .i64 0, .string (⟨#[]⟩ : ByteArray), .int .i64 0]) rfl ⟨none, 0, rfl, HW.pick [] [0] (by decide) (by decide) rfl KR⟩
/-! ### (*headgate/exec.Exec).Cache: function 15 -/
def exec_Exec_Cache_nil.f  : Option Unit :=
  some ()
set_option maxRecDepth 100000 in
set_option maxHeartbeats 4000000 in
theorem exec_Exec_Cache_nil.calls   (r : Unit) (w : World)  (h : exec_Exec_Cache_nil.f  = some r) :
    Calls Tryz.prog 15 #[.pointer none] w (fun e W' => e = .returned (.pointer none) ∧ Wd w W' [] [] ) := by
  refine sxstart (n := 9) (l := [(0, .pointer none)]) Tryz.func15 rfl rfl (Nat.le_of_ble_eq_true KR) (subsA_cons rfl (subsA_nil _)) ?_
  intro a ha
  have HW := Wd.refl w
  unfold exec_Exec_Cache_nil.f at h
  refine wp_seq_k (fun K4386 hK4387 => ?_)
  refine wp_region_lit ?_
  refine stepp ha 2 (.pointer none) KR KR ?_; clear ha a; intro a ha
  refine endl ?_
  refine thenN (hK4387 _ _ ?_); clear hK4387
  refine wp_seq_k (fun K4388 hK4389 => ?_)
  refine wp_seq_k (fun K4390 hK4391 => ?_)
  refine wp_region_lit ?_
  refine stepp ha 3 (.pointer none) KR KR ?_; clear ha a; intro a ha
  refine stepp ha 4 (.bool true) KR KR ?_; clear ha a; intro a ha
  refine endl ?_
  refine thenN (hK4391 _ _ ?_); clear hK4391
  refine condT ha KR KR (t := true) (rfl) ?_
  refine wp_seq_k (fun K4392 hK4393 => ?_)
  refine wp_region_lit ?_
  refine stepp ha 2 (.pointer none) KR KR ?_; clear ha a; intro a ha
  refine endl ?_
  refine thenN (hK4393 _ _ ?_); clear hK4393
  refine wp_ret ?_
  refine thenR ?_
  obtain rfl := Option.some.inj h
  exact finv ha _ _ rfl (.tmp (v := .pointer none) KR .nil) (.pointer none) rfl ⟨rfl, HW.pick [] [] (by decide) (by decide) rfl KR⟩
/-! ### headgate/headgatekeep.Regs: function 70 -/
def headgatekeep_Regs.b0 (K : Nat) (a0 : List T_api_Reg) (a1 : List T_api_Reg) (again5211 : Int → Option Bool) (x5212 : Int) : Option Bool :=
  if x5212 < (a0.length : Int) then (asrt (0 ≤ x5212) (asrt (x5212 < (a1.length : Int)) (if ((rdL T_api_Reg.z a0 x5212).f0) = ((rdL T_api_Reg.z a1 x5212).f0) then (if ((rdL T_api_Reg.z a0 x5212).f1) = ((rdL T_api_Reg.z a1 x5212).f1) then (again5211 (IntKind.wrap .i64 (x5212 + 1))) else (some false)) else (some false)))) else (some true)
def headgatekeep_Regs.l0 (K : Nat) (a0 : List T_api_Reg) (a1 : List T_api_Reg) : Nat → Int → Option Bool
  | 0, _ => none
  | k_ + 1, x5212 => headgatekeep_Regs.b0 K a0 a1 (headgatekeep_Regs.l0 K a0 a1 k_) x5212
def headgatekeep_Regs.f (K : Nat) (a0 : List T_api_Reg) (a1 : List T_api_Reg) : Option Bool :=
  if (a0.length : Int) = (a1.length : Int) then (headgatekeep_Regs.l0 K a0 a1 K 0) else (some false)
set_option maxRecDepth 100000 in
set_option maxHeartbeats 4000000 in
theorem headgatekeep_Regs.calls (K : Nat) (a0 : List T_api_Reg) (a1 : List T_api_Reg) (A0_0 : Option Addr) (c0_0 : Nat) (A1_1 : Option Addr) (c1_1 : Nat) (r : Bool) (w : World) (hr0_0 : Rd 2 w (.slice A0_0 a0.length c0_0) a0.length (encs T_api_Reg.enc a0)) (hr1_1 : Rd 2 w (.slice A1_1 a1.length c1_1) a1.length (encs T_api_Reg.enc a1)) (h : headgatekeep_Regs.f K a0 a1 = some r) :
    Calls Tryz.prog 70 #[.slice A0_0 a0.length c0_0, .slice A1_1 a1.length c1_1] w (fun e W' => e = .returned (.bool r) ∧ Wd w W' [] [] ) := by
  refine sxstart (n := 41) (l := [(0, .slice A0_0 a0.length c0_0), (1, .slice A1_1 a1.length c1_1)]) Tryz.func70 rfl rfl (Nat.le_of_ble_eq_true KR) (subsA_cons rfl (subsA_cons rfl (subsA_nil _))) ?_
  intro a ha
  have HW := Wd.refl w
  unfold headgatekeep_Regs.f at h
  refine wp_seq_k (fun K5137 hK5138 => ?_)
  refine wp_region_lit ?_
  refine stepp ha 4 (.bool false) KR KR ?_; clear ha a; intro a ha
  refine endl ?_
  refine thenN (hK5138 _ _ ?_); clear hK5138
  refine wp_seq_k (fun K5139 hK5140 => ?_)
  refine wp_seq_k (fun K5141 hK5142 => ?_)
  refine wp_region_lit ?_
  refine stepp ha 6 (.slice A0_0 a0.length c0_0) KR KR ?_; clear ha a; intro a ha
  refine stepp ha 7 (.int .i64 (a0.length : Int)) KR KR ?_; clear ha a; intro a ha
  refine stepp ha 8 (.slice A1_1 a1.length c1_1) KR KR ?_; clear ha a; intro a ha
  refine stepp ha 9 (.int .i64 (a1.length : Int)) KR KR ?_; clear ha a; intro a ha
  refine stepp ha 10 (.bool ((a0.length : Int) != (a1.length : Int))) KR KR ?_; clear ha a; intro a ha
  refine endl ?_
  refine thenN (hK5142 _ _ ?_); clear hK5142
  by_cases hp5143 : (a0.length : Int) = (a1.length : Int)
  · skip
    replace h := ite_pos' h hp5143
    refine condF ha KR KR (t := ((a0.length : Int) != (a1.length : Int))) (ineq_f hp5143) ?_
    refine wp_skip ?_
    refine thenN (hK5140 _ _ ?_); clear hK5140
    refine wp_seq_k (fun K5146 hK5147 => ?_)
    refine wp_seq_k (fun K5148 hK5149 => ?_)
    refine wp_region_lit ?_
    refine stepp ha 5 (.int .i64 0) KR KR ?_; clear ha a; intro a ha
    refine endl ?_
    refine thenN (hK5149 _ _ ?_); clear hK5149
    refine wp_block ?_
    refine loopk (fun k => fun a W5213 => ∃ (x5212 : Int), headgatekeep_Regs.l0 K a0 a1 k x5212 = some r ∧ Has 41 [(0, .slice A0_0 a0.length c0_0), (1, .slice A1_1 a1.length c1_1), (5, .int .i64 x5212)] a ∧ Wd w W5213 [] []) K ?_ ?_
    · skip
      exact ⟨0, h, ha.sub (subs_cons KR (subs_cons KR (subs_cons KR (subs_nil _)))), HW.pick [] [] (by decide) (by decide) KR KR⟩
    · skip
      intro k a W5213 hI
      obtain ⟨x5212, h, ha, HW⟩ := hI
      cases k with
      | zero => exact (none_some (show none = some r from h)).elim
      | succ k5214 =>
        replace h : headgatekeep_Regs.b0 K a0 a1 (headgatekeep_Regs.l0 K a0 a1 k5214) x5212 = some r := h
        obtain ⟨again5211, hag5215⟩ : ∃ g_, g_ = headgatekeep_Regs.l0 K a0 a1 k5214 := ⟨_, rfl⟩
        rw [← hag5215] at h
        unfold headgatekeep_Regs.b0 at h
        refine wp_seq_k (fun K5216 hK5217 => ?_)
        refine wp_seq_k (fun K5218 hK5219 => ?_)
        refine wp_region_lit ?_
        refine stepp ha 11 (.int .i64 x5212) KR KR ?_; clear ha a; intro a ha
        refine stepp ha 12 (.slice A0_0 a0.length c0_0) KR KR ?_; clear ha a; intro a ha
        refine stepp ha 13 (.int .i64 (a0.length : Int)) KR KR ?_; clear ha a; intro a ha
        refine stepp ha 14 (.bool (decide (x5212 < (a0.length : Int)))) KR KR ?_; clear ha a; intro a ha
        refine endl ?_
        refine thenN (hK5219 _ _ ?_); clear hK5219
        by_cases hp5220 : x5212 < (a0.length : Int)
        · skip
          replace h := ite_pos' h hp5220
          refine condT ha KR KR (t := decide (x5212 < (a0.length : Int))) (decide_eq_true hp5220) ?_
          refine wp_skip ?_
          refine thenN (hK5217 _ _ ?_); clear hK5217
          refine wp_seq_k (fun K5221 hK5222 => ?_)
          refine wp_block ?_
          refine wp_seq_k (fun K5223 hK5224 => ?_)
          obtain ⟨hA5225, h_⟩ := asrt_some h; clear h; have h := h_; clear h_
          obtain ⟨b5227, off5228, hA5229⟩ := Rd.addr ((HW.rd0 hr0_0)) hA5225 (show (x5212 : Int) < ((a0).length : Int) from hp5220)
          obtain ⟨hA5230, h_⟩ := asrt_some h; clear h; have h := h_; clear h_
          obtain ⟨b5232, off5233, hA5234⟩ := Rd.addr ((HW.rd0 hr1_1)) hA5225 (show (x5212 : Int) < ((a1).length : Int) from hA5230)
          by_cases hp5235 : ((rdL T_api_Reg.z a0 x5212).f0) = ((rdL T_api_Reg.z a1 x5212).f0)
          · skip
            replace h := ite_pos' h hp5235
            refine regionG 24 KR KR ha HW [.fix (.slice A0_0 a0.length c0_0), .fix (.int .i64 x5212), .fix (.pointer (some ⟨b5227, off5228 + (x5212 : Int).toNat * 2, none⟩)), .fix (.pointer (some ⟨b5227, off5228 + (x5212 : Int).toNat * 2, none⟩)), .fix (.string ((rdL T_api_Reg.z a0 x5212).f0)), .fix (.slice A1_1 a1.length c1_1), .fix (.int .i64 x5212), .fix (.pointer (some ⟨b5232, off5233 + (x5212 : Int).toNat * 2, none⟩)), .fix (.pointer (some ⟨b5232, off5233 + (x5212 : Int).toNat * 2, none⟩)), .fix (.string ((rdL T_api_Reg.z a1 x5212).f0)), .fix (.bool (!(((rdL T_api_Reg.z a0 x5212).f0).toList == ((rdL T_api_Reg.z a1 x5212).f0).toList))), .fix (.bool (!(((rdL T_api_Reg.z a0 x5212).f0).toList == ((rdL T_api_Reg.z a1 x5212).f0).toList))), .fix (.slice A0_0 a0.length c0_0), .fix (.int .i64 x5212), .fix (.pointer (some ⟨b5227, off5228 + (x5212 : Int).toNat * 2, none⟩)), .fix (.pointer (some ⟨b5227, off5228 + (x5212 : Int).toNat * 2 + 1, none⟩)), .fix (.int .u64 ((rdL T_api_Reg.z a0 x5212).f1)), .fix (.slice A1_1 a1.length c1_1), .fix (.int .i64 x5212), .fix (.pointer (some ⟨b5232, off5233 + (x5212 : Int).toNat * 2, none⟩)), .fix (.pointer (some ⟨b5232, off5233 + (x5212 : Int).toNat * 2 + 1, none⟩)), .fix (.int .u64 ((rdL T_api_Reg.z a1 x5212).f1)), .fix (.bool (((rdL T_api_Reg.z a0 x5212).f1) != ((rdL T_api_Reg.z a1 x5212).f1))), .fix (.bool (((rdL T_api_Reg.z a0 x5212).f1) != ((rdL T_api_Reg.z a1 x5212).f1)))] ?_ ?_
            · skip
              refine ⟨?_, ?_, ?_, ?_, ?_, ?_, ?_, ?_, ?_, ?_, ?_, ?_, ?_, ?_, ?_, ?_, ?_, ?_, ?_, ?_, ?_, ?_, ?_, ?_, trivial⟩
              · skip
                intro a wr hn hd HW hs; have ha := hasNil hn hd
                have ha := ha.add (seeE hs 0 (.slice A0_0 a0.length c0_0) KR KR)
                refine yStep ha 17 KR ?_; intro l_ ha HK
                refine stepp ha 17 (.slice A0_0 a0.length c0_0) KR KR ?_; intro ax hax; exact HK _ _ _ hax rfl (Below.refl _ _)
              · skip
                intro a wr hn hd HW hs; have ha := hasNil hn hd
                have ha := ha.add (seeE hs 5 (.int .i64 x5212) KR KR)
                refine yStep ha 18 KR ?_; intro l_ ha HK
                refine stepp ha 18 (.int .i64 x5212) KR KR ?_; intro ax hax; exact HK _ _ _ hax rfl (Below.refl _ _)
              · skip
                intro a wr hn hd HW hs; have ha := hasNil hn hd
                have ha := ha.add (seeF hs 17 0 (.slice A0_0 a0.length c0_0) KR KR)
                have ha := ha.add (seeF hs 18 1 (.int .i64 x5212) KR KR)
                replace ha := ha.turn 17 (u := .slice A0_0 a0.length c0_0) (v := .slice (some ⟨b5227, off5228, none⟩) a0.length c0_0) KR (by rw [hA5229])
                refine yStep ha 19 KR ?_; intro l_ ha HK
                refine stepif ha 19 (sz := 2) (len := a0.length) (b := b5227) (off := off5228) (c := c0_0) 35 160 (.tmp 17) (.tmp 18) .i64 x5212 rfl KR KR KR KR hA5225 (show (x5212 : Int) < ((a0).length : Int) from hp5220) KR ?_; intro ax hax; exact HK _ _ _ hax rfl (Below.refl _ _)
              · skip
                intro a wr hn hd HW hs; have ha := hasNil hn hd
                have ha := ha.add (seeF hs 19 2 (.pointer (some ⟨b5227, off5228 + (x5212 : Int).toNat * 2, none⟩)) KR KR)
                refine yStep ha 20 KR ?_; intro l_ ha HK
                refine stepp ha 20 (.pointer (some ⟨b5227, off5228 + (x5212 : Int).toNat * 2, none⟩)) KR KR ?_; intro ax hax; exact HK _ _ _ hax rfl (Below.refl _ _)
              · skip
                intro a wr hn hd HW hs; have ha := hasNil hn hd
                have ha := ha.add (seeF hs 20 3 (.pointer (some ⟨b5227, off5228 + (x5212 : Int).toNat * 2, none⟩)) KR KR)
                refine yStep ha 21 KR ?_; intro l_ ha HK
                refine stepl ha 21 (Rd.ca T_api_Reg.enc T_api_Reg.z (fun _ => rfl) (by have h_ := ((HW.rd0 hr0_0)); rw [hA5229] at h_; exact h_) hA5225 (show (x5212 : Int) < ((a0).length : Int) from hp5220)) 9 0 (.tmp 20) (.string ((rdL T_api_Reg.z a0 x5212).f0)) rfl KR KR KR ?_; intro ax hax; exact HK _ _ _ hax rfl (Below.refl _ _)
              · skip
                intro a wr hn hd HW hs; have ha := hasNil hn hd
                have ha := ha.add (seeE hs 1 (.slice A1_1 a1.length c1_1) KR KR)
                refine yStep ha 22 KR ?_; intro l_ ha HK
                refine stepp ha 22 (.slice A1_1 a1.length c1_1) KR KR ?_; intro ax hax; exact HK _ _ _ hax rfl (Below.refl _ _)
              · skip
                intro a wr hn hd HW hs; have ha := hasNil hn hd
                have ha := ha.add (seeE hs 5 (.int .i64 x5212) KR KR)
                refine yStep ha 23 KR ?_; intro l_ ha HK
                refine stepp ha 23 (.int .i64 x5212) KR KR ?_; intro ax hax; exact HK _ _ _ hax rfl (Below.refl _ _)
              · skip
                intro a wr hn hd HW hs; have ha := hasNil hn hd
                have ha := ha.add (seeF hs 22 5 (.slice A1_1 a1.length c1_1) KR KR)
                have ha := ha.add (seeF hs 23 6 (.int .i64 x5212) KR KR)
                replace ha := ha.turn 22 (u := .slice A1_1 a1.length c1_1) (v := .slice (some ⟨b5232, off5233, none⟩) a1.length c1_1) KR (by rw [hA5234])
                refine yStep ha 24 KR ?_; intro l_ ha HK
                refine stepif ha 24 (sz := 2) (len := a1.length) (b := b5232) (off := off5233) (c := c1_1) 35 160 (.tmp 22) (.tmp 23) .i64 x5212 rfl KR KR KR KR hA5225 (show (x5212 : Int) < ((a1).length : Int) from hA5230) KR ?_; intro ax hax; exact HK _ _ _ hax rfl (Below.refl _ _)
              · skip
                intro a wr hn hd HW hs; have ha := hasNil hn hd
                have ha := ha.add (seeF hs 24 7 (.pointer (some ⟨b5232, off5233 + (x5212 : Int).toNat * 2, none⟩)) KR KR)
                refine yStep ha 25 KR ?_; intro l_ ha HK
                refine stepp ha 25 (.pointer (some ⟨b5232, off5233 + (x5212 : Int).toNat * 2, none⟩)) KR KR ?_; intro ax hax; exact HK _ _ _ hax rfl (Below.refl _ _)
              · skip
                intro a wr hn hd HW hs; have ha := hasNil hn hd
                have ha := ha.add (seeF hs 25 8 (.pointer (some ⟨b5232, off5233 + (x5212 : Int).toNat * 2, none⟩)) KR KR)
                refine yStep ha 26 KR ?_; intro l_ ha HK
                refine stepl ha 26 (Rd.ca T_api_Reg.enc T_api_Reg.z (fun _ => rfl) (by have h_ := ((HW.rd0 hr1_1)); rw [hA5234] at h_; exact h_) hA5225 (show (x5212 : Int) < ((a1).length : Int) from hA5230)) 9 0 (.tmp 25) (.string ((rdL T_api_Reg.z a1 x5212).f0)) rfl KR KR KR ?_; intro ax hax; exact HK _ _ _ hax rfl (Below.refl _ _)
              · skip
                intro a wr hn hd HW hs; have ha := hasNil hn hd
                have ha := ha.add (seeF hs 21 4 (.string ((rdL T_api_Reg.z a0 x5212).f0)) KR KR)
                have ha := ha.add (seeF hs 26 9 (.string ((rdL T_api_Reg.z a1 x5212).f0)) KR KR)
                refine yStep ha 27 KR ?_; intro l_ ha HK
                refine stepp ha 27 (.bool (!(((rdL T_api_Reg.z a0 x5212).f0).toList == ((rdL T_api_Reg.z a1 x5212).f0).toList))) KR KR ?_; intro ax hax; exact HK _ _ _ hax rfl (Below.refl _ _)
              · skip
                intro a wr hn hd HW hs; have ha := hasNil hn hd
                have ha := ha.add (seeF hs 27 10 (.bool (!(((rdL T_api_Reg.z a0 x5212).f0).toList == ((rdL T_api_Reg.z a1 x5212).f0).toList))) KR KR)
                refine yStep ha 28 KR ?_; intro l_ ha HK
                refine stepp ha 28 (.bool (!(((rdL T_api_Reg.z a0 x5212).f0).toList == ((rdL T_api_Reg.z a1 x5212).f0).toList))) KR KR ?_; intro ax hax; exact HK _ _ _ hax rfl (Below.refl _ _)
              · skip
                intro a wr hn hd HW hs; have ha := hasNil hn hd
                have ha := ha.add (seeE hs 0 (.slice A0_0 a0.length c0_0) KR KR)
                have ha := ha.add (seeF hs 28 11 (.bool (!(((rdL T_api_Reg.z a0 x5212).f0).toList == ((rdL T_api_Reg.z a1 x5212).f0).toList))) KR KR)
                have ha := ha.bool 28 KR (str_ne_f hp5235)
                refine yStep ha 29 KR ?_; intro l_ ha HK
                refine stepp ha 29 (.slice A0_0 a0.length c0_0) KR KR ?_; intro ax hax; exact HK _ _ _ hax rfl (Below.refl _ _)
              · skip
                intro a wr hn hd HW hs; have ha := hasNil hn hd
                have ha := ha.add (seeE hs 5 (.int .i64 x5212) KR KR)
                have ha := ha.add (seeF hs 28 11 (.bool (!(((rdL T_api_Reg.z a0 x5212).f0).toList == ((rdL T_api_Reg.z a1 x5212).f0).toList))) KR KR)
                have ha := ha.bool 28 KR (str_ne_f hp5235)
                refine yStep ha 30 KR ?_; intro l_ ha HK
                refine stepp ha 30 (.int .i64 x5212) KR KR ?_; intro ax hax; exact HK _ _ _ hax rfl (Below.refl _ _)
              · skip
                intro a wr hn hd HW hs; have ha := hasNil hn hd
                have ha := ha.add (seeF hs 29 12 (.slice A0_0 a0.length c0_0) KR KR)
                have ha := ha.add (seeF hs 30 13 (.int .i64 x5212) KR KR)
                have ha := ha.add (seeF hs 28 11 (.bool (!(((rdL T_api_Reg.z a0 x5212).f0).toList == ((rdL T_api_Reg.z a1 x5212).f0).toList))) KR KR)
                have ha := ha.bool 28 KR (str_ne_f hp5235)
                replace ha := ha.turn 29 (u := .slice A0_0 a0.length c0_0) (v := .slice (some ⟨b5227, off5228, none⟩) a0.length c0_0) KR (by rw [hA5229])
                refine yStep ha 31 KR ?_; intro l_ ha HK
                refine stepif ha 31 (sz := 2) (len := a0.length) (b := b5227) (off := off5228) (c := c0_0) 35 160 (.tmp 29) (.tmp 30) .i64 x5212 rfl KR KR KR KR hA5225 (show (x5212 : Int) < ((a0).length : Int) from hp5220) KR ?_; intro ax hax; exact HK _ _ _ hax rfl (Below.refl _ _)
              · skip
                intro a wr hn hd HW hs; have ha := hasNil hn hd
                have ha := ha.add (seeF hs 31 14 (.pointer (some ⟨b5227, off5228 + (x5212 : Int).toNat * 2, none⟩)) KR KR)
                have ha := ha.add (seeF hs 28 11 (.bool (!(((rdL T_api_Reg.z a0 x5212).f0).toList == ((rdL T_api_Reg.z a1 x5212).f0).toList))) KR KR)
                have ha := ha.bool 28 KR (str_ne_f hp5235)
                refine yStep ha 32 KR ?_; intro l_ ha HK
                refine stepp ha 32 (.pointer (some ⟨b5227, off5228 + (x5212 : Int).toNat * 2 + 1, none⟩)) KR KR ?_; intro ax hax; exact HK _ _ _ hax rfl (Below.refl _ _)
              · skip
                intro a wr hn hd HW hs; have ha := hasNil hn hd
                have ha := ha.add (seeF hs 32 15 (.pointer (some ⟨b5227, off5228 + (x5212 : Int).toNat * 2 + 1, none⟩)) KR KR)
                have ha := ha.add (seeF hs 28 11 (.bool (!(((rdL T_api_Reg.z a0 x5212).f0).toList == ((rdL T_api_Reg.z a1 x5212).f0).toList))) KR KR)
                have ha := ha.bool 28 KR (str_ne_f hp5235)
                refine yStep ha 33 KR ?_; intro l_ ha HK
                refine stepl ha 33 (Rd.ca T_api_Reg.enc T_api_Reg.z (fun _ => rfl) (by have h_ := ((HW.rd0 hr0_0)); rw [hA5229] at h_; exact h_) hA5225 (show (x5212 : Int) < ((a0).length : Int) from hp5220)) 31 1 (.tmp 32) (.int .u64 ((rdL T_api_Reg.z a0 x5212).f1)) rfl KR KR KR ?_; intro ax hax; exact HK _ _ _ hax rfl (Below.refl _ _)
              · skip
                intro a wr hn hd HW hs; have ha := hasNil hn hd
                have ha := ha.add (seeE hs 1 (.slice A1_1 a1.length c1_1) KR KR)
                have ha := ha.add (seeF hs 28 11 (.bool (!(((rdL T_api_Reg.z a0 x5212).f0).toList == ((rdL T_api_Reg.z a1 x5212).f0).toList))) KR KR)
                have ha := ha.bool 28 KR (str_ne_f hp5235)
                refine yStep ha 34 KR ?_; intro l_ ha HK
                refine stepp ha 34 (.slice A1_1 a1.length c1_1) KR KR ?_; intro ax hax; exact HK _ _ _ hax rfl (Below.refl _ _)
              · skip
                intro a wr hn hd HW hs; have ha := hasNil hn hd
                have ha := ha.add (seeE hs 5 (.int .i64 x5212) KR KR)
                have ha := ha.add (seeF hs 28 11 (.bool (!(((rdL T_api_Reg.z a0 x5212).f0).toList == ((rdL T_api_Reg.z a1 x5212).f0).toList))) KR KR)
                have ha := ha.bool 28 KR (str_ne_f hp5235)
                refine yStep ha 35 KR ?_; intro l_ ha HK
                refine stepp ha 35 (.int .i64 x5212) KR KR ?_; intro ax hax; exact HK _ _ _ hax rfl (Below.refl _ _)
              · skip
                intro a wr hn hd HW hs; have ha := hasNil hn hd
                have ha := ha.add (seeF hs 34 17 (.slice A1_1 a1.length c1_1) KR KR)
                have ha := ha.add (seeF hs 35 18 (.int .i64 x5212) KR KR)
                have ha := ha.add (seeF hs 28 11 (.bool (!(((rdL T_api_Reg.z a0 x5212).f0).toList == ((rdL T_api_Reg.z a1 x5212).f0).toList))) KR KR)
                have ha := ha.bool 28 KR (str_ne_f hp5235)
                replace ha := ha.turn 34 (u := .slice A1_1 a1.length c1_1) (v := .slice (some ⟨b5232, off5233, none⟩) a1.length c1_1) KR (by rw [hA5234])
                refine yStep ha 36 KR ?_; intro l_ ha HK
                refine stepif ha 36 (sz := 2) (len := a1.length) (b := b5232) (off := off5233) (c := c1_1) 35 160 (.tmp 34) (.tmp 35) .i64 x5212 rfl KR KR KR KR hA5225 (show (x5212 : Int) < ((a1).length : Int) from hA5230) KR ?_; intro ax hax; exact HK _ _ _ hax rfl (Below.refl _ _)
              · skip
                intro a wr hn hd HW hs; have ha := hasNil hn hd
                have ha := ha.add (seeF hs 36 19 (.pointer (some ⟨b5232, off5233 + (x5212 : Int).toNat * 2, none⟩)) KR KR)
                have ha := ha.add (seeF hs 28 11 (.bool (!(((rdL T_api_Reg.z a0 x5212).f0).toList == ((rdL T_api_Reg.z a1 x5212).f0).toList))) KR KR)
                have ha := ha.bool 28 KR (str_ne_f hp5235)
                refine yStep ha 37 KR ?_; intro l_ ha HK
                refine stepp ha 37 (.pointer (some ⟨b5232, off5233 + (x5212 : Int).toNat * 2 + 1, none⟩)) KR KR ?_; intro ax hax; exact HK _ _ _ hax rfl (Below.refl _ _)
              · skip
                intro a wr hn hd HW hs; have ha := hasNil hn hd
                have ha := ha.add (seeF hs 37 20 (.pointer (some ⟨b5232, off5233 + (x5212 : Int).toNat * 2 + 1, none⟩)) KR KR)
                have ha := ha.add (seeF hs 28 11 (.bool (!(((rdL T_api_Reg.z a0 x5212).f0).toList == ((rdL T_api_Reg.z a1 x5212).f0).toList))) KR KR)
                have ha := ha.bool 28 KR (str_ne_f hp5235)
                refine yStep ha 38 KR ?_; intro l_ ha HK
                refine stepl ha 38 (Rd.ca T_api_Reg.enc T_api_Reg.z (fun _ => rfl) (by have h_ := ((HW.rd0 hr1_1)); rw [hA5234] at h_; exact h_) hA5225 (show (x5212 : Int) < ((a1).length : Int) from hA5230)) 31 1 (.tmp 37) (.int .u64 ((rdL T_api_Reg.z a1 x5212).f1)) rfl KR KR KR ?_; intro ax hax; exact HK _ _ _ hax rfl (Below.refl _ _)
              · skip
                intro a wr hn hd HW hs; have ha := hasNil hn hd
                have ha := ha.add (seeF hs 33 16 (.int .u64 ((rdL T_api_Reg.z a0 x5212).f1)) KR KR)
                have ha := ha.add (seeF hs 38 21 (.int .u64 ((rdL T_api_Reg.z a1 x5212).f1)) KR KR)
                have ha := ha.add (seeF hs 28 11 (.bool (!(((rdL T_api_Reg.z a0 x5212).f0).toList == ((rdL T_api_Reg.z a1 x5212).f0).toList))) KR KR)
                have ha := ha.bool 28 KR (str_ne_f hp5235)
                refine yStep ha 39 KR ?_; intro l_ ha HK
                refine stepp ha 39 (.bool (((rdL T_api_Reg.z a0 x5212).f1) != ((rdL T_api_Reg.z a1 x5212).f1))) KR KR ?_; intro ax hax; exact HK _ _ _ hax rfl (Below.refl _ _)
              · skip
                intro a wr hn hd HW hs; have ha := hasNil hn hd
                have ha := ha.add (seeF hs 28 11 (.bool (!(((rdL T_api_Reg.z a0 x5212).f0).toList == ((rdL T_api_Reg.z a1 x5212).f0).toList))) KR KR)
                have ha := ha.bool 28 KR (str_ne_f hp5235)
                have ha := ha.add (seeF hs 39 22 (.bool (((rdL T_api_Reg.z a0 x5212).f1) != ((rdL T_api_Reg.z a1 x5212).f1))) KR KR)
                refine yStep ha 40 KR ?_; intro l_ ha HK
                refine stepp ha 40 (.bool (((rdL T_api_Reg.z a0 x5212).f1) != ((rdL T_api_Reg.z a1 x5212).f1))) KR KR ?_; intro ax hax; exact HK _ _ _ hax rfl (Below.refl _ _)
            · skip
              intro a W5238 ha HW he hf
              replace ha := ha.add (he 0 (.slice A0_0 a0.length c0_0) KR KR)
              replace ha := ha.add (he 1 (.slice A1_1 a1.length c1_1) KR KR)
              replace ha := ha.add (he 5 (.int .i64 x5212) KR KR)
              replace ha := ha.add (gotF (m := 24) (j := 12) (d := 29) (v := .slice A0_0 a0.length c0_0) hf KR KR KR)
              replace ha := ha.add (gotF (m := 24) (j := 13) (d := 30) (v := .int .i64 x5212) hf KR KR KR)
              replace ha := ha.add (gotF (m := 24) (j := 16) (d := 33) (v := .int .u64 ((rdL T_api_Reg.z a0 x5212).f1)) hf KR KR KR)
              replace ha := ha.add (gotF (m := 24) (j := 17) (d := 34) (v := .slice A1_1 a1.length c1_1) hf KR KR KR)
              replace ha := ha.add (gotF (m := 24) (j := 18) (d := 35) (v := .int .i64 x5212) hf KR KR KR)
              replace ha := ha.add (gotF (m := 24) (j := 21) (d := 38) (v := .int .u64 ((rdL T_api_Reg.z a1 x5212).f1)) hf KR KR KR)
              replace ha := ha.add (gotF (m := 24) (j := 22) (d := 39) (v := .bool (((rdL T_api_Reg.z a0 x5212).f1) != ((rdL T_api_Reg.z a1 x5212).f1))) hf KR KR KR)
              replace ha := ha.add (gotF (m := 24) (j := 23) (d := 40) (v := .bool (((rdL T_api_Reg.z a0 x5212).f1) != ((rdL T_api_Reg.z a1 x5212).f1))) hf KR KR KR)
              clear he hf
              refine endl ?_
              refine thenN (hK5224 _ _ ?_); clear hK5224
              by_cases hp5240 : ((rdL T_api_Reg.z a0 x5212).f1) = ((rdL T_api_Reg.z a1 x5212).f1)
              · skip
                replace h := ite_pos' h hp5240
                refine condF ha KR KR (t := (((rdL T_api_Reg.z a0 x5212).f1) != ((rdL T_api_Reg.z a1 x5212).f1))) (ineq_f hp5240) ?_
                refine wp_skip ?_
                refine blkN ?_
                refine thenN (hK5222 _ _ ?_); clear hK5222
                refine wp_region_lit ?_
                refine stepp ha 15 (.int .i64 x5212) KR KR ?_; clear ha a; intro a ha
                refine stepp ha 16 (.int .i64 (IntKind.wrap .i64 (x5212 + 1))) KR KR ?_; clear ha a; intro a ha
                refine stepp ha 5 (.int .i64 (IntKind.wrap .i64 (x5212 + 1))) KR KR ?_; clear ha a; intro a ha
                refine endl ?_
                exact thenN ⟨k5214, Nat.lt_succ_self k5214, IntKind.wrap .i64 (x5212 + 1), (by rw [← hag5215]; exact h), ha.sub (subs_cons KR (subs_cons KR (subs_cons KR (subs_nil _)))), HW.pick [] [] (by decide) (by decide) KR KR⟩
              · skip
                replace h := ite_neg' h hp5240
                refine condT ha KR KR (t := (((rdL T_api_Reg.z a0 x5212).f1) != ((rdL T_api_Reg.z a1 x5212).f1))) (ineq_t hp5240) ?_
                refine wp_seq_k (fun K5241 hK5242 => ?_)
                refine wp_region_lit ?_
                refine stepp ha 4 (.bool false) KR KR ?_; clear ha a; intro a ha
                refine endl ?_
                refine thenN (hK5242 _ _ ?_); clear hK5242
                refine wp_ret ?_
                refine blkR ?_
                refine thenR ?_
                refine thenR ?_
                refine blkR ?_
                refine thenR ?_
                obtain rfl := Option.some.inj h
                exact finv ha _ _ rfl (.tmp (v := .bool false) KR .nil) (.bool false) rfl ⟨rfl, HW.pick [] [] (by decide) (by decide) rfl KR⟩
          · skip
            replace h := ite_neg' h hp5235
            refine regionG 24 KR KR ha HW [.fix (.slice A0_0 a0.length c0_0), .fix (.int .i64 x5212), .fix (.pointer (some ⟨b5227, off5228 + (x5212 : Int).toNat * 2, none⟩)), .fix (.pointer (some ⟨b5227, off5228 + (x5212 : Int).toNat * 2, none⟩)), .fix (.string ((rdL T_api_Reg.z a0 x5212).f0)), .fix (.slice A1_1 a1.length c1_1), .fix (.int .i64 x5212), .fix (.pointer (some ⟨b5232, off5233 + (x5212 : Int).toNat * 2, none⟩)), .fix (.pointer (some ⟨b5232, off5233 + (x5212 : Int).toNat * 2, none⟩)), .fix (.string ((rdL T_api_Reg.z a1 x5212).f0)), .fix (.bool (!(((rdL T_api_Reg.z a0 x5212).f0).toList == ((rdL T_api_Reg.z a1 x5212).f0).toList))), .fix (.bool (!(((rdL T_api_Reg.z a0 x5212).f0).toList == ((rdL T_api_Reg.z a1 x5212).f0).toList))), .fix undef, .fix undef, .fix undef, .fix undef, .fix undef, .fix undef, .fix undef, .fix undef, .fix undef, .fix undef, .fix undef, .fix (.bool true)] ?_ ?_
            · skip
              refine ⟨?_, ?_, ?_, ?_, ?_, ?_, ?_, ?_, ?_, ?_, ?_, ?_, ?_, ?_, ?_, ?_, ?_, ?_, ?_, ?_, ?_, ?_, ?_, ?_, trivial⟩
              · skip
                intro a wr hn hd HW hs; have ha := hasNil hn hd
                have ha := ha.add (seeE hs 0 (.slice A0_0 a0.length c0_0) KR KR)
                refine yStep ha 17 KR ?_; intro l_ ha HK
                refine stepp ha 17 (.slice A0_0 a0.length c0_0) KR KR ?_; intro ax hax; exact HK _ _ _ hax rfl (Below.refl _ _)
              · skip
                intro a wr hn hd HW hs; have ha := hasNil hn hd
                have ha := ha.add (seeE hs 5 (.int .i64 x5212) KR KR)
                refine yStep ha 18 KR ?_; intro l_ ha HK
                refine stepp ha 18 (.int .i64 x5212) KR KR ?_; intro ax hax; exact HK _ _ _ hax rfl (Below.refl _ _)
              · skip
                intro a wr hn hd HW hs; have ha := hasNil hn hd
                have ha := ha.add (seeF hs 17 0 (.slice A0_0 a0.length c0_0) KR KR)
                have ha := ha.add (seeF hs 18 1 (.int .i64 x5212) KR KR)
                replace ha := ha.turn 17 (u := .slice A0_0 a0.length c0_0) (v := .slice (some ⟨b5227, off5228, none⟩) a0.length c0_0) KR (by rw [hA5229])
                refine yStep ha 19 KR ?_; intro l_ ha HK
                refine stepif ha 19 (sz := 2) (len := a0.length) (b := b5227) (off := off5228) (c := c0_0) 35 160 (.tmp 17) (.tmp 18) .i64 x5212 rfl KR KR KR KR hA5225 (show (x5212 : Int) < ((a0).length : Int) from hp5220) KR ?_; intro ax hax; exact HK _ _ _ hax rfl (Below.refl _ _)
              · skip
                intro a wr hn hd HW hs; have ha := hasNil hn hd
                have ha := ha.add (seeF hs 19 2 (.pointer (some ⟨b5227, off5228 + (x5212 : Int).toNat * 2, none⟩)) KR KR)
                refine yStep ha 20 KR ?_; intro l_ ha HK
                refine stepp ha 20 (.pointer (some ⟨b5227, off5228 + (x5212 : Int).toNat * 2, none⟩)) KR KR ?_; intro ax hax; exact HK _ _ _ hax rfl (Below.refl _ _)
              · skip
                intro a wr hn hd HW hs; have ha := hasNil hn hd
                have ha := ha.add (seeF hs 20 3 (.pointer (some ⟨b5227, off5228 + (x5212 : Int).toNat * 2, none⟩)) KR KR)
                refine yStep ha 21 KR ?_; intro l_ ha HK
                refine stepl ha 21 (Rd.ca T_api_Reg.enc T_api_Reg.z (fun _ => rfl) (by have h_ := ((HW.rd0 hr0_0)); rw [hA5229] at h_; exact h_) hA5225 (show (x5212 : Int) < ((a0).length : Int) from hp5220)) 9 0 (.tmp 20) (.string ((rdL T_api_Reg.z a0 x5212).f0)) rfl KR KR KR ?_; intro ax hax; exact HK _ _ _ hax rfl (Below.refl _ _)
              · skip
                intro a wr hn hd HW hs; have ha := hasNil hn hd
                have ha := ha.add (seeE hs 1 (.slice A1_1 a1.length c1_1) KR KR)
                refine yStep ha 22 KR ?_; intro l_ ha HK
                refine stepp ha 22 (.slice A1_1 a1.length c1_1) KR KR ?_; intro ax hax; exact HK _ _ _ hax rfl (Below.refl _ _)
              · skip
                intro a wr hn hd HW hs; have ha := hasNil hn hd
                have ha := ha.add (seeE hs 5 (.int .i64 x5212) KR KR)
                refine yStep ha 23 KR ?_; intro l_ ha HK
                refine stepp ha 23 (.int .i64 x5212) KR KR ?_; intro ax hax; exact HK _ _ _ hax rfl (Below.refl _ _)
              · skip
                intro a wr hn hd HW hs; have ha := hasNil hn hd
                have ha := ha.add (seeF hs 22 5 (.slice A1_1 a1.length c1_1) KR KR)
                have ha := ha.add (seeF hs 23 6 (.int .i64 x5212) KR KR)
                replace ha := ha.turn 22 (u := .slice A1_1 a1.length c1_1) (v := .slice (some ⟨b5232, off5233, none⟩) a1.length c1_1) KR (by rw [hA5234])
                refine yStep ha 24 KR ?_; intro l_ ha HK
                refine stepif ha 24 (sz := 2) (len := a1.length) (b := b5232) (off := off5233) (c := c1_1) 35 160 (.tmp 22) (.tmp 23) .i64 x5212 rfl KR KR KR KR hA5225 (show (x5212 : Int) < ((a1).length : Int) from hA5230) KR ?_; intro ax hax; exact HK _ _ _ hax rfl (Below.refl _ _)
              · skip
                intro a wr hn hd HW hs; have ha := hasNil hn hd
                have ha := ha.add (seeF hs 24 7 (.pointer (some ⟨b5232, off5233 + (x5212 : Int).toNat * 2, none⟩)) KR KR)
                refine yStep ha 25 KR ?_; intro l_ ha HK
                refine stepp ha 25 (.pointer (some ⟨b5232, off5233 + (x5212 : Int).toNat * 2, none⟩)) KR KR ?_; intro ax hax; exact HK _ _ _ hax rfl (Below.refl _ _)
              · skip
                intro a wr hn hd HW hs; have ha := hasNil hn hd
                have ha := ha.add (seeF hs 25 8 (.pointer (some ⟨b5232, off5233 + (x5212 : Int).toNat * 2, none⟩)) KR KR)
                refine yStep ha 26 KR ?_; intro l_ ha HK
                refine stepl ha 26 (Rd.ca T_api_Reg.enc T_api_Reg.z (fun _ => rfl) (by have h_ := ((HW.rd0 hr1_1)); rw [hA5234] at h_; exact h_) hA5225 (show (x5212 : Int) < ((a1).length : Int) from hA5230)) 9 0 (.tmp 25) (.string ((rdL T_api_Reg.z a1 x5212).f0)) rfl KR KR KR ?_; intro ax hax; exact HK _ _ _ hax rfl (Below.refl _ _)
              · skip
                intro a wr hn hd HW hs; have ha := hasNil hn hd
                have ha := ha.add (seeF hs 21 4 (.string ((rdL T_api_Reg.z a0 x5212).f0)) KR KR)
                have ha := ha.add (seeF hs 26 9 (.string ((rdL T_api_Reg.z a1 x5212).f0)) KR KR)
                refine yStep ha 27 KR ?_; intro l_ ha HK
                refine stepp ha 27 (.bool (!(((rdL T_api_Reg.z a0 x5212).f0).toList == ((rdL T_api_Reg.z a1 x5212).f0).toList))) KR KR ?_; intro ax hax; exact HK _ _ _ hax rfl (Below.refl _ _)
              · skip
                intro a wr hn hd HW hs; have ha := hasNil hn hd
                have ha := ha.add (seeF hs 27 10 (.bool (!(((rdL T_api_Reg.z a0 x5212).f0).toList == ((rdL T_api_Reg.z a1 x5212).f0).toList))) KR KR)
                refine yStep ha 28 KR ?_; intro l_ ha HK
                refine stepp ha 28 (.bool (!(((rdL T_api_Reg.z a0 x5212).f0).toList == ((rdL T_api_Reg.z a1 x5212).f0).toList))) KR KR ?_; intro ax hax; exact HK _ _ _ hax rfl (Below.refl _ _)
              · skip
                intro a wr hn hd HW hs; have ha := hasNil hn hd
                have ha := ha.add (seeE hs 0 (.slice A0_0 a0.length c0_0) KR KR)
                have ha := ha.add (seeF hs 28 11 (.bool (!(((rdL T_api_Reg.z a0 x5212).f0).toList == ((rdL T_api_Reg.z a1 x5212).f0).toList))) KR KR)
                have ha := ha.bool 28 KR (str_ne_t hp5235)
                exact yo ha KR rfl
              · skip
                intro a wr hn hd HW hs; have ha := hasNil hn hd
                have ha := ha.add (seeE hs 5 (.int .i64 x5212) KR KR)
                have ha := ha.add (seeF hs 28 11 (.bool (!(((rdL T_api_Reg.z a0 x5212).f0).toList == ((rdL T_api_Reg.z a1 x5212).f0).toList))) KR KR)
                have ha := ha.bool 28 KR (str_ne_t hp5235)
                exact yo ha KR rfl
              · skip
                intro a wr hn hd HW hs; have ha := hasNil hn hd
                have ha := ha.add (seeF hs 29 12 (undef) KR KR)
                have ha := ha.add (seeF hs 30 13 (undef) KR KR)
                have ha := ha.add (seeF hs 28 11 (.bool (!(((rdL T_api_Reg.z a0 x5212).f0).toList == ((rdL T_api_Reg.z a1 x5212).f0).toList))) KR KR)
                have ha := ha.bool 28 KR (str_ne_t hp5235)
                exact yo ha KR rfl
              · skip
                intro a wr hn hd HW hs; have ha := hasNil hn hd
                have ha := ha.add (seeF hs 31 14 (undef) KR KR)
                have ha := ha.add (seeF hs 28 11 (.bool (!(((rdL T_api_Reg.z a0 x5212).f0).toList == ((rdL T_api_Reg.z a1 x5212).f0).toList))) KR KR)
                have ha := ha.bool 28 KR (str_ne_t hp5235)
                exact yo ha KR rfl
              · skip
                intro a wr hn hd HW hs; have ha := hasNil hn hd
                have ha := ha.add (seeF hs 32 15 (undef) KR KR)
                have ha := ha.add (seeF hs 28 11 (.bool (!(((rdL T_api_Reg.z a0 x5212).f0).toList == ((rdL T_api_Reg.z a1 x5212).f0).toList))) KR KR)
                have ha := ha.bool 28 KR (str_ne_t hp5235)
                exact yo ha KR rfl
              · skip
                intro a wr hn hd HW hs; have ha := hasNil hn hd
                have ha := ha.add (seeE hs 1 (.slice A1_1 a1.length c1_1) KR KR)
                have ha := ha.add (seeF hs 28 11 (.bool (!(((rdL T_api_Reg.z a0 x5212).f0).toList == ((rdL T_api_Reg.z a1 x5212).f0).toList))) KR KR)
                have ha := ha.bool 28 KR (str_ne_t hp5235)
                exact yo ha KR rfl
              · skip
                intro a wr hn hd HW hs; have ha := hasNil hn hd
                have ha := ha.add (seeE hs 5 (.int .i64 x5212) KR KR)
                have ha := ha.add (seeF hs 28 11 (.bool (!(((rdL T_api_Reg.z a0 x5212).f0).toList == ((rdL T_api_Reg.z a1 x5212).f0).toList))) KR KR)
                have ha := ha.bool 28 KR (str_ne_t hp5235)
                exact yo ha KR rfl
              · skip
                intro a wr hn hd HW hs; have ha := hasNil hn hd
                have ha := ha.add (seeF hs 34 17 (undef) KR KR)
                have ha := ha.add (seeF hs 35 18 (undef) KR KR)
                have ha := ha.add (seeF hs 28 11 (.bool (!(((rdL T_api_Reg.z a0 x5212).f0).toList == ((rdL T_api_Reg.z a1 x5212).f0).toList))) KR KR)
                have ha := ha.bool 28 KR (str_ne_t hp5235)
                exact yo ha KR rfl
              · skip
                intro a wr hn hd HW hs; have ha := hasNil hn hd
                have ha := ha.add (seeF hs 36 19 (undef) KR KR)
                have ha := ha.add (seeF hs 28 11 (.bool (!(((rdL T_api_Reg.z a0 x5212).f0).toList == ((rdL T_api_Reg.z a1 x5212).f0).toList))) KR KR)
                have ha := ha.bool 28 KR (str_ne_t hp5235)
                exact yo ha KR rfl
              · skip
                intro a wr hn hd HW hs; have ha := hasNil hn hd
                have ha := ha.add (seeF hs 37 20 (undef) KR KR)
                have ha := ha.add (seeF hs 28 11 (.bool (!(((rdL T_api_Reg.z a0 x5212).f0).toList == ((rdL T_api_Reg.z a1 x5212).f0).toList))) KR KR)
                have ha := ha.bool 28 KR (str_ne_t hp5235)
                exact yo ha KR rfl
              · skip
                intro a wr hn hd HW hs; have ha := hasNil hn hd
                have ha := ha.add (seeF hs 33 16 (undef) KR KR)
                have ha := ha.add (seeF hs 38 21 (undef) KR KR)
                have ha := ha.add (seeF hs 28 11 (.bool (!(((rdL T_api_Reg.z a0 x5212).f0).toList == ((rdL T_api_Reg.z a1 x5212).f0).toList))) KR KR)
                have ha := ha.bool 28 KR (str_ne_t hp5235)
                exact yo ha KR rfl
              · skip
                intro a wr hn hd HW hs; have ha := hasNil hn hd
                have ha := ha.add (seeF hs 28 11 (.bool (!(((rdL T_api_Reg.z a0 x5212).f0).toList == ((rdL T_api_Reg.z a1 x5212).f0).toList))) KR KR)
                have ha := ha.bool 28 KR (str_ne_t hp5235)
                have ha := ha.add (seeF hs 39 22 (undef) KR KR)
                refine yStep ha 40 KR ?_; intro l_ ha HK
                refine stepp ha 40 (.bool true) KR KR ?_; intro ax hax; exact HK _ _ _ hax rfl (Below.refl _ _)
            · skip
              intro a W5239 ha HW he hf
              replace ha := ha.add (he 0 (.slice A0_0 a0.length c0_0) KR KR)
              replace ha := ha.add (he 1 (.slice A1_1 a1.length c1_1) KR KR)
              replace ha := ha.add (he 5 (.int .i64 x5212) KR KR)
              replace ha := ha.add (gotF (m := 24) (j := 23) (d := 40) (v := .bool true) hf KR KR KR)
              clear he hf
              refine endl ?_
              refine thenN (hK5224 _ _ ?_); clear hK5224
              refine condT ha KR KR (t := true) (rfl) ?_
              refine wp_seq_k (fun K5243 hK5244 => ?_)
              refine wp_region_lit ?_
              refine stepp ha 4 (.bool false) KR KR ?_; clear ha a; intro a ha
              refine endl ?_
              refine thenN (hK5244 _ _ ?_); clear hK5244
              refine wp_ret ?_
              refine blkR ?_
              refine thenR ?_
              refine thenR ?_
              refine blkR ?_
              refine thenR ?_
              obtain rfl := Option.some.inj h
              exact finv ha _ _ rfl (.tmp (v := .bool false) KR .nil) (.bool false) rfl ⟨rfl, HW.pick [] [] (by decide) (by decide) rfl KR⟩
        · skip
          replace h := ite_neg' h hp5220
          refine condF ha KR KR (t := decide (x5212 < (a0.length : Int))) (decide_eq_false hp5220) ?_
          refine wp_exit ?_
          refine thenE ?_
          refine thenE ?_
          refine inBlk ?_
          refine thenN (hK5147 _ _ ?_); clear hK5147
          refine wp_seq_k (fun K5245 hK5246 => ?_)
          refine wp_region_lit ?_
          refine stepp ha 4 (.bool true) KR KR ?_; clear ha a; intro a ha
          refine endl ?_
          refine thenN (hK5246 _ _ ?_); clear hK5246
          refine wp_ret ?_
          obtain rfl := Option.some.inj h
          exact finv ha _ _ rfl (.tmp (v := .bool true) KR .nil) (.bool true) rfl ⟨rfl, HW.pick [] [] (by decide) (by decide) rfl KR⟩
  · skip
    replace h := ite_neg' h hp5143
    refine condT ha KR KR (t := ((a0.length : Int) != (a1.length : Int))) (ineq_t hp5143) ?_
    refine wp_seq_k (fun K5144 hK5145 => ?_)
    refine wp_region_lit ?_
    refine stepp ha 4 (.bool false) KR KR ?_; clear ha a; intro a ha
    refine endl ?_
    refine thenN (hK5145 _ _ ?_); clear hK5145
    refine wp_ret ?_
    refine thenR ?_
    obtain rfl := Option.some.inj h
    exact finv ha _ _ rfl (.tmp (v := .bool false) KR .nil) (.bool false) rfl ⟨rfl, HW.pick [] [] (by decide) (by decide) rfl KR⟩
/-! ### headgate/headgatekeep.Tables: function 24 -/
def headgatekeep_Tables.f (K : Nat) (a0 : T_api_Table) (a1 : T_api_Table) : Option Bool :=
  (headgatekeep_Regs.f K a0.f0 a1.f0).bind fun t5255 => (if t5255 = true then (if a0.f1.f0 = a1.f1.f0 then (if a0.f1.f1 = a1.f1.f1 then (if a0.f2 = a1.f2 then (some (a0.f3 == a1.f3)) else (some false)) else (some false)) else (some false)) else (some false))
set_option maxRecDepth 100000 in
set_option maxHeartbeats 4000000 in
theorem headgatekeep_Tables.calls (K : Nat) (a0 : T_api_Table) (a1 : T_api_Table) (A0_0 : Option Addr) (c0_0 : Nat) (A1_1 : Option Addr) (c1_1 : Nat) (r : Bool) (w : World) (hr0_0 : Rd 2 w (.slice A0_0 a0.f0.length c0_0) a0.f0.length (encs T_api_Reg.enc a0.f0)) (hr1_1 : Rd 2 w (.slice A1_1 a1.f0.length c1_1) a1.f0.length (encs T_api_Reg.enc a1.f0)) (h : headgatekeep_Tables.f K a0 a1 = some r) :
    Calls Tryz.prog 24 #[.agg #[.slice A0_0 a0.f0.length c0_0, .int .i64 a0.f1.f0, .string a0.f1.f1, .int .u32 a0.f2, .bool a0.f3], .agg #[.slice A1_1 a1.f0.length c1_1, .int .i64 a1.f1.f0, .string a1.f1.f1, .int .u32 a1.f2, .bool a1.f3]] w (fun e W' => e = .returned (.bool r) ∧ Wd w W' [] [] ) := by
  refine sxstart (n := 42) (l := [(0, .agg #[.slice A0_0 a0.f0.length c0_0, .int .i64 a0.f1.f0, .string a0.f1.f1, .int .u32 a0.f2, .bool a0.f3]), (1, .agg #[.slice A1_1 a1.f0.length c1_1, .int .i64 a1.f1.f0, .string a1.f1.f1, .int .u32 a1.f2, .bool a1.f3])]) Tryz.func24 rfl rfl (Nat.le_of_ble_eq_true KR) (subsA_cons rfl (subsA_cons rfl (subsA_nil _))) ?_
  intro a ha
  have HW := Wd.refl w
  unfold headgatekeep_Tables.f at h
  refine wp_seq_k (fun K5247 hK5248 => ?_)
  refine wp_region_lit ?_
  refine stepnew ha HW 2 #[.slice A0_0 a0.f0.length c0_0, .int .i64 a0.f1.f0, .string a0.f1.f1, .int .u32 a0.f2, .bool a0.f3] 63 KR KR ?_; clear ha HW a; intro b5249 a W5250 HW ha
  refine stepnew ha HW 3 #[.slice A1_1 a1.f0.length c1_1, .int .i64 a1.f1.f0, .string a1.f1.f1, .int .u32 a1.f2, .bool a1.f3] 63 KR KR ?_; clear ha HW a; intro b5251 a W5252 HW ha
  refine stepp ha 4 (.bool false) KR KR ?_; clear ha a; intro a ha
  refine endl ?_
  refine thenN (hK5248 _ _ ?_); clear hK5248
  refine wp_seq_k (fun K5253 hK5254 => ?_)
  refine wp_region_lit ?_
  refine stepp ha 5 (.pointer (some ⟨b5249, 0, none⟩)) KR KR ?_; clear ha a; intro a ha
  refine stepl ha 6 (HW.ca (i := 1) (b := b5249) (C := #[.slice A0_0 a0.f0.length c0_0, .int .i64 a0.f1.f0, .string a0.f1.f1, .int .u32 a0.f2, .bool a0.f3]) (T := 63) (fr := (0, 0)) KR) 35 0 (.tmp 5) (.slice A0_0 a0.f0.length c0_0) rfl KR KR KR ?_; clear ha a; intro a ha
  refine stepp ha 7 (.pointer (some ⟨b5251, 0, none⟩)) KR KR ?_; clear ha a; intro a ha
  refine stepl ha 8 (HW.ca (i := 0) (b := b5251) (C := #[.slice A1_1 a1.f0.length c1_1, .int .i64 a1.f1.f0, .string a1.f1.f1, .int .u32 a1.f2, .bool a1.f3]) (T := 63) (fr := (0, 0)) KR) 35 0 (.tmp 7) (.slice A1_1 a1.f0.length c1_1) rfl KR KR KR ?_; clear ha a; intro a ha
  obtain ⟨t5255, ht5256, h_⟩ := bind_some' h; clear h; have h := h_; clear h_
  refine stepc ha 9 KR KR (headgatekeep_Regs.calls K a0.f0 a1.f0 A0_0 c0_0 A1_1 c1_1 t5255 _ ((HW.rd0 hr0_0)) ((HW.rd0 hr1_1)) ht5256) ?_; clear ha a; rintro e W5257 ⟨rfl, HX5258⟩
  refine ⟨_, rfl, ?_⟩; intro a ha; replace HW := HW.callw HX5258; clear HX5258
  refine stepp ha 10 (.bool t5255) KR KR ?_; clear ha a; intro a ha
  by_cases hp5259 : t5255 = true
  · skip
    replace h := ite_pos' h hp5259
    replace ha := ha.bool 10 KR (hp5259)
    refine stepp ha 11 (.pointer (some ⟨b5249, 1, none⟩)) KR KR ?_; clear ha a; intro a ha
    refine stepp ha 12 (.pointer (some ⟨b5249, 1, none⟩)) KR KR ?_; clear ha a; intro a ha
    refine stepl ha 13 (HW.ca (i := 1) (b := b5249) (C := #[.slice A0_0 a0.f0.length c0_0, .int .i64 a0.f1.f0, .string a0.f1.f1, .int .u32 a0.f2, .bool a0.f3]) (T := 63) (fr := (0, 0)) KR) 3 1 (.tmp 12) (.int .i64 a0.f1.f0) rfl KR KR KR ?_; clear ha a; intro a ha
    refine stepp ha 14 (.pointer (some ⟨b5251, 1, none⟩)) KR KR ?_; clear ha a; intro a ha
    refine stepp ha 15 (.pointer (some ⟨b5251, 1, none⟩)) KR KR ?_; clear ha a; intro a ha
    refine stepl ha 16 (HW.ca (i := 0) (b := b5251) (C := #[.slice A1_1 a1.f0.length c1_1, .int .i64 a1.f1.f0, .string a1.f1.f1, .int .u32 a1.f2, .bool a1.f3]) (T := 63) (fr := (0, 0)) KR) 3 1 (.tmp 15) (.int .i64 a1.f1.f0) rfl KR KR KR ?_; clear ha a; intro a ha
    refine stepp ha 17 (.bool (a0.f1.f0 == a1.f1.f0)) KR KR ?_; clear ha a; intro a ha
    refine stepp ha 18 (.bool (a0.f1.f0 == a1.f1.f0)) KR KR ?_; clear ha a; intro a ha
    refine stepp ha 19 (.bool (a0.f1.f0 == a1.f1.f0)) KR KR ?_; clear ha a; intro a ha
    by_cases hp5260 : a0.f1.f0 = a1.f1.f0
    · skip
      replace h := ite_pos' h hp5260
      replace ha := ha.bool 19 KR (ieq_t hp5260)
      refine stepp ha 20 (.pointer (some ⟨b5249, 1, none⟩)) KR KR ?_; clear ha a; intro a ha
      refine stepp ha 21 (.pointer (some ⟨b5249, 2, none⟩)) KR KR ?_; clear ha a; intro a ha
      refine stepl ha 22 (HW.ca (i := 1) (b := b5249) (C := #[.slice A0_0 a0.f0.length c0_0, .int .i64 a0.f1.f0, .string a0.f1.f1, .int .u32 a0.f2, .bool a0.f3]) (T := 63) (fr := (0, 0)) KR) 9 2 (.tmp 21) (.string a0.f1.f1) rfl KR KR KR ?_; clear ha a; intro a ha
      refine stepp ha 23 (.pointer (some ⟨b5251, 1, none⟩)) KR KR ?_; clear ha a; intro a ha
      refine stepp ha 24 (.pointer (some ⟨b5251, 2, none⟩)) KR KR ?_; clear ha a; intro a ha
      refine stepl ha 25 (HW.ca (i := 0) (b := b5251) (C := #[.slice A1_1 a1.f0.length c1_1, .int .i64 a1.f1.f0, .string a1.f1.f1, .int .u32 a1.f2, .bool a1.f3]) (T := 63) (fr := (0, 0)) KR) 9 2 (.tmp 24) (.string a1.f1.f1) rfl KR KR KR ?_; clear ha a; intro a ha
      refine stepp ha 26 (.bool (a0.f1.f1.toList == a1.f1.f1.toList)) KR KR ?_; clear ha a; intro a ha
      refine stepp ha 27 (.bool (a0.f1.f1.toList == a1.f1.f1.toList)) KR KR ?_; clear ha a; intro a ha
      refine stepp ha 28 (.bool (a0.f1.f1.toList == a1.f1.f1.toList)) KR KR ?_; clear ha a; intro a ha
      by_cases hp5261 : a0.f1.f1 = a1.f1.f1
      · skip
        replace h := ite_pos' h hp5261
        replace ha := ha.bool 28 KR (str_eq_t hp5261)
        refine stepp ha 29 (.pointer (some ⟨b5249, 3, none⟩)) KR KR ?_; clear ha a; intro a ha
        refine stepl ha 30 (HW.ca (i := 1) (b := b5249) (C := #[.slice A0_0 a0.f0.length c0_0, .int .i64 a0.f1.f0, .string a0.f1.f1, .int .u32 a0.f2, .bool a0.f3]) (T := 63) (fr := (0, 0)) KR) 36 3 (.tmp 29) (.int .u32 a0.f2) rfl KR KR KR ?_; clear ha a; intro a ha
        refine stepp ha 31 (.pointer (some ⟨b5251, 3, none⟩)) KR KR ?_; clear ha a; intro a ha
        refine stepl ha 32 (HW.ca (i := 0) (b := b5251) (C := #[.slice A1_1 a1.f0.length c1_1, .int .i64 a1.f1.f0, .string a1.f1.f1, .int .u32 a1.f2, .bool a1.f3]) (T := 63) (fr := (0, 0)) KR) 36 3 (.tmp 31) (.int .u32 a1.f2) rfl KR KR KR ?_; clear ha a; intro a ha
        refine stepp ha 33 (.bool (a0.f2 == a1.f2)) KR KR ?_; clear ha a; intro a ha
        refine stepp ha 34 (.bool (a0.f2 == a1.f2)) KR KR ?_; clear ha a; intro a ha
        refine stepp ha 35 (.bool (a0.f2 == a1.f2)) KR KR ?_; clear ha a; intro a ha
        by_cases hp5262 : a0.f2 = a1.f2
        · skip
          replace h := ite_pos' h hp5262
          replace ha := ha.bool 35 KR (ieq_t hp5262)
          refine stepp ha 36 (.pointer (some ⟨b5249, 4, none⟩)) KR KR ?_; clear ha a; intro a ha
          refine stepl ha 37 (HW.ca (i := 1) (b := b5249) (C := #[.slice A0_0 a0.f0.length c0_0, .int .i64 a0.f1.f0, .string a0.f1.f1, .int .u32 a0.f2, .bool a0.f3]) (T := 63) (fr := (0, 0)) KR) 4 4 (.tmp 36) (.bool a0.f3) rfl KR KR KR ?_; clear ha a; intro a ha
          refine stepp ha 38 (.pointer (some ⟨b5251, 4, none⟩)) KR KR ?_; clear ha a; intro a ha
          refine stepl ha 39 (HW.ca (i := 0) (b := b5251) (C := #[.slice A1_1 a1.f0.length c1_1, .int .i64 a1.f1.f0, .string a1.f1.f1, .int .u32 a1.f2, .bool a1.f3]) (T := 63) (fr := (0, 0)) KR) 4 4 (.tmp 38) (.bool a1.f3) rfl KR KR KR ?_; clear ha a; intro a ha
          refine stepp ha 40 (.bool (a0.f3 == a1.f3)) KR KR ?_; clear ha a; intro a ha
          refine stepp ha 41 (.bool (a0.f3 == a1.f3)) KR KR ?_; clear ha a; intro a ha
          refine stepp ha 4 (.bool (a0.f3 == a1.f3)) KR KR ?_; clear ha a; intro a ha
          refine endl ?_
          refine thenN (hK5254 _ _ ?_); clear hK5254
          refine wp_ret ?_
          obtain rfl := Option.some.inj h
          exact finv ha _ _ rfl (.tmp (v := .bool (a0.f3 == a1.f3)) KR .nil) (.bool (a0.f3 == a1.f3)) rfl ⟨rfl, HW.pick [] [] (by decide) (by decide) rfl KR⟩
        · skip
          replace h := ite_neg' h hp5262
          replace ha := ha.bool 35 KR (ieq_f hp5262)
          refine stepo ha 36 KR ?_; clear ha a; intro a ha
          refine stepo ha 37 KR ?_; clear ha a; intro a ha
          refine stepo ha 38 KR ?_; clear ha a; intro a ha
          refine stepo ha 39 KR ?_; clear ha a; intro a ha
          refine stepo ha 40 KR ?_; clear ha a; intro a ha
          refine stepp ha 41 (.bool false) KR KR ?_; clear ha a; intro a ha
          refine stepp ha 4 (.bool false) KR KR ?_; clear ha a; intro a ha
          refine endl ?_
          refine thenN (hK5254 _ _ ?_); clear hK5254
          refine wp_ret ?_
          obtain rfl := Option.some.inj h
          exact finv ha _ _ rfl (.tmp (v := .bool false) KR .nil) (.bool false) rfl ⟨rfl, HW.pick [] [] (by decide) (by decide) rfl KR⟩
      · skip
        replace h := ite_neg' h hp5261
        replace ha := ha.bool 28 KR (str_eq_f hp5261)
        refine stepo ha 29 KR ?_; clear ha a; intro a ha
        refine stepo ha 30 KR ?_; clear ha a; intro a ha
        refine stepo ha 31 KR ?_; clear ha a; intro a ha
        refine stepo ha 32 KR ?_; clear ha a; intro a ha
        refine stepo ha 33 KR ?_; clear ha a; intro a ha
        refine stepp ha 34 (.bool false) KR KR ?_; clear ha a; intro a ha
        refine stepp ha 35 (.bool false) KR KR ?_; clear ha a; intro a ha
        refine stepo ha 36 KR ?_; clear ha a; intro a ha
        refine stepo ha 37 KR ?_; clear ha a; intro a ha
        refine stepo ha 38 KR ?_; clear ha a; intro a ha
        refine stepo ha 39 KR ?_; clear ha a; intro a ha
        refine stepo ha 40 KR ?_; clear ha a; intro a ha
        refine stepp ha 41 (.bool false) KR KR ?_; clear ha a; intro a ha
        refine stepp ha 4 (.bool false) KR KR ?_; clear ha a; intro a ha
        refine endl ?_
        refine thenN (hK5254 _ _ ?_); clear hK5254
        refine wp_ret ?_
        obtain rfl := Option.some.inj h
        exact finv ha _ _ rfl (.tmp (v := .bool false) KR .nil) (.bool false) rfl ⟨rfl, HW.pick [] [] (by decide) (by decide) rfl KR⟩
    · skip
      replace h := ite_neg' h hp5260
      replace ha := ha.bool 19 KR (ieq_f hp5260)
      refine stepo ha 20 KR ?_; clear ha a; intro a ha
      refine stepo ha 21 KR ?_; clear ha a; intro a ha
      refine stepo ha 22 KR ?_; clear ha a; intro a ha
      refine stepo ha 23 KR ?_; clear ha a; intro a ha
      refine stepo ha 24 KR ?_; clear ha a; intro a ha
      refine stepo ha 25 KR ?_; clear ha a; intro a ha
      refine stepo ha 26 KR ?_; clear ha a; intro a ha
      refine stepp ha 27 (.bool false) KR KR ?_; clear ha a; intro a ha
      refine stepp ha 28 (.bool false) KR KR ?_; clear ha a; intro a ha
      refine stepo ha 29 KR ?_; clear ha a; intro a ha
      refine stepo ha 30 KR ?_; clear ha a; intro a ha
      refine stepo ha 31 KR ?_; clear ha a; intro a ha
      refine stepo ha 32 KR ?_; clear ha a; intro a ha
      refine stepo ha 33 KR ?_; clear ha a; intro a ha
      refine stepp ha 34 (.bool false) KR KR ?_; clear ha a; intro a ha
      refine stepp ha 35 (.bool false) KR KR ?_; clear ha a; intro a ha
      refine stepo ha 36 KR ?_; clear ha a; intro a ha
      refine stepo ha 37 KR ?_; clear ha a; intro a ha
      refine stepo ha 38 KR ?_; clear ha a; intro a ha
      refine stepo ha 39 KR ?_; clear ha a; intro a ha
      refine stepo ha 40 KR ?_; clear ha a; intro a ha
      refine stepp ha 41 (.bool false) KR KR ?_; clear ha a; intro a ha
      refine stepp ha 4 (.bool false) KR KR ?_; clear ha a; intro a ha
      refine endl ?_
      refine thenN (hK5254 _ _ ?_); clear hK5254
      refine wp_ret ?_
      obtain rfl := Option.some.inj h
      exact finv ha _ _ rfl (.tmp (v := .bool false) KR .nil) (.bool false) rfl ⟨rfl, HW.pick [] [] (by decide) (by decide) rfl KR⟩
  · skip
    replace h := ite_neg' h hp5259
    replace ha := ha.bool 10 KR (bool_f hp5259)
    refine stepo ha 11 KR ?_; clear ha a; intro a ha
    refine stepo ha 12 KR ?_; clear ha a; intro a ha
    refine stepo ha 13 KR ?_; clear ha a; intro a ha
    refine stepo ha 14 KR ?_; clear ha a; intro a ha
    refine stepo ha 15 KR ?_; clear ha a; intro a ha
    refine stepo ha 16 KR ?_; clear ha a; intro a ha
    refine stepo ha 17 KR ?_; clear ha a; intro a ha
    refine stepp ha 18 (.bool false) KR KR ?_; clear ha a; intro a ha
    refine stepp ha 19 (.bool false) KR KR ?_; clear ha a; intro a ha
    refine stepo ha 20 KR ?_; clear ha a; intro a ha
    refine stepo ha 21 KR ?_; clear ha a; intro a ha
    refine stepo ha 22 KR ?_; clear ha a; intro a ha
    refine stepo ha 23 KR ?_; clear ha a; intro a ha
    refine stepo ha 24 KR ?_; clear ha a; intro a ha
    refine stepo ha 25 KR ?_; clear ha a; intro a ha
    refine stepo ha 26 KR ?_; clear ha a; intro a ha
    refine stepp ha 27 (.bool false) KR KR ?_; clear ha a; intro a ha
    refine stepp ha 28 (.bool false) KR KR ?_; clear ha a; intro a ha
    refine stepo ha 29 KR ?_; clear ha a; intro a ha
    refine stepo ha 30 KR ?_; clear ha a; intro a ha
    refine stepo ha 31 KR ?_; clear ha a; intro a ha
    refine stepo ha 32 KR ?_; clear ha a; intro a ha
    refine stepo ha 33 KR ?_; clear ha a; intro a ha
    refine stepp ha 34 (.bool false) KR KR ?_; clear ha a; intro a ha
    refine stepp ha 35 (.bool false) KR KR ?_; clear ha a; intro a ha
    refine stepo ha 36 KR ?_; clear ha a; intro a ha
    refine stepo ha 37 KR ?_; clear ha a; intro a ha
    refine stepo ha 38 KR ?_; clear ha a; intro a ha
    refine stepo ha 39 KR ?_; clear ha a; intro a ha
    refine stepo ha 40 KR ?_; clear ha a; intro a ha
    refine stepp ha 41 (.bool false) KR KR ?_; clear ha a; intro a ha
    refine stepp ha 4 (.bool false) KR KR ?_; clear ha a; intro a ha
    refine endl ?_
    refine thenN (hK5254 _ _ ?_); clear hK5254
    refine wp_ret ?_
    obtain rfl := Option.some.inj h
    exact finv ha _ _ rfl (.tmp (v := .bool false) KR .nil) (.bool false) rfl ⟨rfl, HW.pick [] [] (by decide) (by decide) rfl KR⟩
/-! ### (*headgate/exec.Exec).Units: function 27 -/
def exec_Exec_Units_nil.f  : Option Unit :=
  some ()
set_option maxRecDepth 100000 in
set_option maxHeartbeats 4000000 in
theorem exec_Exec_Units_nil.calls   (r : Unit) (w : World)  (h : exec_Exec_Units_nil.f  = some r) :
    Calls Tryz.prog 27 #[.pointer none] w (fun e W' => e = .returned (.pointer none) ∧ Wd w W' [] [] ) := by
  refine sxstart (n := 9) (l := [(0, .pointer none)]) Tryz.func27 rfl rfl (Nat.le_of_ble_eq_true KR) (subsA_cons rfl (subsA_nil _)) ?_
  intro a ha
  have HW := Wd.refl w
  unfold exec_Exec_Units_nil.f at h
  refine wp_seq_k (fun K5263 hK5264 => ?_)
  refine wp_region_lit ?_
  refine stepp ha 2 (.pointer none) KR KR ?_; clear ha a; intro a ha
  refine endl ?_
  refine thenN (hK5264 _ _ ?_); clear hK5264
  refine wp_seq_k (fun K5265 hK5266 => ?_)
  refine wp_seq_k (fun K5267 hK5268 => ?_)
  refine wp_region_lit ?_
  refine stepp ha 3 (.pointer none) KR KR ?_; clear ha a; intro a ha
  refine stepp ha 4 (.bool true) KR KR ?_; clear ha a; intro a ha
  refine endl ?_
  refine thenN (hK5268 _ _ ?_); clear hK5268
  refine condT ha KR KR (t := true) (rfl) ?_
  refine wp_seq_k (fun K5269 hK5270 => ?_)
  refine wp_region_lit ?_
  refine stepp ha 2 (.pointer none) KR KR ?_; clear ha a; intro a ha
  refine endl ?_
  refine thenN (hK5270 _ _ ?_); clear hK5270
  refine wp_ret ?_
  refine thenR ?_
  obtain rfl := Option.some.inj h
  exact finv ha _ _ rfl (.tmp (v := .pointer none) KR .nil) (.pointer none) rfl ⟨rfl, HW.pick [] [] (by decide) (by decide) rfl KR⟩
end Go.Proofs.YteahodjiihjmnaaGreatDoor.F
