/- headgate/fields.PutBig, headgate/fields.Big, headgate/prout.ops, headgate/prout.Change, headgate/prout.key: plain functions, and that the calls come to what they say. No condition. -/
import Derived.Test.YthjjbkgifelooaaDoorFT
import Derived.Test.YthjjbkgifelooaaDoorF48
import Derived.Test.YthjjbkgifelooaaDoorF77
namespace Go.Proofs.YthjjbkgifelooaaDoor.F
open Go Go.RowKit Go.Proofs.YthjjbkgifelooaaDoor.X
set_option linter.unusedVariables false
set_option linter.unusedSimpArgs false
/-! ### headgate/fields.PutBig: function 68 -/
def fields_PutBig.f (K : Nat) (a0 : Int) (a1 : Int) : Option ByteArray :=
  (fields_put_uint64.f K a0 a1 true).bind fun t4420 => (some t4420)
set_option maxRecDepth 100000 in
set_option maxHeartbeats 4000000 in
theorem fields_PutBig.calls (K : Nat) (a0 : Int) (a1 : Int)  (r : ByteArray) (w : World)  (h : fields_PutBig.f K a0 a1 = some r) :
    Calls Tryd.prog 68 #[.int .u64 a0, .int .i64 a1] w (fun e W' => e = .returned (.string r) ∧ Wd w W' [] [] ) := by
  refine sxstart (n := 8) (l := [(0, .int .u64 a0), (1, .int .i64 a1)]) Tryd.func68 rfl rfl (Nat.le_of_ble_eq_true KR) (subsA_cons rfl (subsA_cons rfl (subsA_nil _))) ?_
  intro a ha
  have HW := Wd.refl w
  unfold fields_PutBig.f at h
  refine wp_seq_k (fun K4416 hK4417 => ?_)
  refine wp_region_lit ?_
  refine stepp ha 4 (.string (⟨#[]⟩ : ByteArray)) KR KR ?_; clear ha a; intro a ha
  refine endl ?_
  refine thenN (hK4417 _ _ ?_); clear hK4417
  refine wp_seq_k (fun K4418 hK4419 => ?_)
  refine wp_region_lit ?_
  refine stepp ha 5 (.int .u64 a0) KR KR ?_; clear ha a; intro a ha
  refine stepp ha 6 (.int .i64 a1) KR KR ?_; clear ha a; intro a ha
  obtain ⟨t4420, ht4421, h_⟩ := bind_some' h; clear h; have h := h_; clear h_
  refine stepc ha 7 KR KR (fields_put_uint64.calls K a0 a1 true t4420 _ ht4421) ?_; clear ha a; rintro e W4422 ⟨rfl, HX4423⟩
  refine ⟨_, rfl, ?_⟩; intro a ha; replace HW := HW.callw HX4423; clear HX4423
  refine stepp ha 4 (.string t4420) KR KR ?_; clear ha a; intro a ha
  refine endl ?_
  refine thenN (hK4419 _ _ ?_); clear hK4419
  refine wp_ret ?_
  obtain rfl := Option.some.inj h
  exact finv ha _ _ rfl (.tmp (v := .string t4420) KR .nil) (.string t4420) rfl ⟨rfl, HW.pick [] [] (by decide) (by decide) rfl KR⟩
/-! ### headgate/fields.Big: function 72 -/
def fields_Big.f (K : Nat) (a0 : ByteArray) (a1 : Int) (a2 : Int) : Option (Int × Bool) :=
  (fields_get_uint64.f K a0 a1 a2 true).bind fun t4720 => (some (t4720.1, t4720.2))
set_option maxRecDepth 100000 in
set_option maxHeartbeats 4000000 in
theorem fields_Big.calls (K : Nat) (a0 : ByteArray) (a1 : Int) (a2 : Int)  (r : Int × Bool) (w : World)  (h : fields_Big.f K a0 a1 a2 = some r) :
    Calls Tryd.prog 72 #[.string a0, .int .i64 a1, .int .i64 a2] w (fun e W' => e = .returned (.tuple #[.int .u64 r.1, .bool r.2]) ∧ Wd w W' [] [] ) := by
  refine sxstart (n := 14) (l := [(0, .string a0), (1, .int .i64 a1), (2, .int .i64 a2)]) Tryd.func72 rfl rfl (Nat.le_of_ble_eq_true KR) (subsA_cons rfl (subsA_cons rfl (subsA_cons rfl (subsA_nil _)))) ?_
  intro a ha
  have HW := Wd.refl w
  unfold fields_Big.f at h
  refine wp_seq_k (fun K4716 hK4717 => ?_)
  refine wp_region_lit ?_
  refine stepp ha 6 (.int .u64 0) KR KR ?_; clear ha a; intro a ha
  refine stepp ha 7 (.bool false) KR KR ?_; clear ha a; intro a ha
  refine endl ?_
  refine thenN (hK4717 _ _ ?_); clear hK4717
  refine wp_seq_k (fun K4718 hK4719 => ?_)
  refine wp_region_lit ?_
  refine stepp ha 8 (.string a0) KR KR ?_; clear ha a; intro a ha
  refine stepp ha 9 (.int .i64 a1) KR KR ?_; clear ha a; intro a ha
  refine stepp ha 10 (.int .i64 a2) KR KR ?_; clear ha a; intro a ha
  obtain ⟨t4720, ht4721, h_⟩ := bind_some' h; clear h; have h := h_; clear h_
  refine stepc ha 11 KR KR (fields_get_uint64.calls K a0 a1 a2 true t4720 _ ht4721) ?_; clear ha a; rintro e W4722 ⟨rfl, HX4723⟩
  refine ⟨_, rfl, ?_⟩; intro a ha; replace HW := HW.callw HX4723; clear HX4723
  refine stepp ha 12 (.int .u64 t4720.1) KR KR ?_; clear ha a; intro a ha
  refine stepp ha 13 (.bool t4720.2) KR KR ?_; clear ha a; intro a ha
  refine stepp ha 6 (.int .u64 t4720.1) KR KR ?_; clear ha a; intro a ha
  refine stepp ha 7 (.bool t4720.2) KR KR ?_; clear ha a; intro a ha
  refine endl ?_
  refine thenN (hK4719 _ _ ?_); clear hK4719
  refine wp_ret ?_
  obtain rfl := Option.some.inj h
  exact finv ha _ _ rfl (.tmp (v := .int .u64 t4720.1) KR (.tmp (v := .bool t4720.2) KR .nil)) (.tuple #[.int .u64 t4720.1, .bool t4720.2]) rfl ⟨rfl, HW.pick [] [] (by decide) (by decide) rfl KR⟩
/-! ### headgate/prout.ops: function 74 -/
def prout_ops.f  : Option T_arr7_3 :=
  some (⟨8, 9, 10, 11, 12, 0, 8⟩ : T_arr7_3)
set_option maxRecDepth 100000 in
set_option maxHeartbeats 4000000 in
theorem prout_ops.calls   (r : T_arr7_3) (w : World)  (h : prout_ops.f  = some r) :
    Calls Tryd.prog 74 #[] w (fun e W' => e = .returned (.agg #[.int .i64 r.f0, .int .i64 r.f1, .int .i64 r.f2, .int .i64 r.f3, .int .i64 r.f4, .int .i64 r.f5, .int .i64 r.f6]) ∧ Wd w W' [] [] ) := by
  refine sxstart (n := 2) (l := []) Tryd.func74 rfl rfl (Nat.le_of_ble_eq_true KR) (subsA_nil _) ?_
  intro a ha
  have HW := Wd.refl w
  unfold prout_ops.f at h
  refine wp_seq_k (fun K4907 hK4908 => ?_)
  refine wp_region_lit ?_
  refine stepnew ha HW 0 #[.int .i64 0, .int .i64 0, .int .i64 0, .int .i64 0, .int .i64 0, .int .i64 0, .int .i64 0] 96 KR KR ?_; clear ha HW a; intro b4909 a W4910 HW ha
  refine endl ?_
  refine thenN (hK4908 _ _ ?_); clear hK4908
  refine wp_seq_k (fun K4911 hK4912 => ?_)
  refine wp_region_lit ?_
  refine stepp ha 1 (.agg #[.int .i64 8, .int .i64 9, .int .i64 10, .int .i64 11, .int .i64 12, .int .i64 0, .int .i64 8]) KR KR ?_; clear ha a; intro a ha
  refine stepst ha HW 0 (b := b4909) (C := #[.int .i64 0, .int .i64 0, .int .i64 0, .int .i64 0, .int .i64 0, .int .i64 0, .int .i64 0]) (T := 96) KR 96 0 (.tmp 0) (.tmp 1) (.agg #[.int .i64 8, .int .i64 9, .int .i64 10, .int .i64 11, .int .i64 12, .int .i64 0, .int .i64 8]) #[.int .i64 8, .int .i64 9, .int .i64 10, .int .i64 11, .int .i64 12, .int .i64 0, .int .i64 8] rfl KR KR KR KR KR KR KR ?_; clear ha HW a; intro a W4913 HW ha
  refine endl ?_
  refine thenN (hK4912 _ _ ?_); clear hK4912
  refine wp_ret ?_
  obtain rfl := Option.some.inj h
  exact finv ha _ _ rfl (.cell (ad := ⟨b4909, 0, none⟩) (v := .agg #[.int .i64 8, .int .i64 9, .int .i64 10, .int .i64 11, .int .i64 12, .int .i64 0, .int .i64 8]) KR (run_loadVar_ca0 (HW.ca (i := 0) (b := b4909) (C := #[.int .i64 8, .int .i64 9, .int .i64 10, .int .i64 11, .int .i64 12, .int .i64 0, .int .i64 8]) (T := 96) (fr := (0, 0)) KR) 96 0 (.agg #[.int .i64 8, .int .i64 9, .int .i64 10, .int .i64 11, .int .i64 12, .int .i64 0, .int .i64 8]) KR) .nil) (.agg #[.int .i64 8, .int .i64 9, .int .i64 10, .int .i64 11, .int .i64 12, .int .i64 0, .int .i64 8]) rfl ⟨rfl, HW.pick [] [] (by decide) (by decide) rfl KR⟩
/-! ### headgate/prout.Change: function 42 -/
def prout_Change.j2 (K : Nat) (a0 : Int) (a1 : Int) (t4950 : T_arr7_3) (x5022 : Bool) (x5023 : Int) (x5024 : Int) (x5025 : Int) (x5026 : Bool) (x5027 : Int) : Option (T_api_Cmd × Int) :=
  if x5022 = true then (some ((⟨rdL (0 : Int) ([t4950.f0, t4950.f1, t4950.f2, t4950.f3, t4950.f4, t4950.f5, t4950.f6] : List Int) a0, 0, (⟨#[]⟩ : ByteArray), 0, 0, (⟨#[]⟩ : ByteArray), false, ([] : List T_api_Range), x5023, x5024, x5025, a1, x5026, x5027⟩ : T_api_Cmd), 0)) else (some ((⟨0, 0, (⟨#[]⟩ : ByteArray), 0, 0, (⟨#[]⟩ : ByteArray), false, ([] : List T_api_Range), 0, 0, 0, 0, false, 0⟩ : T_api_Cmd), 180))
def prout_Change.j1 (K : Nat) (a0 : Int) (a1 : Int) (t4950 : T_arr7_3) (t4965 : Int × Bool) (t4971 : Int × Bool) (x5000 : Int) (x5008 : Int) : Option (T_api_Cmd × Int) :=
  if (bandNot .u64 t4971.1 16777216) = 0 then (prout_Change.j2 K a0 a1 t4950 (a1 == 0) x5008 t4965.1 0 (a0 == 6) x5000) else (prout_Change.j2 K a0 a1 t4950 false x5008 t4965.1 0 (a0 == 6) x5000)
def prout_Change.j0 (K : Nat) (a0 : Int) (a1 : Int) (t4950 : T_arr7_3) (t4959 : Int × Bool) (t4965 : Int × Bool) (t4971 : Int × Bool) (x5000 : Int) : Option (T_api_Cmd × Int) :=
  if a0 = 6 then (prout_Change.j1 K a0 a1 t4950 t4965 t4971 x5000 0) else (prout_Change.j1 K a0 a1 t4950 t4965 t4971 x5000 t4959.1)
def prout_Change.f (K : Nat) (a0 : Int) (a1 : Int) (a2 : ByteArray) : Option (T_api_Cmd × Int) :=
  if a0 < 0 then (some ((⟨0, 0, (⟨#[]⟩ : ByteArray), 0, 0, (⟨#[]⟩ : ByteArray), false, ([] : List T_api_Range), 0, 0, 0, 0, false, 0⟩ : T_api_Cmd), 180)) else (if a0 > 6 then (some ((⟨0, 0, (⟨#[]⟩ : ByteArray), 0, 0, (⟨#[]⟩ : ByteArray), false, ([] : List T_api_Range), 0, 0, 0, 0, false, 0⟩ : T_api_Cmd), 180)) else ((prout_ops.f).bind fun t4924 => (asrt (0 ≤ a0) (asrt (a0 < 7) (if (rdL (0 : Int) ([t4924.f0, t4924.f1, t4924.f2, t4924.f3, t4924.f4, t4924.f5, t4924.f6] : List Int) a0) = 0 then (some ((⟨0, 0, (⟨#[]⟩ : ByteArray), 0, 0, (⟨#[]⟩ : ByteArray), false, ([] : List T_api_Range), 0, 0, 0, 0, false, 0⟩ : T_api_Cmd), 180)) else (if (a2.size : Int) = 24 then ((prout_ops.f).bind fun t4950 => ((fields_Big.f K a2 0 8).bind fun t4959 => ((fields_Big.f K a2 8 8).bind fun t4965 => ((fields_Big.f K a2 16 8).bind fun t4971 => (if (rdL (0 : Int) ([t4950.f0, t4950.f1, t4950.f2, t4950.f3, t4950.f4, t4950.f5, t4950.f6] : List Int) a0) = 8 then (if (band .u64 (t4971.1.fdiv 16777216) 1) = 1 then (prout_Change.j0 K a0 a1 t4950 t4959 t4965 t4971 2) else (prout_Change.j0 K a0 a1 t4950 t4959 t4965 t4971 1)) else (if (rdL (0 : Int) ([t4950.f0, t4950.f1, t4950.f2, t4950.f3, t4950.f4, t4950.f5, t4950.f6] : List Int) a0) = 12 then (if (bandNot .u64 t4971.1 16777216) = 0 then (prout_Change.j2 K a0 a1 t4950 (!((band .u64 (t4971.1.fdiv 16777216) 1) == 1)) t4959.1 0 t4965.1 false 0) else (prout_Change.j2 K a0 a1 t4950 false t4959.1 0 t4965.1 false 0)) else (if (bandNot .u64 t4971.1 16777216) = 0 then (if (band .u64 (t4971.1.fdiv 16777216) 1) = 1 then (prout_Change.j2 K a0 a1 t4950 false t4959.1 0 0 false 0) else (if t4965.1 = 0 then (if a1 = 0 then (prout_Change.j2 K a0 a1 t4950 true t4959.1 0 0 false 0) else (prout_Change.j2 K a0 a1 t4950 ((rdL (0 : Int) ([t4950.f0, t4950.f1, t4950.f2, t4950.f3, t4950.f4, t4950.f5, t4950.f6] : List Int) a0) != 11) t4959.1 0 0 false 0)) else (prout_Change.j2 K a0 a1 t4950 false t4959.1 0 0 false 0))) else (prout_Change.j2 K a0 a1 t4950 false t4959.1 0 0 false 0)))))))) else (some ((⟨0, 0, (⟨#[]⟩ : ByteArray), 0, 0, (⟨#[]⟩ : ByteArray), false, ([] : List T_api_Range), 0, 0, 0, 0, false, 0⟩ : T_api_Cmd), 180))))))))
set_option maxRecDepth 100000 in
set_option maxHeartbeats 4000000 in
theorem prout_Change.calls (K : Nat) (a0 : Int) (a1 : Int) (a2 : ByteArray)  (r : T_api_Cmd × Int) (w : World)  (h : prout_Change.f K a0 a1 a2 = some r) :
    Calls Tryd.prog 42 #[.int .i64 a0, .int .i64 a1, .string a2] w (fun e W' => ∃ A_0 c_0, e = .returned (.tuple #[.agg #[.int .i64 r.1.f0, .int .i64 r.1.f1, .string r.1.f2, .int .i64 r.1.f3, .int .i64 r.1.f4, .string r.1.f5, .bool r.1.f6, .slice A_0 r.1.f7.length c_0, .int .u64 r.1.f8, .int .u64 r.1.f9, .int .u64 r.1.f10, .int .i64 r.1.f11, .bool r.1.f12, .int .i64 r.1.f13], .int .i64 r.2]) ∧ Wd w W' [] [⟨128, 2, .slice A_0 r.1.f7.length c_0, r.1.f7.length, encs T_api_Range.enc r.1.f7⟩] ) := by
  refine sxstart (n := 115) (l := [(0, .int .i64 a0), (1, .int .i64 a1), (2, .string a2)]) Tryd.func42 rfl rfl (Nat.le_of_ble_eq_true KR) (subsA_cons rfl (subsA_cons rfl (subsA_cons rfl (subsA_nil _)))) ?_
  intro a ha
  have HW := Wd.refl w
  unfold prout_Change.f at h
  refine wp_seq_k (fun K4914 hK4915 => ?_)
  refine wp_region_lit ?_
  refine stepnew ha HW 6 #[.int .i64 0, .int .i64 0, .string (⟨#[]⟩ : ByteArray), .int .i64 0, .int .i64 0, .string (⟨#[]⟩ : ByteArray), .bool false, .slice none 0 0, .int .u64 0, .int .u64 0, .int .u64 0, .int .i64 0, .bool false, .int .i64 0] 49 KR KR ?_; clear ha HW a; intro b4916 a W4917 HW ha
  refine stepp ha 7 (.int .i64 0) KR KR ?_; clear ha a; intro a ha
  refine endl ?_
  refine thenN (hK4915 _ _ ?_); clear hK4915
  refine wp_seq_k (fun K4918 hK4919 => ?_)
  refine wp_seq_k (fun K4920 hK4921 => ?_)
  refine wp_region_lit ?_
  refine stepp ha 17 (.int .i64 a0) KR KR ?_; clear ha a; intro a ha
  refine stepp ha 18 (.bool (decide (a0 < 0))) KR KR ?_; clear ha a; intro a ha
  refine stepp ha 19 (.bool (decide (a0 < 0))) KR KR ?_; clear ha a; intro a ha
  by_cases hp4922 : a0 < 0
  · skip
    replace h := ite_pos' h hp4922
    replace ha := ha.bool 19 KR (decide_eq_true hp4922)
    refine stepo ha 20 KR ?_; clear ha a; intro a ha
    refine stepo ha 21 KR ?_; clear ha a; intro a ha
    refine stepp ha 22 (.bool true) KR KR ?_; clear ha a; intro a ha
    refine stepp ha 23 (.bool true) KR KR ?_; clear ha a; intro a ha
    refine stepo ha 24 KR ?_; clear ha a; intro a ha
    refine stepo ha 25 KR ?_; clear ha a; intro a ha
    refine stepo ha 26 KR ?_; clear ha a; intro a ha
    refine stepo ha 27 KR ?_; clear ha a; intro a ha
    refine stepp ha 28 (.bool true) KR KR ?_; clear ha a; intro a ha
    refine stepp ha 29 (.bool true) KR KR ?_; clear ha a; intro a ha
    refine stepo ha 30 KR ?_; clear ha a; intro a ha
    refine stepo ha 31 KR ?_; clear ha a; intro a ha
    refine stepo ha 32 KR ?_; clear ha a; intro a ha
    refine stepp ha 33 (.bool true) KR KR ?_; clear ha a; intro a ha
    refine endl ?_
    refine thenN (hK4921 _ _ ?_); clear hK4921
    refine condT ha KR KR (t := true) (rfl) ?_
    refine wp_seq_k (fun K4931 hK4932 => ?_)
    refine wp_region_lit ?_
    refine stepp ha 34 (.agg #[.int .i64 0, .int .i64 0, .string (⟨#[]⟩ : ByteArray), .int .i64 0, .int .i64 0, .string (⟨#[]⟩ : ByteArray), .bool false, .slice none 0 0, .int .u64 0, .int .u64 0, .int .u64 0, .int .i64 0, .bool false, .int .i64 0]) KR KR ?_; clear ha a; intro a ha
    refine stepst ha HW 0 (b := b4916) (C := #[.int .i64 0, .int .i64 0, .string (⟨#[]⟩ : ByteArray), .int .i64 0, .int .i64 0, .string (⟨#[]⟩ : ByteArray), .bool false, .slice none 0 0, .int .u64 0, .int .u64 0, .int .u64 0, .int .i64 0, .bool false, .int .i64 0]) (T := 49) KR 49 0 (.tmp 6) (.tmp 34) (.agg #[.int .i64 0, .int .i64 0, .string (⟨#[]⟩ : ByteArray), .int .i64 0, .int .i64 0, .string (⟨#[]⟩ : ByteArray), .bool false, .slice none 0 0, .int .u64 0, .int .u64 0, .int .u64 0, .int .i64 0, .bool false, .int .i64 0]) #[.int .i64 0, .int .i64 0, .string (⟨#[]⟩ : ByteArray), .int .i64 0, .int .i64 0, .string (⟨#[]⟩ : ByteArray), .bool false, .slice none 0 0, .int .u64 0, .int .u64 0, .int .u64 0, .int .i64 0, .bool false, .int .i64 0] rfl KR KR KR KR KR KR KR ?_; clear ha HW a; intro a W4933 HW ha
    refine stepp ha 7 (.int .i64 180) KR KR ?_; clear ha a; intro a ha
    refine endl ?_
    refine thenN (hK4932 _ _ ?_); clear hK4932
    refine wp_ret ?_
    refine thenR ?_
    obtain rfl := Option.some.inj h
    replace HW := HW.nilo 128 2
    exact finv ha _ _ rfl (.cell (ad := ⟨b4916, 0, none⟩) (v := .agg #[.int .i64 0, .int .i64 0, .string (⟨#[]⟩ : ByteArray), .int .i64 0, .int .i64 0, .string (⟨#[]⟩ : ByteArray), .bool false, .slice none 0 0, .int .u64 0, .int .u64 0, .int .u64 0, .int .i64 0, .bool false, .int .i64 0]) KR (run_loadVar_ca0 (HW.ca (i := 0) (b := b4916) (C := #[.int .i64 0, .int .i64 0, .string (⟨#[]⟩ : ByteArray), .int .i64 0, .int .i64 0, .string (⟨#[]⟩ : ByteArray), .bool false, .slice none 0 0, .int .u64 0, .int .u64 0, .int .u64 0, .int .i64 0, .bool false, .int .i64 0]) (T := 49) (fr := (0, 0)) KR) 49 0 (.agg #[.int .i64 0, .int .i64 0, .string (⟨#[]⟩ : ByteArray), .int .i64 0, .int .i64 0, .string (⟨#[]⟩ : ByteArray), .bool false, .slice none 0 0, .int .u64 0, .int .u64 0, .int .u64 0, .int .i64 0, .bool false, .int .i64 0]) KR) (.tmp (v := .int .i64 180) KR .nil)) (.tuple #[.agg #[.int .i64 0, .int .i64 0, .string (⟨#[]⟩ : ByteArray), .int .i64 0, .int .i64 0, .string (⟨#[]⟩ : ByteArray), .bool false, .slice none 0 0, .int .u64 0, .int .u64 0, .int .u64 0, .int .i64 0, .bool false, .int .i64 0], .int .i64 180]) rfl ⟨none, 0, rfl, HW.pick [] [0] (by decide) (by decide) rfl KR⟩
  · skip
    replace h := ite_neg' h hp4922
    replace ha := ha.bool 19 KR (decide_eq_false hp4922)
    refine stepp ha 20 (.int .i64 a0) KR KR ?_; clear ha a; intro a ha
    refine stepp ha 21 (.bool (decide (a0 > 6))) KR KR ?_; clear ha a; intro a ha
    refine stepp ha 22 (.bool (decide (a0 > 6))) KR KR ?_; clear ha a; intro a ha
    refine stepp ha 23 (.bool (decide (a0 > 6))) KR KR ?_; clear ha a; intro a ha
    by_cases hp4923 : a0 > 6
    · skip
      replace h := ite_pos' h hp4923
      replace ha := ha.bool 23 KR (decide_eq_true hp4923)
      refine stepo ha 24 KR ?_; clear ha a; intro a ha
      refine stepo ha 25 KR ?_; clear ha a; intro a ha
      refine stepo ha 26 KR ?_; clear ha a; intro a ha
      refine stepo ha 27 KR ?_; clear ha a; intro a ha
      refine stepp ha 28 (.bool true) KR KR ?_; clear ha a; intro a ha
      refine stepp ha 29 (.bool true) KR KR ?_; clear ha a; intro a ha
      refine stepo ha 30 KR ?_; clear ha a; intro a ha
      refine stepo ha 31 KR ?_; clear ha a; intro a ha
      refine stepo ha 32 KR ?_; clear ha a; intro a ha
      refine stepp ha 33 (.bool true) KR KR ?_; clear ha a; intro a ha
      refine endl ?_
      refine thenN (hK4921 _ _ ?_); clear hK4921
      refine condT ha KR KR (t := true) (rfl) ?_
      refine wp_seq_k (fun K4935 hK4936 => ?_)
      refine wp_region_lit ?_
      refine stepp ha 34 (.agg #[.int .i64 0, .int .i64 0, .string (⟨#[]⟩ : ByteArray), .int .i64 0, .int .i64 0, .string (⟨#[]⟩ : ByteArray), .bool false, .slice none 0 0, .int .u64 0, .int .u64 0, .int .u64 0, .int .i64 0, .bool false, .int .i64 0]) KR KR ?_; clear ha a; intro a ha
      refine stepst ha HW 0 (b := b4916) (C := #[.int .i64 0, .int .i64 0, .string (⟨#[]⟩ : ByteArray), .int .i64 0, .int .i64 0, .string (⟨#[]⟩ : ByteArray), .bool false, .slice none 0 0, .int .u64 0, .int .u64 0, .int .u64 0, .int .i64 0, .bool false, .int .i64 0]) (T := 49) KR 49 0 (.tmp 6) (.tmp 34) (.agg #[.int .i64 0, .int .i64 0, .string (⟨#[]⟩ : ByteArray), .int .i64 0, .int .i64 0, .string (⟨#[]⟩ : ByteArray), .bool false, .slice none 0 0, .int .u64 0, .int .u64 0, .int .u64 0, .int .i64 0, .bool false, .int .i64 0]) #[.int .i64 0, .int .i64 0, .string (⟨#[]⟩ : ByteArray), .int .i64 0, .int .i64 0, .string (⟨#[]⟩ : ByteArray), .bool false, .slice none 0 0, .int .u64 0, .int .u64 0, .int .u64 0, .int .i64 0, .bool false, .int .i64 0] rfl KR KR KR KR KR KR KR ?_; clear ha HW a; intro a W4937 HW ha
      refine stepp ha 7 (.int .i64 180) KR KR ?_; clear ha a; intro a ha
      refine endl ?_
      refine thenN (hK4936 _ _ ?_); clear hK4936
      refine wp_ret ?_
      refine thenR ?_
      obtain rfl := Option.some.inj h
      replace HW := HW.nilo 128 2
      exact finv ha _ _ rfl (.cell (ad := ⟨b4916, 0, none⟩) (v := .agg #[.int .i64 0, .int .i64 0, .string (⟨#[]⟩ : ByteArray), .int .i64 0, .int .i64 0, .string (⟨#[]⟩ : ByteArray), .bool false, .slice none 0 0, .int .u64 0, .int .u64 0, .int .u64 0, .int .i64 0, .bool false, .int .i64 0]) KR (run_loadVar_ca0 (HW.ca (i := 0) (b := b4916) (C := #[.int .i64 0, .int .i64 0, .string (⟨#[]⟩ : ByteArray), .int .i64 0, .int .i64 0, .string (⟨#[]⟩ : ByteArray), .bool false, .slice none 0 0, .int .u64 0, .int .u64 0, .int .u64 0, .int .i64 0, .bool false, .int .i64 0]) (T := 49) (fr := (0, 0)) KR) 49 0 (.agg #[.int .i64 0, .int .i64 0, .string (⟨#[]⟩ : ByteArray), .int .i64 0, .int .i64 0, .string (⟨#[]⟩ : ByteArray), .bool false, .slice none 0 0, .int .u64 0, .int .u64 0, .int .u64 0, .int .i64 0, .bool false, .int .i64 0]) KR) (.tmp (v := .int .i64 180) KR .nil)) (.tuple #[.agg #[.int .i64 0, .int .i64 0, .string (⟨#[]⟩ : ByteArray), .int .i64 0, .int .i64 0, .string (⟨#[]⟩ : ByteArray), .bool false, .slice none 0 0, .int .u64 0, .int .u64 0, .int .u64 0, .int .i64 0, .bool false, .int .i64 0], .int .i64 180]) rfl ⟨none, 0, rfl, HW.pick [] [0] (by decide) (by decide) rfl KR⟩
    · skip
      replace h := ite_neg' h hp4923
      replace ha := ha.bool 23 KR (decide_eq_false hp4923)
      obtain ⟨t4924, ht4925, h_⟩ := bind_some' h; clear h; have h := h_; clear h_
      refine stepc ha 24 KR KR (prout_ops.calls t4924 _ ht4925) ?_; clear ha a; rintro e W4926 ⟨rfl, HX4927⟩
      refine ⟨_, rfl, ?_⟩; intro a ha; replace HW := HW.callw HX4927; clear HX4927
      refine stepp ha 25 (.int .i64 a0) KR KR ?_; clear ha a; intro a ha
      obtain ⟨hA4928, h_⟩ := asrt_some h; clear h; have h := h_; clear h_
      obtain ⟨hA4929, h_⟩ := asrt_some h; clear h; have h := h_; clear h_
      refine stepai (Value.int .i64) (0 : Int) ha 26 96 7 3 (.tmp 24) (.tmp 25) .i64 a0 ([t4924.f0, t4924.f1, t4924.f2, t4924.f3, t4924.f4, t4924.f5, t4924.f6] : List Int) rfl KR KR KR KR hA4928 hA4929 KR ?_; clear ha a; intro a ha
      refine stepp ha 27 (.bool ((rdL (0 : Int) ([t4924.f0, t4924.f1, t4924.f2, t4924.f3, t4924.f4, t4924.f5, t4924.f6] : List Int) a0) == 0)) KR KR ?_; clear ha a; intro a ha
      refine stepp ha 28 (.bool ((rdL (0 : Int) ([t4924.f0, t4924.f1, t4924.f2, t4924.f3, t4924.f4, t4924.f5, t4924.f6] : List Int) a0) == 0)) KR KR ?_; clear ha a; intro a ha
      refine stepp ha 29 (.bool ((rdL (0 : Int) ([t4924.f0, t4924.f1, t4924.f2, t4924.f3, t4924.f4, t4924.f5, t4924.f6] : List Int) a0) == 0)) KR KR ?_; clear ha a; intro a ha
      by_cases hp4930 : (rdL (0 : Int) ([t4924.f0, t4924.f1, t4924.f2, t4924.f3, t4924.f4, t4924.f5, t4924.f6] : List Int) a0) = 0
      · skip
        replace h := ite_pos' h hp4930
        replace ha := ha.bool 29 KR (ieq_t hp4930)
        refine stepo ha 30 KR ?_; clear ha a; intro a ha
        refine stepo ha 31 KR ?_; clear ha a; intro a ha
        refine stepo ha 32 KR ?_; clear ha a; intro a ha
        refine stepp ha 33 (.bool true) KR KR ?_; clear ha a; intro a ha
        refine endl ?_
        refine thenN (hK4921 _ _ ?_); clear hK4921
        refine condT ha KR KR (t := true) (rfl) ?_
        refine wp_seq_k (fun K4939 hK4940 => ?_)
        refine wp_region_lit ?_
        refine stepp ha 34 (.agg #[.int .i64 0, .int .i64 0, .string (⟨#[]⟩ : ByteArray), .int .i64 0, .int .i64 0, .string (⟨#[]⟩ : ByteArray), .bool false, .slice none 0 0, .int .u64 0, .int .u64 0, .int .u64 0, .int .i64 0, .bool false, .int .i64 0]) KR KR ?_; clear ha a; intro a ha
        refine stepst ha HW 0 (b := b4916) (C := #[.int .i64 0, .int .i64 0, .string (⟨#[]⟩ : ByteArray), .int .i64 0, .int .i64 0, .string (⟨#[]⟩ : ByteArray), .bool false, .slice none 0 0, .int .u64 0, .int .u64 0, .int .u64 0, .int .i64 0, .bool false, .int .i64 0]) (T := 49) KR 49 0 (.tmp 6) (.tmp 34) (.agg #[.int .i64 0, .int .i64 0, .string (⟨#[]⟩ : ByteArray), .int .i64 0, .int .i64 0, .string (⟨#[]⟩ : ByteArray), .bool false, .slice none 0 0, .int .u64 0, .int .u64 0, .int .u64 0, .int .i64 0, .bool false, .int .i64 0]) #[.int .i64 0, .int .i64 0, .string (⟨#[]⟩ : ByteArray), .int .i64 0, .int .i64 0, .string (⟨#[]⟩ : ByteArray), .bool false, .slice none 0 0, .int .u64 0, .int .u64 0, .int .u64 0, .int .i64 0, .bool false, .int .i64 0] rfl KR KR KR KR KR KR KR ?_; clear ha HW a; intro a W4941 HW ha
        refine stepp ha 7 (.int .i64 180) KR KR ?_; clear ha a; intro a ha
        refine endl ?_
        refine thenN (hK4940 _ _ ?_); clear hK4940
        refine wp_ret ?_
        refine thenR ?_
        obtain rfl := Option.some.inj h
        replace HW := HW.nilo 128 2
        exact finv ha _ _ rfl (.cell (ad := ⟨b4916, 0, none⟩) (v := .agg #[.int .i64 0, .int .i64 0, .string (⟨#[]⟩ : ByteArray), .int .i64 0, .int .i64 0, .string (⟨#[]⟩ : ByteArray), .bool false, .slice none 0 0, .int .u64 0, .int .u64 0, .int .u64 0, .int .i64 0, .bool false, .int .i64 0]) KR (run_loadVar_ca0 (HW.ca (i := 0) (b := b4916) (C := #[.int .i64 0, .int .i64 0, .string (⟨#[]⟩ : ByteArray), .int .i64 0, .int .i64 0, .string (⟨#[]⟩ : ByteArray), .bool false, .slice none 0 0, .int .u64 0, .int .u64 0, .int .u64 0, .int .i64 0, .bool false, .int .i64 0]) (T := 49) (fr := (0, 0)) KR) 49 0 (.agg #[.int .i64 0, .int .i64 0, .string (⟨#[]⟩ : ByteArray), .int .i64 0, .int .i64 0, .string (⟨#[]⟩ : ByteArray), .bool false, .slice none 0 0, .int .u64 0, .int .u64 0, .int .u64 0, .int .i64 0, .bool false, .int .i64 0]) KR) (.tmp (v := .int .i64 180) KR .nil)) (.tuple #[.agg #[.int .i64 0, .int .i64 0, .string (⟨#[]⟩ : ByteArray), .int .i64 0, .int .i64 0, .string (⟨#[]⟩ : ByteArray), .bool false, .slice none 0 0, .int .u64 0, .int .u64 0, .int .u64 0, .int .i64 0, .bool false, .int .i64 0], .int .i64 180]) rfl ⟨none, 0, rfl, HW.pick [] [0] (by decide) (by decide) rfl KR⟩
      · skip
        replace h := ite_neg' h hp4930
        replace ha := ha.bool 29 KR (ieq_f hp4930)
        refine stepp ha 30 (.string a2) KR KR ?_; clear ha a; intro a ha
        refine stepp ha 31 (.int .i64 (a2.size : Int)) KR KR ?_; clear ha a; intro a ha
        refine stepp ha 32 (.bool ((a2.size : Int) != 24)) KR KR ?_; clear ha a; intro a ha
        refine stepp ha 33 (.bool ((a2.size : Int) != 24)) KR KR ?_; clear ha a; intro a ha
        refine endl ?_
        refine thenN (hK4921 _ _ ?_); clear hK4921
        by_cases hp4943 : (a2.size : Int) = 24
        · skip
          replace h := ite_pos' h hp4943
          refine condF ha KR KR (t := ((a2.size : Int) != 24)) (ineq_f hp4943) ?_
          refine wp_skip ?_
          refine thenN (hK4919 _ _ ?_); clear hK4919
          refine wp_seq_k (fun K4948 hK4949 => ?_)
          refine wp_region_lit ?_
          obtain ⟨t4950, ht4951, h_⟩ := bind_some' h; clear h; have h := h_; clear h_
          refine stepc ha 35 KR KR (prout_ops.calls t4950 _ ht4951) ?_; clear ha a; rintro e W4952 ⟨rfl, HX4953⟩
          refine ⟨_, rfl, ?_⟩; intro a ha; replace HW := HW.callw HX4953; clear HX4953
          refine stepp ha 36 (.int .i64 a0) KR KR ?_; clear ha a; intro a ha
          refine stepai (Value.int .i64) (0 : Int) ha 37 96 7 3 (.tmp 35) (.tmp 36) .i64 a0 ([t4950.f0, t4950.f1, t4950.f2, t4950.f3, t4950.f4, t4950.f5, t4950.f6] : List Int) rfl KR KR KR KR hA4928 hA4929 KR ?_; clear ha a; intro a ha
          refine stepp ha 38 (.int .i64 a1) KR KR ?_; clear ha a; intro a ha
          refine stepp ha 39 (.agg #[.int .i64 (rdL (0 : Int) ([t4950.f0, t4950.f1, t4950.f2, t4950.f3, t4950.f4, t4950.f5, t4950.f6] : List Int) a0), .int .i64 0, .string (⟨#[]⟩ : ByteArray), .int .i64 0, .int .i64 0, .string (⟨#[]⟩ : ByteArray), .bool false, .slice none 0 0, .int .u64 0, .int .u64 0, .int .u64 0, .int .i64 a1, .bool false, .int .i64 0]) KR KR ?_; clear ha a; intro a ha
          refine stepnew ha HW 8 #[.int .i64 0, .int .i64 0, .string (⟨#[]⟩ : ByteArray), .int .i64 0, .int .i64 0, .string (⟨#[]⟩ : ByteArray), .bool false, .slice none 0 0, .int .u64 0, .int .u64 0, .int .u64 0, .int .i64 0, .bool false, .int .i64 0] 49 KR KR ?_; clear ha HW a; intro b4954 a W4955 HW ha
          refine stepst ha HW 0 (b := b4954) (C := #[.int .i64 0, .int .i64 0, .string (⟨#[]⟩ : ByteArray), .int .i64 0, .int .i64 0, .string (⟨#[]⟩ : ByteArray), .bool false, .slice none 0 0, .int .u64 0, .int .u64 0, .int .u64 0, .int .i64 0, .bool false, .int .i64 0]) (T := 49) KR 49 0 (.tmp 8) (.tmp 39) (.agg #[.int .i64 (rdL (0 : Int) ([t4950.f0, t4950.f1, t4950.f2, t4950.f3, t4950.f4, t4950.f5, t4950.f6] : List Int) a0), .int .i64 0, .string (⟨#[]⟩ : ByteArray), .int .i64 0, .int .i64 0, .string (⟨#[]⟩ : ByteArray), .bool false, .slice none 0 0, .int .u64 0, .int .u64 0, .int .u64 0, .int .i64 a1, .bool false, .int .i64 0]) #[.int .i64 (rdL (0 : Int) ([t4950.f0, t4950.f1, t4950.f2, t4950.f3, t4950.f4, t4950.f5, t4950.f6] : List Int) a0), .int .i64 0, .string (⟨#[]⟩ : ByteArray), .int .i64 0, .int .i64 0, .string (⟨#[]⟩ : ByteArray), .bool false, .slice none 0 0, .int .u64 0, .int .u64 0, .int .u64 0, .int .i64 a1, .bool false, .int .i64 0] rfl KR KR KR KR KR KR KR ?_; clear ha HW a; intro a W4956 HW ha
          refine endl ?_
          refine thenN (hK4949 _ _ ?_); clear hK4949
          refine wp_seq_k (fun K4957 hK4958 => ?_)
          refine wp_region_lit ?_
          refine stepp ha 41 (.string a2) KR KR ?_; clear ha a; intro a ha
          obtain ⟨t4959, ht4960, h_⟩ := bind_some' h; clear h; have h := h_; clear h_
          refine stepc ha 42 KR KR (fields_Big.calls K a2 0 8 t4959 _ ht4960) ?_; clear ha a; rintro e W4961 ⟨rfl, HX4962⟩
          refine ⟨_, rfl, ?_⟩; intro a ha; replace HW := HW.callw HX4962; clear HX4962
          refine stepp ha 40 (.tuple #[.int .u64 t4959.1, .bool t4959.2]) KR KR ?_; clear ha a; intro a ha
          refine stepp ha 43 (.int .u64 t4959.1) KR KR ?_; clear ha a; intro a ha
          refine stepp ha 44 (.bool t4959.2) KR KR ?_; clear ha a; intro a ha
          refine stepp ha 9 (.int .u64 t4959.1) KR KR ?_; clear ha a; intro a ha
          refine stepp ha 10 (.bool t4959.2) KR KR ?_; clear ha a; intro a ha
          refine endl ?_
          refine thenN (hK4958 _ _ ?_); clear hK4958
          refine wp_seq_k (fun K4963 hK4964 => ?_)
          refine wp_region_lit ?_
          refine stepp ha 46 (.string a2) KR KR ?_; clear ha a; intro a ha
          obtain ⟨t4965, ht4966, h_⟩ := bind_some' h; clear h; have h := h_; clear h_
          refine stepc ha 47 KR KR (fields_Big.calls K a2 8 8 t4965 _ ht4966) ?_; clear ha a; rintro e W4967 ⟨rfl, HX4968⟩
          refine ⟨_, rfl, ?_⟩; intro a ha; replace HW := HW.callw HX4968; clear HX4968
          refine stepp ha 45 (.tuple #[.int .u64 t4965.1, .bool t4965.2]) KR KR ?_; clear ha a; intro a ha
          refine stepp ha 48 (.int .u64 t4965.1) KR KR ?_; clear ha a; intro a ha
          refine stepp ha 49 (.bool t4965.2) KR KR ?_; clear ha a; intro a ha
          refine stepp ha 11 (.int .u64 t4965.1) KR KR ?_; clear ha a; intro a ha
          refine stepp ha 12 (.bool t4965.2) KR KR ?_; clear ha a; intro a ha
          refine endl ?_
          refine thenN (hK4964 _ _ ?_); clear hK4964
          refine wp_seq_k (fun K4969 hK4970 => ?_)
          refine wp_region_lit ?_
          refine stepp ha 51 (.string a2) KR KR ?_; clear ha a; intro a ha
          obtain ⟨t4971, ht4972, h_⟩ := bind_some' h; clear h; have h := h_; clear h_
          refine stepc ha 52 KR KR (fields_Big.calls K a2 16 8 t4971 _ ht4972) ?_; clear ha a; rintro e W4973 ⟨rfl, HX4974⟩
          refine ⟨_, rfl, ?_⟩; intro a ha; replace HW := HW.callw HX4974; clear HX4974
          refine stepp ha 50 (.tuple #[.int .u64 t4971.1, .bool t4971.2]) KR KR ?_; clear ha a; intro a ha
          refine stepp ha 53 (.int .u64 t4971.1) KR KR ?_; clear ha a; intro a ha
          refine stepp ha 54 (.bool t4971.2) KR KR ?_; clear ha a; intro a ha
          refine stepp ha 13 (.int .u64 t4971.1) KR KR ?_; clear ha a; intro a ha
          refine stepp ha 14 (.bool t4971.2) KR KR ?_; clear ha a; intro a ha
          refine endl ?_
          refine thenN (hK4970 _ _ ?_); clear hK4970
          refine wp_seq_k (fun K4975 hK4976 => ?_)
          refine wp_region_lit ?_
          refine stepp ha 55 (.int .u64 t4959.1) KR KR ?_; clear ha a; intro a ha
          refine stepp ha 56 (.pointer (some ⟨b4954, 8, none⟩)) KR KR ?_; clear ha a; intro a ha
          refine stepst ha HW 0 (b := b4954) (C := #[.int .i64 (rdL (0 : Int) ([t4950.f0, t4950.f1, t4950.f2, t4950.f3, t4950.f4, t4950.f5, t4950.f6] : List Int) a0), .int .i64 0, .string (⟨#[]⟩ : ByteArray), .int .i64 0, .int .i64 0, .string (⟨#[]⟩ : ByteArray), .bool false, .slice none 0 0, .int .u64 0, .int .u64 0, .int .u64 0, .int .i64 a1, .bool false, .int .i64 0]) (T := 49) KR 42 8 (.tmp 56) (.tmp 55) (.int .u64 t4959.1) #[.int .i64 (rdL (0 : Int) ([t4950.f0, t4950.f1, t4950.f2, t4950.f3, t4950.f4, t4950.f5, t4950.f6] : List Int) a0), .int .i64 0, .string (⟨#[]⟩ : ByteArray), .int .i64 0, .int .i64 0, .string (⟨#[]⟩ : ByteArray), .bool false, .slice none 0 0, .int .u64 t4959.1, .int .u64 0, .int .u64 0, .int .i64 a1, .bool false, .int .i64 0] rfl KR KR KR KR KR KR KR ?_; clear ha HW a; intro a W4977 HW ha
          refine endl ?_
          refine thenN (hK4976 _ _ ?_); clear hK4976
          refine wp_seq_k (fun K4978 hK4979 => ?_)
          refine wp_region_lit ?_
          refine stepp ha 57 (.int .u64 t4971.1) KR KR ?_; clear ha a; intro a ha
          refine stepp ha 58 (.int .u64 (t4971.1.fdiv 16777216)) KR KR ?_; clear ha a; intro a ha
          refine stepp ha 59 (.int .u64 (band .u64 (t4971.1.fdiv 16777216) 1)) KR KR ?_; clear ha a; intro a ha
          refine stepp ha 60 (.bool ((band .u64 (t4971.1.fdiv 16777216) 1) == 1)) KR KR ?_; clear ha a; intro a ha
          refine stepp ha 15 (.bool ((band .u64 (t4971.1.fdiv 16777216) 1) == 1)) KR KR ?_; clear ha a; intro a ha
          refine endl ?_
          refine thenN (hK4979 _ _ ?_); clear hK4979
          refine wp_seq_k (fun K4980 hK4981 => ?_)
          refine wp_region_lit ?_
          refine stepp ha 61 (.int .u64 t4971.1) KR KR ?_; clear ha a; intro a ha
          refine stepp ha 62 (.int .u64 (bandNot .u64 t4971.1 16777216)) KR KR ?_; clear ha a; intro a ha
          refine stepp ha 63 (.bool ((bandNot .u64 t4971.1 16777216) == 0)) KR KR ?_; clear ha a; intro a ha
          refine stepp ha 16 (.bool ((bandNot .u64 t4971.1 16777216) == 0)) KR KR ?_; clear ha a; intro a ha
          refine endl ?_
          refine thenN (hK4981 _ _ ?_); clear hK4981
          refine wp_seq_k (fun K4982 hK4983 => ?_)
          refine cutn (fun a W5028 => ∃ (x5022 : Bool), ∃ (x5023 : Int), ∃ (x5024 : Int), ∃ (x5025 : Int), ∃ (x5026 : Bool), ∃ (x5027 : Int), prout_Change.j2 K a0 a1 t4950 x5022 x5023 x5024 x5025 x5026 x5027 = some r ∧ Has 115 [(6, .pointer (some ⟨b4916, 0, none⟩)), (8, .pointer (some ⟨b4954, 0, none⟩)), (16, .bool x5022)] a ∧ Wd w W5028 [(b4916, .cells #[.int .i64 0, .int .i64 0, .string (⟨#[]⟩ : ByteArray), .int .i64 0, .int .i64 0, .string (⟨#[]⟩ : ByteArray), .bool false, .slice none 0 0, .int .u64 0, .int .u64 0, .int .u64 0, .int .i64 0, .bool false, .int .i64 0] 49 (0, 0)), (b4954, .cells #[.int .i64 (rdL (0 : Int) ([t4950.f0, t4950.f1, t4950.f2, t4950.f3, t4950.f4, t4950.f5, t4950.f6] : List Int) a0), .int .i64 0, .string (⟨#[]⟩ : ByteArray), .int .i64 0, .int .i64 0, .string (⟨#[]⟩ : ByteArray), .bool false, .slice none 0 0, .int .u64 x5023, .int .u64 x5024, .int .u64 x5025, .int .i64 a1, .bool x5026, .int .i64 x5027] 49 (0, 0))] []) ?_ ?_
          · skip
            refine wp_seq_k (fun K4984 hK4985 => ?_)
            refine wp_region_lit ?_
            refine stepp ha 64 (.pointer (some ⟨b4954, 0, none⟩)) KR KR ?_; clear ha a; intro a ha
            refine stepl ha 65 (HW.ca (i := 0) (b := b4954) (C := #[.int .i64 (rdL (0 : Int) ([t4950.f0, t4950.f1, t4950.f2, t4950.f3, t4950.f4, t4950.f5, t4950.f6] : List Int) a0), .int .i64 0, .string (⟨#[]⟩ : ByteArray), .int .i64 0, .int .i64 0, .string (⟨#[]⟩ : ByteArray), .bool false, .slice none 0 0, .int .u64 t4959.1, .int .u64 0, .int .u64 0, .int .i64 a1, .bool false, .int .i64 0]) (T := 49) (fr := (0, 0)) KR) 3 0 (.tmp 64) (.int .i64 (rdL (0 : Int) ([t4950.f0, t4950.f1, t4950.f2, t4950.f3, t4950.f4, t4950.f5, t4950.f6] : List Int) a0)) rfl KR KR KR ?_; clear ha a; intro a ha
            refine endl ?_
            refine thenN (hK4985 _ _ ?_); clear hK4985
            refine wp_block ?_
            refine wp_seq_k (fun K4986 hK4987 => ?_)
            refine wp_region_lit ?_
            refine stepp ha 85 (.bool ((rdL (0 : Int) ([t4950.f0, t4950.f1, t4950.f2, t4950.f3, t4950.f4, t4950.f5, t4950.f6] : List Int) a0) == 8)) KR KR ?_; clear ha a; intro a ha
            refine stepp ha 84 (.bool ((rdL (0 : Int) ([t4950.f0, t4950.f1, t4950.f2, t4950.f3, t4950.f4, t4950.f5, t4950.f6] : List Int) a0) == 8)) KR KR ?_; clear ha a; intro a ha
            refine endl ?_
            refine thenN (hK4987 _ _ ?_); clear hK4987
            by_cases hp4988 : (rdL (0 : Int) ([t4950.f0, t4950.f1, t4950.f2, t4950.f3, t4950.f4, t4950.f5, t4950.f6] : List Int) a0) = 8
            · skip
              replace h := ite_pos' h hp4988
              refine condT ha KR KR (t := ((rdL (0 : Int) ([t4950.f0, t4950.f1, t4950.f2, t4950.f3, t4950.f4, t4950.f5, t4950.f6] : List Int) a0) == 8)) (ieq_t hp4988) ?_
              refine wp_seq_k (fun K4989 hK4990 => ?_)
              refine wp_region_lit ?_
              refine stepp ha 86 (.int .u64 t4965.1) KR KR ?_; clear ha a; intro a ha
              refine stepp ha 87 (.int .i64 a0) KR KR ?_; clear ha a; intro a ha
              refine stepp ha 88 (.bool (a0 == 6)) KR KR ?_; clear ha a; intro a ha
              refine stepp ha 89 (.pointer (some ⟨b4954, 9, none⟩)) KR KR ?_; clear ha a; intro a ha
              refine stepst ha HW 0 (b := b4954) (C := #[.int .i64 (rdL (0 : Int) ([t4950.f0, t4950.f1, t4950.f2, t4950.f3, t4950.f4, t4950.f5, t4950.f6] : List Int) a0), .int .i64 0, .string (⟨#[]⟩ : ByteArray), .int .i64 0, .int .i64 0, .string (⟨#[]⟩ : ByteArray), .bool false, .slice none 0 0, .int .u64 t4959.1, .int .u64 0, .int .u64 0, .int .i64 a1, .bool false, .int .i64 0]) (T := 49) KR 42 9 (.tmp 89) (.tmp 86) (.int .u64 t4965.1) #[.int .i64 (rdL (0 : Int) ([t4950.f0, t4950.f1, t4950.f2, t4950.f3, t4950.f4, t4950.f5, t4950.f6] : List Int) a0), .int .i64 0, .string (⟨#[]⟩ : ByteArray), .int .i64 0, .int .i64 0, .string (⟨#[]⟩ : ByteArray), .bool false, .slice none 0 0, .int .u64 t4959.1, .int .u64 t4965.1, .int .u64 0, .int .i64 a1, .bool false, .int .i64 0] rfl KR KR KR KR KR KR KR ?_; clear ha HW a; intro a W4991 HW ha
              refine stepp ha 90 (.pointer (some ⟨b4954, 12, none⟩)) KR KR ?_; clear ha a; intro a ha
              refine stepst ha HW 0 (b := b4954) (C := #[.int .i64 (rdL (0 : Int) ([t4950.f0, t4950.f1, t4950.f2, t4950.f3, t4950.f4, t4950.f5, t4950.f6] : List Int) a0), .int .i64 0, .string (⟨#[]⟩ : ByteArray), .int .i64 0, .int .i64 0, .string (⟨#[]⟩ : ByteArray), .bool false, .slice none 0 0, .int .u64 t4959.1, .int .u64 t4965.1, .int .u64 0, .int .i64 a1, .bool false, .int .i64 0]) (T := 49) KR 4 12 (.tmp 90) (.tmp 88) (.bool (a0 == 6)) #[.int .i64 (rdL (0 : Int) ([t4950.f0, t4950.f1, t4950.f2, t4950.f3, t4950.f4, t4950.f5, t4950.f6] : List Int) a0), .int .i64 0, .string (⟨#[]⟩ : ByteArray), .int .i64 0, .int .i64 0, .string (⟨#[]⟩ : ByteArray), .bool false, .slice none 0 0, .int .u64 t4959.1, .int .u64 t4965.1, .int .u64 0, .int .i64 a1, .bool (a0 == 6), .int .i64 0] rfl KR KR KR KR KR KR KR ?_; clear ha HW a; intro a W4992 HW ha
              refine stepp ha 91 (.pointer (some ⟨b4954, 13, none⟩)) KR KR ?_; clear ha a; intro a ha
              refine stepst ha HW 0 (b := b4954) (C := #[.int .i64 (rdL (0 : Int) ([t4950.f0, t4950.f1, t4950.f2, t4950.f3, t4950.f4, t4950.f5, t4950.f6] : List Int) a0), .int .i64 0, .string (⟨#[]⟩ : ByteArray), .int .i64 0, .int .i64 0, .string (⟨#[]⟩ : ByteArray), .bool false, .slice none 0 0, .int .u64 t4959.1, .int .u64 t4965.1, .int .u64 0, .int .i64 a1, .bool (a0 == 6), .int .i64 0]) (T := 49) KR 3 13 (.tmp 91) (.const (.int .i64 1)) (.int .i64 1) #[.int .i64 (rdL (0 : Int) ([t4950.f0, t4950.f1, t4950.f2, t4950.f3, t4950.f4, t4950.f5, t4950.f6] : List Int) a0), .int .i64 0, .string (⟨#[]⟩ : ByteArray), .int .i64 0, .int .i64 0, .string (⟨#[]⟩ : ByteArray), .bool false, .slice none 0 0, .int .u64 t4959.1, .int .u64 t4965.1, .int .u64 0, .int .i64 a1, .bool (a0 == 6), .int .i64 1] rfl KR KR KR KR KR KR KR ?_; clear ha HW a; intro a W4993 HW ha
              refine endl ?_
              refine thenN (hK4990 _ _ ?_); clear hK4990
              refine wp_seq_k (fun K4994 hK4995 => ?_)
              refine cutn (fun a W5001 => ∃ (x5000 : Int), prout_Change.j0 K a0 a1 t4950 t4959 t4965 t4971 x5000 = some r ∧ Has 115 [(1, .int .i64 a1), (6, .pointer (some ⟨b4916, 0, none⟩)), (8, .pointer (some ⟨b4954, 0, none⟩)), (16, .bool ((bandNot .u64 t4971.1 16777216) == 0))] a ∧ Wd w W5001 [(b4916, .cells #[.int .i64 0, .int .i64 0, .string (⟨#[]⟩ : ByteArray), .int .i64 0, .int .i64 0, .string (⟨#[]⟩ : ByteArray), .bool false, .slice none 0 0, .int .u64 0, .int .u64 0, .int .u64 0, .int .i64 0, .bool false, .int .i64 0] 49 (0, 0)), (b4954, .cells #[.int .i64 (rdL (0 : Int) ([t4950.f0, t4950.f1, t4950.f2, t4950.f3, t4950.f4, t4950.f5, t4950.f6] : List Int) a0), .int .i64 0, .string (⟨#[]⟩ : ByteArray), .int .i64 0, .int .i64 0, .string (⟨#[]⟩ : ByteArray), .bool false, .slice none 0 0, .int .u64 t4959.1, .int .u64 t4965.1, .int .u64 0, .int .i64 a1, .bool (a0 == 6), .int .i64 x5000] 49 (0, 0))] []) ?_ ?_
              · skip
                refine wp_seq_k (fun K4996 hK4997 => ?_)
                refine wp_region_lit ?_
                refine stepp ha 92 (.bool ((band .u64 (t4971.1.fdiv 16777216) 1) == 1)) KR KR ?_; clear ha a; intro a ha
                refine endl ?_
                refine thenN (hK4997 _ _ ?_); clear hK4997
                by_cases hp4998 : (band .u64 (t4971.1.fdiv 16777216) 1) = 1
                · skip
                  replace h := ite_pos' h hp4998
                  refine condT ha KR KR (t := ((band .u64 (t4971.1.fdiv 16777216) 1) == 1)) (ieq_t hp4998) ?_
                  refine wp_region_lit ?_
                  refine stepp ha 93 (.pointer (some ⟨b4954, 13, none⟩)) KR KR ?_; clear ha a; intro a ha
                  refine stepst ha HW 0 (b := b4954) (C := #[.int .i64 (rdL (0 : Int) ([t4950.f0, t4950.f1, t4950.f2, t4950.f3, t4950.f4, t4950.f5, t4950.f6] : List Int) a0), .int .i64 0, .string (⟨#[]⟩ : ByteArray), .int .i64 0, .int .i64 0, .string (⟨#[]⟩ : ByteArray), .bool false, .slice none 0 0, .int .u64 t4959.1, .int .u64 t4965.1, .int .u64 0, .int .i64 a1, .bool (a0 == 6), .int .i64 1]) (T := 49) KR 3 13 (.tmp 93) (.const (.int .i64 2)) (.int .i64 2) #[.int .i64 (rdL (0 : Int) ([t4950.f0, t4950.f1, t4950.f2, t4950.f3, t4950.f4, t4950.f5, t4950.f6] : List Int) a0), .int .i64 0, .string (⟨#[]⟩ : ByteArray), .int .i64 0, .int .i64 0, .string (⟨#[]⟩ : ByteArray), .bool false, .slice none 0 0, .int .u64 t4959.1, .int .u64 t4965.1, .int .u64 0, .int .i64 a1, .bool (a0 == 6), .int .i64 2] rfl KR KR KR KR KR KR KR ?_; clear ha HW a; intro a W4999 HW ha
                  refine endl ?_
                  exact thenN ⟨2, h, ha.sub (subs_cons KR (subs_cons KR (subs_cons KR (subs_cons KR (subs_nil _))))), HW.pick [1, 0] [] (by decide) (by decide) KR KR⟩
                · skip
                  replace h := ite_neg' h hp4998
                  refine condF ha KR KR (t := ((band .u64 (t4971.1.fdiv 16777216) 1) == 1)) (ieq_f hp4998) ?_
                  refine wp_skip ?_
                  exact thenN ⟨1, h, ha.sub (subs_cons KR (subs_cons KR (subs_cons KR (subs_cons KR (subs_nil _))))), HW.pick [1, 0] [] (by decide) (by decide) KR KR⟩
              · skip
                intro a W5001 hJ
                obtain ⟨x5000, h, ha, HW⟩ := hJ
                replace h : prout_Change.j0 K a0 a1 t4950 t4959 t4965 t4971 x5000 = some r := h
                unfold prout_Change.j0 at h
                refine hK4995 _ _ ?_; clear hK4995
                refine wp_seq_k (fun K5002 hK5003 => ?_)
                refine cutn (fun a W5009 => ∃ (x5008 : Int), prout_Change.j1 K a0 a1 t4950 t4965 t4971 x5000 x5008 = some r ∧ Has 115 [(1, .int .i64 a1), (6, .pointer (some ⟨b4916, 0, none⟩)), (8, .pointer (some ⟨b4954, 0, none⟩)), (16, .bool ((bandNot .u64 t4971.1 16777216) == 0))] a ∧ Wd w W5009 [(b4916, .cells #[.int .i64 0, .int .i64 0, .string (⟨#[]⟩ : ByteArray), .int .i64 0, .int .i64 0, .string (⟨#[]⟩ : ByteArray), .bool false, .slice none 0 0, .int .u64 0, .int .u64 0, .int .u64 0, .int .i64 0, .bool false, .int .i64 0] 49 (0, 0)), (b4954, .cells #[.int .i64 (rdL (0 : Int) ([t4950.f0, t4950.f1, t4950.f2, t4950.f3, t4950.f4, t4950.f5, t4950.f6] : List Int) a0), .int .i64 0, .string (⟨#[]⟩ : ByteArray), .int .i64 0, .int .i64 0, .string (⟨#[]⟩ : ByteArray), .bool false, .slice none 0 0, .int .u64 x5008, .int .u64 t4965.1, .int .u64 0, .int .i64 a1, .bool (a0 == 6), .int .i64 x5000] 49 (0, 0))] []) ?_ ?_
                · skip
                  refine wp_seq_k (fun K5004 hK5005 => ?_)
                  refine wp_region_lit ?_
                  refine stepp ha 94 (.pointer (some ⟨b4954, 12, none⟩)) KR KR ?_; clear ha a; intro a ha
                  refine stepl ha 95 (HW.ca (i := 1) (b := b4954) (C := #[.int .i64 (rdL (0 : Int) ([t4950.f0, t4950.f1, t4950.f2, t4950.f3, t4950.f4, t4950.f5, t4950.f6] : List Int) a0), .int .i64 0, .string (⟨#[]⟩ : ByteArray), .int .i64 0, .int .i64 0, .string (⟨#[]⟩ : ByteArray), .bool false, .slice none 0 0, .int .u64 t4959.1, .int .u64 t4965.1, .int .u64 0, .int .i64 a1, .bool (a0 == 6), .int .i64 x5000]) (T := 49) (fr := (0, 0)) KR) 4 12 (.tmp 94) (.bool (a0 == 6)) rfl KR KR KR ?_; clear ha a; intro a ha
                  refine endl ?_
                  refine thenN (hK5005 _ _ ?_); clear hK5005
                  by_cases hp5006 : a0 = 6
                  · skip
                    replace h := ite_pos' h hp5006
                    refine condT ha KR KR (t := (a0 == 6)) (ieq_t hp5006) ?_
                    refine wp_region_lit ?_
                    refine stepp ha 96 (.pointer (some ⟨b4954, 8, none⟩)) KR KR ?_; clear ha a; intro a ha
                    refine stepst ha HW 1 (b := b4954) (C := #[.int .i64 (rdL (0 : Int) ([t4950.f0, t4950.f1, t4950.f2, t4950.f3, t4950.f4, t4950.f5, t4950.f6] : List Int) a0), .int .i64 0, .string (⟨#[]⟩ : ByteArray), .int .i64 0, .int .i64 0, .string (⟨#[]⟩ : ByteArray), .bool false, .slice none 0 0, .int .u64 t4959.1, .int .u64 t4965.1, .int .u64 0, .int .i64 a1, .bool (a0 == 6), .int .i64 x5000]) (T := 49) KR 42 8 (.tmp 96) (.const (.int .u64 0)) (.int .u64 0) #[.int .i64 (rdL (0 : Int) ([t4950.f0, t4950.f1, t4950.f2, t4950.f3, t4950.f4, t4950.f5, t4950.f6] : List Int) a0), .int .i64 0, .string (⟨#[]⟩ : ByteArray), .int .i64 0, .int .i64 0, .string (⟨#[]⟩ : ByteArray), .bool false, .slice none 0 0, .int .u64 0, .int .u64 t4965.1, .int .u64 0, .int .i64 a1, .bool (a0 == 6), .int .i64 x5000] rfl KR KR KR KR KR KR KR ?_; clear ha HW a; intro a W5007 HW ha
                    refine endl ?_
                    exact thenN ⟨0, h, ha.sub (subs_cons KR (subs_cons KR (subs_cons KR (subs_cons KR (subs_nil _))))), HW.pick [0, 1] [] (by decide) (by decide) KR KR⟩
                  · skip
                    replace h := ite_neg' h hp5006
                    refine condF ha KR KR (t := (a0 == 6)) (ieq_f hp5006) ?_
                    refine wp_skip ?_
                    exact thenN ⟨t4959.1, h, ha.sub (subs_cons KR (subs_cons KR (subs_cons KR (subs_cons KR (subs_nil _))))), HW.pick [0, 1] [] (by decide) (by decide) KR KR⟩
                · skip
                  intro a W5009 hJ
                  obtain ⟨x5008, h, ha, HW⟩ := hJ
                  replace h : prout_Change.j1 K a0 a1 t4950 t4965 t4971 x5000 x5008 = some r := h
                  unfold prout_Change.j1 at h
                  refine hK5003 _ _ ?_; clear hK5003
                  refine wp_region_lit ?_
                  refine stepp ha 97 (.bool ((bandNot .u64 t4971.1 16777216) == 0)) KR KR ?_; clear ha a; intro a ha
                  refine stepp ha 98 (.bool ((bandNot .u64 t4971.1 16777216) == 0)) KR KR ?_; clear ha a; intro a ha
                  by_cases hp5010 : (bandNot .u64 t4971.1 16777216) = 0
                  · skip
                    replace h := ite_pos' h hp5010
                    replace ha := ha.bool 98 KR (ieq_t hp5010)
                    refine stepp ha 99 (.int .i64 a1) KR KR ?_; clear ha a; intro a ha
                    refine stepp ha 100 (.bool (a1 == 0)) KR KR ?_; clear ha a; intro a ha
                    refine stepp ha 101 (.bool (a1 == 0)) KR KR ?_; clear ha a; intro a ha
                    refine stepp ha 16 (.bool (a1 == 0)) KR KR ?_; clear ha a; intro a ha
                    refine endl ?_
                    refine blkN ?_
                    exact thenN ⟨(a1 == 0), x5008, t4965.1, 0, (a0 == 6), x5000, h, ha.sub (subs_cons KR (subs_cons KR (subs_cons KR (subs_nil _)))), HW.pick [0, 1] [] (by decide) (by decide) KR KR⟩
                  · skip
                    replace h := ite_neg' h hp5010
                    replace ha := ha.bool 98 KR (ieq_f hp5010)
                    refine stepo ha 99 KR ?_; clear ha a; intro a ha
                    refine stepo ha 100 KR ?_; clear ha a; intro a ha
                    refine stepp ha 101 (.bool false) KR KR ?_; clear ha a; intro a ha
                    refine stepp ha 16 (.bool false) KR KR ?_; clear ha a; intro a ha
                    refine endl ?_
                    refine blkN ?_
                    exact thenN ⟨false, x5008, t4965.1, 0, (a0 == 6), x5000, h, ha.sub (subs_cons KR (subs_cons KR (subs_cons KR (subs_nil _)))), HW.pick [0, 1] [] (by decide) (by decide) KR KR⟩
            · skip
              replace h := ite_neg' h hp4988
              refine condF ha KR KR (t := ((rdL (0 : Int) ([t4950.f0, t4950.f1, t4950.f2, t4950.f3, t4950.f4, t4950.f5, t4950.f6] : List Int) a0) == 8)) (ieq_f hp4988) ?_
              refine wp_seq_k (fun K5011 hK5012 => ?_)
              refine wp_region_lit ?_
              refine stepp ha 103 (.bool ((rdL (0 : Int) ([t4950.f0, t4950.f1, t4950.f2, t4950.f3, t4950.f4, t4950.f5, t4950.f6] : List Int) a0) == 12)) KR KR ?_; clear ha a; intro a ha
              refine stepp ha 102 (.bool ((rdL (0 : Int) ([t4950.f0, t4950.f1, t4950.f2, t4950.f3, t4950.f4, t4950.f5, t4950.f6] : List Int) a0) == 12)) KR KR ?_; clear ha a; intro a ha
              refine endl ?_
              refine thenN (hK5012 _ _ ?_); clear hK5012
              by_cases hp5013 : (rdL (0 : Int) ([t4950.f0, t4950.f1, t4950.f2, t4950.f3, t4950.f4, t4950.f5, t4950.f6] : List Int) a0) = 12
              · skip
                replace h := ite_pos' h hp5013
                refine condT ha KR KR (t := ((rdL (0 : Int) ([t4950.f0, t4950.f1, t4950.f2, t4950.f3, t4950.f4, t4950.f5, t4950.f6] : List Int) a0) == 12)) (ieq_t hp5013) ?_
                refine wp_seq_k (fun K5014 hK5015 => ?_)
                refine wp_region_lit ?_
                refine stepp ha 104 (.int .u64 t4965.1) KR KR ?_; clear ha a; intro a ha
                refine stepp ha 105 (.pointer (some ⟨b4954, 10, none⟩)) KR KR ?_; clear ha a; intro a ha
                refine stepst ha HW 0 (b := b4954) (C := #[.int .i64 (rdL (0 : Int) ([t4950.f0, t4950.f1, t4950.f2, t4950.f3, t4950.f4, t4950.f5, t4950.f6] : List Int) a0), .int .i64 0, .string (⟨#[]⟩ : ByteArray), .int .i64 0, .int .i64 0, .string (⟨#[]⟩ : ByteArray), .bool false, .slice none 0 0, .int .u64 t4959.1, .int .u64 0, .int .u64 0, .int .i64 a1, .bool false, .int .i64 0]) (T := 49) KR 42 10 (.tmp 105) (.tmp 104) (.int .u64 t4965.1) #[.int .i64 (rdL (0 : Int) ([t4950.f0, t4950.f1, t4950.f2, t4950.f3, t4950.f4, t4950.f5, t4950.f6] : List Int) a0), .int .i64 0, .string (⟨#[]⟩ : ByteArray), .int .i64 0, .int .i64 0, .string (⟨#[]⟩ : ByteArray), .bool false, .slice none 0 0, .int .u64 t4959.1, .int .u64 0, .int .u64 t4965.1, .int .i64 a1, .bool false, .int .i64 0] rfl KR KR KR KR KR KR KR ?_; clear ha HW a; intro a W5016 HW ha
                refine endl ?_
                refine thenN (hK5015 _ _ ?_); clear hK5015
                refine wp_region_lit ?_
                refine stepp ha 106 (.bool ((bandNot .u64 t4971.1 16777216) == 0)) KR KR ?_; clear ha a; intro a ha
                refine stepp ha 107 (.bool ((bandNot .u64 t4971.1 16777216) == 0)) KR KR ?_; clear ha a; intro a ha
                by_cases hp5017 : (bandNot .u64 t4971.1 16777216) = 0
                · skip
                  replace h := ite_pos' h hp5017
                  replace ha := ha.bool 107 KR (ieq_t hp5017)
                  refine stepp ha 108 (.bool ((band .u64 (t4971.1.fdiv 16777216) 1) == 1)) KR KR ?_; clear ha a; intro a ha
                  refine stepp ha 109 (.bool (!((band .u64 (t4971.1.fdiv 16777216) 1) == 1))) KR KR ?_; clear ha a; intro a ha
                  refine stepp ha 110 (.bool (!((band .u64 (t4971.1.fdiv 16777216) 1) == 1))) KR KR ?_; clear ha a; intro a ha
                  refine stepp ha 16 (.bool (!((band .u64 (t4971.1.fdiv 16777216) 1) == 1))) KR KR ?_; clear ha a; intro a ha
                  refine endl ?_
                  refine blkN ?_
                  exact thenN ⟨(!((band .u64 (t4971.1.fdiv 16777216) 1) == 1)), t4959.1, 0, t4965.1, false, 0, h, ha.sub (subs_cons KR (subs_cons KR (subs_cons KR (subs_nil _)))), HW.pick [1, 0] [] (by decide) (by decide) KR KR⟩
                · skip
                  replace h := ite_neg' h hp5017
                  replace ha := ha.bool 107 KR (ieq_f hp5017)
                  refine stepo ha 108 KR ?_; clear ha a; intro a ha
                  refine stepo ha 109 KR ?_; clear ha a; intro a ha
                  refine stepp ha 110 (.bool false) KR KR ?_; clear ha a; intro a ha
                  refine stepp ha 16 (.bool false) KR KR ?_; clear ha a; intro a ha
                  refine endl ?_
                  refine blkN ?_
                  exact thenN ⟨false, t4959.1, 0, t4965.1, false, 0, h, ha.sub (subs_cons KR (subs_cons KR (subs_cons KR (subs_nil _)))), HW.pick [1, 0] [] (by decide) (by decide) KR KR⟩
              · skip
                replace h := ite_neg' h hp5013
                refine condF ha KR KR (t := ((rdL (0 : Int) ([t4950.f0, t4950.f1, t4950.f2, t4950.f3, t4950.f4, t4950.f5, t4950.f6] : List Int) a0) == 12)) (ieq_f hp5013) ?_
                refine wp_region_lit ?_
                refine stepp ha 66 (.bool ((bandNot .u64 t4971.1 16777216) == 0)) KR KR ?_; clear ha a; intro a ha
                refine stepp ha 67 (.bool ((bandNot .u64 t4971.1 16777216) == 0)) KR KR ?_; clear ha a; intro a ha
                by_cases hp5018 : (bandNot .u64 t4971.1 16777216) = 0
                · skip
                  replace h := ite_pos' h hp5018
                  replace ha := ha.bool 67 KR (ieq_t hp5018)
                  refine stepp ha 68 (.bool ((band .u64 (t4971.1.fdiv 16777216) 1) == 1)) KR KR ?_; clear ha a; intro a ha
                  refine stepp ha 69 (.bool (!((band .u64 (t4971.1.fdiv 16777216) 1) == 1))) KR KR ?_; clear ha a; intro a ha
                  refine stepp ha 70 (.bool (!((band .u64 (t4971.1.fdiv 16777216) 1) == 1))) KR KR ?_; clear ha a; intro a ha
                  refine stepp ha 71 (.bool (!((band .u64 (t4971.1.fdiv 16777216) 1) == 1))) KR KR ?_; clear ha a; intro a ha
                  by_cases hp5019 : (band .u64 (t4971.1.fdiv 16777216) 1) = 1
                  · skip
                    replace h := ite_pos' h hp5019
                    replace ha := ha.bool 71 KR (not_f (ieq_t hp5019))
                    refine stepo ha 72 KR ?_; clear ha a; intro a ha
                    refine stepo ha 73 KR ?_; clear ha a; intro a ha
                    refine stepp ha 74 (.bool false) KR KR ?_; clear ha a; intro a ha
                    refine stepp ha 75 (.bool false) KR KR ?_; clear ha a; intro a ha
                    refine stepo ha 76 KR ?_; clear ha a; intro a ha
                    refine stepo ha 77 KR ?_; clear ha a; intro a ha
                    refine stepo ha 78 KR ?_; clear ha a; intro a ha
                    refine stepo ha 79 KR ?_; clear ha a; intro a ha
                    refine stepo ha 80 KR ?_; clear ha a; intro a ha
                    refine stepo ha 81 KR ?_; clear ha a; intro a ha
                    refine stepo ha 82 KR ?_; clear ha a; intro a ha
                    refine stepp ha 83 (.bool false) KR KR ?_; clear ha a; intro a ha
                    refine stepp ha 16 (.bool false) KR KR ?_; clear ha a; intro a ha
                    refine endl ?_
                    refine blkN ?_
                    exact thenN ⟨false, t4959.1, 0, 0, false, 0, h, ha.sub (subs_cons KR (subs_cons KR (subs_cons KR (subs_nil _)))), HW.pick [1, 0] [] (by decide) (by decide) KR KR⟩
                  · skip
                    replace h := ite_neg' h hp5019
                    replace ha := ha.bool 71 KR (not_t (ieq_f hp5019))
                    refine stepp ha 72 (.int .u64 t4965.1) KR KR ?_; clear ha a; intro a ha
                    refine stepp ha 73 (.bool (t4965.1 == 0)) KR KR ?_; clear ha a; intro a ha
                    refine stepp ha 74 (.bool (t4965.1 == 0)) KR KR ?_; clear ha a; intro a ha
                    refine stepp ha 75 (.bool (t4965.1 == 0)) KR KR ?_; clear ha a; intro a ha
                    by_cases hp5020 : t4965.1 = 0
                    · skip
                      replace h := ite_pos' h hp5020
                      replace ha := ha.bool 75 KR (ieq_t hp5020)
                      refine stepp ha 76 (.int .i64 a1) KR KR ?_; clear ha a; intro a ha
                      refine stepp ha 77 (.bool (a1 == 0)) KR KR ?_; clear ha a; intro a ha
                      refine stepp ha 78 (.bool (a1 == 0)) KR KR ?_; clear ha a; intro a ha
                      by_cases hp5021 : a1 = 0
                      · skip
                        replace h := ite_pos' h hp5021
                        replace ha := ha.bool 78 KR (ieq_t hp5021)
                        refine stepo ha 79 KR ?_; clear ha a; intro a ha
                        refine stepo ha 80 KR ?_; clear ha a; intro a ha
                        refine stepo ha 81 KR ?_; clear ha a; intro a ha
                        refine stepp ha 82 (.bool true) KR KR ?_; clear ha a; intro a ha
                        refine stepp ha 83 (.bool true) KR KR ?_; clear ha a; intro a ha
                        refine stepp ha 16 (.bool true) KR KR ?_; clear ha a; intro a ha
                        refine endl ?_
                        refine blkN ?_
                        exact thenN ⟨true, t4959.1, 0, 0, false, 0, h, ha.sub (subs_cons KR (subs_cons KR (subs_cons KR (subs_nil _)))), HW.pick [1, 0] [] (by decide) (by decide) KR KR⟩
                      · skip
                        replace h := ite_neg' h hp5021
                        replace ha := ha.bool 78 KR (ieq_f hp5021)
                        refine stepp ha 79 (.pointer (some ⟨b4954, 0, none⟩)) KR KR ?_; clear ha a; intro a ha
                        refine stepl ha 80 (HW.ca (i := 0) (b := b4954) (C := #[.int .i64 (rdL (0 : Int) ([t4950.f0, t4950.f1, t4950.f2, t4950.f3, t4950.f4, t4950.f5, t4950.f6] : List Int) a0), .int .i64 0, .string (⟨#[]⟩ : ByteArray), .int .i64 0, .int .i64 0, .string (⟨#[]⟩ : ByteArray), .bool false, .slice none 0 0, .int .u64 t4959.1, .int .u64 0, .int .u64 0, .int .i64 a1, .bool false, .int .i64 0]) (T := 49) (fr := (0, 0)) KR) 3 0 (.tmp 79) (.int .i64 (rdL (0 : Int) ([t4950.f0, t4950.f1, t4950.f2, t4950.f3, t4950.f4, t4950.f5, t4950.f6] : List Int) a0)) rfl KR KR KR ?_; clear ha a; intro a ha
                        refine stepp ha 81 (.bool ((rdL (0 : Int) ([t4950.f0, t4950.f1, t4950.f2, t4950.f3, t4950.f4, t4950.f5, t4950.f6] : List Int) a0) != 11)) KR KR ?_; clear ha a; intro a ha
                        refine stepp ha 82 (.bool ((rdL (0 : Int) ([t4950.f0, t4950.f1, t4950.f2, t4950.f3, t4950.f4, t4950.f5, t4950.f6] : List Int) a0) != 11)) KR KR ?_; clear ha a; intro a ha
                        refine stepp ha 83 (.bool ((rdL (0 : Int) ([t4950.f0, t4950.f1, t4950.f2, t4950.f3, t4950.f4, t4950.f5, t4950.f6] : List Int) a0) != 11)) KR KR ?_; clear ha a; intro a ha
                        refine stepp ha 16 (.bool ((rdL (0 : Int) ([t4950.f0, t4950.f1, t4950.f2, t4950.f3, t4950.f4, t4950.f5, t4950.f6] : List Int) a0) != 11)) KR KR ?_; clear ha a; intro a ha
                        refine endl ?_
                        refine blkN ?_
                        exact thenN ⟨((rdL (0 : Int) ([t4950.f0, t4950.f1, t4950.f2, t4950.f3, t4950.f4, t4950.f5, t4950.f6] : List Int) a0) != 11), t4959.1, 0, 0, false, 0, h, ha.sub (subs_cons KR (subs_cons KR (subs_cons KR (subs_nil _)))), HW.pick [1, 0] [] (by decide) (by decide) KR KR⟩
                    · skip
                      replace h := ite_neg' h hp5020
                      replace ha := ha.bool 75 KR (ieq_f hp5020)
                      refine stepo ha 76 KR ?_; clear ha a; intro a ha
                      refine stepo ha 77 KR ?_; clear ha a; intro a ha
                      refine stepo ha 78 KR ?_; clear ha a; intro a ha
                      refine stepo ha 79 KR ?_; clear ha a; intro a ha
                      refine stepo ha 80 KR ?_; clear ha a; intro a ha
                      refine stepo ha 81 KR ?_; clear ha a; intro a ha
                      refine stepo ha 82 KR ?_; clear ha a; intro a ha
                      refine stepp ha 83 (.bool false) KR KR ?_; clear ha a; intro a ha
                      refine stepp ha 16 (.bool false) KR KR ?_; clear ha a; intro a ha
                      refine endl ?_
                      refine blkN ?_
                      exact thenN ⟨false, t4959.1, 0, 0, false, 0, h, ha.sub (subs_cons KR (subs_cons KR (subs_cons KR (subs_nil _)))), HW.pick [1, 0] [] (by decide) (by decide) KR KR⟩
                · skip
                  replace h := ite_neg' h hp5018
                  replace ha := ha.bool 67 KR (ieq_f hp5018)
                  refine stepo ha 68 KR ?_; clear ha a; intro a ha
                  refine stepo ha 69 KR ?_; clear ha a; intro a ha
                  refine stepp ha 70 (.bool false) KR KR ?_; clear ha a; intro a ha
                  refine stepp ha 71 (.bool false) KR KR ?_; clear ha a; intro a ha
                  refine stepo ha 72 KR ?_; clear ha a; intro a ha
                  refine stepo ha 73 KR ?_; clear ha a; intro a ha
                  refine stepp ha 74 (.bool false) KR KR ?_; clear ha a; intro a ha
                  refine stepp ha 75 (.bool false) KR KR ?_; clear ha a; intro a ha
                  refine stepo ha 76 KR ?_; clear ha a; intro a ha
                  refine stepo ha 77 KR ?_; clear ha a; intro a ha
                  refine stepo ha 78 KR ?_; clear ha a; intro a ha
                  refine stepo ha 79 KR ?_; clear ha a; intro a ha
                  refine stepo ha 80 KR ?_; clear ha a; intro a ha
                  refine stepo ha 81 KR ?_; clear ha a; intro a ha
                  refine stepo ha 82 KR ?_; clear ha a; intro a ha
                  refine stepp ha 83 (.bool false) KR KR ?_; clear ha a; intro a ha
                  refine stepp ha 16 (.bool false) KR KR ?_; clear ha a; intro a ha
                  refine endl ?_
                  refine blkN ?_
                  exact thenN ⟨false, t4959.1, 0, 0, false, 0, h, ha.sub (subs_cons KR (subs_cons KR (subs_cons KR (subs_nil _)))), HW.pick [1, 0] [] (by decide) (by decide) KR KR⟩
          · skip
            intro a W5028 hJ
            obtain ⟨x5022, x5023, x5024, x5025, x5026, x5027, h, ha, HW⟩ := hJ
            replace h : prout_Change.j2 K a0 a1 t4950 x5022 x5023 x5024 x5025 x5026 x5027 = some r := h
            unfold prout_Change.j2 at h
            refine hK4983 _ _ ?_; clear hK4983
            refine wp_seq_k (fun K5029 hK5030 => ?_)
            refine wp_seq_k (fun K5031 hK5032 => ?_)
            refine wp_region_lit ?_
            refine stepp ha 111 (.bool x5022) KR KR ?_; clear ha a; intro a ha
            refine stepp ha 112 (.bool (!x5022)) KR KR ?_; clear ha a; intro a ha
            refine endl ?_
            refine thenN (hK5032 _ _ ?_); clear hK5032
            by_cases hp5033 : x5022 = true
            · skip
              replace h := ite_pos' h hp5033
              refine condF ha KR KR (t := (!x5022)) (not_f (hp5033)) ?_
              refine wp_skip ?_
              refine thenN (hK5030 _ _ ?_); clear hK5030
              refine wp_seq_k (fun K5038 hK5039 => ?_)
              refine wp_region_lit ?_
              refine stepl ha 114 (HW.ca (i := 1) (b := b4954) (C := #[.int .i64 (rdL (0 : Int) ([t4950.f0, t4950.f1, t4950.f2, t4950.f3, t4950.f4, t4950.f5, t4950.f6] : List Int) a0), .int .i64 0, .string (⟨#[]⟩ : ByteArray), .int .i64 0, .int .i64 0, .string (⟨#[]⟩ : ByteArray), .bool false, .slice none 0 0, .int .u64 x5023, .int .u64 x5024, .int .u64 x5025, .int .i64 a1, .bool x5026, .int .i64 x5027]) (T := 49) (fr := (0, 0)) KR) 49 0 (.tmp 8) (.agg #[.int .i64 (rdL (0 : Int) ([t4950.f0, t4950.f1, t4950.f2, t4950.f3, t4950.f4, t4950.f5, t4950.f6] : List Int) a0), .int .i64 0, .string (⟨#[]⟩ : ByteArray), .int .i64 0, .int .i64 0, .string (⟨#[]⟩ : ByteArray), .bool false, .slice none 0 0, .int .u64 x5023, .int .u64 x5024, .int .u64 x5025, .int .i64 a1, .bool x5026, .int .i64 x5027]) rfl KR KR KR ?_; clear ha a; intro a ha
              refine stepst ha HW 0 (b := b4916) (C := #[.int .i64 0, .int .i64 0, .string (⟨#[]⟩ : ByteArray), .int .i64 0, .int .i64 0, .string (⟨#[]⟩ : ByteArray), .bool false, .slice none 0 0, .int .u64 0, .int .u64 0, .int .u64 0, .int .i64 0, .bool false, .int .i64 0]) (T := 49) KR 49 0 (.tmp 6) (.tmp 114) (.agg #[.int .i64 (rdL (0 : Int) ([t4950.f0, t4950.f1, t4950.f2, t4950.f3, t4950.f4, t4950.f5, t4950.f6] : List Int) a0), .int .i64 0, .string (⟨#[]⟩ : ByteArray), .int .i64 0, .int .i64 0, .string (⟨#[]⟩ : ByteArray), .bool false, .slice none 0 0, .int .u64 x5023, .int .u64 x5024, .int .u64 x5025, .int .i64 a1, .bool x5026, .int .i64 x5027]) #[.int .i64 (rdL (0 : Int) ([t4950.f0, t4950.f1, t4950.f2, t4950.f3, t4950.f4, t4950.f5, t4950.f6] : List Int) a0), .int .i64 0, .string (⟨#[]⟩ : ByteArray), .int .i64 0, .int .i64 0, .string (⟨#[]⟩ : ByteArray), .bool false, .slice none 0 0, .int .u64 x5023, .int .u64 x5024, .int .u64 x5025, .int .i64 a1, .bool x5026, .int .i64 x5027] rfl KR KR KR KR KR KR KR ?_; clear ha HW a; intro a W5040 HW ha
              refine stepp ha 7 (.int .i64 0) KR KR ?_; clear ha a; intro a ha
              refine endl ?_
              refine thenN (hK5039 _ _ ?_); clear hK5039
              refine wp_ret ?_
              obtain rfl := Option.some.inj h
              replace HW := HW.nilo 128 2
              exact finv ha _ _ rfl (.cell (ad := ⟨b4916, 0, none⟩) (v := .agg #[.int .i64 (rdL (0 : Int) ([t4950.f0, t4950.f1, t4950.f2, t4950.f3, t4950.f4, t4950.f5, t4950.f6] : List Int) a0), .int .i64 0, .string (⟨#[]⟩ : ByteArray), .int .i64 0, .int .i64 0, .string (⟨#[]⟩ : ByteArray), .bool false, .slice none 0 0, .int .u64 x5023, .int .u64 x5024, .int .u64 x5025, .int .i64 a1, .bool x5026, .int .i64 x5027]) KR (run_loadVar_ca0 (HW.ca (i := 0) (b := b4916) (C := #[.int .i64 (rdL (0 : Int) ([t4950.f0, t4950.f1, t4950.f2, t4950.f3, t4950.f4, t4950.f5, t4950.f6] : List Int) a0), .int .i64 0, .string (⟨#[]⟩ : ByteArray), .int .i64 0, .int .i64 0, .string (⟨#[]⟩ : ByteArray), .bool false, .slice none 0 0, .int .u64 x5023, .int .u64 x5024, .int .u64 x5025, .int .i64 a1, .bool x5026, .int .i64 x5027]) (T := 49) (fr := (0, 0)) KR) 49 0 (.agg #[.int .i64 (rdL (0 : Int) ([t4950.f0, t4950.f1, t4950.f2, t4950.f3, t4950.f4, t4950.f5, t4950.f6] : List Int) a0), .int .i64 0, .string (⟨#[]⟩ : ByteArray), .int .i64 0, .int .i64 0, .string (⟨#[]⟩ : ByteArray), .bool false, .slice none 0 0, .int .u64 x5023, .int .u64 x5024, .int .u64 x5025, .int .i64 a1, .bool x5026, .int .i64 x5027]) KR) (.tmp (v := .int .i64 0) KR .nil)) (.tuple #[.agg #[.int .i64 (rdL (0 : Int) ([t4950.f0, t4950.f1, t4950.f2, t4950.f3, t4950.f4, t4950.f5, t4950.f6] : List Int) a0), .int .i64 0, .string (⟨#[]⟩ : ByteArray), .int .i64 0, .int .i64 0, .string (⟨#[]⟩ : ByteArray), .bool false, .slice none 0 0, .int .u64 x5023, .int .u64 x5024, .int .u64 x5025, .int .i64 a1, .bool x5026, .int .i64 x5027], .int .i64 0]) rfl ⟨none, 0, rfl, HW.pick [] [0] (by decide) (by decide) rfl KR⟩
            · skip
              replace h := ite_neg' h hp5033
              refine condT ha KR KR (t := (!x5022)) (not_t (bool_f hp5033)) ?_
              refine wp_seq_k (fun K5034 hK5035 => ?_)
              refine wp_region_lit ?_
              refine stepp ha 113 (.agg #[.int .i64 0, .int .i64 0, .string (⟨#[]⟩ : ByteArray), .int .i64 0, .int .i64 0, .string (⟨#[]⟩ : ByteArray), .bool false, .slice none 0 0, .int .u64 0, .int .u64 0, .int .u64 0, .int .i64 0, .bool false, .int .i64 0]) KR KR ?_; clear ha a; intro a ha
              refine stepst ha HW 0 (b := b4916) (C := #[.int .i64 0, .int .i64 0, .string (⟨#[]⟩ : ByteArray), .int .i64 0, .int .i64 0, .string (⟨#[]⟩ : ByteArray), .bool false, .slice none 0 0, .int .u64 0, .int .u64 0, .int .u64 0, .int .i64 0, .bool false, .int .i64 0]) (T := 49) KR 49 0 (.tmp 6) (.tmp 113) (.agg #[.int .i64 0, .int .i64 0, .string (⟨#[]⟩ : ByteArray), .int .i64 0, .int .i64 0, .string (⟨#[]⟩ : ByteArray), .bool false, .slice none 0 0, .int .u64 0, .int .u64 0, .int .u64 0, .int .i64 0, .bool false, .int .i64 0]) #[.int .i64 0, .int .i64 0, .string (⟨#[]⟩ : ByteArray), .int .i64 0, .int .i64 0, .string (⟨#[]⟩ : ByteArray), .bool false, .slice none 0 0, .int .u64 0, .int .u64 0, .int .u64 0, .int .i64 0, .bool false, .int .i64 0] rfl KR KR KR KR KR KR KR ?_; clear ha HW a; intro a W5036 HW ha
              refine stepp ha 7 (.int .i64 180) KR KR ?_; clear ha a; intro a ha
              refine endl ?_
              refine thenN (hK5035 _ _ ?_); clear hK5035
              refine wp_ret ?_
              refine thenR ?_
              obtain rfl := Option.some.inj h
              replace HW := HW.nilo 128 2
              exact finv ha _ _ rfl (.cell (ad := ⟨b4916, 0, none⟩) (v := .agg #[.int .i64 0, .int .i64 0, .string (⟨#[]⟩ : ByteArray), .int .i64 0, .int .i64 0, .string (⟨#[]⟩ : ByteArray), .bool false, .slice none 0 0, .int .u64 0, .int .u64 0, .int .u64 0, .int .i64 0, .bool false, .int .i64 0]) KR (run_loadVar_ca0 (HW.ca (i := 0) (b := b4916) (C := #[.int .i64 0, .int .i64 0, .string (⟨#[]⟩ : ByteArray), .int .i64 0, .int .i64 0, .string (⟨#[]⟩ : ByteArray), .bool false, .slice none 0 0, .int .u64 0, .int .u64 0, .int .u64 0, .int .i64 0, .bool false, .int .i64 0]) (T := 49) (fr := (0, 0)) KR) 49 0 (.agg #[.int .i64 0, .int .i64 0, .string (⟨#[]⟩ : ByteArray), .int .i64 0, .int .i64 0, .string (⟨#[]⟩ : ByteArray), .bool false, .slice none 0 0, .int .u64 0, .int .u64 0, .int .u64 0, .int .i64 0, .bool false, .int .i64 0]) KR) (.tmp (v := .int .i64 180) KR .nil)) (.tuple #[.agg #[.int .i64 0, .int .i64 0, .string (⟨#[]⟩ : ByteArray), .int .i64 0, .int .i64 0, .string (⟨#[]⟩ : ByteArray), .bool false, .slice none 0 0, .int .u64 0, .int .u64 0, .int .u64 0, .int .i64 0, .bool false, .int .i64 0], .int .i64 180]) rfl ⟨none, 0, rfl, HW.pick [] [0] (by decide) (by decide) rfl KR⟩
        · skip
          replace h := ite_neg' h hp4943
          refine condT ha KR KR (t := ((a2.size : Int) != 24)) (ineq_t hp4943) ?_
          refine wp_seq_k (fun K4944 hK4945 => ?_)
          refine wp_region_lit ?_
          refine stepp ha 34 (.agg #[.int .i64 0, .int .i64 0, .string (⟨#[]⟩ : ByteArray), .int .i64 0, .int .i64 0, .string (⟨#[]⟩ : ByteArray), .bool false, .slice none 0 0, .int .u64 0, .int .u64 0, .int .u64 0, .int .i64 0, .bool false, .int .i64 0]) KR KR ?_; clear ha a; intro a ha
          refine stepst ha HW 0 (b := b4916) (C := #[.int .i64 0, .int .i64 0, .string (⟨#[]⟩ : ByteArray), .int .i64 0, .int .i64 0, .string (⟨#[]⟩ : ByteArray), .bool false, .slice none 0 0, .int .u64 0, .int .u64 0, .int .u64 0, .int .i64 0, .bool false, .int .i64 0]) (T := 49) KR 49 0 (.tmp 6) (.tmp 34) (.agg #[.int .i64 0, .int .i64 0, .string (⟨#[]⟩ : ByteArray), .int .i64 0, .int .i64 0, .string (⟨#[]⟩ : ByteArray), .bool false, .slice none 0 0, .int .u64 0, .int .u64 0, .int .u64 0, .int .i64 0, .bool false, .int .i64 0]) #[.int .i64 0, .int .i64 0, .string (⟨#[]⟩ : ByteArray), .int .i64 0, .int .i64 0, .string (⟨#[]⟩ : ByteArray), .bool false, .slice none 0 0, .int .u64 0, .int .u64 0, .int .u64 0, .int .i64 0, .bool false, .int .i64 0] rfl KR KR KR KR KR KR KR ?_; clear ha HW a; intro a W4946 HW ha
          refine stepp ha 7 (.int .i64 180) KR KR ?_; clear ha a; intro a ha
          refine endl ?_
          refine thenN (hK4945 _ _ ?_); clear hK4945
          refine wp_ret ?_
          refine thenR ?_
          obtain rfl := Option.some.inj h
          replace HW := HW.nilo 128 2
          exact finv ha _ _ rfl (.cell (ad := ⟨b4916, 0, none⟩) (v := .agg #[.int .i64 0, .int .i64 0, .string (⟨#[]⟩ : ByteArray), .int .i64 0, .int .i64 0, .string (⟨#[]⟩ : ByteArray), .bool false, .slice none 0 0, .int .u64 0, .int .u64 0, .int .u64 0, .int .i64 0, .bool false, .int .i64 0]) KR (run_loadVar_ca0 (HW.ca (i := 0) (b := b4916) (C := #[.int .i64 0, .int .i64 0, .string (⟨#[]⟩ : ByteArray), .int .i64 0, .int .i64 0, .string (⟨#[]⟩ : ByteArray), .bool false, .slice none 0 0, .int .u64 0, .int .u64 0, .int .u64 0, .int .i64 0, .bool false, .int .i64 0]) (T := 49) (fr := (0, 0)) KR) 49 0 (.agg #[.int .i64 0, .int .i64 0, .string (⟨#[]⟩ : ByteArray), .int .i64 0, .int .i64 0, .string (⟨#[]⟩ : ByteArray), .bool false, .slice none 0 0, .int .u64 0, .int .u64 0, .int .u64 0, .int .i64 0, .bool false, .int .i64 0]) KR) (.tmp (v := .int .i64 180) KR .nil)) (.tuple #[.agg #[.int .i64 0, .int .i64 0, .string (⟨#[]⟩ : ByteArray), .int .i64 0, .int .i64 0, .string (⟨#[]⟩ : ByteArray), .bool false, .slice none 0 0, .int .u64 0, .int .u64 0, .int .u64 0, .int .i64 0, .bool false, .int .i64 0], .int .i64 180]) rfl ⟨none, 0, rfl, HW.pick [] [0] (by decide) (by decide) rfl KR⟩
/-! ### headgate/prout.key: function 75 -/
def prout_key.f (K : Nat) (a0 : Int) : Option ByteArray :=
  (fields_PutBig.f K a0 8).bind fun t5046 => (some t5046)
set_option maxRecDepth 100000 in
set_option maxHeartbeats 4000000 in
theorem prout_key.calls (K : Nat) (a0 : Int)  (r : ByteArray) (w : World)  (h : prout_key.f K a0 = some r) :
    Calls Tryd.prog 75 #[.int .u64 a0] w (fun e W' => e = .returned (.string r) ∧ Wd w W' [] [] ) := by
  refine sxstart (n := 5) (l := [(0, .int .u64 a0)]) Tryd.func75 rfl rfl (Nat.le_of_ble_eq_true KR) (subsA_cons rfl (subsA_nil _)) ?_
  intro a ha
  have HW := Wd.refl w
  unfold prout_key.f at h
  refine wp_seq_k (fun K5042 hK5043 => ?_)
  refine wp_region_lit ?_
  refine stepp ha 2 (.string (⟨#[]⟩ : ByteArray)) KR KR ?_; clear ha a; intro a ha
  refine endl ?_
  refine thenN (hK5043 _ _ ?_); clear hK5043
  refine wp_seq_k (fun K5044 hK5045 => ?_)
  refine wp_region_lit ?_
  refine stepp ha 3 (.int .u64 a0) KR KR ?_; clear ha a; intro a ha
  obtain ⟨t5046, ht5047, h_⟩ := bind_some' h; clear h; have h := h_; clear h_
  refine stepc ha 4 KR KR (fields_PutBig.calls K a0 8 t5046 _ ht5047) ?_; clear ha a; rintro e W5048 ⟨rfl, HX5049⟩
  refine ⟨_, rfl, ?_⟩; intro a ha; replace HW := HW.callw HX5049; clear HX5049
  refine stepp ha 2 (.string t5046) KR KR ?_; clear ha a; intro a ha
  refine endl ?_
  refine thenN (hK5045 _ _ ?_); clear hK5045
  refine wp_ret ?_
  obtain rfl := Option.some.inj h
  exact finv ha _ _ rfl (.tmp (v := .string t5046) KR .nil) (.string t5046) rfl ⟨rfl, HW.pick [] [] (by decide) (by decide) rfl KR⟩
end Go.Proofs.YthjjbkgifelooaaDoor.F
