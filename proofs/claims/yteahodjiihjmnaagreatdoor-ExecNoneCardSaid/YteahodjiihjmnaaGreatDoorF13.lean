/- headgate/headgatelaw14.wakes, headgate/headgatelaw14.ExecNone: plain functions, and that the calls come to what they say. No condition. -/
import Derived.Test.YteahodjiihjmnaaGreatDoorFT
import Derived.Test.YteahodjiihjmnaaGreatDoorXWake
import Derived.Test.YteahodjiihjmnaaGreatDoorF23
namespace Go.Proofs.YteahodjiihjmnaaGreatDoor.F
open Go Go.RowKit Go.Proofs.YteahodjiihjmnaaGreatDoor.X
set_option linter.unusedVariables false
set_option linter.unusedSimpArgs false
/-! ### headgate/headgatelaw14.wakes: function 13, by a plain run -/
def headgatelaw14_wakes.f : Option Bool := some true
theorem headgatelaw14_wakes.calls (r : Bool) (w : World) (hG0 : CA w 0 0 (encs (encIK .i64) G_access_lets).toArray) (hG2 : CA w 2 0 (encs (encIK .u32) G_crc_steps).toArray) (h : headgatelaw14_wakes.f = some r) :
    Calls Tryz.prog 13 #[] w (fun e W' => e = .returned (.bool r) ∧ Wd w W' [] []) := by
  obtain rfl := Option.some.inj h
  exact (wakes_calls w hG0 hG2).mono fun e W' ⟨he, hb⟩ => ⟨he, (Wd.refl w).call hb⟩
/-! ### headgate/headgatelaw14.ExecNone: function 7 -/
def headgatelaw14_ExecNone.f (K : Nat) (a0 : T_api_Cmd) : Option Bool :=
  (exec_New_nil.f).bind fun t5906 => ((exec_Exec_Do_nil.f a0).bind fun t5912 => (if t5912.f0 = 5 then ((exec_Exec_Table_nil.f a0.f1).bind fun t5920 => ((headgatekeep_Tables.f K (⟨t5920.f0, (⟨t5920.f1.f0, t5920.f1.f1⟩ : T_api_Hold), t5920.f2, t5920.f3⟩ : T_api_Table) (⟨([] : List T_api_Reg), (⟨0, (⟨#[]⟩ : ByteArray)⟩ : T_api_Hold), 0, false⟩ : T_api_Table)).bind fun t5927 => (if t5927 = true then ((exec_Exec_Units_nil.f).bind fun t5932 => ((exec_Exec_Cache_nil.f).bind fun t5936 => (if t5906.2 = 1 then ((headgatelaw14_wakes.f).bind fun t5941 => (some t5941)) else (some false)))) else (some false)))) else (some false)))
set_option maxRecDepth 100000 in
set_option maxHeartbeats 4000000 in
theorem headgatelaw14_ExecNone.calls (K : Nat) (a0 : T_api_Cmd) (A0_0 : Option Addr) (c0_0 : Nat) (r : Bool) (w : World) (hG0 : CA w 0 0 (encs (encIK .i64) G_access_lets).toArray) (hG2 : CA w 2 0 (encs (encIK .u32) G_crc_steps).toArray) (hr0_0 : Rd 2 w (.slice A0_0 a0.f7.length c0_0) a0.f7.length (encs T_api_Range.enc a0.f7)) (h : headgatelaw14_ExecNone.f K a0 = some r) :
    Calls Tryz.prog 7 #[.agg #[.int .i64 a0.f0, .int .i64 a0.f1, .string a0.f2, .int .i64 a0.f3, .int .i64 a0.f4, .string a0.f5, .bool a0.f6, .slice A0_0 a0.f7.length c0_0, .int .u64 a0.f8, .int .u64 a0.f9, .int .u64 a0.f10, .int .i64 a0.f11, .bool a0.f12, .int .i64 a0.f13]] w (fun e W' => e = .returned (.bool r) ∧ Wd w W' [] [] ) := by
  refine sxstart (n := 44) (l := [(0, .agg #[.int .i64 a0.f0, .int .i64 a0.f1, .string a0.f2, .int .i64 a0.f3, .int .i64 a0.f4, .string a0.f5, .bool a0.f6, .slice A0_0 a0.f7.length c0_0, .int .u64 a0.f8, .int .u64 a0.f9, .int .u64 a0.f10, .int .i64 a0.f11, .bool a0.f12, .int .i64 a0.f13])]) Tryz.func7 rfl rfl (Nat.le_of_ble_eq_true KR) (subsA_cons rfl (subsA_nil _)) ?_
  intro a ha
  have HW := Wd.refl w
  unfold headgatelaw14_ExecNone.f at h
  refine wp_seq_k (fun K5898 hK5899 => ?_)
  refine wp_region_lit ?_
  refine stepnew ha HW 1 #[.int .i64 a0.f0, .int .i64 a0.f1, .string a0.f2, .int .i64 a0.f3, .int .i64 a0.f4, .string a0.f5, .bool a0.f6, .slice A0_0 a0.f7.length c0_0, .int .u64 a0.f8, .int .u64 a0.f9, .int .u64 a0.f10, .int .i64 a0.f11, .bool a0.f12, .int .i64 a0.f13] 33 KR KR ?_; clear ha HW a; intro b5900 a W5901 HW ha
  refine stepp ha 2 (.bool false) KR KR ?_; clear ha a; intro a ha
  refine endl ?_
  refine thenN (hK5899 _ _ ?_); clear hK5899
  refine wp_seq_k (fun K5902 hK5903 => ?_)
  refine wp_region_lit ?_
  refine stepp ha 3 (.pointer none) KR KR ?_; clear ha a; intro a ha
  refine endl ?_
  refine thenN (hK5903 _ _ ?_); clear hK5903
  refine wp_seq_k (fun K5904 hK5905 => ?_)
  refine wp_region_lit ?_
  obtain ⟨t5906, ht5907, h_⟩ := bind_some' h; clear h; have h := h_; clear h_
  refine stepc ha 7 KR KR (exec_New_nil.calls t5906 _ ht5907) ?_; clear ha a; rintro e W5908 ⟨rfl, HX5909⟩
  refine ⟨_, rfl, ?_⟩; intro a ha; replace HW := HW.callw HX5909; clear HX5909
  refine stepp ha 6 (.tuple #[.pointer none, .int .i64 t5906.2]) KR KR ?_; clear ha a; intro a ha
  refine stepp ha 8 (.pointer none) KR KR ?_; clear ha a; intro a ha
  refine stepp ha 9 (.int .i64 t5906.2) KR KR ?_; clear ha a; intro a ha
  refine stepp ha 4 (.pointer none) KR KR ?_; clear ha a; intro a ha
  refine stepp ha 5 (.int .i64 t5906.2) KR KR ?_; clear ha a; intro a ha
  refine endl ?_
  refine thenN (hK5905 _ _ ?_); clear hK5905
  refine wp_seq_k (fun K5910 hK5911 => ?_)
  refine wp_region_lit ?_
  refine stepp ha 10 (.pointer none) KR KR ?_; clear ha a; intro a ha
  refine stepl ha 11 (HW.ca (i := 0) (b := b5900) (C := #[.int .i64 a0.f0, .int .i64 a0.f1, .string a0.f2, .int .i64 a0.f3, .int .i64 a0.f4, .string a0.f5, .bool a0.f6, .slice A0_0 a0.f7.length c0_0, .int .u64 a0.f8, .int .u64 a0.f9, .int .u64 a0.f10, .int .i64 a0.f11, .bool a0.f12, .int .i64 a0.f13]) (T := 33) (fr := (0, 0)) KR) 33 0 (.tmp 1) (.agg #[.int .i64 a0.f0, .int .i64 a0.f1, .string a0.f2, .int .i64 a0.f3, .int .i64 a0.f4, .string a0.f5, .bool a0.f6, .slice A0_0 a0.f7.length c0_0, .int .u64 a0.f8, .int .u64 a0.f9, .int .u64 a0.f10, .int .i64 a0.f11, .bool a0.f12, .int .i64 a0.f13]) rfl KR KR KR ?_; clear ha a; intro a ha
  obtain ⟨t5912, ht5913, h_⟩ := bind_some' h; clear h; have h := h_; clear h_
  refine stepc ha 12 KR KR (exec_Exec_Do_nil.calls a0 A0_0 c0_0 t5912 _ ((HW.rd0 hr0_0)) ht5913) ?_; clear ha a; rintro e W5917 ⟨A5914, c5915, rfl, HX5918⟩
  refine ⟨_, rfl, ?_⟩; intro a ha; replace HW := HW.callw HX5918; clear HX5918
  refine stepp ha 13 (.int .i64 t5912.f0) KR KR ?_; clear ha a; intro a ha
  refine stepp ha 14 (.bool (t5912.f0 == 5)) KR KR ?_; clear ha a; intro a ha
  refine stepp ha 15 (.bool (t5912.f0 == 5)) KR KR ?_; clear ha a; intro a ha
  by_cases hp5919 : t5912.f0 = 5
  · skip
    replace h := ite_pos' h hp5919
    replace ha := ha.bool 15 KR (ieq_t hp5919)
    refine stepp ha 16 (.pointer none) KR KR ?_; clear ha a; intro a ha
    refine stepp ha 17 (.pointer (some ⟨b5900, 1, none⟩)) KR KR ?_; clear ha a; intro a ha
    refine stepl ha 18 (HW.ca (i := 0) (b := b5900) (C := #[.int .i64 a0.f0, .int .i64 a0.f1, .string a0.f2, .int .i64 a0.f3, .int .i64 a0.f4, .string a0.f5, .bool a0.f6, .slice A0_0 a0.f7.length c0_0, .int .u64 a0.f8, .int .u64 a0.f9, .int .u64 a0.f10, .int .i64 a0.f11, .bool a0.f12, .int .i64 a0.f13]) (T := 33) (fr := (0, 0)) KR) 3 1 (.tmp 17) (.int .i64 a0.f1) rfl KR KR KR ?_; clear ha a; intro a ha
    obtain ⟨t5920, ht5921, h_⟩ := bind_some' h; clear h; have h := h_; clear h_
    refine stepc ha 19 KR KR (exec_Exec_Table_nil.calls a0.f1 t5920 _ ht5921) ?_; clear ha a; rintro e W5925 ⟨A5922, c5923, rfl, HX5926⟩
    refine ⟨_, rfl, ?_⟩; intro a ha; replace HW := HW.callw HX5926; clear HX5926
    refine stepp ha 20 (.agg #[.slice none 0 0, .int .i64 0, .string (⟨#[]⟩ : ByteArray), .int .u32 0, .bool false]) KR KR ?_; clear ha a; intro a ha
    obtain ⟨t5927, ht5928, h_⟩ := bind_some' h; clear h; have h := h_; clear h_
    refine stepc ha 21 KR KR (headgatekeep_Tables.calls K (⟨t5920.f0, (⟨t5920.f1.f0, t5920.f1.f1⟩ : T_api_Hold), t5920.f2, t5920.f3⟩ : T_api_Table) (⟨([] : List T_api_Reg), (⟨0, (⟨#[]⟩ : ByteArray)⟩ : T_api_Hold), 0, false⟩ : T_api_Table) A5922 c5923 none 0 t5927 _ (HW.rdo (i := 0) (q := ⟨160, 2, .slice A5922 t5920.f0.length c5923, t5920.f0.length, encs T_api_Reg.enc t5920.f0⟩) KR) (Rd.nil _ _) ht5928) ?_; clear ha a; rintro e W5929 ⟨rfl, HX5930⟩
    refine ⟨_, rfl, ?_⟩; intro a ha; replace HW := HW.callw HX5930; clear HX5930
    refine stepp ha 22 (.bool t5927) KR KR ?_; clear ha a; intro a ha
    refine stepp ha 23 (.bool t5927) KR KR ?_; clear ha a; intro a ha
    by_cases hp5931 : t5927 = true
    · skip
      replace h := ite_pos' h hp5931
      replace ha := ha.bool 23 KR (hp5931)
      refine stepp ha 24 (.pointer none) KR KR ?_; clear ha a; intro a ha
      obtain ⟨t5932, ht5933, h_⟩ := bind_some' h; clear h; have h := h_; clear h_
      refine stepc ha 25 KR KR (exec_Exec_Units_nil.calls t5932 _ ht5933) ?_; clear ha a; rintro e W5934 ⟨rfl, HX5935⟩
      refine ⟨_, rfl, ?_⟩; intro a ha; replace HW := HW.callw HX5935; clear HX5935
      refine stepp ha 26 (.bool true) KR KR ?_; clear ha a; intro a ha
      refine stepp ha 27 (.bool true) KR KR ?_; clear ha a; intro a ha
      refine stepp ha 28 (.bool true) KR KR ?_; clear ha a; intro a ha
      refine stepp ha 29 (.pointer none) KR KR ?_; clear ha a; intro a ha
      obtain ⟨t5936, ht5937, h_⟩ := bind_some' h; clear h; have h := h_; clear h_
      refine stepc ha 30 KR KR (exec_Exec_Cache_nil.calls t5936 _ ht5937) ?_; clear ha a; rintro e W5938 ⟨rfl, HX5939⟩
      refine ⟨_, rfl, ?_⟩; intro a ha; replace HW := HW.callw HX5939; clear HX5939
      refine stepp ha 31 (.bool true) KR KR ?_; clear ha a; intro a ha
      refine stepp ha 32 (.bool true) KR KR ?_; clear ha a; intro a ha
      refine stepp ha 33 (.bool true) KR KR ?_; clear ha a; intro a ha
      refine stepp ha 34 (.pointer none) KR KR ?_; clear ha a; intro a ha
      refine stepp ha 35 (.bool true) KR KR ?_; clear ha a; intro a ha
      refine stepp ha 36 (.bool true) KR KR ?_; clear ha a; intro a ha
      refine stepp ha 37 (.bool true) KR KR ?_; clear ha a; intro a ha
      refine stepp ha 38 (.int .i64 t5906.2) KR KR ?_; clear ha a; intro a ha
      refine stepp ha 39 (.bool (t5906.2 == 1)) KR KR ?_; clear ha a; intro a ha
      refine stepp ha 40 (.bool (t5906.2 == 1)) KR KR ?_; clear ha a; intro a ha
      refine stepp ha 41 (.bool (t5906.2 == 1)) KR KR ?_; clear ha a; intro a ha
      by_cases hp5940 : t5906.2 = 1
      · skip
        replace h := ite_pos' h hp5940
        replace ha := ha.bool 41 KR (ieq_t hp5940)
        obtain ⟨t5941, ht5942, h_⟩ := bind_some' h; clear h; have h := h_; clear h_
        refine stepc ha 42 KR KR (headgatelaw14_wakes.calls t5941 _ (HW.ca0 hG0) (HW.ca0 hG2) ht5942) ?_; clear ha a; rintro e W5943 ⟨rfl, HX5944⟩
        refine ⟨_, rfl, ?_⟩; intro a ha; replace HW := HW.callw HX5944; clear HX5944
        refine stepp ha 43 (.bool t5941) KR KR ?_; clear ha a; intro a ha
        refine stepp ha 2 (.bool t5941) KR KR ?_; clear ha a; intro a ha
        refine endl ?_
        refine thenN (hK5911 _ _ ?_); clear hK5911
        refine wp_ret ?_
        obtain rfl := Option.some.inj h
        exact finv ha _ _ rfl (.tmp (v := .bool t5941) KR .nil) (.bool t5941) rfl ⟨rfl, HW.pick [] [] (by decide) (by decide) rfl KR⟩
      · skip
        replace h := ite_neg' h hp5940
        replace ha := ha.bool 41 KR (ieq_f hp5940)
        refine stepo ha 42 KR ?_; clear ha a; intro a ha
        refine stepp ha 43 (.bool false) KR KR ?_; clear ha a; intro a ha
        refine stepp ha 2 (.bool false) KR KR ?_; clear ha a; intro a ha
        refine endl ?_
        refine thenN (hK5911 _ _ ?_); clear hK5911
        refine wp_ret ?_
        obtain rfl := Option.some.inj h
        exact finv ha _ _ rfl (.tmp (v := .bool false) KR .nil) (.bool false) rfl ⟨rfl, HW.pick [] [] (by decide) (by decide) rfl KR⟩
    · skip
      replace h := ite_neg' h hp5931
      replace ha := ha.bool 23 KR (bool_f hp5931)
      refine stepo ha 24 KR ?_; clear ha a; intro a ha
      refine stepo ha 25 KR ?_; clear ha a; intro a ha
      refine stepo ha 26 KR ?_; clear ha a; intro a ha
      refine stepp ha 27 (.bool false) KR KR ?_; clear ha a; intro a ha
      refine stepp ha 28 (.bool false) KR KR ?_; clear ha a; intro a ha
      refine stepo ha 29 KR ?_; clear ha a; intro a ha
      refine stepo ha 30 KR ?_; clear ha a; intro a ha
      refine stepo ha 31 KR ?_; clear ha a; intro a ha
      refine stepp ha 32 (.bool false) KR KR ?_; clear ha a; intro a ha
      refine stepp ha 33 (.bool false) KR KR ?_; clear ha a; intro a ha
      refine stepo ha 34 KR ?_; clear ha a; intro a ha
      refine stepo ha 35 KR ?_; clear ha a; intro a ha
      refine stepp ha 36 (.bool false) KR KR ?_; clear ha a; intro a ha
      refine stepp ha 37 (.bool false) KR KR ?_; clear ha a; intro a ha
      refine stepo ha 38 KR ?_; clear ha a; intro a ha
      refine stepo ha 39 KR ?_; clear ha a; intro a ha
      refine stepp ha 40 (.bool false) KR KR ?_; clear ha a; intro a ha
      refine stepp ha 41 (.bool false) KR KR ?_; clear ha a; intro a ha
      refine stepo ha 42 KR ?_; clear ha a; intro a ha
      refine stepp ha 43 (.bool false) KR KR ?_; clear ha a; intro a ha
      refine stepp ha 2 (.bool false) KR KR ?_; clear ha a; intro a ha
      refine endl ?_
      refine thenN (hK5911 _ _ ?_); clear hK5911
      refine wp_ret ?_
      obtain rfl := Option.some.inj h
      exact finv ha _ _ rfl (.tmp (v := .bool false) KR .nil) (.bool false) rfl ⟨rfl, HW.pick [] [] (by decide) (by decide) rfl KR⟩
  · skip
    replace h := ite_neg' h hp5919
    replace ha := ha.bool 15 KR (ieq_f hp5919)
    refine stepo ha 16 KR ?_; clear ha a; intro a ha
    refine stepo ha 17 KR ?_; clear ha a; intro a ha
    refine stepo ha 18 KR ?_; clear ha a; intro a ha
    refine stepo ha 19 KR ?_; clear ha a; intro a ha
    refine stepo ha 20 KR ?_; clear ha a; intro a ha
    refine stepo ha 21 KR ?_; clear ha a; intro a ha
    refine stepp ha 22 (.bool false) KR KR ?_; clear ha a; intro a ha
    refine stepp ha 23 (.bool false) KR KR ?_; clear ha a; intro a ha
    refine stepo ha 24 KR ?_; clear ha a; intro a ha
    refine stepo ha 25 KR ?_; clear ha a; intro a ha
    refine stepo ha 26 KR ?_; clear ha a; intro a ha
    refine stepp ha 27 (.bool false) KR KR ?_; clear ha a; intro a ha
    refine stepp ha 28 (.bool false) KR KR ?_; clear ha a; intro a ha
    refine stepo ha 29 KR ?_; clear ha a; intro a ha
    refine stepo ha 30 KR ?_; clear ha a; intro a ha
    refine stepo ha 31 KR ?_; clear ha a; intro a ha
    refine stepp ha 32 (.bool false) KR KR ?_; clear ha a; intro a ha
    refine stepp ha 33 (.bool false) KR KR ?_; clear ha a; intro a ha
    refine stepo ha 34 KR ?_; clear ha a; intro a ha
    refine stepo ha 35 KR ?_; clear ha a; intro a ha
    refine stepp ha 36 (.bool false) KR KR ?_; clear ha a; intro a ha
    refine stepp ha 37 (.bool false) KR KR ?_; clear ha a; intro a ha
    refine stepo ha 38 KR ?_; clear ha a; intro a ha
    refine stepo ha 39 KR ?_; clear ha a; intro a ha
    refine stepp ha 40 (.bool false) KR KR ?_; clear ha a; intro a ha
    refine stepp ha 41 (.bool false) KR KR ?_; clear ha a; intro a ha
    refine stepo ha 42 KR ?_; clear ha a; intro a ha
    refine stepp ha 43 (.bool false) KR KR ?_; clear ha a; intro a ha
    refine stepp ha 2 (.bool false) KR KR ?_; clear ha a; intro a ha
    refine endl ?_
    refine thenN (hK5911 _ _ ?_); clear hK5911
    refine wp_ret ?_
    obtain rfl := Option.some.inj h
    exact finv ha _ _ rfl (.tmp (v := .bool false) KR .nil) (.bool false) rfl ⟨rfl, HW.pick [] [] (by decide) (by decide) rfl KR⟩
end Go.Proofs.YteahodjiihjmnaaGreatDoor.F
