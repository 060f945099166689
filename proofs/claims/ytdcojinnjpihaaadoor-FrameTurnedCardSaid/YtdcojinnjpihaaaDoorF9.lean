/- headgate/headgatelaw05.wakes: plain functions, and that the calls come to what they say. No condition. -/
import Derived.Test.YtdcojinnjpihaaaDoorFT
import Derived.Test.YtdcojinnjpihaaaDoorF45
namespace Go.Proofs.YtdcojinnjpihaaaDoor.F
open Go Go.RowKit Go.Proofs.YtdcojinnjpihaaaDoor.X
set_option linter.unusedVariables false
set_option linter.unusedSimpArgs false
/-! ### headgate/headgatelaw05.wakes: function 9 -/
def headgatelaw05_wakes.f (K : Nat)  : Option Bool :=
  (frame_Put.f K 7 (⟨#[97, 98]⟩ : ByteArray)).bind fun t1081 => ((frame_Get.f K t1081.1).bind fun t1087 => (if t1081.2 = 0 then (if t1087.2.2.2 = 0 then (if (t1081.1.size : Int) = 512 then (if t1087.1 = 7 then (if t1087.2.1 = (⟨#[97, 98]⟩ : ByteArray) then (if t1087.2.2.1 = 512 then ((frame_Sectors.f 488).bind fun t1099 => (if t1099 = 1 then ((frame_Sectors.f 489).bind fun t1104 => (some (t1104 == 2))) else (some false))) else (some false)) else (some false)) else (some false)) else (some false)) else (some false)) else (some false)))
set_option maxRecDepth 100000 in
set_option maxHeartbeats 4000000 in
theorem headgatelaw05_wakes.calls (K : Nat)   (r : Bool) (w : World) (hG0 : CA w 0 0 (encs (encIK .u32) G_crc_steps).toArray) (h : headgatelaw05_wakes.f K  = some r) :
    Calls Tryd.prog 9 #[] w (fun e W' => e = .returned (.bool r) ∧ Wd w W' [] [] ) := by
  refine sxstart (n := 49) (l := []) Tryd.func9 rfl rfl (Nat.le_of_ble_eq_true KR) (subsA_nil _) ?_
  intro a ha
  have HW := Wd.refl w
  unfold headgatelaw05_wakes.f at h
  refine wp_seq_k (fun K1077 hK1078 => ?_)
  refine wp_region_lit ?_
  refine stepp ha 0 (.bool false) KR KR ?_; clear ha a; intro a ha
  refine endl ?_
  refine thenN (hK1078 _ _ ?_); clear hK1078
  refine wp_seq_k (fun K1079 hK1080 => ?_)
  refine wp_region_lit ?_
  obtain ⟨t1081, ht1082, h_⟩ := bind_some' h; clear h; have h := h_; clear h_
  refine stepc ha 8 KR KR (frame_Put.calls K 7 (⟨#[97, 98]⟩ : ByteArray) t1081 _ (HW.ca0 hG0) ht1082) ?_; clear ha a; rintro e W1083 ⟨rfl, HX1084⟩
  refine ⟨_, rfl, ?_⟩; intro a ha; replace HW := HW.callw HX1084; clear HX1084
  refine stepp ha 7 (.tuple #[.string t1081.1, .int .i64 t1081.2]) KR KR ?_; clear ha a; intro a ha
  refine stepp ha 9 (.string t1081.1) KR KR ?_; clear ha a; intro a ha
  refine stepp ha 10 (.int .i64 t1081.2) KR KR ?_; clear ha a; intro a ha
  refine stepp ha 1 (.string t1081.1) KR KR ?_; clear ha a; intro a ha
  refine stepp ha 2 (.int .i64 t1081.2) KR KR ?_; clear ha a; intro a ha
  refine endl ?_
  refine thenN (hK1080 _ _ ?_); clear hK1080
  refine wp_seq_k (fun K1085 hK1086 => ?_)
  refine wp_region_lit ?_
  refine stepp ha 12 (.string t1081.1) KR KR ?_; clear ha a; intro a ha
  obtain ⟨t1087, ht1088, h_⟩ := bind_some' h; clear h; have h := h_; clear h_
  refine stepc ha 13 KR KR (frame_Get.calls K t1081.1 t1087 _ (HW.ca0 hG0) ht1088) ?_; clear ha a; rintro e W1089 ⟨rfl, HX1090⟩
  refine ⟨_, rfl, ?_⟩; intro a ha; replace HW := HW.callw HX1090; clear HX1090
  refine stepp ha 11 (.tuple #[.int .u64 t1087.1, .string t1087.2.1, .int .i64 t1087.2.2.1, .int .i64 t1087.2.2.2]) KR KR ?_; clear ha a; intro a ha
  refine stepp ha 14 (.int .u64 t1087.1) KR KR ?_; clear ha a; intro a ha
  refine stepp ha 15 (.string t1087.2.1) KR KR ?_; clear ha a; intro a ha
  refine stepp ha 16 (.int .i64 t1087.2.2.1) KR KR ?_; clear ha a; intro a ha
  refine stepp ha 17 (.int .i64 t1087.2.2.2) KR KR ?_; clear ha a; intro a ha
  refine stepp ha 3 (.int .u64 t1087.1) KR KR ?_; clear ha a; intro a ha
  refine stepp ha 4 (.string t1087.2.1) KR KR ?_; clear ha a; intro a ha
  refine stepp ha 5 (.int .i64 t1087.2.2.1) KR KR ?_; clear ha a; intro a ha
  refine stepp ha 6 (.int .i64 t1087.2.2.2) KR KR ?_; clear ha a; intro a ha
  refine endl ?_
  refine thenN (hK1086 _ _ ?_); clear hK1086
  refine wp_seq_k (fun K1091 hK1092 => ?_)
  refine wp_region_lit ?_
  refine stepp ha 18 (.int .i64 t1081.2) KR KR ?_; clear ha a; intro a ha
  refine stepp ha 19 (.bool (t1081.2 == 0)) KR KR ?_; clear ha a; intro a ha
  refine stepp ha 20 (.bool (t1081.2 == 0)) KR KR ?_; clear ha a; intro a ha
  by_cases hp1093 : t1081.2 = 0
  · skip
    replace h := ite_pos' h hp1093
    replace ha := ha.bool 20 KR (ieq_t hp1093)
    refine stepp ha 21 (.int .i64 t1087.2.2.2) KR KR ?_; clear ha a; intro a ha
    refine stepp ha 22 (.bool (t1087.2.2.2 == 0)) KR KR ?_; clear ha a; intro a ha
    refine stepp ha 23 (.bool (t1087.2.2.2 == 0)) KR KR ?_; clear ha a; intro a ha
    refine stepp ha 24 (.bool (t1087.2.2.2 == 0)) KR KR ?_; clear ha a; intro a ha
    by_cases hp1094 : t1087.2.2.2 = 0
    · skip
      replace h := ite_pos' h hp1094
      replace ha := ha.bool 24 KR (ieq_t hp1094)
      refine stepp ha 25 (.string t1081.1) KR KR ?_; clear ha a; intro a ha
      refine stepp ha 26 (.int .i64 (t1081.1.size : Int)) KR KR ?_; clear ha a; intro a ha
      refine stepp ha 27 (.bool ((t1081.1.size : Int) == 512)) KR KR ?_; clear ha a; intro a ha
      refine stepp ha 28 (.bool ((t1081.1.size : Int) == 512)) KR KR ?_; clear ha a; intro a ha
      refine stepp ha 29 (.bool ((t1081.1.size : Int) == 512)) KR KR ?_; clear ha a; intro a ha
      by_cases hp1095 : (t1081.1.size : Int) = 512
      · skip
        replace h := ite_pos' h hp1095
        replace ha := ha.bool 29 KR (ieq_t hp1095)
        refine stepp ha 30 (.int .u64 t1087.1) KR KR ?_; clear ha a; intro a ha
        refine stepp ha 31 (.bool (t1087.1 == 7)) KR KR ?_; clear ha a; intro a ha
        refine stepp ha 32 (.bool (t1087.1 == 7)) KR KR ?_; clear ha a; intro a ha
        refine stepp ha 33 (.bool (t1087.1 == 7)) KR KR ?_; clear ha a; intro a ha
        by_cases hp1096 : t1087.1 = 7
        · skip
          replace h := ite_pos' h hp1096
          replace ha := ha.bool 33 KR (ieq_t hp1096)
          refine stepp ha 34 (.string t1087.2.1) KR KR ?_; clear ha a; intro a ha
          refine stepp ha 35 (.bool (t1087.2.1.toList == (⟨#[97, 98]⟩ : ByteArray).toList)) KR KR ?_; clear ha a; intro a ha
          refine stepp ha 36 (.bool (t1087.2.1.toList == (⟨#[97, 98]⟩ : ByteArray).toList)) KR KR ?_; clear ha a; intro a ha
          refine stepp ha 37 (.bool (t1087.2.1.toList == (⟨#[97, 98]⟩ : ByteArray).toList)) KR KR ?_; clear ha a; intro a ha
          by_cases hp1097 : t1087.2.1 = (⟨#[97, 98]⟩ : ByteArray)
          · skip
            replace h := ite_pos' h hp1097
            replace ha := ha.bool 37 KR (str_eq_t hp1097)
            refine stepp ha 38 (.int .i64 t1087.2.2.1) KR KR ?_; clear ha a; intro a ha
            refine stepp ha 39 (.bool (t1087.2.2.1 == 512)) KR KR ?_; clear ha a; intro a ha
            refine stepp ha 40 (.bool (t1087.2.2.1 == 512)) KR KR ?_; clear ha a; intro a ha
            refine stepp ha 41 (.bool (t1087.2.2.1 == 512)) KR KR ?_; clear ha a; intro a ha
            by_cases hp1098 : t1087.2.2.1 = 512
            · skip
              replace h := ite_pos' h hp1098
              replace ha := ha.bool 41 KR (ieq_t hp1098)
              obtain ⟨t1099, ht1100, h_⟩ := bind_some' h; clear h; have h := h_; clear h_
              refine stepc ha 42 KR KR (frame_Sectors.calls 488 t1099 _ ht1100) ?_; clear ha a; rintro e W1101 ⟨rfl, HX1102⟩
              refine ⟨_, rfl, ?_⟩; intro a ha; replace HW := HW.callw HX1102; clear HX1102
              refine stepp ha 43 (.bool (t1099 == 1)) KR KR ?_; clear ha a; intro a ha
              refine stepp ha 44 (.bool (t1099 == 1)) KR KR ?_; clear ha a; intro a ha
              refine stepp ha 45 (.bool (t1099 == 1)) KR KR ?_; clear ha a; intro a ha
              by_cases hp1103 : t1099 = 1
              · skip
                replace h := ite_pos' h hp1103
                replace ha := ha.bool 45 KR (ieq_t hp1103)
                obtain ⟨t1104, ht1105, h_⟩ := bind_some' h; clear h; have h := h_; clear h_
                refine stepc ha 46 KR KR (frame_Sectors.calls 489 t1104 _ ht1105) ?_; clear ha a; rintro e W1106 ⟨rfl, HX1107⟩
                refine ⟨_, rfl, ?_⟩; intro a ha; replace HW := HW.callw HX1107; clear HX1107
                refine stepp ha 47 (.bool (t1104 == 2)) KR KR ?_; clear ha a; intro a ha
                refine stepp ha 48 (.bool (t1104 == 2)) KR KR ?_; clear ha a; intro a ha
                refine stepp ha 0 (.bool (t1104 == 2)) KR KR ?_; clear ha a; intro a ha
                refine endl ?_
                refine thenN (hK1092 _ _ ?_); clear hK1092
                refine wp_ret ?_
                obtain rfl := Option.some.inj h
                exact finv ha _ _ rfl (.tmp (v := .bool (t1104 == 2)) KR .nil) (.bool (t1104 == 2)) rfl ⟨rfl, HW.pick [] [] (by decide) (by decide) rfl KR⟩
              · skip
                replace h := ite_neg' h hp1103
                replace ha := ha.bool 45 KR (ieq_f hp1103)
                refine stepo ha 46 KR ?_; clear ha a; intro a ha
                refine stepo ha 47 KR ?_; clear ha a; intro a ha
                refine stepp ha 48 (.bool false) KR KR ?_; clear ha a; intro a ha
                refine stepp ha 0 (.bool false) KR KR ?_; clear ha a; intro a ha
                refine endl ?_
                refine thenN (hK1092 _ _ ?_); clear hK1092
                refine wp_ret ?_
                obtain rfl := Option.some.inj h
                exact finv ha _ _ rfl (.tmp (v := .bool false) KR .nil) (.bool false) rfl ⟨rfl, HW.pick [] [] (by decide) (by decide) rfl KR⟩
            · skip
              replace h := ite_neg' h hp1098
              replace ha := ha.bool 41 KR (ieq_f hp1098)
              refine stepo ha 42 KR ?_; clear ha a; intro a ha
              refine stepo ha 43 KR ?_; clear ha a; intro a ha
              refine stepp ha 44 (.bool false) KR KR ?_; clear ha a; intro a ha
              refine stepp ha 45 (.bool false) KR KR ?_; clear ha a; intro a ha
              refine stepo ha 46 KR ?_; clear ha a; intro a ha
              refine stepo ha 47 KR ?_; clear ha a; intro a ha
              refine stepp ha 48 (.bool false) KR KR ?_; clear ha a; intro a ha
              refine stepp ha 0 (.bool false) KR KR ?_; clear ha a; intro a ha
              refine endl ?_
              refine thenN (hK1092 _ _ ?_); clear hK1092
              refine wp_ret ?_
              obtain rfl := Option.some.inj h
              exact finv ha _ _ rfl (.tmp (v := .bool false) KR .nil) (.bool false) rfl ⟨rfl, HW.pick [] [] (by decide) (by decide) rfl KR⟩
          · skip
            replace h := ite_neg' h hp1097
            replace ha := ha.bool 37 KR (str_eq_f hp1097)
            refine stepo ha 38 KR ?_; clear ha a; intro a ha
            refine stepo ha 39 KR ?_; clear ha a; intro a ha
            refine stepp ha 40 (.bool false) KR KR ?_; clear ha a; intro a ha
            refine stepp ha 41 (.bool false) KR KR ?_; clear ha a; intro a ha
            refine stepo ha 42 KR ?_; clear ha a; intro a ha
            refine stepo ha 43 KR ?_; clear ha a; intro a ha
            refine stepp ha 44 (.bool false) KR KR ?_; clear ha a; intro a ha
            refine stepp ha 45 (.bool false) KR KR ?_; clear ha a; intro a ha
            refine stepo ha 46 KR ?_; clear ha a; intro a ha
            refine stepo ha 47 KR ?_; clear ha a; intro a ha
            refine stepp ha 48 (.bool false) KR KR ?_; clear ha a; intro a ha
            refine stepp ha 0 (.bool false) KR KR ?_; clear ha a; intro a ha
            refine endl ?_
            refine thenN (hK1092 _ _ ?_); clear hK1092
            refine wp_ret ?_
            obtain rfl := Option.some.inj h
            exact finv ha _ _ rfl (.tmp (v := .bool false) KR .nil) (.bool false) rfl ⟨rfl, HW.pick [] [] (by decide) (by decide) rfl KR⟩
        · skip
          replace h := ite_neg' h hp1096
          replace ha := ha.bool 33 KR (ieq_f hp1096)
          refine stepo ha 34 KR ?_; clear ha a; intro a ha
          refine stepo ha 35 KR ?_; clear ha a; intro a ha
          refine stepp ha 36 (.bool false) KR KR ?_; clear ha a; intro a ha
          refine stepp ha 37 (.bool false) KR KR ?_; clear ha a; intro a ha
          refine stepo ha 38 KR ?_; clear ha a; intro a ha
          refine stepo ha 39 KR ?_; clear ha a; intro a ha
          refine stepp ha 40 (.bool false) KR KR ?_; clear ha a; intro a ha
          refine stepp ha 41 (.bool false) KR KR ?_; clear ha a; intro a ha
          refine stepo ha 42 KR ?_; clear ha a; intro a ha
          refine stepo ha 43 KR ?_; clear ha a; intro a ha
          refine stepp ha 44 (.bool false) KR KR ?_; clear ha a; intro a ha
          refine stepp ha 45 (.bool false) KR KR ?_; clear ha a; intro a ha
          refine stepo ha 46 KR ?_; clear ha a; intro a ha
          refine stepo ha 47 KR ?_; clear ha a; intro a ha
          refine stepp ha 48 (.bool false) KR KR ?_; clear ha a; intro a ha
          refine stepp ha 0 (.bool false) KR KR ?_; clear ha a; intro a ha
          refine endl ?_
          refine thenN (hK1092 _ _ ?_); clear hK1092
          refine wp_ret ?_
          obtain rfl := Option.some.inj h
          exact finv ha _ _ rfl (.tmp (v := .bool false) KR .nil) (.bool false) rfl ⟨rfl, HW.pick [] [] (by decide) (by decide) rfl KR⟩
      · skip
        replace h := ite_neg' h hp1095
        replace ha := ha.bool 29 KR (ieq_f hp1095)
        refine stepo ha 30 KR ?_; clear ha a; intro a ha
        refine stepo ha 31 KR ?_; clear ha a; intro a ha
        refine stepp ha 32 (.bool false) KR KR ?_; clear ha a; intro a ha
        refine stepp ha 33 (.bool false) KR KR ?_; clear ha a; intro a ha
        refine stepo ha 34 KR ?_; clear ha a; intro a ha
        refine stepo ha 35 KR ?_; clear ha a; intro a ha
        refine stepp ha 36 (.bool false) KR KR ?_; clear ha a; intro a ha
        refine stepp ha 37 (.bool false) KR KR ?_; clear ha a; intro a ha
        refine stepo ha 38 KR ?_; clear ha a; intro a ha
        refine stepo ha 39 KR ?_; clear ha a; intro a ha
        refine stepp ha 40 (.bool false) KR KR ?_; clear ha a; intro a ha
        refine stepp ha 41 (.bool false) KR KR ?_; clear ha a; intro a ha
        refine stepo ha 42 KR ?_; clear ha a; intro a ha
        refine stepo ha 43 KR ?_; clear ha a; intro a ha
        refine stepp ha 44 (.bool false) KR KR ?_; clear ha a; intro a ha
        refine stepp ha 45 (.bool false) KR KR ?_; clear ha a; intro a ha
        refine stepo ha 46 KR ?_; clear ha a; intro a ha
        refine stepo ha 47 KR ?_; clear ha a; intro a ha
        refine stepp ha 48 (.bool false) KR KR ?_; clear ha a; intro a ha
        refine stepp ha 0 (.bool false) KR KR ?_; clear ha a; intro a ha
        refine endl ?_
        refine thenN (hK1092 _ _ ?_); clear hK1092
        refine wp_ret ?_
        obtain rfl := Option.some.inj h
        exact finv ha _ _ rfl (.tmp (v := .bool false) KR .nil) (.bool false) rfl ⟨rfl, HW.pick [] [] (by decide) (by decide) rfl KR⟩
    · skip
      replace h := ite_neg' h hp1094
      replace ha := ha.bool 24 KR (ieq_f hp1094)
      refine stepo ha 25 KR ?_; clear ha a; intro a ha
      refine stepo ha 26 KR ?_; clear ha a; intro a ha
      refine stepo ha 27 KR ?_; clear ha a; intro a ha
      refine stepp ha 28 (.bool false) KR KR ?_; clear ha a; intro a ha
      refine stepp ha 29 (.bool false) KR KR ?_; clear ha a; intro a ha
      refine stepo ha 30 KR ?_; clear ha a; intro a ha
      refine stepo ha 31 KR ?_; clear ha a; intro a ha
      refine stepp ha 32 (.bool false) KR KR ?_; clear ha a; intro a ha
      refine stepp ha 33 (.bool false) KR KR ?_; clear ha a; intro a ha
      refine stepo ha 34 KR ?_; clear ha a; intro a ha
      refine stepo ha 35 KR ?_; clear ha a; intro a ha
      refine stepp ha 36 (.bool false) KR KR ?_; clear ha a; intro a ha
      refine stepp ha 37 (.bool false) KR KR ?_; clear ha a; intro a ha
      refine stepo ha 38 KR ?_; clear ha a; intro a ha
      refine stepo ha 39 KR ?_; clear ha a; intro a ha
      refine stepp ha 40 (.bool false) KR KR ?_; clear ha a; intro a ha
      refine stepp ha 41 (.bool false) KR KR ?_; clear ha a; intro a ha
      refine stepo ha 42 KR ?_; clear ha a; intro a ha
      refine stepo ha 43 KR ?_; clear ha a; intro a ha
      refine stepp ha 44 (.bool false) KR KR ?_; clear ha a; intro a ha
      refine stepp ha 45 (.bool false) KR KR ?_; clear ha a; intro a ha
      refine stepo ha 46 KR ?_; clear ha a; intro a ha
      refine stepo ha 47 KR ?_; clear ha a; intro a ha
      refine stepp ha 48 (.bool false) KR KR ?_; clear ha a; intro a ha
      refine stepp ha 0 (.bool false) KR KR ?_; clear ha a; intro a ha
      refine endl ?_
      refine thenN (hK1092 _ _ ?_); clear hK1092
      refine wp_ret ?_
      obtain rfl := Option.some.inj h
      exact finv ha _ _ rfl (.tmp (v := .bool false) KR .nil) (.bool false) rfl ⟨rfl, HW.pick [] [] (by decide) (by decide) rfl KR⟩
  · skip
    replace h := ite_neg' h hp1093
    replace ha := ha.bool 20 KR (ieq_f hp1093)
    refine stepo ha 21 KR ?_; clear ha a; intro a ha
    refine stepo ha 22 KR ?_; clear ha a; intro a ha
    refine stepp ha 23 (.bool false) KR KR ?_; clear ha a; intro a ha
    refine stepp ha 24 (.bool false) KR KR ?_; clear ha a; intro a ha
    refine stepo ha 25 KR ?_; clear ha a; intro a ha
    refine stepo ha 26 KR ?_; clear ha a; intro a ha
    refine stepo ha 27 KR ?_; clear ha a; intro a ha
    refine stepp ha 28 (.bool false) KR KR ?_; clear ha a; intro a ha
    refine stepp ha 29 (.bool false) KR KR ?_; clear ha a; intro a ha
    refine stepo ha 30 KR ?_; clear ha a; intro a ha
    refine stepo ha 31 KR ?_; clear ha a; intro a ha
    refine stepp ha 32 (.bool false) KR KR ?_; clear ha a; intro a ha
    refine stepp ha 33 (.bool false) KR KR ?_; clear ha a; intro a ha
    refine stepo ha 34 KR ?_; clear ha a; intro a ha
    refine stepo ha 35 KR ?_; clear ha a; intro a ha
    refine stepp ha 36 (.bool false) KR KR ?_; clear ha a; intro a ha
    refine stepp ha 37 (.bool false) KR KR ?_; clear ha a; intro a ha
    refine stepo ha 38 KR ?_; clear ha a; intro a ha
    refine stepo ha 39 KR ?_; clear ha a; intro a ha
    refine stepp ha 40 (.bool false) KR KR ?_; clear ha a; intro a ha
    refine stepp ha 41 (.bool false) KR KR ?_; clear ha a; intro a ha
    refine stepo ha 42 KR ?_; clear ha a; intro a ha
    refine stepo ha 43 KR ?_; clear ha a; intro a ha
    refine stepp ha 44 (.bool false) KR KR ?_; clear ha a; intro a ha
    refine stepp ha 45 (.bool false) KR KR ?_; clear ha a; intro a ha
    refine stepo ha 46 KR ?_; clear ha a; intro a ha
    refine stepo ha 47 KR ?_; clear ha a; intro a ha
    refine stepp ha 48 (.bool false) KR KR ?_; clear ha a; intro a ha
    refine stepp ha 0 (.bool false) KR KR ?_; clear ha a; intro a ha
    refine endl ?_
    refine thenN (hK1092 _ _ ?_); clear hK1092
    refine wp_ret ?_
    obtain rfl := Option.some.inj h
    exact finv ha _ _ rfl (.tmp (v := .bool false) KR .nil) (.bool false) rfl ⟨rfl, HW.pick [] [] (by decide) (by decide) rfl KR⟩
end Go.Proofs.YtdcojinnjpihaaaDoor.F
