/- headgate/headgatelaw05.wakes: plain functions, and that the calls come to what they say. No condition. -/
import Derived.Test.YtdcojinnjpihaaaDoorFT
import Derived.Test.YtdcojinnjpihaaaDoorF45
namespace Go.Proofs.YtdcojinnjpihaaaDoor.F
open Go Go.RowKit Go.Proofs.YtdcojinnjpihaaaDoor.X
set_option linter.unusedVariables false
set_option linter.unusedSimpArgs false
/-! ### headgate/headgatelaw05.wakes: function 9 -/
def headgatelaw05_wakes.f (K : Nat)  : Option Bool :=
  (frame_Put.f K 7 (⟨#[97, 98]⟩ : ByteArray)).bind fun t1216 => ((frame_Get.f K t1216.1).bind fun t1222 => (if t1216.2 = 0 then (if t1222.2.2.2 = 0 then (if (t1216.1.size : Int) = 512 then (if t1222.1 = 7 then (if t1222.2.1 = (⟨#[97, 98]⟩ : ByteArray) then (if t1222.2.2.1 = 512 then ((frame_Sectors.f 488).bind fun t1234 => (if t1234 = 1 then ((frame_Sectors.f 489).bind fun t1239 => (some (t1239 == 2))) else (some false))) else (some false)) else (some false)) else (some false)) else (some false)) else (some false)) else (some false)))
set_option maxRecDepth 100000 in
set_option maxHeartbeats 4000000 in
theorem headgatelaw05_wakes.calls (K : Nat)   (r : Bool) (w : World) (hG0 : CA w 0 0 (encs (encIK .u32) G_crc_steps).toArray) (h : headgatelaw05_wakes.f K  = some r) :
    Calls Tryd.prog 9 #[] w (fun e W' => e = .returned (.bool r) ∧ Wd w W' [] [] ) := by
  refine sxstart (n := 49) (l := []) Tryd.func9 rfl rfl (Nat.le_of_ble_eq_true KR) (subsA_nil _) ?_
  intro a ha
  have HW := Wd.refl w
  unfold headgatelaw05_wakes.f at h
  refine wp_seq_k (fun K1212 hK1213 => ?_)
  refine wp_region_lit ?_
  refine stepp ha 0 (.bool false) KR KR ?_; clear ha a; intro a ha
  refine endl ?_
  refine thenN (hK1213 _ _ ?_); clear hK1213
  refine wp_seq_k (fun K1214 hK1215 => ?_)
  refine wp_region_lit ?_
  obtain ⟨t1216, ht1217, h_⟩ := bind_some' h; clear h; have h := h_; clear h_
  refine stepc ha 8 KR KR (frame_Put.calls K 7 (⟨#[97, 98]⟩ : ByteArray) t1216 _ (HW.ca0 hG0) ht1217) ?_; clear ha a; rintro e W1218 ⟨rfl, HX1219⟩
  refine ⟨_, rfl, ?_⟩; intro a ha; replace HW := HW.callw HX1219; clear HX1219
  refine stepp ha 7 (.tuple #[.string t1216.1, .int .i64 t1216.2]) KR KR ?_; clear ha a; intro a ha
  refine stepp ha 9 (.string t1216.1) KR KR ?_; clear ha a; intro a ha
  refine stepp ha 10 (.int .i64 t1216.2) KR KR ?_; clear ha a; intro a ha
  refine stepp ha 1 (.string t1216.1) KR KR ?_; clear ha a; intro a ha
  refine stepp ha 2 (.int .i64 t1216.2) KR KR ?_; clear ha a; intro a ha
  refine endl ?_
  refine thenN (hK1215 _ _ ?_); clear hK1215
  refine wp_seq_k (fun K1220 hK1221 => ?_)
  refine wp_region_lit ?_
  refine stepp ha 12 (.string t1216.1) KR KR ?_; clear ha a; intro a ha
  obtain ⟨t1222, ht1223, h_⟩ := bind_some' h; clear h; have h := h_; clear h_
  refine stepc ha 13 KR KR (frame_Get.calls K t1216.1 t1222 _ (HW.ca0 hG0) ht1223) ?_; clear ha a; rintro e W1224 ⟨rfl, HX1225⟩
  refine ⟨_, rfl, ?_⟩; intro a ha; replace HW := HW.callw HX1225; clear HX1225
  refine stepp ha 11 (.tuple #[.int .u64 t1222.1, .string t1222.2.1, .int .i64 t1222.2.2.1, .int .i64 t1222.2.2.2]) KR KR ?_; clear ha a; intro a ha
  refine stepp ha 14 (.int .u64 t1222.1) KR KR ?_; clear ha a; intro a ha
  refine stepp ha 15 (.string t1222.2.1) KR KR ?_; clear ha a; intro a ha
  refine stepp ha 16 (.int .i64 t1222.2.2.1) KR KR ?_; clear ha a; intro a ha
  refine stepp ha 17 (.int .i64 t1222.2.2.2) KR KR ?_; clear ha a; intro a ha
  refine stepp ha 3 (.int .u64 t1222.1) KR KR ?_; clear ha a; intro a ha
  refine stepp ha 4 (.string t1222.2.1) KR KR ?_; clear ha a; intro a ha
  refine stepp ha 5 (.int .i64 t1222.2.2.1) KR KR ?_; clear ha a; intro a ha
  refine stepp ha 6 (.int .i64 t1222.2.2.2) KR KR ?_; clear ha a; intro a ha
  refine endl ?_
  refine thenN (hK1221 _ _ ?_); clear hK1221
  refine wp_seq_k (fun K1226 hK1227 => ?_)
  refine wp_region_lit ?_
  refine stepp ha 18 (.int .i64 t1216.2) KR KR ?_; clear ha a; intro a ha
  refine stepp ha 19 (.bool (t1216.2 == 0)) KR KR ?_; clear ha a; intro a ha
  refine stepp ha 20 (.bool (t1216.2 == 0)) KR KR ?_; clear ha a; intro a ha
  by_cases hp1228 : t1216.2 = 0
  · skip
    replace h := ite_pos' h hp1228
    replace ha := ha.bool 20 KR (ieq_t hp1228)
    refine stepp ha 21 (.int .i64 t1222.2.2.2) KR KR ?_; clear ha a; intro a ha
    refine stepp ha 22 (.bool (t1222.2.2.2 == 0)) KR KR ?_; clear ha a; intro a ha
    refine stepp ha 23 (.bool (t1222.2.2.2 == 0)) KR KR ?_; clear ha a; intro a ha
    refine stepp ha 24 (.bool (t1222.2.2.2 == 0)) KR KR ?_; clear ha a; intro a ha
    by_cases hp1229 : t1222.2.2.2 = 0
    · skip
      replace h := ite_pos' h hp1229
      replace ha := ha.bool 24 KR (ieq_t hp1229)
      refine stepp ha 25 (.string t1216.1) KR KR ?_; clear ha a; intro a ha
      refine stepp ha 26 (.int .i64 (t1216.1.size : Int)) KR KR ?_; clear ha a; intro a ha
      refine stepp ha 27 (.bool ((t1216.1.size : Int) == 512)) KR KR ?_; clear ha a; intro a ha
      refine stepp ha 28 (.bool ((t1216.1.size : Int) == 512)) KR KR ?_; clear ha a; intro a ha
      refine stepp ha 29 (.bool ((t1216.1.size : Int) == 512)) KR KR ?_; clear ha a; intro a ha
      by_cases hp1230 : (t1216.1.size : Int) = 512
      · skip
        replace h := ite_pos' h hp1230
        replace ha := ha.bool 29 KR (ieq_t hp1230)
        refine stepp ha 30 (.int .u64 t1222.1) KR KR ?_; clear ha a; intro a ha
        refine stepp ha 31 (.bool (t1222.1 == 7)) KR KR ?_; clear ha a; intro a ha
        refine stepp ha 32 (.bool (t1222.1 == 7)) KR KR ?_; clear ha a; intro a ha
        refine stepp ha 33 (.bool (t1222.1 == 7)) KR KR ?_; clear ha a; intro a ha
        by_cases hp1231 : t1222.1 = 7
        · skip
          replace h := ite_pos' h hp1231
          replace ha := ha.bool 33 KR (ieq_t hp1231)
          refine stepp ha 34 (.string t1222.2.1) KR KR ?_; clear ha a; intro a ha
          refine stepp ha 35 (.bool (t1222.2.1.toList == (⟨#[97, 98]⟩ : ByteArray).toList)) KR KR ?_; clear ha a; intro a ha
          refine stepp ha 36 (.bool (t1222.2.1.toList == (⟨#[97, 98]⟩ : ByteArray).toList)) KR KR ?_; clear ha a; intro a ha
          refine stepp ha 37 (.bool (t1222.2.1.toList == (⟨#[97, 98]⟩ : ByteArray).toList)) KR KR ?_; clear ha a; intro a ha
          by_cases hp1232 : t1222.2.1 = (⟨#[97, 98]⟩ : ByteArray)
          · skip
            replace h := ite_pos' h hp1232
            replace ha := ha.bool 37 KR (str_eq_t hp1232)
            refine stepp ha 38 (.int .i64 t1222.2.2.1) KR KR ?_; clear ha a; intro a ha
            refine stepp ha 39 (.bool (t1222.2.2.1 == 512)) KR KR ?_; clear ha a; intro a ha
            refine stepp ha 40 (.bool (t1222.2.2.1 == 512)) KR KR ?_; clear ha a; intro a ha
            refine stepp ha 41 (.bool (t1222.2.2.1 == 512)) KR KR ?_; clear ha a; intro a ha
            by_cases hp1233 : t1222.2.2.1 = 512
            · skip
              replace h := ite_pos' h hp1233
              replace ha := ha.bool 41 KR (ieq_t hp1233)
              obtain ⟨t1234, ht1235, h_⟩ := bind_some' h; clear h; have h := h_; clear h_
              refine stepc ha 42 KR KR (frame_Sectors.calls 488 t1234 _ ht1235) ?_; clear ha a; rintro e W1236 ⟨rfl, HX1237⟩
              refine ⟨_, rfl, ?_⟩; intro a ha; replace HW := HW.callw HX1237; clear HX1237
              refine stepp ha 43 (.bool (t1234 == 1)) KR KR ?_; clear ha a; intro a ha
              refine stepp ha 44 (.bool (t1234 == 1)) KR KR ?_; clear ha a; intro a ha
              refine stepp ha 45 (.bool (t1234 == 1)) KR KR ?_; clear ha a; intro a ha
              by_cases hp1238 : t1234 = 1
              · skip
                replace h := ite_pos' h hp1238
                replace ha := ha.bool 45 KR (ieq_t hp1238)
                obtain ⟨t1239, ht1240, h_⟩ := bind_some' h; clear h; have h := h_; clear h_
                refine stepc ha 46 KR KR (frame_Sectors.calls 489 t1239 _ ht1240) ?_; clear ha a; rintro e W1241 ⟨rfl, HX1242⟩
                refine ⟨_, rfl, ?_⟩; intro a ha; replace HW := HW.callw HX1242; clear HX1242
                refine stepp ha 47 (.bool (t1239 == 2)) KR KR ?_; clear ha a; intro a ha
                refine stepp ha 48 (.bool (t1239 == 2)) KR KR ?_; clear ha a; intro a ha
                refine stepp ha 0 (.bool (t1239 == 2)) KR KR ?_; clear ha a; intro a ha
                refine endl ?_
                refine thenN (hK1227 _ _ ?_); clear hK1227
                refine wp_ret ?_
                obtain rfl := Option.some.inj h
                exact finv ha _ _ rfl (.tmp (v := .bool (t1239 == 2)) KR .nil) (.bool (t1239 == 2)) rfl ⟨rfl, HW.pick [] [] (by decide) (by decide) rfl KR⟩
              · skip
                replace h := ite_neg' h hp1238
                replace ha := ha.bool 45 KR (ieq_f hp1238)
                refine stepo ha 46 KR ?_; clear ha a; intro a ha
                refine stepo ha 47 KR ?_; clear ha a; intro a ha
                refine stepp ha 48 (.bool false) KR KR ?_; clear ha a; intro a ha
                refine stepp ha 0 (.bool false) KR KR ?_; clear ha a; intro a ha
                refine endl ?_
                refine thenN (hK1227 _ _ ?_); clear hK1227
                refine wp_ret ?_
                obtain rfl := Option.some.inj h
                exact finv ha _ _ rfl (.tmp (v := .bool false) KR .nil) (.bool false) rfl ⟨rfl, HW.pick [] [] (by decide) (by decide) rfl KR⟩
            · skip
              replace h := ite_neg' h hp1233
              replace ha := ha.bool 41 KR (ieq_f hp1233)
              refine stepo ha 42 KR ?_; clear ha a; intro a ha
              refine stepo ha 43 KR ?_; clear ha a; intro a ha
              refine stepp ha 44 (.bool false) KR KR ?_; clear ha a; intro a ha
              refine stepp ha 45 (.bool false) KR KR ?_; clear ha a; intro a ha
              refine stepo ha 46 KR ?_; clear ha a; intro a ha
              refine stepo ha 47 KR ?_; clear ha a; intro a ha
              refine stepp ha 48 (.bool false) KR KR ?_; clear ha a; intro a ha
              refine stepp ha 0 (.bool false) KR KR ?_; clear ha a; intro a ha
              refine endl ?_
              refine thenN (hK1227 _ _ ?_); clear hK1227
              refine wp_ret ?_
              obtain rfl := Option.some.inj h
              exact finv ha _ _ rfl (.tmp (v := .bool false) KR .nil) (.bool false) rfl ⟨rfl, HW.pick [] [] (by decide) (by decide) rfl KR⟩
          · skip
            replace h := ite_neg' h hp1232
            replace ha := ha.bool 37 KR (str_eq_f hp1232)
            refine stepo ha 38 KR ?_; clear ha a; intro a ha
            refine stepo ha 39 KR ?_; clear ha a; intro a ha
            refine stepp ha 40 (.bool false) KR KR ?_; clear ha a; intro a ha
            refine stepp ha 41 (.bool false) KR KR ?_; clear ha a; intro a ha
            refine stepo ha 42 KR ?_; clear ha a; intro a ha
            refine stepo ha 43 KR ?_; clear ha a; intro a ha
            refine stepp ha 44 (.bool false) KR KR ?_; clear ha a; intro a ha
            refine stepp ha 45 (.bool false) KR KR ?_; clear ha a; intro a ha
            refine stepo ha 46 KR ?_; clear ha a; intro a ha
            refine stepo ha 47 KR ?_; clear ha a; intro a ha
            refine stepp ha 48 (.bool false) KR KR ?_; clear ha a; intro a ha
            refine stepp ha 0 (.bool false) KR KR ?_; clear ha a; intro a ha
            refine endl ?_
            refine thenN (hK1227 _ _ ?_); clear hK1227
            refine wp_ret ?_
            obtain rfl := Option.some.inj h
            exact finv ha _ _ rfl (.tmp (v := .bool false) KR .nil) (.bool false) rfl ⟨rfl, HW.pick [] [] (by decide) (by decide) rfl KR⟩
        · skip
          replace h := ite_neg' h hp1231
          replace ha := ha.bool 33 KR (ieq_f hp1231)
          refine stepo ha 34 KR ?_; clear ha a; intro a ha
          refine stepo ha 35 KR ?_; clear ha a; intro a ha
          refine stepp ha 36 (.bool false) KR KR ?_; clear ha a; intro a ha
          refine stepp ha 37 (.bool false) KR KR ?_; clear ha a; intro a ha
          refine stepo ha 38 KR ?_; clear ha a; intro a ha
          refine stepo ha 39 KR ?_; clear ha a; intro a ha
          refine stepp ha 40 (.bool false) KR KR ?_; clear ha a; intro a ha
          refine stepp ha 41 (.bool false) KR KR ?_; clear ha a; intro a ha
          refine stepo ha 42 KR ?_; clear ha a; intro a ha
          refine stepo ha 43 KR ?_; clear ha a; intro a ha
          refine stepp ha 44 (.bool false) KR KR ?_; clear ha a; intro a ha
          refine stepp ha 45 (.bool false) KR KR ?_; clear ha a; intro a ha
          refine stepo ha 46 KR ?_; clear ha a; intro a ha
          refine stepo ha 47 KR ?_; clear ha a; intro a ha
          refine stepp ha 48 (.bool false) KR KR ?_; clear ha a; intro a ha
          refine stepp ha 0 (.bool false) KR KR ?_; clear ha a; intro a ha
          refine endl ?_
          refine thenN (hK1227 _ _ ?_); clear hK1227
          refine wp_ret ?_
          obtain rfl := Option.some.inj h
          exact finv ha _ _ rfl (.tmp (v := .bool false) KR .nil) (.bool false) rfl ⟨rfl, HW.pick [] [] (by decide) (by decide) rfl KR⟩
      · skip
        replace h := ite_neg' h hp1230
        replace ha := ha.bool 29 KR (ieq_f hp1230)
        refine stepo ha 30 KR ?_; clear ha a; intro a ha
        refine stepo ha 31 KR ?_; clear ha a; intro a ha
        refine stepp ha 32 (.bool false) KR KR ?_; clear ha a; intro a ha
        refine stepp ha 33 (.bool false) KR KR ?_; clear ha a; intro a ha
        refine stepo ha 34 KR ?_; clear ha a; intro a ha
        refine stepo ha 35 KR ?_; clear ha a; intro a ha
        refine stepp ha 36 (.bool false) KR KR ?_; clear ha a; intro a ha
        refine stepp ha 37 (.bool false) KR KR ?_; clear ha a; intro a ha
        refine stepo ha 38 KR ?_; clear ha a; intro a ha
        refine stepo ha 39 KR ?_; clear ha a; intro a ha
        refine stepp ha 40 (.bool false) KR KR ?_; clear ha a; intro a ha
        refine stepp ha 41 (.bool false) KR KR ?_; clear ha a; intro a ha
        refine stepo ha 42 KR ?_; clear ha a; intro a ha
        refine stepo ha 43 KR ?_; clear ha a; intro a ha
        refine stepp ha 44 (.bool false) KR KR ?_; clear ha a; intro a ha
        refine stepp ha 45 (.bool false) KR KR ?_; clear ha a; intro a ha
        refine stepo ha 46 KR ?_; clear ha a; intro a ha
        refine stepo ha 47 KR ?_; clear ha a; intro a ha
        refine stepp ha 48 (.bool false) KR KR ?_; clear ha a; intro a ha
        refine stepp ha 0 (.bool false) KR KR ?_; clear ha a; intro a ha
        refine endl ?_
        refine thenN (hK1227 _ _ ?_); clear hK1227
        refine wp_ret ?_
        obtain rfl := Option.some.inj h
        exact finv ha _ _ rfl (.tmp (v := .bool false) KR .nil) (.bool false) rfl ⟨rfl, HW.pick [] [] (by decide) (by decide) rfl KR⟩
    · skip
      replace h := ite_neg' h hp1229
      replace ha := ha.bool 24 KR (ieq_f hp1229)
      refine stepo ha 25 KR ?_; clear ha a; intro a ha
      refine stepo ha 26 KR ?_; clear ha a; intro a ha
      refine stepo ha 27 KR ?_; clear ha a; intro a ha
      refine stepp ha 28 (.bool false) KR KR ?_; clear ha a; intro a ha
      refine stepp ha 29 (.bool false) KR KR ?_; clear ha a; intro a ha
      refine stepo ha 30 KR ?_; clear ha a; intro a ha
      refine stepo ha 31 KR ?_; clear ha a; intro a ha
      refine stepp ha 32 (.bool false) KR KR ?_; clear ha a; intro a ha
      refine stepp ha 33 (.bool false) KR KR ?_; clear ha a; intro a ha
      refine stepo ha 34 KR ?_; clear ha a; intro a ha
      refine stepo ha 35 KR ?_; clear ha a; intro a ha
      refine stepp ha 36 (.bool false) KR KR ?_; clear ha a; intro a ha
      refine stepp ha 37 (.bool false) KR KR ?_; clear ha a; intro a ha
      refine stepo ha 38 KR ?_; clear ha a; intro a ha
      refine stepo ha 39 KR ?_; clear ha a; intro a ha
      refine stepp ha 40 (.bool false) KR KR ?_; clear ha a; intro a ha
      refine stepp ha 41 (.bool false) KR KR ?_; clear ha a; intro a ha
      refine stepo ha 42 KR ?_; clear ha a; intro a ha
      refine stepo ha 43 KR ?_; clear ha a; intro a ha
      refine stepp ha 44 (.bool false) KR KR ?_; clear ha a; intro a ha
      refine stepp ha 45 (.bool false) KR KR ?_; clear ha a; intro a ha
      refine stepo ha 46 KR ?_; clear ha a; intro a ha
      refine stepo ha 47 KR ?_; clear ha a; intro a ha
      refine stepp ha 48 (.bool false) KR KR ?_; clear ha a; intro a ha
      refine stepp ha 0 (.bool false) KR KR ?_; clear ha a; intro a ha
      refine endl ?_
      refine thenN (hK1227 _ _ ?_); clear hK1227
      refine wp_ret ?_
      obtain rfl := Option.some.inj h
      exact finv ha _ _ rfl (.tmp (v := .bool false) KR .nil) (.bool false) rfl ⟨rfl, HW.pick [] [] (by decide) (by decide) rfl KR⟩
  · skip
    replace h := ite_neg' h hp1228
    replace ha := ha.bool 20 KR (ieq_f hp1228)
    refine stepo ha 21 KR ?_; clear ha a; intro a ha
    refine stepo ha 22 KR ?_; clear ha a; intro a ha
    refine stepp ha 23 (.bool false) KR KR ?_; clear ha a; intro a ha
    refine stepp ha 24 (.bool false) KR KR ?_; clear ha a; intro a ha
    refine stepo ha 25 KR ?_; clear ha a; intro a ha
    refine stepo ha 26 KR ?_; clear ha a; intro a ha
    refine stepo ha 27 KR ?_; clear ha a; intro a ha
    refine stepp ha 28 (.bool false) KR KR ?_; clear ha a; intro a ha
    refine stepp ha 29 (.bool false) KR KR ?_; clear ha a; intro a ha
    refine stepo ha 30 KR ?_; clear ha a; intro a ha
    refine stepo ha 31 KR ?_; clear ha a; intro a ha
    refine stepp ha 32 (.bool false) KR KR ?_; clear ha a; intro a ha
    refine stepp ha 33 (.bool false) KR KR ?_; clear ha a; intro a ha
    refine stepo ha 34 KR ?_; clear ha a; intro a ha
    refine stepo ha 35 KR ?_; clear ha a; intro a ha
    refine stepp ha 36 (.bool false) KR KR ?_; clear ha a; intro a ha
    refine stepp ha 37 (.bool false) KR KR ?_; clear ha a; intro a ha
    refine stepo ha 38 KR ?_; clear ha a; intro a ha
    refine stepo ha 39 KR ?_; clear ha a; intro a ha
    refine stepp ha 40 (.bool false) KR KR ?_; clear ha a; intro a ha
    refine stepp ha 41 (.bool false) KR KR ?_; clear ha a; intro a ha
    refine stepo ha 42 KR ?_; clear ha a; intro a ha
    refine stepo ha 43 KR ?_; clear ha a; intro a ha
    refine stepp ha 44 (.bool false) KR KR ?_; clear ha a; intro a ha
    refine stepp ha 45 (.bool false) KR KR ?_; clear ha a; intro a ha
    refine stepo ha 46 KR ?_; clear ha a; intro a ha
    refine stepo ha 47 KR ?_; clear ha a; intro a ha
    refine stepp ha 48 (.bool false) KR KR ?_; clear ha a; intro a ha
    refine stepp ha 0 (.bool false) KR KR ?_; clear ha a; intro a ha
    refine endl ?_
    refine thenN (hK1227 _ _ ?_); clear hK1227
    refine wp_ret ?_
    obtain rfl := Option.some.inj h
    exact finv ha _ _ rfl (.tmp (v := .bool false) KR .nil) (.bool false) rfl ⟨rfl, HW.pick [] [] (by decide) (by decide) rfl KR⟩
end Go.Proofs.YtdcojinnjpihaaaDoor.F
