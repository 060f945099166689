/- headgate/headgatelaw25.wakes: a plain function, and that the call comes to what it says. No condition. -/
import Derived.Test.YtceagilmillgfaaDoorFT
import Derived.Test.YtceagilmillgfaaDoorF13
import Derived.Test.YtceagilmillgfaaDoorF15
import Derived.Test.YtceagilmillgfaaDoorF24
namespace Go.Proofs.YtceagilmillgfaaDoor.F
open Go Go.RowKit Go.Proofs.YtceagilmillgfaaDoor.X
set_option linter.unusedVariables false
set_option linter.unusedSimpArgs false
/-! ### headgate/headgatelaw25.wakes: function 17 -/
def headgatelaw25_wakes.f (K : Nat)  : Option Bool :=
  (sqe_Put.f K (⟨2, 0, 5, 0, 0, (⟨0, 0, 0, 0, 0, 0⟩ : T_arr6_22)⟩ : T_api_Sqe) false).bind fun t1438 => ((sqe_Get.f K t1438.1).bind fun t1444 => ((sqe_End.f K (⟨0, 0, 0, 0, 3, 131⟩ : T_api_Cqe)).bind fun t1453 => (if t1438.2 = 0 then (if t1444.2.2 = 0 then (if t1453.2 = 0 then (if (t1438.1.size : Int) = 64 then (asrt (0 < (t1438.1.size : Int)) (if (bt t1438.1 0) = 2 then (asrt (1 < (t1438.1.size : Int)) (if (bt t1438.1 1) = 64 then (asrt (2 < (t1438.1.size : Int)) (if (bt t1438.1 2) = 5 then (asrt (39 < (t1438.1.size : Int)) (if (bt t1438.1 39) = 90 then (if t1444.1.f2 = 5 then (if t1444.2.1 = true then (some false) else (if (t1453.1.size : Int) = 16 then (asrt (12 < (t1453.1.size : Int)) (if (bt t1453.1 12) = 3 then (asrt (14 < (t1453.1.size : Int)) (if (bt t1453.1 14) = 6 then (asrt (15 < (t1453.1.size : Int)) (some ((bt t1453.1 15) == 1))) else (some false))) else (some false))) else (some false))) else (some false)) else (some false))) else (some false))) else (some false))) else (some false))) else (some false)) else (some false)) else (some false)) else (some false))))
set_option maxRecDepth 100000 in
set_option maxHeartbeats 4000000 in
theorem headgatelaw25_wakes.calls (K : Nat)   (r : Bool) (w : World) (hG1 : CA w 1 0 (encs T_sqe_field.enc G_sqe_endsOf).toArray) (hG2 : CA w 2 0 (encs T_sqe_field.enc G_sqe_fieldsOf).toArray) (h : headgatelaw25_wakes.f K  = some r) :
    Calls Tryd.prog 17 #[] w (fun e W' => e = .returned (.bool r) ∧ Wd w W' [] [] ) := by
  refine sxstart (n := 88) (l := []) Tryd.func17 rfl rfl (Nat.le_of_ble_eq_true (by kernel_rfl)) (subsA_nil _) ?_
  intro a ha
  have HW := Wd.refl w
  unfold headgatelaw25_wakes.f at h
  refine wp_seq_k (fun K1434 hK1435 => ?_)
  refine wp_region_lit ?_
  refine stepp ha 0 (.bool false) (by kernel_rfl) (by kernel_rfl) ?_; clear ha a; intro a ha
  refine endl ?_
  refine thenN (hK1435 _ _ ?_); clear hK1435
  refine wp_seq_k (fun K1436 hK1437 => ?_)
  refine wp_region_lit ?_
  refine stepp ha 9 (.agg #[.int .i64 2, .int .i64 0, .int .i64 5, .int .u32 0, .int .i64 0, .int .u32 0, .int .u32 0, .int .u32 0, .int .u32 0, .int .u32 0, .int .u32 0]) (by kernel_rfl) (by kernel_rfl) ?_; clear ha a; intro a ha
  obtain ⟨t1438, ht1439, h_⟩ := bind_some' h; clear h; have h := h_; clear h_
  refine stepc ha 10 (by kernel_rfl) (by kernel_rfl) (sqe_Put.calls K (⟨2, 0, 5, 0, 0, (⟨0, 0, 0, 0, 0, 0⟩ : T_arr6_22)⟩ : T_api_Sqe) false t1438 _ (HW.ca0 hG1) (HW.ca0 hG2) ht1439) ?_; clear ha a; rintro e W1440 ⟨rfl, HX1441⟩
  refine ⟨_, rfl, ?_⟩; intro a ha; replace HW := HW.callw HX1441; clear HX1441
  refine stepp ha 8 (.tuple #[.string t1438.1, .int .i64 t1438.2]) (by kernel_rfl) (by kernel_rfl) ?_; clear ha a; intro a ha
  refine stepp ha 11 (.string t1438.1) (by kernel_rfl) (by kernel_rfl) ?_; clear ha a; intro a ha
  refine stepp ha 12 (.int .i64 t1438.2) (by kernel_rfl) (by kernel_rfl) ?_; clear ha a; intro a ha
  refine stepp ha 1 (.string t1438.1) (by kernel_rfl) (by kernel_rfl) ?_; clear ha a; intro a ha
  refine stepp ha 2 (.int .i64 t1438.2) (by kernel_rfl) (by kernel_rfl) ?_; clear ha a; intro a ha
  refine endl ?_
  refine thenN (hK1437 _ _ ?_); clear hK1437
  refine wp_seq_k (fun K1442 hK1443 => ?_)
  refine wp_region_lit ?_
  refine stepp ha 14 (.string t1438.1) (by kernel_rfl) (by kernel_rfl) ?_; clear ha a; intro a ha
  obtain ⟨t1444, ht1445, h_⟩ := bind_some' h; clear h; have h := h_; clear h_
  refine stepc ha 15 (by kernel_rfl) (by kernel_rfl) (sqe_Get.calls K t1438.1 t1444 _ (HW.ca0 hG1) (HW.ca0 hG2) ht1445) ?_; clear ha a; rintro e W1446 ⟨rfl, HX1447⟩
  refine ⟨_, rfl, ?_⟩; intro a ha; replace HW := HW.callw HX1447; clear HX1447
  refine stepp ha 13 (.tuple #[.agg #[.int .i64 t1444.1.f0, .int .i64 t1444.1.f1, .int .i64 t1444.1.f2, .int .u32 t1444.1.f3, .int .i64 t1444.1.f4, .int .u32 t1444.1.f5.f0, .int .u32 t1444.1.f5.f1, .int .u32 t1444.1.f5.f2, .int .u32 t1444.1.f5.f3, .int .u32 t1444.1.f5.f4, .int .u32 t1444.1.f5.f5], .bool t1444.2.1, .int .i64 t1444.2.2]) (by kernel_rfl) (by kernel_rfl) ?_; clear ha a; intro a ha
  refine stepp ha 16 (.agg #[.int .i64 t1444.1.f0, .int .i64 t1444.1.f1, .int .i64 t1444.1.f2, .int .u32 t1444.1.f3, .int .i64 t1444.1.f4, .int .u32 t1444.1.f5.f0, .int .u32 t1444.1.f5.f1, .int .u32 t1444.1.f5.f2, .int .u32 t1444.1.f5.f3, .int .u32 t1444.1.f5.f4, .int .u32 t1444.1.f5.f5]) (by kernel_rfl) (by kernel_rfl) ?_; clear ha a; intro a ha
  refine stepp ha 17 (.bool t1444.2.1) (by kernel_rfl) (by kernel_rfl) ?_; clear ha a; intro a ha
  refine stepp ha 18 (.int .i64 t1444.2.2) (by kernel_rfl) (by kernel_rfl) ?_; clear ha a; intro a ha
  refine stepnew ha HW 3 #[.int .i64 0, .int .i64 0, .int .i64 0, .int .u32 0, .int .i64 0, .int .u32 0, .int .u32 0, .int .u32 0, .int .u32 0, .int .u32 0, .int .u32 0] 25 (by kernel_rfl) (by kernel_rfl) ?_; clear ha HW a; intro b1448 a W1449 HW ha
  refine stepst ha HW 0 (b := b1448) (C := #[.int .i64 0, .int .i64 0, .int .i64 0, .int .u32 0, .int .i64 0, .int .u32 0, .int .u32 0, .int .u32 0, .int .u32 0, .int .u32 0, .int .u32 0]) (T := 25) (by kernel_rfl) 25 0 (.tmp 3) (.tmp 16) (.agg #[.int .i64 t1444.1.f0, .int .i64 t1444.1.f1, .int .i64 t1444.1.f2, .int .u32 t1444.1.f3, .int .i64 t1444.1.f4, .int .u32 t1444.1.f5.f0, .int .u32 t1444.1.f5.f1, .int .u32 t1444.1.f5.f2, .int .u32 t1444.1.f5.f3, .int .u32 t1444.1.f5.f4, .int .u32 t1444.1.f5.f5]) #[.int .i64 t1444.1.f0, .int .i64 t1444.1.f1, .int .i64 t1444.1.f2, .int .u32 t1444.1.f3, .int .i64 t1444.1.f4, .int .u32 t1444.1.f5.f0, .int .u32 t1444.1.f5.f1, .int .u32 t1444.1.f5.f2, .int .u32 t1444.1.f5.f3, .int .u32 t1444.1.f5.f4, .int .u32 t1444.1.f5.f5] rfl (by kernel_rfl) (by kernel_rfl) (by kernel_rfl) (by kernel_rfl) (by kernel_rfl) (by kernel_rfl) (by kernel_rfl) ?_; clear ha HW a; intro a W1450 HW ha
  refine stepp ha 4 (.bool t1444.2.1) (by kernel_rfl) (by kernel_rfl) ?_; clear ha a; intro a ha
  refine stepp ha 5 (.int .i64 t1444.2.2) (by kernel_rfl) (by kernel_rfl) ?_; clear ha a; intro a ha
  refine endl ?_
  refine thenN (hK1443 _ _ ?_); clear hK1443
  refine wp_seq_k (fun K1451 hK1452 => ?_)
  refine wp_region_lit ?_
  refine stepp ha 20 (.agg #[.int .u32 0, .int .u32 0, .int .i64 0, .int .i64 0, .int .i64 3, .int .i64 131]) (by kernel_rfl) (by kernel_rfl) ?_; clear ha a; intro a ha
  obtain ⟨t1453, ht1454, h_⟩ := bind_some' h; clear h; have h := h_; clear h_
  refine stepc ha 21 (by kernel_rfl) (by kernel_rfl) (sqe_End.calls K (⟨0, 0, 0, 0, 3, 131⟩ : T_api_Cqe) t1453 _ (HW.ca0 hG1) (HW.ca0 hG2) ht1454) ?_; clear ha a; rintro e W1455 ⟨rfl, HX1456⟩
  refine ⟨_, rfl, ?_⟩; intro a ha; replace HW := HW.callw HX1456; clear HX1456
  refine stepp ha 19 (.tuple #[.string t1453.1, .int .i64 t1453.2]) (by kernel_rfl) (by kernel_rfl) ?_; clear ha a; intro a ha
  refine stepp ha 22 (.string t1453.1) (by kernel_rfl) (by kernel_rfl) ?_; clear ha a; intro a ha
  refine stepp ha 23 (.int .i64 t1453.2) (by kernel_rfl) (by kernel_rfl) ?_; clear ha a; intro a ha
  refine stepp ha 6 (.string t1453.1) (by kernel_rfl) (by kernel_rfl) ?_; clear ha a; intro a ha
  refine stepp ha 7 (.int .i64 t1453.2) (by kernel_rfl) (by kernel_rfl) ?_; clear ha a; intro a ha
  refine endl ?_
  refine thenN (hK1452 _ _ ?_); clear hK1452
  refine wp_seq_k (fun K1457 hK1458 => ?_)
  refine wp_region_lit ?_
  refine stepp ha 24 (.int .i64 t1438.2) (by kernel_rfl) (by kernel_rfl) ?_; clear ha a; intro a ha
  refine stepp ha 25 (.bool (t1438.2 == 0)) (by kernel_rfl) (by kernel_rfl) ?_; clear ha a; intro a ha
  refine stepp ha 26 (.bool (t1438.2 == 0)) (by kernel_rfl) (by kernel_rfl) ?_; clear ha a; intro a ha
  by_cases hp1459 : t1438.2 = 0
  · skip
    replace h := ite_pos' h hp1459
    replace ha := ha.bool 26 (by kernel_rfl) (ieq_t hp1459)
    refine stepp ha 27 (.int .i64 t1444.2.2) (by kernel_rfl) (by kernel_rfl) ?_; clear ha a; intro a ha
    refine stepp ha 28 (.bool (t1444.2.2 == 0)) (by kernel_rfl) (by kernel_rfl) ?_; clear ha a; intro a ha
    refine stepp ha 29 (.bool (t1444.2.2 == 0)) (by kernel_rfl) (by kernel_rfl) ?_; clear ha a; intro a ha
    refine stepp ha 30 (.bool (t1444.2.2 == 0)) (by kernel_rfl) (by kernel_rfl) ?_; clear ha a; intro a ha
    by_cases hp1460 : t1444.2.2 = 0
    · skip
      replace h := ite_pos' h hp1460
      replace ha := ha.bool 30 (by kernel_rfl) (ieq_t hp1460)
      refine stepp ha 31 (.int .i64 t1453.2) (by kernel_rfl) (by kernel_rfl) ?_; clear ha a; intro a ha
      refine stepp ha 32 (.bool (t1453.2 == 0)) (by kernel_rfl) (by kernel_rfl) ?_; clear ha a; intro a ha
      refine stepp ha 33 (.bool (t1453.2 == 0)) (by kernel_rfl) (by kernel_rfl) ?_; clear ha a; intro a ha
      refine stepp ha 34 (.bool (t1453.2 == 0)) (by kernel_rfl) (by kernel_rfl) ?_; clear ha a; intro a ha
      by_cases hp1461 : t1453.2 = 0
      · skip
        replace h := ite_pos' h hp1461
        replace ha := ha.bool 34 (by kernel_rfl) (ieq_t hp1461)
        refine stepp ha 35 (.string t1438.1) (by kernel_rfl) (by kernel_rfl) ?_; clear ha a; intro a ha
        refine stepp ha 36 (.int .i64 (t1438.1.size : Int)) (by kernel_rfl) (by kernel_rfl) ?_; clear ha a; intro a ha
        refine stepp ha 37 (.bool ((t1438.1.size : Int) == 64)) (by kernel_rfl) (by kernel_rfl) ?_; clear ha a; intro a ha
        refine stepp ha 38 (.bool ((t1438.1.size : Int) == 64)) (by kernel_rfl) (by kernel_rfl) ?_; clear ha a; intro a ha
        refine stepp ha 39 (.bool ((t1438.1.size : Int) == 64)) (by kernel_rfl) (by kernel_rfl) ?_; clear ha a; intro a ha
        by_cases hp1462 : (t1438.1.size : Int) = 64
        · skip
          replace h := ite_pos' h hp1462
          replace ha := ha.bool 39 (by kernel_rfl) (ieq_t hp1462)
          refine stepp ha 40 (.string t1438.1) (by kernel_rfl) (by kernel_rfl) ?_; clear ha a; intro a ha
          obtain ⟨hA1463, h_⟩ := asrt_some h; clear h; have h := h_; clear h_
          refine stepsi ha 41 9 (.tmp 40) (.const (.int .i64 0)) t1438.1 .i64 0 rfl (by kernel_rfl) (by kernel_rfl) (by kernel_rfl) (by decide) (show (0 : Int) < ((t1438.1).size : Int) from hA1463) (by kernel_rfl) ?_; clear ha a; intro a ha
          refine stepp ha 42 (.bool ((bt t1438.1 0) == 2)) (by kernel_rfl) (by kernel_rfl) ?_; clear ha a; intro a ha
          refine stepp ha 43 (.bool ((bt t1438.1 0) == 2)) (by kernel_rfl) (by kernel_rfl) ?_; clear ha a; intro a ha
          refine stepp ha 44 (.bool ((bt t1438.1 0) == 2)) (by kernel_rfl) (by kernel_rfl) ?_; clear ha a; intro a ha
          by_cases hp1464 : (bt t1438.1 0) = 2
          · skip
            replace h := ite_pos' h hp1464
            replace ha := ha.bool 44 (by kernel_rfl) (ieq_t hp1464)
            refine stepp ha 45 (.string t1438.1) (by kernel_rfl) (by kernel_rfl) ?_; clear ha a; intro a ha
            obtain ⟨hA1465, h_⟩ := asrt_some h; clear h; have h := h_; clear h_
            refine stepsi ha 46 9 (.tmp 45) (.const (.int .i64 1)) t1438.1 .i64 1 rfl (by kernel_rfl) (by kernel_rfl) (by kernel_rfl) (by decide) (show (1 : Int) < ((t1438.1).size : Int) from hA1465) (by kernel_rfl) ?_; clear ha a; intro a ha
            refine stepp ha 47 (.bool ((bt t1438.1 1) == 64)) (by kernel_rfl) (by kernel_rfl) ?_; clear ha a; intro a ha
            refine stepp ha 48 (.bool ((bt t1438.1 1) == 64)) (by kernel_rfl) (by kernel_rfl) ?_; clear ha a; intro a ha
            refine stepp ha 49 (.bool ((bt t1438.1 1) == 64)) (by kernel_rfl) (by kernel_rfl) ?_; clear ha a; intro a ha
            by_cases hp1466 : (bt t1438.1 1) = 64
            · skip
              replace h := ite_pos' h hp1466
              replace ha := ha.bool 49 (by kernel_rfl) (ieq_t hp1466)
              refine stepp ha 50 (.string t1438.1) (by kernel_rfl) (by kernel_rfl) ?_; clear ha a; intro a ha
              obtain ⟨hA1467, h_⟩ := asrt_some h; clear h; have h := h_; clear h_
              refine stepsi ha 51 9 (.tmp 50) (.const (.int .i64 2)) t1438.1 .i64 2 rfl (by kernel_rfl) (by kernel_rfl) (by kernel_rfl) (by decide) (show (2 : Int) < ((t1438.1).size : Int) from hA1467) (by kernel_rfl) ?_; clear ha a; intro a ha
              refine stepp ha 52 (.bool ((bt t1438.1 2) == 5)) (by kernel_rfl) (by kernel_rfl) ?_; clear ha a; intro a ha
              refine stepp ha 53 (.bool ((bt t1438.1 2) == 5)) (by kernel_rfl) (by kernel_rfl) ?_; clear ha a; intro a ha
              refine stepp ha 54 (.bool ((bt t1438.1 2) == 5)) (by kernel_rfl) (by kernel_rfl) ?_; clear ha a; intro a ha
              by_cases hp1468 : (bt t1438.1 2) = 5
              · skip
                replace h := ite_pos' h hp1468
                replace ha := ha.bool 54 (by kernel_rfl) (ieq_t hp1468)
                refine stepp ha 55 (.string t1438.1) (by kernel_rfl) (by kernel_rfl) ?_; clear ha a; intro a ha
                obtain ⟨hA1469, h_⟩ := asrt_some h; clear h; have h := h_; clear h_
                refine stepsi ha 56 9 (.tmp 55) (.const (.int .i64 39)) t1438.1 .i64 39 rfl (by kernel_rfl) (by kernel_rfl) (by kernel_rfl) (by decide) (show (39 : Int) < ((t1438.1).size : Int) from hA1469) (by kernel_rfl) ?_; clear ha a; intro a ha
                refine stepp ha 57 (.bool ((bt t1438.1 39) == 90)) (by kernel_rfl) (by kernel_rfl) ?_; clear ha a; intro a ha
                refine stepp ha 58 (.bool ((bt t1438.1 39) == 90)) (by kernel_rfl) (by kernel_rfl) ?_; clear ha a; intro a ha
                refine stepp ha 59 (.bool ((bt t1438.1 39) == 90)) (by kernel_rfl) (by kernel_rfl) ?_; clear ha a; intro a ha
                by_cases hp1470 : (bt t1438.1 39) = 90
                · skip
                  replace h := ite_pos' h hp1470
                  replace ha := ha.bool 59 (by kernel_rfl) (ieq_t hp1470)
                  refine stepp ha 60 (.pointer (some ⟨b1448, 2, none⟩)) (by kernel_rfl) (by kernel_rfl) ?_; clear ha a; intro a ha
                  refine stepl ha 61 (HW.ca (i := 0) (b := b1448) (C := #[.int .i64 t1444.1.f0, .int .i64 t1444.1.f1, .int .i64 t1444.1.f2, .int .u32 t1444.1.f3, .int .i64 t1444.1.f4, .int .u32 t1444.1.f5.f0, .int .u32 t1444.1.f5.f1, .int .u32 t1444.1.f5.f2, .int .u32 t1444.1.f5.f3, .int .u32 t1444.1.f5.f4, .int .u32 t1444.1.f5.f5]) (T := 25) (fr := (0, 0)) (by kernel_rfl)) 3 2 (.tmp 60) (.int .i64 t1444.1.f2) rfl (by kernel_rfl) (by kernel_rfl) (by kernel_rfl) ?_; clear ha a; intro a ha
                  refine stepp ha 62 (.bool (t1444.1.f2 == 5)) (by kernel_rfl) (by kernel_rfl) ?_; clear ha a; intro a ha
                  refine stepp ha 63 (.bool (t1444.1.f2 == 5)) (by kernel_rfl) (by kernel_rfl) ?_; clear ha a; intro a ha
                  refine stepp ha 64 (.bool (t1444.1.f2 == 5)) (by kernel_rfl) (by kernel_rfl) ?_; clear ha a; intro a ha
                  by_cases hp1471 : t1444.1.f2 = 5
                  · skip
                    replace h := ite_pos' h hp1471
                    replace ha := ha.bool 64 (by kernel_rfl) (ieq_t hp1471)
                    refine stepp ha 65 (.bool t1444.2.1) (by kernel_rfl) (by kernel_rfl) ?_; clear ha a; intro a ha
                    refine stepp ha 66 (.bool (!t1444.2.1)) (by kernel_rfl) (by kernel_rfl) ?_; clear ha a; intro a ha
                    refine stepp ha 67 (.bool (!t1444.2.1)) (by kernel_rfl) (by kernel_rfl) ?_; clear ha a; intro a ha
                    refine stepp ha 68 (.bool (!t1444.2.1)) (by kernel_rfl) (by kernel_rfl) ?_; clear ha a; intro a ha
                    by_cases hp1472 : t1444.2.1 = true
                    · skip
                      replace h := ite_pos' h hp1472
                      replace ha := ha.bool 68 (by kernel_rfl) (not_f (hp1472))
                      refine stepo ha 69 (by kernel_rfl) ?_; clear ha a; intro a ha
                      refine stepo ha 70 (by kernel_rfl) ?_; clear ha a; intro a ha
                      refine stepo ha 71 (by kernel_rfl) ?_; clear ha a; intro a ha
                      refine stepp ha 72 (.bool false) (by kernel_rfl) (by kernel_rfl) ?_; clear ha a; intro a ha
                      refine stepp ha 73 (.bool false) (by kernel_rfl) (by kernel_rfl) ?_; clear ha a; intro a ha
                      refine stepo ha 74 (by kernel_rfl) ?_; clear ha a; intro a ha
                      refine stepo ha 75 (by kernel_rfl) ?_; clear ha a; intro a ha
                      refine stepo ha 76 (by kernel_rfl) ?_; clear ha a; intro a ha
                      refine stepp ha 77 (.bool false) (by kernel_rfl) (by kernel_rfl) ?_; clear ha a; intro a ha
                      refine stepp ha 78 (.bool false) (by kernel_rfl) (by kernel_rfl) ?_; clear ha a; intro a ha
                      refine stepo ha 79 (by kernel_rfl) ?_; clear ha a; intro a ha
                      refine stepo ha 80 (by kernel_rfl) ?_; clear ha a; intro a ha
                      refine stepo ha 81 (by kernel_rfl) ?_; clear ha a; intro a ha
                      refine stepp ha 82 (.bool false) (by kernel_rfl) (by kernel_rfl) ?_; clear ha a; intro a ha
                      refine stepp ha 83 (.bool false) (by kernel_rfl) (by kernel_rfl) ?_; clear ha a; intro a ha
                      refine stepo ha 84 (by kernel_rfl) ?_; clear ha a; intro a ha
                      refine stepo ha 85 (by kernel_rfl) ?_; clear ha a; intro a ha
                      refine stepo ha 86 (by kernel_rfl) ?_; clear ha a; intro a ha
                      refine stepp ha 87 (.bool false) (by kernel_rfl) (by kernel_rfl) ?_; clear ha a; intro a ha
                      refine stepp ha 0 (.bool false) (by kernel_rfl) (by kernel_rfl) ?_; clear ha a; intro a ha
                      refine endl ?_
                      refine thenN (hK1458 _ _ ?_); clear hK1458
                      refine wp_ret ?_
                      obtain rfl := Option.some.inj h
                      exact finv ha _ _ rfl (.tmp (v := .bool false) (by kernel_rfl) .nil) (.bool false) rfl ⟨rfl, HW.pick [] [] (by decide) (by decide) rfl (by kernel_rfl)⟩
                    · skip
                      replace h := ite_neg' h hp1472
                      replace ha := ha.bool 68 (by kernel_rfl) (not_t (bool_f hp1472))
                      refine stepp ha 69 (.string t1453.1) (by kernel_rfl) (by kernel_rfl) ?_; clear ha a; intro a ha
                      refine stepp ha 70 (.int .i64 (t1453.1.size : Int)) (by kernel_rfl) (by kernel_rfl) ?_; clear ha a; intro a ha
                      refine stepp ha 71 (.bool ((t1453.1.size : Int) == 16)) (by kernel_rfl) (by kernel_rfl) ?_; clear ha a; intro a ha
                      refine stepp ha 72 (.bool ((t1453.1.size : Int) == 16)) (by kernel_rfl) (by kernel_rfl) ?_; clear ha a; intro a ha
                      refine stepp ha 73 (.bool ((t1453.1.size : Int) == 16)) (by kernel_rfl) (by kernel_rfl) ?_; clear ha a; intro a ha
                      by_cases hp1473 : (t1453.1.size : Int) = 16
                      · skip
                        replace h := ite_pos' h hp1473
                        replace ha := ha.bool 73 (by kernel_rfl) (ieq_t hp1473)
                        refine stepp ha 74 (.string t1453.1) (by kernel_rfl) (by kernel_rfl) ?_; clear ha a; intro a ha
                        obtain ⟨hA1474, h_⟩ := asrt_some h; clear h; have h := h_; clear h_
                        refine stepsi ha 75 9 (.tmp 74) (.const (.int .i64 12)) t1453.1 .i64 12 rfl (by kernel_rfl) (by kernel_rfl) (by kernel_rfl) (by decide) (show (12 : Int) < ((t1453.1).size : Int) from hA1474) (by kernel_rfl) ?_; clear ha a; intro a ha
                        refine stepp ha 76 (.bool ((bt t1453.1 12) == 3)) (by kernel_rfl) (by kernel_rfl) ?_; clear ha a; intro a ha
                        refine stepp ha 77 (.bool ((bt t1453.1 12) == 3)) (by kernel_rfl) (by kernel_rfl) ?_; clear ha a; intro a ha
                        refine stepp ha 78 (.bool ((bt t1453.1 12) == 3)) (by kernel_rfl) (by kernel_rfl) ?_; clear ha a; intro a ha
                        by_cases hp1475 : (bt t1453.1 12) = 3
                        · skip
                          replace h := ite_pos' h hp1475
                          replace ha := ha.bool 78 (by kernel_rfl) (ieq_t hp1475)
                          refine stepp ha 79 (.string t1453.1) (by kernel_rfl) (by kernel_rfl) ?_; clear ha a; intro a ha
                          obtain ⟨hA1476, h_⟩ := asrt_some h; clear h; have h := h_; clear h_
                          refine stepsi ha 80 9 (.tmp 79) (.const (.int .i64 14)) t1453.1 .i64 14 rfl (by kernel_rfl) (by kernel_rfl) (by kernel_rfl) (by decide) (show (14 : Int) < ((t1453.1).size : Int) from hA1476) (by kernel_rfl) ?_; clear ha a; intro a ha
                          refine stepp ha 81 (.bool ((bt t1453.1 14) == 6)) (by kernel_rfl) (by kernel_rfl) ?_; clear ha a; intro a ha
                          refine stepp ha 82 (.bool ((bt t1453.1 14) == 6)) (by kernel_rfl) (by kernel_rfl) ?_; clear ha a; intro a ha
                          refine stepp ha 83 (.bool ((bt t1453.1 14) == 6)) (by kernel_rfl) (by kernel_rfl) ?_; clear ha a; intro a ha
                          by_cases hp1477 : (bt t1453.1 14) = 6
                          · skip
                            replace h := ite_pos' h hp1477
                            replace ha := ha.bool 83 (by kernel_rfl) (ieq_t hp1477)
                            refine stepp ha 84 (.string t1453.1) (by kernel_rfl) (by kernel_rfl) ?_; clear ha a; intro a ha
                            obtain ⟨hA1478, h_⟩ := asrt_some h; clear h; have h := h_; clear h_
                            refine stepsi ha 85 9 (.tmp 84) (.const (.int .i64 15)) t1453.1 .i64 15 rfl (by kernel_rfl) (by kernel_rfl) (by kernel_rfl) (by decide) (show (15 : Int) < ((t1453.1).size : Int) from hA1478) (by kernel_rfl) ?_; clear ha a; intro a ha
                            refine stepp ha 86 (.bool ((bt t1453.1 15) == 1)) (by kernel_rfl) (by kernel_rfl) ?_; clear ha a; intro a ha
                            refine stepp ha 87 (.bool ((bt t1453.1 15) == 1)) (by kernel_rfl) (by kernel_rfl) ?_; clear ha a; intro a ha
                            refine stepp ha 0 (.bool ((bt t1453.1 15) == 1)) (by kernel_rfl) (by kernel_rfl) ?_; clear ha a; intro a ha
                            refine endl ?_
                            refine thenN (hK1458 _ _ ?_); clear hK1458
                            refine wp_ret ?_
                            obtain rfl := Option.some.inj h
                            exact finv ha _ _ rfl (.tmp (v := .bool ((bt t1453.1 15) == 1)) (by kernel_rfl) .nil) (.bool ((bt t1453.1 15) == 1)) rfl ⟨rfl, HW.pick [] [] (by decide) (by decide) rfl (by kernel_rfl)⟩
                          · skip
                            replace h := ite_neg' h hp1477
                            replace ha := ha.bool 83 (by kernel_rfl) (ieq_f hp1477)
                            refine stepo ha 84 (by kernel_rfl) ?_; clear ha a; intro a ha
                            refine stepo ha 85 (by kernel_rfl) ?_; clear ha a; intro a ha
                            refine stepo ha 86 (by kernel_rfl) ?_; clear ha a; intro a ha
                            refine stepp ha 87 (.bool false) (by kernel_rfl) (by kernel_rfl) ?_; clear ha a; intro a ha
                            refine stepp ha 0 (.bool false) (by kernel_rfl) (by kernel_rfl) ?_; clear ha a; intro a ha
                            refine endl ?_
                            refine thenN (hK1458 _ _ ?_); clear hK1458
                            refine wp_ret ?_
                            obtain rfl := Option.some.inj h
                            exact finv ha _ _ rfl (.tmp (v := .bool false) (by kernel_rfl) .nil) (.bool false) rfl ⟨rfl, HW.pick [] [] (by decide) (by decide) rfl (by kernel_rfl)⟩
                        · skip
                          replace h := ite_neg' h hp1475
                          replace ha := ha.bool 78 (by kernel_rfl) (ieq_f hp1475)
                          refine stepo ha 79 (by kernel_rfl) ?_; clear ha a; intro a ha
                          refine stepo ha 80 (by kernel_rfl) ?_; clear ha a; intro a ha
                          refine stepo ha 81 (by kernel_rfl) ?_; clear ha a; intro a ha
                          refine stepp ha 82 (.bool false) (by kernel_rfl) (by kernel_rfl) ?_; clear ha a; intro a ha
                          refine stepp ha 83 (.bool false) (by kernel_rfl) (by kernel_rfl) ?_; clear ha a; intro a ha
                          refine stepo ha 84 (by kernel_rfl) ?_; clear ha a; intro a ha
                          refine stepo ha 85 (by kernel_rfl) ?_; clear ha a; intro a ha
                          refine stepo ha 86 (by kernel_rfl) ?_; clear ha a; intro a ha
                          refine stepp ha 87 (.bool false) (by kernel_rfl) (by kernel_rfl) ?_; clear ha a; intro a ha
                          refine stepp ha 0 (.bool false) (by kernel_rfl) (by kernel_rfl) ?_; clear ha a; intro a ha
                          refine endl ?_
                          refine thenN (hK1458 _ _ ?_); clear hK1458
                          refine wp_ret ?_
                          obtain rfl := Option.some.inj h
                          exact finv ha _ _ rfl (.tmp (v := .bool false) (by kernel_rfl) .nil) (.bool false) rfl ⟨rfl, HW.pick [] [] (by decide) (by decide) rfl (by kernel_rfl)⟩
                      · skip
                        replace h := ite_neg' h hp1473
                        replace ha := ha.bool 73 (by kernel_rfl) (ieq_f hp1473)
                        refine stepo ha 74 (by kernel_rfl) ?_; clear ha a; intro a ha
                        refine stepo ha 75 (by kernel_rfl) ?_; clear ha a; intro a ha
                        refine stepo ha 76 (by kernel_rfl) ?_; clear ha a; intro a ha
                        refine stepp ha 77 (.bool false) (by kernel_rfl) (by kernel_rfl) ?_; clear ha a; intro a ha
                        refine stepp ha 78 (.bool false) (by kernel_rfl) (by kernel_rfl) ?_; clear ha a; intro a ha
                        refine stepo ha 79 (by kernel_rfl) ?_; clear ha a; intro a ha
                        refine stepo ha 80 (by kernel_rfl) ?_; clear ha a; intro a ha
                        refine stepo ha 81 (by kernel_rfl) ?_; clear ha a; intro a ha
                        refine stepp ha 82 (.bool false) (by kernel_rfl) (by kernel_rfl) ?_; clear ha a; intro a ha
                        refine stepp ha 83 (.bool false) (by kernel_rfl) (by kernel_rfl) ?_; clear ha a; intro a ha
                        refine stepo ha 84 (by kernel_rfl) ?_; clear ha a; intro a ha
                        refine stepo ha 85 (by kernel_rfl) ?_; clear ha a; intro a ha
                        refine stepo ha 86 (by kernel_rfl) ?_; clear ha a; intro a ha
                        refine stepp ha 87 (.bool false) (by kernel_rfl) (by kernel_rfl) ?_; clear ha a; intro a ha
                        refine stepp ha 0 (.bool false) (by kernel_rfl) (by kernel_rfl) ?_; clear ha a; intro a ha
                        refine endl ?_
                        refine thenN (hK1458 _ _ ?_); clear hK1458
                        refine wp_ret ?_
                        obtain rfl := Option.some.inj h
                        exact finv ha _ _ rfl (.tmp (v := .bool false) (by kernel_rfl) .nil) (.bool false) rfl ⟨rfl, HW.pick [] [] (by decide) (by decide) rfl (by kernel_rfl)⟩
                  · skip
                    replace h := ite_neg' h hp1471
                    replace ha := ha.bool 64 (by kernel_rfl) (ieq_f hp1471)
                    refine stepo ha 65 (by kernel_rfl) ?_; clear ha a; intro a ha
                    refine stepo ha 66 (by kernel_rfl) ?_; clear ha a; intro a ha
                    refine stepp ha 67 (.bool false) (by kernel_rfl) (by kernel_rfl) ?_; clear ha a; intro a ha
                    refine stepp ha 68 (.bool false) (by kernel_rfl) (by kernel_rfl) ?_; clear ha a; intro a ha
                    refine stepo ha 69 (by kernel_rfl) ?_; clear ha a; intro a ha
                    refine stepo ha 70 (by kernel_rfl) ?_; clear ha a; intro a ha
                    refine stepo ha 71 (by kernel_rfl) ?_; clear ha a; intro a ha
                    refine stepp ha 72 (.bool false) (by kernel_rfl) (by kernel_rfl) ?_; clear ha a; intro a ha
                    refine stepp ha 73 (.bool false) (by kernel_rfl) (by kernel_rfl) ?_; clear ha a; intro a ha
                    refine stepo ha 74 (by kernel_rfl) ?_; clear ha a; intro a ha
                    refine stepo ha 75 (by kernel_rfl) ?_; clear ha a; intro a ha
                    refine stepo ha 76 (by kernel_rfl) ?_; clear ha a; intro a ha
                    refine stepp ha 77 (.bool false) (by kernel_rfl) (by kernel_rfl) ?_; clear ha a; intro a ha
                    refine stepp ha 78 (.bool false) (by kernel_rfl) (by kernel_rfl) ?_; clear ha a; intro a ha
                    refine stepo ha 79 (by kernel_rfl) ?_; clear ha a; intro a ha
                    refine stepo ha 80 (by kernel_rfl) ?_; clear ha a; intro a ha
                    refine stepo ha 81 (by kernel_rfl) ?_; clear ha a; intro a ha
                    refine stepp ha 82 (.bool false) (by kernel_rfl) (by kernel_rfl) ?_; clear ha a; intro a ha
                    refine stepp ha 83 (.bool false) (by kernel_rfl) (by kernel_rfl) ?_; clear ha a; intro a ha
                    refine stepo ha 84 (by kernel_rfl) ?_; clear ha a; intro a ha
                    refine stepo ha 85 (by kernel_rfl) ?_; clear ha a; intro a ha
                    refine stepo ha 86 (by kernel_rfl) ?_; clear ha a; intro a ha
                    refine stepp ha 87 (.bool false) (by kernel_rfl) (by kernel_rfl) ?_; clear ha a; intro a ha
                    refine stepp ha 0 (.bool false) (by kernel_rfl) (by kernel_rfl) ?_; clear ha a; intro a ha
                    refine endl ?_
                    refine thenN (hK1458 _ _ ?_); clear hK1458
                    refine wp_ret ?_
                    obtain rfl := Option.some.inj h
                    exact finv ha _ _ rfl (.tmp (v := .bool false) (by kernel_rfl) .nil) (.bool false) rfl ⟨rfl, HW.pick [] [] (by decide) (by decide) rfl (by kernel_rfl)⟩
                · skip
                  replace h := ite_neg' h hp1470
                  replace ha := ha.bool 59 (by kernel_rfl) (ieq_f hp1470)
                  refine stepo ha 60 (by kernel_rfl) ?_; clear ha a; intro a ha
                  refine stepo ha 61 (by kernel_rfl) ?_; clear ha a; intro a ha
                  refine stepo ha 62 (by kernel_rfl) ?_; clear ha a; intro a ha
                  refine stepp ha 63 (.bool false) (by kernel_rfl) (by kernel_rfl) ?_; clear ha a; intro a ha
                  refine stepp ha 64 (.bool false) (by kernel_rfl) (by kernel_rfl) ?_; clear ha a; intro a ha
                  refine stepo ha 65 (by kernel_rfl) ?_; clear ha a; intro a ha
                  refine stepo ha 66 (by kernel_rfl) ?_; clear ha a; intro a ha
                  refine stepp ha 67 (.bool false) (by kernel_rfl) (by kernel_rfl) ?_; clear ha a; intro a ha
                  refine stepp ha 68 (.bool false) (by kernel_rfl) (by kernel_rfl) ?_; clear ha a; intro a ha
                  refine stepo ha 69 (by kernel_rfl) ?_; clear ha a; intro a ha
                  refine stepo ha 70 (by kernel_rfl) ?_; clear ha a; intro a ha
                  refine stepo ha 71 (by kernel_rfl) ?_; clear ha a; intro a ha
                  refine stepp ha 72 (.bool false) (by kernel_rfl) (by kernel_rfl) ?_; clear ha a; intro a ha
                  refine stepp ha 73 (.bool false) (by kernel_rfl) (by kernel_rfl) ?_; clear ha a; intro a ha
                  refine stepo ha 74 (by kernel_rfl) ?_; clear ha a; intro a ha
                  refine stepo ha 75 (by kernel_rfl) ?_; clear ha a; intro a ha
                  refine stepo ha 76 (by kernel_rfl) ?_; clear ha a; intro a ha
                  refine stepp ha 77 (.bool false) (by kernel_rfl) (by kernel_rfl) ?_; clear ha a; intro a ha
                  refine stepp ha 78 (.bool false) (by kernel_rfl) (by kernel_rfl) ?_; clear ha a; intro a ha
                  refine stepo ha 79 (by kernel_rfl) ?_; clear ha a; intro a ha
                  refine stepo ha 80 (by kernel_rfl) ?_; clear ha a; intro a ha
                  refine stepo ha 81 (by kernel_rfl) ?_; clear ha a; intro a ha
                  refine stepp ha 82 (.bool false) (by kernel_rfl) (by kernel_rfl) ?_; clear ha a; intro a ha
                  refine stepp ha 83 (.bool false) (by kernel_rfl) (by kernel_rfl) ?_; clear ha a; intro a ha
                  refine stepo ha 84 (by kernel_rfl) ?_; clear ha a; intro a ha
                  refine stepo ha 85 (by kernel_rfl) ?_; clear ha a; intro a ha
                  refine stepo ha 86 (by kernel_rfl) ?_; clear ha a; intro a ha
                  refine stepp ha 87 (.bool false) (by kernel_rfl) (by kernel_rfl) ?_; clear ha a; intro a ha
                  refine stepp ha 0 (.bool false) (by kernel_rfl) (by kernel_rfl) ?_; clear ha a; intro a ha
                  refine endl ?_
                  refine thenN (hK1458 _ _ ?_); clear hK1458
                  refine wp_ret ?_
                  obtain rfl := Option.some.inj h
                  exact finv ha _ _ rfl (.tmp (v := .bool false) (by kernel_rfl) .nil) (.bool false) rfl ⟨rfl, HW.pick [] [] (by decide) (by decide) rfl (by kernel_rfl)⟩
              · skip
                replace h := ite_neg' h hp1468
                replace ha := ha.bool 54 (by kernel_rfl) (ieq_f hp1468)
                refine stepo ha 55 (by kernel_rfl) ?_; clear ha a; intro a ha
                refine stepo ha 56 (by kernel_rfl) ?_; clear ha a; intro a ha
                refine stepo ha 57 (by kernel_rfl) ?_; clear ha a; intro a ha
                refine stepp ha 58 (.bool false) (by kernel_rfl) (by kernel_rfl) ?_; clear ha a; intro a ha
                refine stepp ha 59 (.bool false) (by kernel_rfl) (by kernel_rfl) ?_; clear ha a; intro a ha
                refine stepo ha 60 (by kernel_rfl) ?_; clear ha a; intro a ha
                refine stepo ha 61 (by kernel_rfl) ?_; clear ha a; intro a ha
                refine stepo ha 62 (by kernel_rfl) ?_; clear ha a; intro a ha
                refine stepp ha 63 (.bool false) (by kernel_rfl) (by kernel_rfl) ?_; clear ha a; intro a ha
                refine stepp ha 64 (.bool false) (by kernel_rfl) (by kernel_rfl) ?_; clear ha a; intro a ha
                refine stepo ha 65 (by kernel_rfl) ?_; clear ha a; intro a ha
                refine stepo ha 66 (by kernel_rfl) ?_; clear ha a; intro a ha
                refine stepp ha 67 (.bool false) (by kernel_rfl) (by kernel_rfl) ?_; clear ha a; intro a ha
                refine stepp ha 68 (.bool false) (by kernel_rfl) (by kernel_rfl) ?_; clear ha a; intro a ha
                refine stepo ha 69 (by kernel_rfl) ?_; clear ha a; intro a ha
                refine stepo ha 70 (by kernel_rfl) ?_; clear ha a; intro a ha
                refine stepo ha 71 (by kernel_rfl) ?_; clear ha a; intro a ha
                refine stepp ha 72 (.bool false) (by kernel_rfl) (by kernel_rfl) ?_; clear ha a; intro a ha
                refine stepp ha 73 (.bool false) (by kernel_rfl) (by kernel_rfl) ?_; clear ha a; intro a ha
                refine stepo ha 74 (by kernel_rfl) ?_; clear ha a; intro a ha
                refine stepo ha 75 (by kernel_rfl) ?_; clear ha a; intro a ha
                refine stepo ha 76 (by kernel_rfl) ?_; clear ha a; intro a ha
                refine stepp ha 77 (.bool false) (by kernel_rfl) (by kernel_rfl) ?_; clear ha a; intro a ha
                refine stepp ha 78 (.bool false) (by kernel_rfl) (by kernel_rfl) ?_; clear ha a; intro a ha
                refine stepo ha 79 (by kernel_rfl) ?_; clear ha a; intro a ha
                refine stepo ha 80 (by kernel_rfl) ?_; clear ha a; intro a ha
                refine stepo ha 81 (by kernel_rfl) ?_; clear ha a; intro a ha
                refine stepp ha 82 (.bool false) (by kernel_rfl) (by kernel_rfl) ?_; clear ha a; intro a ha
                refine stepp ha 83 (.bool false) (by kernel_rfl) (by kernel_rfl) ?_; clear ha a; intro a ha
                refine stepo ha 84 (by kernel_rfl) ?_; clear ha a; intro a ha
                refine stepo ha 85 (by kernel_rfl) ?_; clear ha a; intro a ha
                refine stepo ha 86 (by kernel_rfl) ?_; clear ha a; intro a ha
                refine stepp ha 87 (.bool false) (by kernel_rfl) (by kernel_rfl) ?_; clear ha a; intro a ha
                refine stepp ha 0 (.bool false) (by kernel_rfl) (by kernel_rfl) ?_; clear ha a; intro a ha
                refine endl ?_
                refine thenN (hK1458 _ _ ?_); clear hK1458
                refine wp_ret ?_
                obtain rfl := Option.some.inj h
                exact finv ha _ _ rfl (.tmp (v := .bool false) (by kernel_rfl) .nil) (.bool false) rfl ⟨rfl, HW.pick [] [] (by decide) (by decide) rfl (by kernel_rfl)⟩
            · skip
              replace h := ite_neg' h hp1466
              replace ha := ha.bool 49 (by kernel_rfl) (ieq_f hp1466)
              refine stepo ha 50 (by kernel_rfl) ?_; clear ha a; intro a ha
              refine stepo ha 51 (by kernel_rfl) ?_; clear ha a; intro a ha
              refine stepo ha 52 (by kernel_rfl) ?_; clear ha a; intro a ha
              refine stepp ha 53 (.bool false) (by kernel_rfl) (by kernel_rfl) ?_; clear ha a; intro a ha
              refine stepp ha 54 (.bool false) (by kernel_rfl) (by kernel_rfl) ?_; clear ha a; intro a ha
              refine stepo ha 55 (by kernel_rfl) ?_; clear ha a; intro a ha
              refine stepo ha 56 (by kernel_rfl) ?_; clear ha a; intro a ha
              refine stepo ha 57 (by kernel_rfl) ?_; clear ha a; intro a ha
              refine stepp ha 58 (.bool false) (by kernel_rfl) (by kernel_rfl) ?_; clear ha a; intro a ha
              refine stepp ha 59 (.bool false) (by kernel_rfl) (by kernel_rfl) ?_; clear ha a; intro a ha
              refine stepo ha 60 (by kernel_rfl) ?_; clear ha a; intro a ha
              refine stepo ha 61 (by kernel_rfl) ?_; clear ha a; intro a ha
              refine stepo ha 62 (by kernel_rfl) ?_; clear ha a; intro a ha
              refine stepp ha 63 (.bool false) (by kernel_rfl) (by kernel_rfl) ?_; clear ha a; intro a ha
              refine stepp ha 64 (.bool false) (by kernel_rfl) (by kernel_rfl) ?_; clear ha a; intro a ha
              refine stepo ha 65 (by kernel_rfl) ?_; clear ha a; intro a ha
              refine stepo ha 66 (by kernel_rfl) ?_; clear ha a; intro a ha
              refine stepp ha 67 (.bool false) (by kernel_rfl) (by kernel_rfl) ?_; clear ha a; intro a ha
              refine stepp ha 68 (.bool false) (by kernel_rfl) (by kernel_rfl) ?_; clear ha a; intro a ha
              refine stepo ha 69 (by kernel_rfl) ?_; clear ha a; intro a ha
              refine stepo ha 70 (by kernel_rfl) ?_; clear ha a; intro a ha
              refine stepo ha 71 (by kernel_rfl) ?_; clear ha a; intro a ha
              refine stepp ha 72 (.bool false) (by kernel_rfl) (by kernel_rfl) ?_; clear ha a; intro a ha
              refine stepp ha 73 (.bool false) (by kernel_rfl) (by kernel_rfl) ?_; clear ha a; intro a ha
              refine stepo ha 74 (by kernel_rfl) ?_; clear ha a; intro a ha
              refine stepo ha 75 (by kernel_rfl) ?_; clear ha a; intro a ha
              refine stepo ha 76 (by kernel_rfl) ?_; clear ha a; intro a ha
              refine stepp ha 77 (.bool false) (by kernel_rfl) (by kernel_rfl) ?_; clear ha a; intro a ha
              refine stepp ha 78 (.bool false) (by kernel_rfl) (by kernel_rfl) ?_; clear ha a; intro a ha
              refine stepo ha 79 (by kernel_rfl) ?_; clear ha a; intro a ha
              refine stepo ha 80 (by kernel_rfl) ?_; clear ha a; intro a ha
              refine stepo ha 81 (by kernel_rfl) ?_; clear ha a; intro a ha
              refine stepp ha 82 (.bool false) (by kernel_rfl) (by kernel_rfl) ?_; clear ha a; intro a ha
              refine stepp ha 83 (.bool false) (by kernel_rfl) (by kernel_rfl) ?_; clear ha a; intro a ha
              refine stepo ha 84 (by kernel_rfl) ?_; clear ha a; intro a ha
              refine stepo ha 85 (by kernel_rfl) ?_; clear ha a; intro a ha
              refine stepo ha 86 (by kernel_rfl) ?_; clear ha a; intro a ha
              refine stepp ha 87 (.bool false) (by kernel_rfl) (by kernel_rfl) ?_; clear ha a; intro a ha
              refine stepp ha 0 (.bool false) (by kernel_rfl) (by kernel_rfl) ?_; clear ha a; intro a ha
              refine endl ?_
              refine thenN (hK1458 _ _ ?_); clear hK1458
              refine wp_ret ?_
              obtain rfl := Option.some.inj h
              exact finv ha _ _ rfl (.tmp (v := .bool false) (by kernel_rfl) .nil) (.bool false) rfl ⟨rfl, HW.pick [] [] (by decide) (by decide) rfl (by kernel_rfl)⟩
          · skip
            replace h := ite_neg' h hp1464
            replace ha := ha.bool 44 (by kernel_rfl) (ieq_f hp1464)
            refine stepo ha 45 (by kernel_rfl) ?_; clear ha a; intro a ha
            refine stepo ha 46 (by kernel_rfl) ?_; clear ha a; intro a ha
            refine stepo ha 47 (by kernel_rfl) ?_; clear ha a; intro a ha
            refine stepp ha 48 (.bool false) (by kernel_rfl) (by kernel_rfl) ?_; clear ha a; intro a ha
            refine stepp ha 49 (.bool false) (by kernel_rfl) (by kernel_rfl) ?_; clear ha a; intro a ha
            refine stepo ha 50 (by kernel_rfl) ?_; clear ha a; intro a ha
            refine stepo ha 51 (by kernel_rfl) ?_; clear ha a; intro a ha
            refine stepo ha 52 (by kernel_rfl) ?_; clear ha a; intro a ha
            refine stepp ha 53 (.bool false) (by kernel_rfl) (by kernel_rfl) ?_; clear ha a; intro a ha
            refine stepp ha 54 (.bool false) (by kernel_rfl) (by kernel_rfl) ?_; clear ha a; intro a ha
            refine stepo ha 55 (by kernel_rfl) ?_; clear ha a; intro a ha
            refine stepo ha 56 (by kernel_rfl) ?_; clear ha a; intro a ha
            refine stepo ha 57 (by kernel_rfl) ?_; clear ha a; intro a ha
            refine stepp ha 58 (.bool false) (by kernel_rfl) (by kernel_rfl) ?_; clear ha a; intro a ha
            refine stepp ha 59 (.bool false) (by kernel_rfl) (by kernel_rfl) ?_; clear ha a; intro a ha
            refine stepo ha 60 (by kernel_rfl) ?_; clear ha a; intro a ha
            refine stepo ha 61 (by kernel_rfl) ?_; clear ha a; intro a ha
            refine stepo ha 62 (by kernel_rfl) ?_; clear ha a; intro a ha
            refine stepp ha 63 (.bool false) (by kernel_rfl) (by kernel_rfl) ?_; clear ha a; intro a ha
            refine stepp ha 64 (.bool false) (by kernel_rfl) (by kernel_rfl) ?_; clear ha a; intro a ha
            refine stepo ha 65 (by kernel_rfl) ?_; clear ha a; intro a ha
            refine stepo ha 66 (by kernel_rfl) ?_; clear ha a; intro a ha
            refine stepp ha 67 (.bool false) (by kernel_rfl) (by kernel_rfl) ?_; clear ha a; intro a ha
            refine stepp ha 68 (.bool false) (by kernel_rfl) (by kernel_rfl) ?_; clear ha a; intro a ha
            refine stepo ha 69 (by kernel_rfl) ?_; clear ha a; intro a ha
            refine stepo ha 70 (by kernel_rfl) ?_; clear ha a; intro a ha
            refine stepo ha 71 (by kernel_rfl) ?_; clear ha a; intro a ha
            refine stepp ha 72 (.bool false) (by kernel_rfl) (by kernel_rfl) ?_; clear ha a; intro a ha
            refine stepp ha 73 (.bool false) (by kernel_rfl) (by kernel_rfl) ?_; clear ha a; intro a ha
            refine stepo ha 74 (by kernel_rfl) ?_; clear ha a; intro a ha
            refine stepo ha 75 (by kernel_rfl) ?_; clear ha a; intro a ha
            refine stepo ha 76 (by kernel_rfl) ?_; clear ha a; intro a ha
            refine stepp ha 77 (.bool false) (by kernel_rfl) (by kernel_rfl) ?_; clear ha a; intro a ha
            refine stepp ha 78 (.bool false) (by kernel_rfl) (by kernel_rfl) ?_; clear ha a; intro a ha
            refine stepo ha 79 (by kernel_rfl) ?_; clear ha a; intro a ha
            refine stepo ha 80 (by kernel_rfl) ?_; clear ha a; intro a ha
            refine stepo ha 81 (by kernel_rfl) ?_; clear ha a; intro a ha
            refine stepp ha 82 (.bool false) (by kernel_rfl) (by kernel_rfl) ?_; clear ha a; intro a ha
            refine stepp ha 83 (.bool false) (by kernel_rfl) (by kernel_rfl) ?_; clear ha a; intro a ha
            refine stepo ha 84 (by kernel_rfl) ?_; clear ha a; intro a ha
            refine stepo ha 85 (by kernel_rfl) ?_; clear ha a; intro a ha
            refine stepo ha 86 (by kernel_rfl) ?_; clear ha a; intro a ha
            refine stepp ha 87 (.bool false) (by kernel_rfl) (by kernel_rfl) ?_; clear ha a; intro a ha
            refine stepp ha 0 (.bool false) (by kernel_rfl) (by kernel_rfl) ?_; clear ha a; intro a ha
            refine endl ?_
            refine thenN (hK1458 _ _ ?_); clear hK1458
            refine wp_ret ?_
            obtain rfl := Option.some.inj h
            exact finv ha _ _ rfl (.tmp (v := .bool false) (by kernel_rfl) .nil) (.bool false) rfl ⟨rfl, HW.pick [] [] (by decide) (by decide) rfl (by kernel_rfl)⟩
        · skip
          replace h := ite_neg' h hp1462
          replace ha := ha.bool 39 (by kernel_rfl) (ieq_f hp1462)
          refine stepo ha 40 (by kernel_rfl) ?_; clear ha a; intro a ha
          refine stepo ha 41 (by kernel_rfl) ?_; clear ha a; intro a ha
          refine stepo ha 42 (by kernel_rfl) ?_; clear ha a; intro a ha
          refine stepp ha 43 (.bool false) (by kernel_rfl) (by kernel_rfl) ?_; clear ha a; intro a ha
          refine stepp ha 44 (.bool false) (by kernel_rfl) (by kernel_rfl) ?_; clear ha a; intro a ha
          refine stepo ha 45 (by kernel_rfl) ?_; clear ha a; intro a ha
          refine stepo ha 46 (by kernel_rfl) ?_; clear ha a; intro a ha
          refine stepo ha 47 (by kernel_rfl) ?_; clear ha a; intro a ha
          refine stepp ha 48 (.bool false) (by kernel_rfl) (by kernel_rfl) ?_; clear ha a; intro a ha
          refine stepp ha 49 (.bool false) (by kernel_rfl) (by kernel_rfl) ?_; clear ha a; intro a ha
          refine stepo ha 50 (by kernel_rfl) ?_; clear ha a; intro a ha
          refine stepo ha 51 (by kernel_rfl) ?_; clear ha a; intro a ha
          refine stepo ha 52 (by kernel_rfl) ?_; clear ha a; intro a ha
          refine stepp ha 53 (.bool false) (by kernel_rfl) (by kernel_rfl) ?_; clear ha a; intro a ha
          refine stepp ha 54 (.bool false) (by kernel_rfl) (by kernel_rfl) ?_; clear ha a; intro a ha
          refine stepo ha 55 (by kernel_rfl) ?_; clear ha a; intro a ha
          refine stepo ha 56 (by kernel_rfl) ?_; clear ha a; intro a ha
          refine stepo ha 57 (by kernel_rfl) ?_; clear ha a; intro a ha
          refine stepp ha 58 (.bool false) (by kernel_rfl) (by kernel_rfl) ?_; clear ha a; intro a ha
          refine stepp ha 59 (.bool false) (by kernel_rfl) (by kernel_rfl) ?_; clear ha a; intro a ha
          refine stepo ha 60 (by kernel_rfl) ?_; clear ha a; intro a ha
          refine stepo ha 61 (by kernel_rfl) ?_; clear ha a; intro a ha
          refine stepo ha 62 (by kernel_rfl) ?_; clear ha a; intro a ha
          refine stepp ha 63 (.bool false) (by kernel_rfl) (by kernel_rfl) ?_; clear ha a; intro a ha
          refine stepp ha 64 (.bool false) (by kernel_rfl) (by kernel_rfl) ?_; clear ha a; intro a ha
          refine stepo ha 65 (by kernel_rfl) ?_; clear ha a; intro a ha
          refine stepo ha 66 (by kernel_rfl) ?_; clear ha a; intro a ha
          refine stepp ha 67 (.bool false) (by kernel_rfl) (by kernel_rfl) ?_; clear ha a; intro a ha
          refine stepp ha 68 (.bool false) (by kernel_rfl) (by kernel_rfl) ?_; clear ha a; intro a ha
          refine stepo ha 69 (by kernel_rfl) ?_; clear ha a; intro a ha
          refine stepo ha 70 (by kernel_rfl) ?_; clear ha a; intro a ha
          refine stepo ha 71 (by kernel_rfl) ?_; clear ha a; intro a ha
          refine stepp ha 72 (.bool false) (by kernel_rfl) (by kernel_rfl) ?_; clear ha a; intro a ha
          refine stepp ha 73 (.bool false) (by kernel_rfl) (by kernel_rfl) ?_; clear ha a; intro a ha
          refine stepo ha 74 (by kernel_rfl) ?_; clear ha a; intro a ha
          refine stepo ha 75 (by kernel_rfl) ?_; clear ha a; intro a ha
          refine stepo ha 76 (by kernel_rfl) ?_; clear ha a; intro a ha
          refine stepp ha 77 (.bool false) (by kernel_rfl) (by kernel_rfl) ?_; clear ha a; intro a ha
          refine stepp ha 78 (.bool false) (by kernel_rfl) (by kernel_rfl) ?_; clear ha a; intro a ha
          refine stepo ha 79 (by kernel_rfl) ?_; clear ha a; intro a ha
          refine stepo ha 80 (by kernel_rfl) ?_; clear ha a; intro a ha
          refine stepo ha 81 (by kernel_rfl) ?_; clear ha a; intro a ha
          refine stepp ha 82 (.bool false) (by kernel_rfl) (by kernel_rfl) ?_; clear ha a; intro a ha
          refine stepp ha 83 (.bool false) (by kernel_rfl) (by kernel_rfl) ?_; clear ha a; intro a ha
          refine stepo ha 84 (by kernel_rfl) ?_; clear ha a; intro a ha
          refine stepo ha 85 (by kernel_rfl) ?_; clear ha a; intro a ha
          refine stepo ha 86 (by kernel_rfl) ?_; clear ha a; intro a ha
          refine stepp ha 87 (.bool false) (by kernel_rfl) (by kernel_rfl) ?_; clear ha a; intro a ha
          refine stepp ha 0 (.bool false) (by kernel_rfl) (by kernel_rfl) ?_; clear ha a; intro a ha
          refine endl ?_
          refine thenN (hK1458 _ _ ?_); clear hK1458
          refine wp_ret ?_
          obtain rfl := Option.some.inj h
          exact finv ha _ _ rfl (.tmp (v := .bool false) (by kernel_rfl) .nil) (.bool false) rfl ⟨rfl, HW.pick [] [] (by decide) (by decide) rfl (by kernel_rfl)⟩
      · skip
        replace h := ite_neg' h hp1461
        replace ha := ha.bool 34 (by kernel_rfl) (ieq_f hp1461)
        refine stepo ha 35 (by kernel_rfl) ?_; clear ha a; intro a ha
        refine stepo ha 36 (by kernel_rfl) ?_; clear ha a; intro a ha
        refine stepo ha 37 (by kernel_rfl) ?_; clear ha a; intro a ha
        refine stepp ha 38 (.bool false) (by kernel_rfl) (by kernel_rfl) ?_; clear ha a; intro a ha
        refine stepp ha 39 (.bool false) (by kernel_rfl) (by kernel_rfl) ?_; clear ha a; intro a ha
        refine stepo ha 40 (by kernel_rfl) ?_; clear ha a; intro a ha
        refine stepo ha 41 (by kernel_rfl) ?_; clear ha a; intro a ha
        refine stepo ha 42 (by kernel_rfl) ?_; clear ha a; intro a ha
        refine stepp ha 43 (.bool false) (by kernel_rfl) (by kernel_rfl) ?_; clear ha a; intro a ha
        refine stepp ha 44 (.bool false) (by kernel_rfl) (by kernel_rfl) ?_; clear ha a; intro a ha
        refine stepo ha 45 (by kernel_rfl) ?_; clear ha a; intro a ha
        refine stepo ha 46 (by kernel_rfl) ?_; clear ha a; intro a ha
        refine stepo ha 47 (by kernel_rfl) ?_; clear ha a; intro a ha
        refine stepp ha 48 (.bool false) (by kernel_rfl) (by kernel_rfl) ?_; clear ha a; intro a ha
        refine stepp ha 49 (.bool false) (by kernel_rfl) (by kernel_rfl) ?_; clear ha a; intro a ha
        refine stepo ha 50 (by kernel_rfl) ?_; clear ha a; intro a ha
        refine stepo ha 51 (by kernel_rfl) ?_; clear ha a; intro a ha
        refine stepo ha 52 (by kernel_rfl) ?_; clear ha a; intro a ha
        refine stepp ha 53 (.bool false) (by kernel_rfl) (by kernel_rfl) ?_; clear ha a; intro a ha
        refine stepp ha 54 (.bool false) (by kernel_rfl) (by kernel_rfl) ?_; clear ha a; intro a ha
        refine stepo ha 55 (by kernel_rfl) ?_; clear ha a; intro a ha
        refine stepo ha 56 (by kernel_rfl) ?_; clear ha a; intro a ha
        refine stepo ha 57 (by kernel_rfl) ?_; clear ha a; intro a ha
        refine stepp ha 58 (.bool false) (by kernel_rfl) (by kernel_rfl) ?_; clear ha a; intro a ha
        refine stepp ha 59 (.bool false) (by kernel_rfl) (by kernel_rfl) ?_; clear ha a; intro a ha
        refine stepo ha 60 (by kernel_rfl) ?_; clear ha a; intro a ha
        refine stepo ha 61 (by kernel_rfl) ?_; clear ha a; intro a ha
        refine stepo ha 62 (by kernel_rfl) ?_; clear ha a; intro a ha
        refine stepp ha 63 (.bool false) (by kernel_rfl) (by kernel_rfl) ?_; clear ha a; intro a ha
        refine stepp ha 64 (.bool false) (by kernel_rfl) (by kernel_rfl) ?_; clear ha a; intro a ha
        refine stepo ha 65 (by kernel_rfl) ?_; clear ha a; intro a ha
        refine stepo ha 66 (by kernel_rfl) ?_; clear ha a; intro a ha
        refine stepp ha 67 (.bool false) (by kernel_rfl) (by kernel_rfl) ?_; clear ha a; intro a ha
        refine stepp ha 68 (.bool false) (by kernel_rfl) (by kernel_rfl) ?_; clear ha a; intro a ha
        refine stepo ha 69 (by kernel_rfl) ?_; clear ha a; intro a ha
        refine stepo ha 70 (by kernel_rfl) ?_; clear ha a; intro a ha
        refine stepo ha 71 (by kernel_rfl) ?_; clear ha a; intro a ha
        refine stepp ha 72 (.bool false) (by kernel_rfl) (by kernel_rfl) ?_; clear ha a; intro a ha
        refine stepp ha 73 (.bool false) (by kernel_rfl) (by kernel_rfl) ?_; clear ha a; intro a ha
        refine stepo ha 74 (by kernel_rfl) ?_; clear ha a; intro a ha
        refine stepo ha 75 (by kernel_rfl) ?_; clear ha a; intro a ha
        refine stepo ha 76 (by kernel_rfl) ?_; clear ha a; intro a ha
        refine stepp ha 77 (.bool false) (by kernel_rfl) (by kernel_rfl) ?_; clear ha a; intro a ha
        refine stepp ha 78 (.bool false) (by kernel_rfl) (by kernel_rfl) ?_; clear ha a; intro a ha
        refine stepo ha 79 (by kernel_rfl) ?_; clear ha a; intro a ha
        refine stepo ha 80 (by kernel_rfl) ?_; clear ha a; intro a ha
        refine stepo ha 81 (by kernel_rfl) ?_; clear ha a; intro a ha
        refine stepp ha 82 (.bool false) (by kernel_rfl) (by kernel_rfl) ?_; clear ha a; intro a ha
        refine stepp ha 83 (.bool false) (by kernel_rfl) (by kernel_rfl) ?_; clear ha a; intro a ha
        refine stepo ha 84 (by kernel_rfl) ?_; clear ha a; intro a ha
        refine stepo ha 85 (by kernel_rfl) ?_; clear ha a; intro a ha
        refine stepo ha 86 (by kernel_rfl) ?_; clear ha a; intro a ha
        refine stepp ha 87 (.bool false) (by kernel_rfl) (by kernel_rfl) ?_; clear ha a; intro a ha
        refine stepp ha 0 (.bool false) (by kernel_rfl) (by kernel_rfl) ?_; clear ha a; intro a ha
        refine endl ?_
        refine thenN (hK1458 _ _ ?_); clear hK1458
        refine wp_ret ?_
        obtain rfl := Option.some.inj h
        exact finv ha _ _ rfl (.tmp (v := .bool false) (by kernel_rfl) .nil) (.bool false) rfl ⟨rfl, HW.pick [] [] (by decide) (by decide) rfl (by kernel_rfl)⟩
    · skip
      replace h := ite_neg' h hp1460
      replace ha := ha.bool 30 (by kernel_rfl) (ieq_f hp1460)
      refine stepo ha 31 (by kernel_rfl) ?_; clear ha a; intro a ha
      refine stepo ha 32 (by kernel_rfl) ?_; clear ha a; intro a ha
      refine stepp ha 33 (.bool false) (by kernel_rfl) (by kernel_rfl) ?_; clear ha a; intro a ha
      refine stepp ha 34 (.bool false) (by kernel_rfl) (by kernel_rfl) ?_; clear ha a; intro a ha
      refine stepo ha 35 (by kernel_rfl) ?_; clear ha a; intro a ha
      refine stepo ha 36 (by kernel_rfl) ?_; clear ha a; intro a ha
      refine stepo ha 37 (by kernel_rfl) ?_; clear ha a; intro a ha
      refine stepp ha 38 (.bool false) (by kernel_rfl) (by kernel_rfl) ?_; clear ha a; intro a ha
      refine stepp ha 39 (.bool false) (by kernel_rfl) (by kernel_rfl) ?_; clear ha a; intro a ha
      refine stepo ha 40 (by kernel_rfl) ?_; clear ha a; intro a ha
      refine stepo ha 41 (by kernel_rfl) ?_; clear ha a; intro a ha
      refine stepo ha 42 (by kernel_rfl) ?_; clear ha a; intro a ha
      refine stepp ha 43 (.bool false) (by kernel_rfl) (by kernel_rfl) ?_; clear ha a; intro a ha
      refine stepp ha 44 (.bool false) (by kernel_rfl) (by kernel_rfl) ?_; clear ha a; intro a ha
      refine stepo ha 45 (by kernel_rfl) ?_; clear ha a; intro a ha
      refine stepo ha 46 (by kernel_rfl) ?_; clear ha a; intro a ha
      refine stepo ha 47 (by kernel_rfl) ?_; clear ha a; intro a ha
      refine stepp ha 48 (.bool false) (by kernel_rfl) (by kernel_rfl) ?_; clear ha a; intro a ha
      refine stepp ha 49 (.bool false) (by kernel_rfl) (by kernel_rfl) ?_; clear ha a; intro a ha
      refine stepo ha 50 (by kernel_rfl) ?_; clear ha a; intro a ha
      refine stepo ha 51 (by kernel_rfl) ?_; clear ha a; intro a ha
      refine stepo ha 52 (by kernel_rfl) ?_; clear ha a; intro a ha
      refine stepp ha 53 (.bool false) (by kernel_rfl) (by kernel_rfl) ?_; clear ha a; intro a ha
      refine stepp ha 54 (.bool false) (by kernel_rfl) (by kernel_rfl) ?_; clear ha a; intro a ha
      refine stepo ha 55 (by kernel_rfl) ?_; clear ha a; intro a ha
      refine stepo ha 56 (by kernel_rfl) ?_; clear ha a; intro a ha
      refine stepo ha 57 (by kernel_rfl) ?_; clear ha a; intro a ha
      refine stepp ha 58 (.bool false) (by kernel_rfl) (by kernel_rfl) ?_; clear ha a; intro a ha
      refine stepp ha 59 (.bool false) (by kernel_rfl) (by kernel_rfl) ?_; clear ha a; intro a ha
      refine stepo ha 60 (by kernel_rfl) ?_; clear ha a; intro a ha
      refine stepo ha 61 (by kernel_rfl) ?_; clear ha a; intro a ha
      refine stepo ha 62 (by kernel_rfl) ?_; clear ha a; intro a ha
      refine stepp ha 63 (.bool false) (by kernel_rfl) (by kernel_rfl) ?_; clear ha a; intro a ha
      refine stepp ha 64 (.bool false) (by kernel_rfl) (by kernel_rfl) ?_; clear ha a; intro a ha
      refine stepo ha 65 (by kernel_rfl) ?_; clear ha a; intro a ha
      refine stepo ha 66 (by kernel_rfl) ?_; clear ha a; intro a ha
      refine stepp ha 67 (.bool false) (by kernel_rfl) (by kernel_rfl) ?_; clear ha a; intro a ha
      refine stepp ha 68 (.bool false) (by kernel_rfl) (by kernel_rfl) ?_; clear ha a; intro a ha
      refine stepo ha 69 (by kernel_rfl) ?_; clear ha a; intro a ha
      refine stepo ha 70 (by kernel_rfl) ?_; clear ha a; intro a ha
      refine stepo ha 71 (by kernel_rfl) ?_; clear ha a; intro a ha
      refine stepp ha 72 (.bool false) (by kernel_rfl) (by kernel_rfl) ?_; clear ha a; intro a ha
      refine stepp ha 73 (.bool false) (by kernel_rfl) (by kernel_rfl) ?_; clear ha a; intro a ha
      refine stepo ha 74 (by kernel_rfl) ?_; clear ha a; intro a ha
      refine stepo ha 75 (by kernel_rfl) ?_; clear ha a; intro a ha
      refine stepo ha 76 (by kernel_rfl) ?_; clear ha a; intro a ha
      refine stepp ha 77 (.bool false) (by kernel_rfl) (by kernel_rfl) ?_; clear ha a; intro a ha
      refine stepp ha 78 (.bool false) (by kernel_rfl) (by kernel_rfl) ?_; clear ha a; intro a ha
      refine stepo ha 79 (by kernel_rfl) ?_; clear ha a; intro a ha
      refine stepo ha 80 (by kernel_rfl) ?_; clear ha a; intro a ha
      refine stepo ha 81 (by kernel_rfl) ?_; clear ha a; intro a ha
      refine stepp ha 82 (.bool false) (by kernel_rfl) (by kernel_rfl) ?_; clear ha a; intro a ha
      refine stepp ha 83 (.bool false) (by kernel_rfl) (by kernel_rfl) ?_; clear ha a; intro a ha
      refine stepo ha 84 (by kernel_rfl) ?_; clear ha a; intro a ha
      refine stepo ha 85 (by kernel_rfl) ?_; clear ha a; intro a ha
      refine stepo ha 86 (by kernel_rfl) ?_; clear ha a; intro a ha
      refine stepp ha 87 (.bool false) (by kernel_rfl) (by kernel_rfl) ?_; clear ha a; intro a ha
      refine stepp ha 0 (.bool false) (by kernel_rfl) (by kernel_rfl) ?_; clear ha a; intro a ha
      refine endl ?_
      refine thenN (hK1458 _ _ ?_); clear hK1458
      refine wp_ret ?_
      obtain rfl := Option.some.inj h
      exact finv ha _ _ rfl (.tmp (v := .bool false) (by kernel_rfl) .nil) (.bool false) rfl ⟨rfl, HW.pick [] [] (by decide) (by decide) rfl (by kernel_rfl)⟩
  · skip
    replace h := ite_neg' h hp1459
    replace ha := ha.bool 26 (by kernel_rfl) (ieq_f hp1459)
    refine stepo ha 27 (by kernel_rfl) ?_; clear ha a; intro a ha
    refine stepo ha 28 (by kernel_rfl) ?_; clear ha a; intro a ha
    refine stepp ha 29 (.bool false) (by kernel_rfl) (by kernel_rfl) ?_; clear ha a; intro a ha
    refine stepp ha 30 (.bool false) (by kernel_rfl) (by kernel_rfl) ?_; clear ha a; intro a ha
    refine stepo ha 31 (by kernel_rfl) ?_; clear ha a; intro a ha
    refine stepo ha 32 (by kernel_rfl) ?_; clear ha a; intro a ha
    refine stepp ha 33 (.bool false) (by kernel_rfl) (by kernel_rfl) ?_; clear ha a; intro a ha
    refine stepp ha 34 (.bool false) (by kernel_rfl) (by kernel_rfl) ?_; clear ha a; intro a ha
    refine stepo ha 35 (by kernel_rfl) ?_; clear ha a; intro a ha
    refine stepo ha 36 (by kernel_rfl) ?_; clear ha a; intro a ha
    refine stepo ha 37 (by kernel_rfl) ?_; clear ha a; intro a ha
    refine stepp ha 38 (.bool false) (by kernel_rfl) (by kernel_rfl) ?_; clear ha a; intro a ha
    refine stepp ha 39 (.bool false) (by kernel_rfl) (by kernel_rfl) ?_; clear ha a; intro a ha
    refine stepo ha 40 (by kernel_rfl) ?_; clear ha a; intro a ha
    refine stepo ha 41 (by kernel_rfl) ?_; clear ha a; intro a ha
    refine stepo ha 42 (by kernel_rfl) ?_; clear ha a; intro a ha
    refine stepp ha 43 (.bool false) (by kernel_rfl) (by kernel_rfl) ?_; clear ha a; intro a ha
    refine stepp ha 44 (.bool false) (by kernel_rfl) (by kernel_rfl) ?_; clear ha a; intro a ha
    refine stepo ha 45 (by kernel_rfl) ?_; clear ha a; intro a ha
    refine stepo ha 46 (by kernel_rfl) ?_; clear ha a; intro a ha
    refine stepo ha 47 (by kernel_rfl) ?_; clear ha a; intro a ha
    refine stepp ha 48 (.bool false) (by kernel_rfl) (by kernel_rfl) ?_; clear ha a; intro a ha
    refine stepp ha 49 (.bool false) (by kernel_rfl) (by kernel_rfl) ?_; clear ha a; intro a ha
    refine stepo ha 50 (by kernel_rfl) ?_; clear ha a; intro a ha
    refine stepo ha 51 (by kernel_rfl) ?_; clear ha a; intro a ha
    refine stepo ha 52 (by kernel_rfl) ?_; clear ha a; intro a ha
    refine stepp ha 53 (.bool false) (by kernel_rfl) (by kernel_rfl) ?_; clear ha a; intro a ha
    refine stepp ha 54 (.bool false) (by kernel_rfl) (by kernel_rfl) ?_; clear ha a; intro a ha
    refine stepo ha 55 (by kernel_rfl) ?_; clear ha a; intro a ha
    refine stepo ha 56 (by kernel_rfl) ?_; clear ha a; intro a ha
    refine stepo ha 57 (by kernel_rfl) ?_; clear ha a; intro a ha
    refine stepp ha 58 (.bool false) (by kernel_rfl) (by kernel_rfl) ?_; clear ha a; intro a ha
    refine stepp ha 59 (.bool false) (by kernel_rfl) (by kernel_rfl) ?_; clear ha a; intro a ha
    refine stepo ha 60 (by kernel_rfl) ?_; clear ha a; intro a ha
    refine stepo ha 61 (by kernel_rfl) ?_; clear ha a; intro a ha
    refine stepo ha 62 (by kernel_rfl) ?_; clear ha a; intro a ha
    refine stepp ha 63 (.bool false) (by kernel_rfl) (by kernel_rfl) ?_; clear ha a; intro a ha
    refine stepp ha 64 (.bool false) (by kernel_rfl) (by kernel_rfl) ?_; clear ha a; intro a ha
    refine stepo ha 65 (by kernel_rfl) ?_; clear ha a; intro a ha
    refine stepo ha 66 (by kernel_rfl) ?_; clear ha a; intro a ha
    refine stepp ha 67 (.bool false) (by kernel_rfl) (by kernel_rfl) ?_; clear ha a; intro a ha
    refine stepp ha 68 (.bool false) (by kernel_rfl) (by kernel_rfl) ?_; clear ha a; intro a ha
    refine stepo ha 69 (by kernel_rfl) ?_; clear ha a; intro a ha
    refine stepo ha 70 (by kernel_rfl) ?_; clear ha a; intro a ha
    refine stepo ha 71 (by kernel_rfl) ?_; clear ha a; intro a ha
    refine stepp ha 72 (.bool false) (by kernel_rfl) (by kernel_rfl) ?_; clear ha a; intro a ha
    refine stepp ha 73 (.bool false) (by kernel_rfl) (by kernel_rfl) ?_; clear ha a; intro a ha
    refine stepo ha 74 (by kernel_rfl) ?_; clear ha a; intro a ha
    refine stepo ha 75 (by kernel_rfl) ?_; clear ha a; intro a ha
    refine stepo ha 76 (by kernel_rfl) ?_; clear ha a; intro a ha
    refine stepp ha 77 (.bool false) (by kernel_rfl) (by kernel_rfl) ?_; clear ha a; intro a ha
    refine stepp ha 78 (.bool false) (by kernel_rfl) (by kernel_rfl) ?_; clear ha a; intro a ha
    refine stepo ha 79 (by kernel_rfl) ?_; clear ha a; intro a ha
    refine stepo ha 80 (by kernel_rfl) ?_; clear ha a; intro a ha
    refine stepo ha 81 (by kernel_rfl) ?_; clear ha a; intro a ha
    refine stepp ha 82 (.bool false) (by kernel_rfl) (by kernel_rfl) ?_; clear ha a; intro a ha
    refine stepp ha 83 (.bool false) (by kernel_rfl) (by kernel_rfl) ?_; clear ha a; intro a ha
    refine stepo ha 84 (by kernel_rfl) ?_; clear ha a; intro a ha
    refine stepo ha 85 (by kernel_rfl) ?_; clear ha a; intro a ha
    refine stepo ha 86 (by kernel_rfl) ?_; clear ha a; intro a ha
    refine stepp ha 87 (.bool false) (by kernel_rfl) (by kernel_rfl) ?_; clear ha a; intro a ha
    refine stepp ha 0 (.bool false) (by kernel_rfl) (by kernel_rfl) ?_; clear ha a; intro a ha
    refine endl ?_
    refine thenN (hK1458 _ _ ?_); clear hK1458
    refine wp_ret ?_
    obtain rfl := Option.some.inj h
    exact finv ha _ _ rfl (.tmp (v := .bool false) (by kernel_rfl) .nil) (.bool false) rfl ⟨rfl, HW.pick [] [] (by decide) (by decide) rfl (by kernel_rfl)⟩
end Go.Proofs.YtceagilmillgfaaDoor.F
