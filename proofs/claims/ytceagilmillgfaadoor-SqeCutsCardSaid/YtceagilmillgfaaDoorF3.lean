/- headgate/headgatelaw25.SqePuts: a plain function, and that the call comes to what it says. No condition. -/
import Derived.Test.YtceagilmillgfaaDoorFT
import Derived.Test.YtceagilmillgfaaDoorF13
import Derived.Test.YtceagilmillgfaaDoorF14
import Derived.Test.YtceagilmillgfaaDoorF15
import Derived.Test.YtceagilmillgfaaDoorF16
import Derived.Test.YtceagilmillgfaaDoorF17
namespace Go.Proofs.YtceagilmillgfaaDoor.F
open Go Go.RowKit Go.Proofs.YtceagilmillgfaaDoor.X
set_option linter.unusedVariables false
set_option linter.unusedSimpArgs false
/-! ### headgate/headgatelaw25.SqePuts: function 3 -/
def headgatelaw25_SqePuts.f (K : Nat) (a0 : T_api_Sqe) (a1 : Bool) (a2 : T_api_Cqe) : Option Bool :=
  (sqe_Put.f K (⟨a0.f0, a0.f1, a0.f2, a0.f3, a0.f4, (⟨a0.f5.f0, a0.f5.f1, a0.f5.f2, a0.f5.f3, a0.f5.f4, a0.f5.f5⟩ : T_arr6_22)⟩ : T_api_Sqe) a1).bind fun t1487 => ((headgateref25_Put.f K (⟨a0.f0, a0.f1, a0.f2, a0.f3, a0.f4, (⟨a0.f5.f0, a0.f5.f1, a0.f5.f2, a0.f5.f3, a0.f5.f4, a0.f5.f5⟩ : T_arr6_22)⟩ : T_api_Sqe) a1).bind fun t1493 => ((sqe_End.f K a2).bind fun t1499 => ((headgateref25_End.f K a2).bind fun t1505 => (if t1487.1 = t1493.1 then (if t1487.2 = t1493.2 then (if t1499.1 = t1505.1 then (if t1499.2 = t1505.2 then ((headgatelaw25_wakes.f K).bind fun t1515 => (some t1515)) else (some false)) else (some false)) else (some false)) else (some false)))))
set_option maxRecDepth 100000 in
set_option maxHeartbeats 4000000 in
theorem headgatelaw25_SqePuts.calls (K : Nat) (a0 : T_api_Sqe) (a1 : Bool) (a2 : T_api_Cqe)  (r : Bool) (w : World) (hG1 : CA w 1 0 (encs T_sqe_field.enc G_sqe_endsOf).toArray) (hG2 : CA w 2 0 (encs T_sqe_field.enc G_sqe_fieldsOf).toArray) (h : headgatelaw25_SqePuts.f K a0 a1 a2 = some r) :
    Calls Tryd.prog 3 #[.agg #[.int .i64 a0.f0, .int .i64 a0.f1, .int .i64 a0.f2, .int .u32 a0.f3, .int .i64 a0.f4, .int .u32 a0.f5.f0, .int .u32 a0.f5.f1, .int .u32 a0.f5.f2, .int .u32 a0.f5.f3, .int .u32 a0.f5.f4, .int .u32 a0.f5.f5], .bool a1, .agg #[.int .u32 a2.f0, .int .u32 a2.f1, .int .i64 a2.f2, .int .i64 a2.f3, .int .i64 a2.f4, .int .i64 a2.f5]] w (fun e W' => e = .returned (.bool r) ∧ Wd w W' [] [] ) := by
  refine sxstart (n := 58) (l := [(0, .agg #[.int .i64 a0.f0, .int .i64 a0.f1, .int .i64 a0.f2, .int .u32 a0.f3, .int .i64 a0.f4, .int .u32 a0.f5.f0, .int .u32 a0.f5.f1, .int .u32 a0.f5.f2, .int .u32 a0.f5.f3, .int .u32 a0.f5.f4, .int .u32 a0.f5.f5]), (1, .bool a1), (2, .agg #[.int .u32 a2.f0, .int .u32 a2.f1, .int .i64 a2.f2, .int .i64 a2.f3, .int .i64 a2.f4, .int .i64 a2.f5])]) Tryd.func3 rfl rfl (Nat.le_of_ble_eq_true (by kernel_rfl)) (subsA_cons rfl (subsA_cons rfl (subsA_cons rfl (subsA_nil _)))) ?_
  intro a ha
  have HW := Wd.refl w
  unfold headgatelaw25_SqePuts.f at h
  refine wp_seq_k (fun K1479 hK1480 => ?_)
  refine wp_region_lit ?_
  refine stepnew ha HW 3 #[.int .i64 a0.f0, .int .i64 a0.f1, .int .i64 a0.f2, .int .u32 a0.f3, .int .i64 a0.f4, .int .u32 a0.f5.f0, .int .u32 a0.f5.f1, .int .u32 a0.f5.f2, .int .u32 a0.f5.f3, .int .u32 a0.f5.f4, .int .u32 a0.f5.f5] 25 (by kernel_rfl) (by kernel_rfl) ?_; clear ha HW a; intro b1481 a W1482 HW ha
  refine stepnew ha HW 5 #[.int .u32 a2.f0, .int .u32 a2.f1, .int .i64 a2.f2, .int .i64 a2.f3, .int .i64 a2.f4, .int .i64 a2.f5] 27 (by kernel_rfl) (by kernel_rfl) ?_; clear ha HW a; intro b1483 a W1484 HW ha
  refine stepp ha 6 (.bool false) (by kernel_rfl) (by kernel_rfl) ?_; clear ha a; intro a ha
  refine endl ?_
  refine thenN (hK1480 _ _ ?_); clear hK1480
  refine wp_seq_k (fun K1485 hK1486 => ?_)
  refine wp_region_lit ?_
  refine stepl ha 16 (HW.ca (i := 1) (b := b1481) (C := #[.int .i64 a0.f0, .int .i64 a0.f1, .int .i64 a0.f2, .int .u32 a0.f3, .int .i64 a0.f4, .int .u32 a0.f5.f0, .int .u32 a0.f5.f1, .int .u32 a0.f5.f2, .int .u32 a0.f5.f3, .int .u32 a0.f5.f4, .int .u32 a0.f5.f5]) (T := 25) (fr := (0, 0)) (by kernel_rfl)) 25 0 (.tmp 3) (.agg #[.int .i64 a0.f0, .int .i64 a0.f1, .int .i64 a0.f2, .int .u32 a0.f3, .int .i64 a0.f4, .int .u32 a0.f5.f0, .int .u32 a0.f5.f1, .int .u32 a0.f5.f2, .int .u32 a0.f5.f3, .int .u32 a0.f5.f4, .int .u32 a0.f5.f5]) rfl (by kernel_rfl) (by kernel_rfl) (by kernel_rfl) ?_; clear ha a; intro a ha
  refine stepp ha 17 (.bool a1) (by kernel_rfl) (by kernel_rfl) ?_; clear ha a; intro a ha
  obtain ⟨t1487, ht1488, h_⟩ := bind_some' h; clear h; have h := h_; clear h_
  refine stepc ha 18 (by kernel_rfl) (by kernel_rfl) (sqe_Put.calls K (⟨a0.f0, a0.f1, a0.f2, a0.f3, a0.f4, (⟨a0.f5.f0, a0.f5.f1, a0.f5.f2, a0.f5.f3, a0.f5.f4, a0.f5.f5⟩ : T_arr6_22)⟩ : T_api_Sqe) a1 t1487 _ (HW.ca0 hG1) (HW.ca0 hG2) ht1488) ?_; clear ha a; rintro e W1489 ⟨rfl, HX1490⟩
  refine ⟨_, rfl, ?_⟩; intro a ha; replace HW := HW.callw HX1490; clear HX1490
  refine stepp ha 15 (.tuple #[.string t1487.1, .int .i64 t1487.2]) (by kernel_rfl) (by kernel_rfl) ?_; clear ha a; intro a ha
  refine stepp ha 19 (.string t1487.1) (by kernel_rfl) (by kernel_rfl) ?_; clear ha a; intro a ha
  refine stepp ha 20 (.int .i64 t1487.2) (by kernel_rfl) (by kernel_rfl) ?_; clear ha a; intro a ha
  refine stepp ha 7 (.string t1487.1) (by kernel_rfl) (by kernel_rfl) ?_; clear ha a; intro a ha
  refine stepp ha 8 (.int .i64 t1487.2) (by kernel_rfl) (by kernel_rfl) ?_; clear ha a; intro a ha
  refine endl ?_
  refine thenN (hK1486 _ _ ?_); clear hK1486
  refine wp_seq_k (fun K1491 hK1492 => ?_)
  refine wp_region_lit ?_
  refine stepl ha 22 (HW.ca (i := 1) (b := b1481) (C := #[.int .i64 a0.f0, .int .i64 a0.f1, .int .i64 a0.f2, .int .u32 a0.f3, .int .i64 a0.f4, .int .u32 a0.f5.f0, .int .u32 a0.f5.f1, .int .u32 a0.f5.f2, .int .u32 a0.f5.f3, .int .u32 a0.f5.f4, .int .u32 a0.f5.f5]) (T := 25) (fr := (0, 0)) (by kernel_rfl)) 25 0 (.tmp 3) (.agg #[.int .i64 a0.f0, .int .i64 a0.f1, .int .i64 a0.f2, .int .u32 a0.f3, .int .i64 a0.f4, .int .u32 a0.f5.f0, .int .u32 a0.f5.f1, .int .u32 a0.f5.f2, .int .u32 a0.f5.f3, .int .u32 a0.f5.f4, .int .u32 a0.f5.f5]) rfl (by kernel_rfl) (by kernel_rfl) (by kernel_rfl) ?_; clear ha a; intro a ha
  refine stepp ha 23 (.bool a1) (by kernel_rfl) (by kernel_rfl) ?_; clear ha a; intro a ha
  obtain ⟨t1493, ht1494, h_⟩ := bind_some' h; clear h; have h := h_; clear h_
  refine stepc ha 24 (by kernel_rfl) (by kernel_rfl) (headgateref25_Put.calls K (⟨a0.f0, a0.f1, a0.f2, a0.f3, a0.f4, (⟨a0.f5.f0, a0.f5.f1, a0.f5.f2, a0.f5.f3, a0.f5.f4, a0.f5.f5⟩ : T_arr6_22)⟩ : T_api_Sqe) a1 t1493 _ ht1494) ?_; clear ha a; rintro e W1495 ⟨rfl, HX1496⟩
  refine ⟨_, rfl, ?_⟩; intro a ha; replace HW := HW.callw HX1496; clear HX1496
  refine stepp ha 21 (.tuple #[.string t1493.1, .int .i64 t1493.2]) (by kernel_rfl) (by kernel_rfl) ?_; clear ha a; intro a ha
  refine stepp ha 25 (.string t1493.1) (by kernel_rfl) (by kernel_rfl) ?_; clear ha a; intro a ha
  refine stepp ha 26 (.int .i64 t1493.2) (by kernel_rfl) (by kernel_rfl) ?_; clear ha a; intro a ha
  refine stepp ha 9 (.string t1493.1) (by kernel_rfl) (by kernel_rfl) ?_; clear ha a; intro a ha
  refine stepp ha 10 (.int .i64 t1493.2) (by kernel_rfl) (by kernel_rfl) ?_; clear ha a; intro a ha
  refine endl ?_
  refine thenN (hK1492 _ _ ?_); clear hK1492
  refine wp_seq_k (fun K1497 hK1498 => ?_)
  refine wp_region_lit ?_
  refine stepl ha 28 (HW.ca (i := 0) (b := b1483) (C := #[.int .u32 a2.f0, .int .u32 a2.f1, .int .i64 a2.f2, .int .i64 a2.f3, .int .i64 a2.f4, .int .i64 a2.f5]) (T := 27) (fr := (0, 0)) (by kernel_rfl)) 27 0 (.tmp 5) (.agg #[.int .u32 a2.f0, .int .u32 a2.f1, .int .i64 a2.f2, .int .i64 a2.f3, .int .i64 a2.f4, .int .i64 a2.f5]) rfl (by kernel_rfl) (by kernel_rfl) (by kernel_rfl) ?_; clear ha a; intro a ha
  obtain ⟨t1499, ht1500, h_⟩ := bind_some' h; clear h; have h := h_; clear h_
  refine stepc ha 29 (by kernel_rfl) (by kernel_rfl) (sqe_End.calls K a2 t1499 _ (HW.ca0 hG1) (HW.ca0 hG2) ht1500) ?_; clear ha a; rintro e W1501 ⟨rfl, HX1502⟩
  refine ⟨_, rfl, ?_⟩; intro a ha; replace HW := HW.callw HX1502; clear HX1502
  refine stepp ha 27 (.tuple #[.string t1499.1, .int .i64 t1499.2]) (by kernel_rfl) (by kernel_rfl) ?_; clear ha a; intro a ha
  refine stepp ha 30 (.string t1499.1) (by kernel_rfl) (by kernel_rfl) ?_; clear ha a; intro a ha
  refine stepp ha 31 (.int .i64 t1499.2) (by kernel_rfl) (by kernel_rfl) ?_; clear ha a; intro a ha
  refine stepp ha 11 (.string t1499.1) (by kernel_rfl) (by kernel_rfl) ?_; clear ha a; intro a ha
  refine stepp ha 12 (.int .i64 t1499.2) (by kernel_rfl) (by kernel_rfl) ?_; clear ha a; intro a ha
  refine endl ?_
  refine thenN (hK1498 _ _ ?_); clear hK1498
  refine wp_seq_k (fun K1503 hK1504 => ?_)
  refine wp_region_lit ?_
  refine stepl ha 33 (HW.ca (i := 0) (b := b1483) (C := #[.int .u32 a2.f0, .int .u32 a2.f1, .int .i64 a2.f2, .int .i64 a2.f3, .int .i64 a2.f4, .int .i64 a2.f5]) (T := 27) (fr := (0, 0)) (by kernel_rfl)) 27 0 (.tmp 5) (.agg #[.int .u32 a2.f0, .int .u32 a2.f1, .int .i64 a2.f2, .int .i64 a2.f3, .int .i64 a2.f4, .int .i64 a2.f5]) rfl (by kernel_rfl) (by kernel_rfl) (by kernel_rfl) ?_; clear ha a; intro a ha
  obtain ⟨t1505, ht1506, h_⟩ := bind_some' h; clear h; have h := h_; clear h_
  refine stepc ha 34 (by kernel_rfl) (by kernel_rfl) (headgateref25_End.calls K a2 t1505 _ ht1506) ?_; clear ha a; rintro e W1507 ⟨rfl, HX1508⟩
  refine ⟨_, rfl, ?_⟩; intro a ha; replace HW := HW.callw HX1508; clear HX1508
  refine stepp ha 32 (.tuple #[.string t1505.1, .int .i64 t1505.2]) (by kernel_rfl) (by kernel_rfl) ?_; clear ha a; intro a ha
  refine stepp ha 35 (.string t1505.1) (by kernel_rfl) (by kernel_rfl) ?_; clear ha a; intro a ha
  refine stepp ha 36 (.int .i64 t1505.2) (by kernel_rfl) (by kernel_rfl) ?_; clear ha a; intro a ha
  refine stepp ha 13 (.string t1505.1) (by kernel_rfl) (by kernel_rfl) ?_; clear ha a; intro a ha
  refine stepp ha 14 (.int .i64 t1505.2) (by kernel_rfl) (by kernel_rfl) ?_; clear ha a; intro a ha
  refine endl ?_
  refine thenN (hK1504 _ _ ?_); clear hK1504
  refine wp_seq_k (fun K1509 hK1510 => ?_)
  refine wp_region_lit ?_
  refine stepp ha 37 (.string t1487.1) (by kernel_rfl) (by kernel_rfl) ?_; clear ha a; intro a ha
  refine stepp ha 38 (.string t1493.1) (by kernel_rfl) (by kernel_rfl) ?_; clear ha a; intro a ha
  refine stepp ha 39 (.bool (t1487.1.toList == t1493.1.toList)) (by kernel_rfl) (by kernel_rfl) ?_; clear ha a; intro a ha
  refine stepp ha 40 (.bool (t1487.1.toList == t1493.1.toList)) (by kernel_rfl) (by kernel_rfl) ?_; clear ha a; intro a ha
  by_cases hp1511 : t1487.1 = t1493.1
  · skip
    replace h := ite_pos' h hp1511
    replace ha := ha.bool 40 (by kernel_rfl) (str_eq_t hp1511)
    refine stepp ha 41 (.int .i64 t1487.2) (by kernel_rfl) (by kernel_rfl) ?_; clear ha a; intro a ha
    refine stepp ha 42 (.int .i64 t1493.2) (by kernel_rfl) (by kernel_rfl) ?_; clear ha a; intro a ha
    refine stepp ha 43 (.bool (t1487.2 == t1493.2)) (by kernel_rfl) (by kernel_rfl) ?_; clear ha a; intro a ha
    refine stepp ha 44 (.bool (t1487.2 == t1493.2)) (by kernel_rfl) (by kernel_rfl) ?_; clear ha a; intro a ha
    refine stepp ha 45 (.bool (t1487.2 == t1493.2)) (by kernel_rfl) (by kernel_rfl) ?_; clear ha a; intro a ha
    by_cases hp1512 : t1487.2 = t1493.2
    · skip
      replace h := ite_pos' h hp1512
      replace ha := ha.bool 45 (by kernel_rfl) (ieq_t hp1512)
      refine stepp ha 46 (.string t1499.1) (by kernel_rfl) (by kernel_rfl) ?_; clear ha a; intro a ha
      refine stepp ha 47 (.string t1505.1) (by kernel_rfl) (by kernel_rfl) ?_; clear ha a; intro a ha
      refine stepp ha 48 (.bool (t1499.1.toList == t1505.1.toList)) (by kernel_rfl) (by kernel_rfl) ?_; clear ha a; intro a ha
      refine stepp ha 49 (.bool (t1499.1.toList == t1505.1.toList)) (by kernel_rfl) (by kernel_rfl) ?_; clear ha a; intro a ha
      refine stepp ha 50 (.bool (t1499.1.toList == t1505.1.toList)) (by kernel_rfl) (by kernel_rfl) ?_; clear ha a; intro a ha
      by_cases hp1513 : t1499.1 = t1505.1
      · skip
        replace h := ite_pos' h hp1513
        replace ha := ha.bool 50 (by kernel_rfl) (str_eq_t hp1513)
        refine stepp ha 51 (.int .i64 t1499.2) (by kernel_rfl) (by kernel_rfl) ?_; clear ha a; intro a ha
        refine stepp ha 52 (.int .i64 t1505.2) (by kernel_rfl) (by kernel_rfl) ?_; clear ha a; intro a ha
        refine stepp ha 53 (.bool (t1499.2 == t1505.2)) (by kernel_rfl) (by kernel_rfl) ?_; clear ha a; intro a ha
        refine stepp ha 54 (.bool (t1499.2 == t1505.2)) (by kernel_rfl) (by kernel_rfl) ?_; clear ha a; intro a ha
        refine stepp ha 55 (.bool (t1499.2 == t1505.2)) (by kernel_rfl) (by kernel_rfl) ?_; clear ha a; intro a ha
        by_cases hp1514 : t1499.2 = t1505.2
        · skip
          replace h := ite_pos' h hp1514
          replace ha := ha.bool 55 (by kernel_rfl) (ieq_t hp1514)
          obtain ⟨t1515, ht1516, h_⟩ := bind_some' h; clear h; have h := h_; clear h_
          refine stepc ha 56 (by kernel_rfl) (by kernel_rfl) (headgatelaw25_wakes.calls K t1515 _ (HW.ca0 hG1) (HW.ca0 hG2) ht1516) ?_; clear ha a; rintro e W1517 ⟨rfl, HX1518⟩
          refine ⟨_, rfl, ?_⟩; intro a ha; replace HW := HW.callw HX1518; clear HX1518
          refine stepp ha 57 (.bool t1515) (by kernel_rfl) (by kernel_rfl) ?_; clear ha a; intro a ha
          refine stepp ha 6 (.bool t1515) (by kernel_rfl) (by kernel_rfl) ?_; clear ha a; intro a ha
          refine endl ?_
          refine thenN (hK1510 _ _ ?_); clear hK1510
          refine wp_ret ?_
          obtain rfl := Option.some.inj h
          exact finv ha _ _ rfl (.tmp (v := .bool t1515) (by kernel_rfl) .nil) (.bool t1515) rfl ⟨rfl, HW.pick [] [] (by decide) (by decide) rfl (by kernel_rfl)⟩
        · skip
          replace h := ite_neg' h hp1514
          replace ha := ha.bool 55 (by kernel_rfl) (ieq_f hp1514)
          refine stepo ha 56 (by kernel_rfl) ?_; clear ha a; intro a ha
          refine stepp ha 57 (.bool false) (by kernel_rfl) (by kernel_rfl) ?_; clear ha a; intro a ha
          refine stepp ha 6 (.bool false) (by kernel_rfl) (by kernel_rfl) ?_; clear ha a; intro a ha
          refine endl ?_
          refine thenN (hK1510 _ _ ?_); clear hK1510
          refine wp_ret ?_
          obtain rfl := Option.some.inj h
          exact finv ha _ _ rfl (.tmp (v := .bool false) (by kernel_rfl) .nil) (.bool false) rfl ⟨rfl, HW.pick [] [] (by decide) (by decide) rfl (by kernel_rfl)⟩
      · skip
        replace h := ite_neg' h hp1513
        replace ha := ha.bool 50 (by kernel_rfl) (str_eq_f hp1513)
        refine stepo ha 51 (by kernel_rfl) ?_; clear ha a; intro a ha
        refine stepo ha 52 (by kernel_rfl) ?_; clear ha a; intro a ha
        refine stepo ha 53 (by kernel_rfl) ?_; clear ha a; intro a ha
        refine stepp ha 54 (.bool false) (by kernel_rfl) (by kernel_rfl) ?_; clear ha a; intro a ha
        refine stepp ha 55 (.bool false) (by kernel_rfl) (by kernel_rfl) ?_; clear ha a; intro a ha
        refine stepo ha 56 (by kernel_rfl) ?_; clear ha a; intro a ha
        refine stepp ha 57 (.bool false) (by kernel_rfl) (by kernel_rfl) ?_; clear ha a; intro a ha
        refine stepp ha 6 (.bool false) (by kernel_rfl) (by kernel_rfl) ?_; clear ha a; intro a ha
        refine endl ?_
        refine thenN (hK1510 _ _ ?_); clear hK1510
        refine wp_ret ?_
        obtain rfl := Option.some.inj h
        exact finv ha _ _ rfl (.tmp (v := .bool false) (by kernel_rfl) .nil) (.bool false) rfl ⟨rfl, HW.pick [] [] (by decide) (by decide) rfl (by kernel_rfl)⟩
    · skip
      replace h := ite_neg' h hp1512
      replace ha := ha.bool 45 (by kernel_rfl) (ieq_f hp1512)
      refine stepo ha 46 (by kernel_rfl) ?_; clear ha a; intro a ha
      refine stepo ha 47 (by kernel_rfl) ?_; clear ha a; intro a ha
      refine stepo ha 48 (by kernel_rfl) ?_; clear ha a; intro a ha
      refine stepp ha 49 (.bool false) (by kernel_rfl) (by kernel_rfl) ?_; clear ha a; intro a ha
      refine stepp ha 50 (.bool false) (by kernel_rfl) (by kernel_rfl) ?_; clear ha a; intro a ha
      refine stepo ha 51 (by kernel_rfl) ?_; clear ha a; intro a ha
      refine stepo ha 52 (by kernel_rfl) ?_; clear ha a; intro a ha
      refine stepo ha 53 (by kernel_rfl) ?_; clear ha a; intro a ha
      refine stepp ha 54 (.bool false) (by kernel_rfl) (by kernel_rfl) ?_; clear ha a; intro a ha
      refine stepp ha 55 (.bool false) (by kernel_rfl) (by kernel_rfl) ?_; clear ha a; intro a ha
      refine stepo ha 56 (by kernel_rfl) ?_; clear ha a; intro a ha
      refine stepp ha 57 (.bool false) (by kernel_rfl) (by kernel_rfl) ?_; clear ha a; intro a ha
      refine stepp ha 6 (.bool false) (by kernel_rfl) (by kernel_rfl) ?_; clear ha a; intro a ha
      refine endl ?_
      refine thenN (hK1510 _ _ ?_); clear hK1510
      refine wp_ret ?_
      obtain rfl := Option.some.inj h
      exact finv ha _ _ rfl (.tmp (v := .bool false) (by kernel_rfl) .nil) (.bool false) rfl ⟨rfl, HW.pick [] [] (by decide) (by decide) rfl (by kernel_rfl)⟩
  · skip
    replace h := ite_neg' h hp1511
    replace ha := ha.bool 40 (by kernel_rfl) (str_eq_f hp1511)
    refine stepo ha 41 (by kernel_rfl) ?_; clear ha a; intro a ha
    refine stepo ha 42 (by kernel_rfl) ?_; clear ha a; intro a ha
    refine stepo ha 43 (by kernel_rfl) ?_; clear ha a; intro a ha
    refine stepp ha 44 (.bool false) (by kernel_rfl) (by kernel_rfl) ?_; clear ha a; intro a ha
    refine stepp ha 45 (.bool false) (by kernel_rfl) (by kernel_rfl) ?_; clear ha a; intro a ha
    refine stepo ha 46 (by kernel_rfl) ?_; clear ha a; intro a ha
    refine stepo ha 47 (by kernel_rfl) ?_; clear ha a; intro a ha
    refine stepo ha 48 (by kernel_rfl) ?_; clear ha a; intro a ha
    refine stepp ha 49 (.bool false) (by kernel_rfl) (by kernel_rfl) ?_; clear ha a; intro a ha
    refine stepp ha 50 (.bool false) (by kernel_rfl) (by kernel_rfl) ?_; clear ha a; intro a ha
    refine stepo ha 51 (by kernel_rfl) ?_; clear ha a; intro a ha
    refine stepo ha 52 (by kernel_rfl) ?_; clear ha a; intro a ha
    refine stepo ha 53 (by kernel_rfl) ?_; clear ha a; intro a ha
    refine stepp ha 54 (.bool false) (by kernel_rfl) (by kernel_rfl) ?_; clear ha a; intro a ha
    refine stepp ha 55 (.bool false) (by kernel_rfl) (by kernel_rfl) ?_; clear ha a; intro a ha
    refine stepo ha 56 (by kernel_rfl) ?_; clear ha a; intro a ha
    refine stepp ha 57 (.bool false) (by kernel_rfl) (by kernel_rfl) ?_; clear ha a; intro a ha
    refine stepp ha 6 (.bool false) (by kernel_rfl) (by kernel_rfl) ?_; clear ha a; intro a ha
    refine endl ?_
    refine thenN (hK1510 _ _ ?_); clear hK1510
    refine wp_ret ?_
    obtain rfl := Option.some.inj h
    exact finv ha _ _ rfl (.tmp (v := .bool false) (by kernel_rfl) .nil) (.bool false) rfl ⟨rfl, HW.pick [] [] (by decide) (by decide) rfl (by kernel_rfl)⟩
end Go.Proofs.YtceagilmillgfaaDoor.F
