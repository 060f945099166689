/- headgate/headgateref15.Parse: plain functions, and that the calls come to what they say. No condition. -/
import Derived.Test.YtpjcipadjegmlaaDoorFT
import Derived.Test.YtpjcipadjegmlaaDoorF21
namespace Go.Proofs.YtpjcipadjegmlaaDoor.F
open Go Go.RowKit Go.Proofs.YtpjcipadjegmlaaDoor.X
set_option linter.unusedVariables false
set_option linter.unusedSimpArgs false
/-! ### headgate/headgateref15.Parse: function 17 -/
def headgateref15_Parse.j5 (K : Nat) (a0 : ByteArray) (x2658 : Int) (x2659 : Int) (x2660 : Bool) (x2661 : Int) (x2662 : Int) : Option (T_headgateref15_Ask × Int) :=
  if (bt a0 0) ≥ 136 then (if (bt a0 0) ≤ 147 then (if x2658 ≥ 2147483648 then (some ((⟨0, 0, 0, false, 0, 0, 0⟩ : T_headgateref15_Ask), 150)) else (if x2659 ≥ 2147483648 then (some ((⟨0, 0, 0, false, 0, 0, 0⟩ : T_headgateref15_Ask), 150)) else (some ((⟨IntKind.wrap .i64 (bt a0 0), x2658, x2659, x2660, x2661, x2662, 0⟩ : T_headgateref15_Ask), 0)))) else (some ((⟨IntKind.wrap .i64 (bt a0 0), x2658, x2659, x2660, x2661, x2662, 0⟩ : T_headgateref15_Ask), 0))) else (some ((⟨IntKind.wrap .i64 (bt a0 0), x2658, x2659, x2660, x2661, x2662, 0⟩ : T_headgateref15_Ask), 0))
def headgateref15_Parse.j0 (K : Nat) (a0 : ByteArray) (x2546 : Int) : Option (T_headgateref15_Ask × Int) :=
  (headgateref15_num.f K a0 3 2).bind fun t2548 => (headgateref15_Parse.j5 K a0 0 0 false x2546 t2548)
def headgateref15_Parse.j3 (K : Nat) (a0 : ByteArray) (t2590 : Int) (t2594 : Int) (x2606 : Bool) : Option (T_headgateref15_Ask × Int) :=
  if (bt a0 0) = 147 then (asrt (1 < (a0.size : Int)) (if (Int.tmod (bt a0 1) 2) = 0 then (some ((⟨0, 0, 0, false, 0, 0, 0⟩ : T_headgateref15_Ask), 150)) else (headgateref15_Parse.j5 K a0 t2590 t2594 x2606 0 0))) else (headgateref15_Parse.j5 K a0 t2590 t2594 x2606 0 0)
def headgateref15_Parse.j4 (K : Nat) (a0 : ByteArray) (x2648 : Bool) : Option (T_headgateref15_Ask × Int) :=
  if x2648 = true then ((headgateref15_reservation.f K a0 (⟨IntKind.wrap .i64 (bt a0 0), 0, 0, false, 0, 0, 0⟩ : T_headgateref15_Ask)).bind fun t2653 => (some ((⟨t2653.1.f0, t2653.1.f1, t2653.1.f2, t2653.1.f3, t2653.1.f4, t2653.1.f5, t2653.1.f6⟩ : T_headgateref15_Ask), t2653.2))) else (headgateref15_Parse.j5 K a0 0 0 false 0 0)
def headgateref15_Parse.j2 (K : Nat) (a0 : ByteArray) (x2585 : Bool) : Option (T_headgateref15_Ask × Int) :=
  if x2585 = true then ((headgateref15_num.f K a0 2 8).bind fun t2590 => ((headgateref15_num.f K a0 10 4).bind fun t2594 => (if (bt a0 0) = 138 then (asrt (1 < (a0.size : Int)) (headgateref15_Parse.j3 K a0 t2590 t2594 ((Int.tmod (IntKind.wrap .u8 (Int.tdiv (bt a0 1) 8)) 2) == 1))) else (headgateref15_Parse.j3 K a0 t2590 t2594 false)))) else (if (bt a0 0) = 137 then ((headgateref15_num.f K a0 2 8).bind fun t2619 => (asrt (13 < (a0.size : Int)) (headgateref15_Parse.j5 K a0 t2619 (IntKind.wrap .i64 (bt a0 13)) false 0 0))) else (if (bt a0 0) = 66 then ((headgateref15_num.f K a0 7 2).bind fun t2630 => (headgateref15_Parse.j5 K a0 0 0 false 0 t2630)) else (if (bt a0 0) = 160 then ((headgateref15_num.f K a0 6 4).bind fun t2638 => (headgateref15_Parse.j5 K a0 0 0 false 0 t2638)) else (if (bt a0 0) = 94 then (headgateref15_Parse.j4 K a0 ((bt a0 0) == 94)) else (headgateref15_Parse.j4 K a0 ((bt a0 0) == 95))))))
def headgateref15_Parse.j1 (K : Nat) (a0 : ByteArray) (x2558 : Bool) : Option (T_headgateref15_Ask × Int) :=
  if x2558 = true then ((headgateref15_num.f K a0 2 4).bind fun t2563 => ((headgateref15_num.f K a0 7 2).bind fun t2567 => (if (bt a0 0) = 42 then (asrt (1 < (a0.size : Int)) (headgateref15_Parse.j5 K a0 t2563 t2567 ((Int.tmod (IntKind.wrap .u8 (Int.tdiv (bt a0 1) 8)) 2) == 1) 0 0)) else (headgateref15_Parse.j5 K a0 t2563 t2567 false 0 0)))) else (if (bt a0 0) = 136 then (headgateref15_Parse.j2 K a0 ((bt a0 0) == 136)) else (if (bt a0 0) = 138 then (headgateref15_Parse.j2 K a0 ((bt a0 0) == 138)) else (headgateref15_Parse.j2 K a0 ((bt a0 0) == 147))))
def headgateref15_Parse.f (K : Nat) (a0 : ByteArray) : Option (T_headgateref15_Ask × Int) :=
  (headgateref15_Length.f K a0).bind fun t2503 => (if t2503 = 0 then (some ((⟨0, 0, 0, false, 0, 0, 0⟩ : T_headgateref15_Ask), 150)) else (if (a0.size : Int) = t2503 then (asrt (0 ≤ (IntKind.wrap .i64 (t2503 - 1))) (asrt ((IntKind.wrap .i64 (t2503 - 1)) < (a0.size : Int)) (if (bt a0 (IntKind.wrap .i64 (t2503 - 1))) = 0 then (asrt (0 < (a0.size : Int)) (if (bt a0 0) = 18 then (asrt (1 < (a0.size : Int)) (if (Int.tmod (bt a0 1) 2) = 1 then (asrt (2 < (a0.size : Int)) (headgateref15_Parse.j0 K a0 (IntKind.wrap .i64 (256 + (IntKind.wrap .i64 (bt a0 2)))))) else (headgateref15_Parse.j0 K a0 0))) else (if (bt a0 0) = 40 then (headgateref15_Parse.j1 K a0 ((bt a0 0) == 40)) else (headgateref15_Parse.j1 K a0 ((bt a0 0) == 42))))) else (some ((⟨0, 0, 0, false, 0, 0, 0⟩ : T_headgateref15_Ask), 150))))) else (some ((⟨0, 0, 0, false, 0, 0, 0⟩ : T_headgateref15_Ask), 150))))
set_option maxRecDepth 100000 in
set_option maxHeartbeats 4000000 in
theorem headgateref15_Parse.calls (K : Nat) (a0 : ByteArray)  (r : T_headgateref15_Ask × Int) (w : World)  (h : headgateref15_Parse.f K a0 = some r) :
    Calls Tryd.prog 17 #[.string a0] w (fun e W' => e = .returned (.tuple #[.agg #[.int .i64 r.1.f0, .int .i64 r.1.f1, .int .i64 r.1.f2, .bool r.1.f3, .int .i64 r.1.f4, .int .i64 r.1.f5, .int .i64 r.1.f6], .int .i64 r.2]) ∧ Wd w W' [] [] ) := by
  refine sxstart (n := 142) (l := [(0, .string a0)]) Tryd.func17 rfl rfl (Nat.le_of_ble_eq_true KR) (subsA_cons rfl (subsA_nil _)) ?_
  intro a ha
  have HW := Wd.refl w
  unfold headgateref15_Parse.f at h
  refine wp_seq_k (fun K2497 hK2498 => ?_)
  refine wp_region_lit ?_
  refine stepnew ha HW 2 #[.int .i64 0, .int .i64 0, .int .i64 0, .bool false, .int .i64 0, .int .i64 0, .int .i64 0] 43 KR KR ?_; clear ha HW a; intro b2499 a W2500 HW ha
  refine stepp ha 3 (.int .i64 0) KR KR ?_; clear ha a; intro a ha
  refine endl ?_
  refine thenN (hK2498 _ _ ?_); clear hK2498
  refine wp_seq_k (fun K2501 hK2502 => ?_)
  refine wp_region_lit ?_
  refine stepp ha 6 (.string a0) KR KR ?_; clear ha a; intro a ha
  obtain ⟨t2503, ht2504, h_⟩ := bind_some' h; clear h; have h := h_; clear h_
  refine stepc ha 7 KR KR (headgateref15_Length.calls K a0 t2503 _ ht2504) ?_; clear ha a; rintro e W2505 ⟨rfl, HX2506⟩
  refine ⟨_, rfl, ?_⟩; intro a ha; replace HW := HW.callw HX2506; clear HX2506
  refine stepp ha 4 (.int .i64 t2503) KR KR ?_; clear ha a; intro a ha
  refine endl ?_
  refine thenN (hK2502 _ _ ?_); clear hK2502
  refine wp_seq_k (fun K2507 hK2508 => ?_)
  refine wp_seq_k (fun K2509 hK2510 => ?_)
  refine wp_region_lit ?_
  refine stepp ha 8 (.int .i64 t2503) KR KR ?_; clear ha a; intro a ha
  refine stepp ha 9 (.bool (t2503 == 0)) KR KR ?_; clear ha a; intro a ha
  refine stepp ha 10 (.bool (t2503 == 0)) KR KR ?_; clear ha a; intro a ha
  by_cases hp2511 : t2503 = 0
  · skip
    replace h := ite_pos' h hp2511
    replace ha := ha.bool 10 KR (ieq_t hp2511)
    refine stepo ha 11 KR ?_; clear ha a; intro a ha
    refine stepo ha 12 KR ?_; clear ha a; intro a ha
    refine stepo ha 13 KR ?_; clear ha a; intro a ha
    refine stepo ha 14 KR ?_; clear ha a; intro a ha
    refine stepp ha 15 (.bool true) KR KR ?_; clear ha a; intro a ha
    refine stepp ha 16 (.bool true) KR KR ?_; clear ha a; intro a ha
    refine stepo ha 17 KR ?_; clear ha a; intro a ha
    refine stepo ha 18 KR ?_; clear ha a; intro a ha
    refine stepo ha 19 KR ?_; clear ha a; intro a ha
    refine stepo ha 20 KR ?_; clear ha a; intro a ha
    refine stepo ha 21 KR ?_; clear ha a; intro a ha
    refine stepp ha 22 (.bool true) KR KR ?_; clear ha a; intro a ha
    refine endl ?_
    refine thenN (hK2510 _ _ ?_); clear hK2510
    refine condT ha KR KR (t := true) (rfl) ?_
    refine wp_seq_k (fun K2515 hK2516 => ?_)
    refine wp_region_lit ?_
    refine stepp ha 23 (.agg #[.int .i64 0, .int .i64 0, .int .i64 0, .bool false, .int .i64 0, .int .i64 0, .int .i64 0]) KR KR ?_; clear ha a; intro a ha
    refine stepst ha HW 0 (b := b2499) (C := #[.int .i64 0, .int .i64 0, .int .i64 0, .bool false, .int .i64 0, .int .i64 0, .int .i64 0]) (T := 43) KR 43 0 (.tmp 2) (.tmp 23) (.agg #[.int .i64 0, .int .i64 0, .int .i64 0, .bool false, .int .i64 0, .int .i64 0, .int .i64 0]) #[.int .i64 0, .int .i64 0, .int .i64 0, .bool false, .int .i64 0, .int .i64 0, .int .i64 0] rfl KR KR KR KR KR KR KR ?_; clear ha HW a; intro a W2517 HW ha
    refine stepp ha 3 (.int .i64 150) KR KR ?_; clear ha a; intro a ha
    refine endl ?_
    refine thenN (hK2516 _ _ ?_); clear hK2516
    refine wp_ret ?_
    refine thenR ?_
    obtain rfl := Option.some.inj h
    exact finv ha _ _ rfl (.cell (ad := ⟨b2499, 0, none⟩) (v := .agg #[.int .i64 0, .int .i64 0, .int .i64 0, .bool false, .int .i64 0, .int .i64 0, .int .i64 0]) KR (run_loadVar_ca0 (HW.ca (i := 0) (b := b2499) (C := #[.int .i64 0, .int .i64 0, .int .i64 0, .bool false, .int .i64 0, .int .i64 0, .int .i64 0]) (T := 43) (fr := (0, 0)) KR) 43 0 (.agg #[.int .i64 0, .int .i64 0, .int .i64 0, .bool false, .int .i64 0, .int .i64 0, .int .i64 0]) KR) (.tmp (v := .int .i64 150) KR .nil)) (.tuple #[.agg #[.int .i64 0, .int .i64 0, .int .i64 0, .bool false, .int .i64 0, .int .i64 0, .int .i64 0], .int .i64 150]) rfl ⟨rfl, HW.pick [] [] (by decide) (by decide) rfl KR⟩
  · skip
    replace h := ite_neg' h hp2511
    replace ha := ha.bool 10 KR (ieq_f hp2511)
    refine stepp ha 11 (.string a0) KR KR ?_; clear ha a; intro a ha
    refine stepp ha 12 (.int .i64 (a0.size : Int)) KR KR ?_; clear ha a; intro a ha
    refine stepp ha 13 (.int .i64 t2503) KR KR ?_; clear ha a; intro a ha
    refine stepp ha 14 (.bool ((a0.size : Int) != t2503)) KR KR ?_; clear ha a; intro a ha
    refine stepp ha 15 (.bool ((a0.size : Int) != t2503)) KR KR ?_; clear ha a; intro a ha
    refine stepp ha 16 (.bool ((a0.size : Int) != t2503)) KR KR ?_; clear ha a; intro a ha
    by_cases hp2512 : (a0.size : Int) = t2503
    · skip
      replace h := ite_pos' h hp2512
      replace ha := ha.bool 16 KR (ineq_f hp2512)
      refine stepp ha 17 (.string a0) KR KR ?_; clear ha a; intro a ha
      refine stepp ha 18 (.int .i64 t2503) KR KR ?_; clear ha a; intro a ha
      refine stepp ha 19 (.int .i64 (IntKind.wrap .i64 (t2503 - 1))) KR KR ?_; clear ha a; intro a ha
      obtain ⟨hA2513, h_⟩ := asrt_some h; clear h; have h := h_; clear h_
      obtain ⟨hA2514, h_⟩ := asrt_some h; clear h; have h := h_; clear h_
      refine stepsi ha 20 9 (.tmp 17) (.tmp 19) a0 .i64 (IntKind.wrap .i64 (t2503 - 1)) rfl KR KR KR hA2513 (show (IntKind.wrap .i64 (t2503 - 1) : Int) < ((a0).size : Int) from hA2514) KR ?_; clear ha a; intro a ha
      refine stepp ha 21 (.bool ((bt a0 (IntKind.wrap .i64 (t2503 - 1))) != 0)) KR KR ?_; clear ha a; intro a ha
      refine stepp ha 22 (.bool ((bt a0 (IntKind.wrap .i64 (t2503 - 1))) != 0)) KR KR ?_; clear ha a; intro a ha
      refine endl ?_
      refine thenN (hK2510 _ _ ?_); clear hK2510
      by_cases hp2518 : (bt a0 (IntKind.wrap .i64 (t2503 - 1))) = 0
      · skip
        replace h := ite_pos' h hp2518
        refine condF ha KR KR (t := ((bt a0 (IntKind.wrap .i64 (t2503 - 1))) != 0)) (ineq_f hp2518) ?_
        refine wp_skip ?_
        refine thenN (hK2508 _ _ ?_); clear hK2508
        refine wp_seq_k (fun K2525 hK2526 => ?_)
        refine wp_region_lit ?_
        refine stepp ha 24 (.string a0) KR KR ?_; clear ha a; intro a ha
        obtain ⟨hA2527, h_⟩ := asrt_some h; clear h; have h := h_; clear h_
        refine stepsi ha 25 9 (.tmp 24) (.const (.int .i64 0)) a0 .i64 0 rfl KR KR KR (by decide) (show (0 : Int) < ((a0).size : Int) from hA2527) KR ?_; clear ha a; intro a ha
        refine stepp ha 26 (.int .i64 (IntKind.wrap .i64 (bt a0 0))) KR KR ?_; clear ha a; intro a ha
        refine stepp ha 27 (.agg #[.int .i64 (IntKind.wrap .i64 (bt a0 0)), .int .i64 0, .int .i64 0, .bool false, .int .i64 0, .int .i64 0, .int .i64 0]) KR KR ?_; clear ha a; intro a ha
        refine stepnew ha HW 5 #[.int .i64 0, .int .i64 0, .int .i64 0, .bool false, .int .i64 0, .int .i64 0, .int .i64 0] 43 KR KR ?_; clear ha HW a; intro b2528 a W2529 HW ha
        refine stepst ha HW 0 (b := b2528) (C := #[.int .i64 0, .int .i64 0, .int .i64 0, .bool false, .int .i64 0, .int .i64 0, .int .i64 0]) (T := 43) KR 43 0 (.tmp 5) (.tmp 27) (.agg #[.int .i64 (IntKind.wrap .i64 (bt a0 0)), .int .i64 0, .int .i64 0, .bool false, .int .i64 0, .int .i64 0, .int .i64 0]) #[.int .i64 (IntKind.wrap .i64 (bt a0 0)), .int .i64 0, .int .i64 0, .bool false, .int .i64 0, .int .i64 0, .int .i64 0] rfl KR KR KR KR KR KR KR ?_; clear ha HW a; intro a W2530 HW ha
        refine endl ?_
        refine thenN (hK2526 _ _ ?_); clear hK2526
        refine wp_seq_k (fun K2531 hK2532 => ?_)
        refine cutn (fun a W2663 => ∃ (x2658 : Int), ∃ (x2659 : Int), ∃ (x2660 : Bool), ∃ (x2661 : Int), ∃ (x2662 : Int), headgateref15_Parse.j5 K a0 x2658 x2659 x2660 x2661 x2662 = some r ∧ Has 142 [(0, .string a0), (2, .pointer (some ⟨b2499, 0, none⟩)), (5, .pointer (some ⟨b2528, 0, none⟩))] a ∧ Wd w W2663 [(b2499, .cells #[.int .i64 0, .int .i64 0, .int .i64 0, .bool false, .int .i64 0, .int .i64 0, .int .i64 0] 43 (0, 0)), (b2528, .cells #[.int .i64 (IntKind.wrap .i64 (bt a0 0)), .int .i64 x2658, .int .i64 x2659, .bool x2660, .int .i64 x2661, .int .i64 x2662, .int .i64 0] 43 (0, 0))] []) ?_ ?_
        · skip
          refine wp_seq_k (fun K2533 hK2534 => ?_)
          refine wp_region_lit ?_
          refine stepp ha 28 (.string a0) KR KR ?_; clear ha a; intro a ha
          refine stepsi ha 29 9 (.tmp 28) (.const (.int .i64 0)) a0 .i64 0 rfl KR KR KR (by decide) (show (0 : Int) < ((a0).size : Int) from hA2527) KR ?_; clear ha a; intro a ha
          refine endl ?_
          refine thenN (hK2534 _ _ ?_); clear hK2534
          refine wp_block ?_
          refine wp_seq_k (fun K2535 hK2536 => ?_)
          refine wp_region_lit ?_
          refine stepp ha 31 (.bool ((bt a0 0) == 18)) KR KR ?_; clear ha a; intro a ha
          refine stepp ha 30 (.bool ((bt a0 0) == 18)) KR KR ?_; clear ha a; intro a ha
          refine endl ?_
          refine thenN (hK2536 _ _ ?_); clear hK2536
          by_cases hp2537 : (bt a0 0) = 18
          · skip
            replace h := ite_pos' h hp2537
            refine condT ha KR KR (t := ((bt a0 0) == 18)) (ieq_t hp2537) ?_
            refine wp_seq_k (fun K2538 hK2539 => ?_)
            refine cutn (fun a W2547 => ∃ (x2546 : Int), headgateref15_Parse.j0 K a0 x2546 = some r ∧ Has 142 [(0, .string a0), (2, .pointer (some ⟨b2499, 0, none⟩)), (5, .pointer (some ⟨b2528, 0, none⟩))] a ∧ Wd w W2547 [(b2499, .cells #[.int .i64 0, .int .i64 0, .int .i64 0, .bool false, .int .i64 0, .int .i64 0, .int .i64 0] 43 (0, 0)), (b2528, .cells #[.int .i64 (IntKind.wrap .i64 (bt a0 0)), .int .i64 0, .int .i64 0, .bool false, .int .i64 x2546, .int .i64 0, .int .i64 0] 43 (0, 0))] []) ?_ ?_
            · skip
              refine wp_seq_k (fun K2540 hK2541 => ?_)
              refine wp_region_lit ?_
              refine stepp ha 32 (.string a0) KR KR ?_; clear ha a; intro a ha
              obtain ⟨hA2542, h_⟩ := asrt_some h; clear h; have h := h_; clear h_
              refine stepsi ha 33 9 (.tmp 32) (.const (.int .i64 1)) a0 .i64 1 rfl KR KR KR (by decide) (show (1 : Int) < ((a0).size : Int) from hA2542) KR ?_; clear ha a; intro a ha
              refine stepp ha 34 (.int .u8 (Int.tmod (bt a0 1) 2)) KR KR ?_; clear ha a; intro a ha
              refine stepp ha 35 (.bool ((Int.tmod (bt a0 1) 2) == 1)) KR KR ?_; clear ha a; intro a ha
              refine endl ?_
              refine thenN (hK2541 _ _ ?_); clear hK2541
              by_cases hp2543 : (Int.tmod (bt a0 1) 2) = 1
              · skip
                replace h := ite_pos' h hp2543
                refine condT ha KR KR (t := ((Int.tmod (bt a0 1) 2) == 1)) (ieq_t hp2543) ?_
                refine wp_region_lit ?_
                refine stepp ha 36 (.string a0) KR KR ?_; clear ha a; intro a ha
                obtain ⟨hA2544, h_⟩ := asrt_some h; clear h; have h := h_; clear h_
                refine stepsi ha 37 9 (.tmp 36) (.const (.int .i64 2)) a0 .i64 2 rfl KR KR KR (by decide) (show (2 : Int) < ((a0).size : Int) from hA2544) KR ?_; clear ha a; intro a ha
                refine stepp ha 38 (.int .i64 (IntKind.wrap .i64 (bt a0 2))) KR KR ?_; clear ha a; intro a ha
                refine stepp ha 39 (.int .i64 (IntKind.wrap .i64 (256 + (IntKind.wrap .i64 (bt a0 2))))) KR KR ?_; clear ha a; intro a ha
                refine stepp ha 40 (.pointer (some ⟨b2528, 4, none⟩)) KR KR ?_; clear ha a; intro a ha
                refine stepst ha HW 0 (b := b2528) (C := #[.int .i64 (IntKind.wrap .i64 (bt a0 0)), .int .i64 0, .int .i64 0, .bool false, .int .i64 0, .int .i64 0, .int .i64 0]) (T := 43) KR 3 4 (.tmp 40) (.tmp 39) (.int .i64 (IntKind.wrap .i64 (256 + (IntKind.wrap .i64 (bt a0 2))))) #[.int .i64 (IntKind.wrap .i64 (bt a0 0)), .int .i64 0, .int .i64 0, .bool false, .int .i64 (IntKind.wrap .i64 (256 + (IntKind.wrap .i64 (bt a0 2)))), .int .i64 0, .int .i64 0] rfl KR KR KR KR KR KR KR ?_; clear ha HW a; intro a W2545 HW ha
                refine endl ?_
                exact thenN ⟨IntKind.wrap .i64 (256 + (IntKind.wrap .i64 (bt a0 2))), h, ha.sub (subs_cons KR (subs_cons KR (subs_cons KR (subs_nil _)))), HW.pick [1, 0] [] (by decide) (by decide) KR KR⟩
              · skip
                replace h := ite_neg' h hp2543
                refine condF ha KR KR (t := ((Int.tmod (bt a0 1) 2) == 1)) (ieq_f hp2543) ?_
                refine wp_skip ?_
                exact thenN ⟨0, h, ha.sub (subs_cons KR (subs_cons KR (subs_cons KR (subs_nil _)))), HW.pick [1, 0] [] (by decide) (by decide) KR KR⟩
            · skip
              intro a W2547 hJ
              obtain ⟨x2546, h, ha, HW⟩ := hJ
              replace h : headgateref15_Parse.j0 K a0 x2546 = some r := h
              unfold headgateref15_Parse.j0 at h
              refine hK2539 _ _ ?_; clear hK2539
              refine wp_region_lit ?_
              refine stepp ha 41 (.string a0) KR KR ?_; clear ha a; intro a ha
              obtain ⟨t2548, ht2549, h_⟩ := bind_some' h; clear h; have h := h_; clear h_
              refine stepc ha 42 KR KR (headgateref15_num.calls K a0 3 2 t2548 _ ht2549) ?_; clear ha a; rintro e W2550 ⟨rfl, HX2551⟩
              refine ⟨_, rfl, ?_⟩; intro a ha; replace HW := HW.callw HX2551; clear HX2551
              refine stepp ha 43 (.pointer (some ⟨b2528, 5, none⟩)) KR KR ?_; clear ha a; intro a ha
              refine stepst ha HW 1 (b := b2528) (C := #[.int .i64 (IntKind.wrap .i64 (bt a0 0)), .int .i64 0, .int .i64 0, .bool false, .int .i64 x2546, .int .i64 0, .int .i64 0]) (T := 43) KR 3 5 (.tmp 43) (.tmp 42) (.int .i64 t2548) #[.int .i64 (IntKind.wrap .i64 (bt a0 0)), .int .i64 0, .int .i64 0, .bool false, .int .i64 x2546, .int .i64 t2548, .int .i64 0] rfl KR KR KR KR KR KR KR ?_; clear ha HW a; intro a W2552 HW ha
              refine endl ?_
              refine blkN ?_
              exact thenN ⟨0, 0, false, x2546, t2548, h, ha.sub (subs_cons KR (subs_cons KR (subs_cons KR (subs_nil _)))), HW.pick [0, 1] [] (by decide) (by decide) KR KR⟩
          · skip
            replace h := ite_neg' h hp2537
            refine condF ha KR KR (t := ((bt a0 0) == 18)) (ieq_f hp2537) ?_
            refine wp_seq_k (fun K2553 hK2554 => ?_)
            refine cutn (fun a W2559 => ∃ (x2558 : Bool), headgateref15_Parse.j1 K a0 x2558 = some r ∧ Has 142 [(0, .string a0), (2, .pointer (some ⟨b2499, 0, none⟩)), (5, .pointer (some ⟨b2528, 0, none⟩)), (29, .int .u8 (bt a0 0)), (44, .bool x2558)] a ∧ Wd w W2559 [(b2499, .cells #[.int .i64 0, .int .i64 0, .int .i64 0, .bool false, .int .i64 0, .int .i64 0, .int .i64 0] 43 (0, 0)), (b2528, .cells #[.int .i64 (IntKind.wrap .i64 (bt a0 0)), .int .i64 0, .int .i64 0, .bool false, .int .i64 0, .int .i64 0, .int .i64 0] 43 (0, 0))] []) ?_ ?_
            · skip
              refine wp_seq_k (fun K2555 hK2556 => ?_)
              refine wp_region_lit ?_
              refine stepp ha 45 (.bool ((bt a0 0) == 40)) KR KR ?_; clear ha a; intro a ha
              refine stepp ha 44 (.bool ((bt a0 0) == 40)) KR KR ?_; clear ha a; intro a ha
              refine endl ?_
              refine thenN (hK2556 _ _ ?_); clear hK2556
              by_cases hp2557 : (bt a0 0) = 40
              · skip
                replace h := ite_pos' h hp2557
                refine condT ha KR KR (t := ((bt a0 0) == 40)) (ieq_t hp2557) ?_
                refine wp_skip ?_
                exact thenN ⟨((bt a0 0) == 40), h, ha.sub (subs_cons KR (subs_cons KR (subs_cons KR (subs_cons KR (subs_cons KR (subs_nil _)))))), HW.pick [1, 0] [] (by decide) (by decide) KR KR⟩
              · skip
                replace h := ite_neg' h hp2557
                refine condF ha KR KR (t := ((bt a0 0) == 40)) (ieq_f hp2557) ?_
                refine wp_region_lit ?_
                refine stepp ha 46 (.bool ((bt a0 0) == 42)) KR KR ?_; clear ha a; intro a ha
                refine stepp ha 44 (.bool ((bt a0 0) == 42)) KR KR ?_; clear ha a; intro a ha
                refine endl ?_
                exact thenN ⟨((bt a0 0) == 42), h, ha.sub (subs_cons KR (subs_cons KR (subs_cons KR (subs_cons KR (subs_cons KR (subs_nil _)))))), HW.pick [1, 0] [] (by decide) (by decide) KR KR⟩
            · skip
              intro a W2559 hJ
              obtain ⟨x2558, h, ha, HW⟩ := hJ
              replace h : headgateref15_Parse.j1 K a0 x2558 = some r := h
              unfold headgateref15_Parse.j1 at h
              refine hK2554 _ _ ?_; clear hK2554
              by_cases hp2560 : x2558 = true
              · skip
                replace h := ite_pos' h hp2560
                refine condT ha KR KR (t := x2558) (hp2560) ?_
                refine wp_seq_k (fun K2561 hK2562 => ?_)
                refine wp_region_lit ?_
                refine stepp ha 47 (.string a0) KR KR ?_; clear ha a; intro a ha
                obtain ⟨t2563, ht2564, h_⟩ := bind_some' h; clear h; have h := h_; clear h_
                refine stepc ha 48 KR KR (headgateref15_num.calls K a0 2 4 t2563 _ ht2564) ?_; clear ha a; rintro e W2565 ⟨rfl, HX2566⟩
                refine ⟨_, rfl, ?_⟩; intro a ha; replace HW := HW.callw HX2566; clear HX2566
                refine stepp ha 49 (.string a0) KR KR ?_; clear ha a; intro a ha
                obtain ⟨t2567, ht2568, h_⟩ := bind_some' h; clear h; have h := h_; clear h_
                refine stepc ha 50 KR KR (headgateref15_num.calls K a0 7 2 t2567 _ ht2568) ?_; clear ha a; rintro e W2569 ⟨rfl, HX2570⟩
                refine ⟨_, rfl, ?_⟩; intro a ha; replace HW := HW.callw HX2570; clear HX2570
                refine stepp ha 51 (.pointer (some ⟨b2528, 1, none⟩)) KR KR ?_; clear ha a; intro a ha
                refine stepst ha HW 1 (b := b2528) (C := #[.int .i64 (IntKind.wrap .i64 (bt a0 0)), .int .i64 0, .int .i64 0, .bool false, .int .i64 0, .int .i64 0, .int .i64 0]) (T := 43) KR 3 1 (.tmp 51) (.tmp 48) (.int .i64 t2563) #[.int .i64 (IntKind.wrap .i64 (bt a0 0)), .int .i64 t2563, .int .i64 0, .bool false, .int .i64 0, .int .i64 0, .int .i64 0] rfl KR KR KR KR KR KR KR ?_; clear ha HW a; intro a W2571 HW ha
                refine stepp ha 52 (.pointer (some ⟨b2528, 2, none⟩)) KR KR ?_; clear ha a; intro a ha
                refine stepst ha HW 1 (b := b2528) (C := #[.int .i64 (IntKind.wrap .i64 (bt a0 0)), .int .i64 t2563, .int .i64 0, .bool false, .int .i64 0, .int .i64 0, .int .i64 0]) (T := 43) KR 3 2 (.tmp 52) (.tmp 50) (.int .i64 t2567) #[.int .i64 (IntKind.wrap .i64 (bt a0 0)), .int .i64 t2563, .int .i64 t2567, .bool false, .int .i64 0, .int .i64 0, .int .i64 0] rfl KR KR KR KR KR KR KR ?_; clear ha HW a; intro a W2572 HW ha
                refine endl ?_
                refine thenN (hK2562 _ _ ?_); clear hK2562
                refine wp_region_lit ?_
                refine stepp ha 53 (.string a0) KR KR ?_; clear ha a; intro a ha
                refine stepsi ha 54 9 (.tmp 53) (.const (.int .i64 0)) a0 .i64 0 rfl KR KR KR (by decide) (show (0 : Int) < ((a0).size : Int) from hA2527) KR ?_; clear ha a; intro a ha
                refine stepp ha 55 (.bool ((bt a0 0) == 42)) KR KR ?_; clear ha a; intro a ha
                refine stepp ha 56 (.bool ((bt a0 0) == 42)) KR KR ?_; clear ha a; intro a ha
                by_cases hp2573 : (bt a0 0) = 42
                · skip
                  replace h := ite_pos' h hp2573
                  replace ha := ha.bool 56 KR (ieq_t hp2573)
                  refine stepp ha 57 (.string a0) KR KR ?_; clear ha a; intro a ha
                  obtain ⟨hA2574, h_⟩ := asrt_some h; clear h; have h := h_; clear h_
                  refine stepsi ha 58 9 (.tmp 57) (.const (.int .i64 1)) a0 .i64 1 rfl KR KR KR (by decide) (show (1 : Int) < ((a0).size : Int) from hA2574) KR ?_; clear ha a; intro a ha
                  refine stepp ha 59 (.int .u8 (IntKind.wrap .u8 (Int.tdiv (bt a0 1) 8))) KR KR ?_; clear ha a; intro a ha
                  refine stepp ha 60 (.int .u8 (Int.tmod (IntKind.wrap .u8 (Int.tdiv (bt a0 1) 8)) 2)) KR KR ?_; clear ha a; intro a ha
                  refine stepp ha 61 (.bool ((Int.tmod (IntKind.wrap .u8 (Int.tdiv (bt a0 1) 8)) 2) == 1)) KR KR ?_; clear ha a; intro a ha
                  refine stepp ha 62 (.bool ((Int.tmod (IntKind.wrap .u8 (Int.tdiv (bt a0 1) 8)) 2) == 1)) KR KR ?_; clear ha a; intro a ha
                  refine stepp ha 63 (.pointer (some ⟨b2528, 3, none⟩)) KR KR ?_; clear ha a; intro a ha
                  refine stepst ha HW 1 (b := b2528) (C := #[.int .i64 (IntKind.wrap .i64 (bt a0 0)), .int .i64 t2563, .int .i64 t2567, .bool false, .int .i64 0, .int .i64 0, .int .i64 0]) (T := 43) KR 4 3 (.tmp 63) (.tmp 62) (.bool ((Int.tmod (IntKind.wrap .u8 (Int.tdiv (bt a0 1) 8)) 2) == 1)) #[.int .i64 (IntKind.wrap .i64 (bt a0 0)), .int .i64 t2563, .int .i64 t2567, .bool ((Int.tmod (IntKind.wrap .u8 (Int.tdiv (bt a0 1) 8)) 2) == 1), .int .i64 0, .int .i64 0, .int .i64 0] rfl KR KR KR KR KR KR KR ?_; clear ha HW a; intro a W2575 HW ha
                  refine endl ?_
                  refine blkN ?_
                  exact thenN ⟨t2563, t2567, ((Int.tmod (IntKind.wrap .u8 (Int.tdiv (bt a0 1) 8)) 2) == 1), 0, 0, h, ha.sub (subs_cons KR (subs_cons KR (subs_cons KR (subs_nil _)))), HW.pick [0, 1] [] (by decide) (by decide) KR KR⟩
                · skip
                  replace h := ite_neg' h hp2573
                  replace ha := ha.bool 56 KR (ieq_f hp2573)
                  refine stepo ha 57 KR ?_; clear ha a; intro a ha
                  refine stepo ha 58 KR ?_; clear ha a; intro a ha
                  refine stepo ha 59 KR ?_; clear ha a; intro a ha
                  refine stepo ha 60 KR ?_; clear ha a; intro a ha
                  refine stepo ha 61 KR ?_; clear ha a; intro a ha
                  refine stepp ha 62 (.bool false) KR KR ?_; clear ha a; intro a ha
                  refine stepp ha 63 (.pointer (some ⟨b2528, 3, none⟩)) KR KR ?_; clear ha a; intro a ha
                  refine stepst ha HW 1 (b := b2528) (C := #[.int .i64 (IntKind.wrap .i64 (bt a0 0)), .int .i64 t2563, .int .i64 t2567, .bool false, .int .i64 0, .int .i64 0, .int .i64 0]) (T := 43) KR 4 3 (.tmp 63) (.tmp 62) (.bool false) #[.int .i64 (IntKind.wrap .i64 (bt a0 0)), .int .i64 t2563, .int .i64 t2567, .bool false, .int .i64 0, .int .i64 0, .int .i64 0] rfl KR KR KR KR KR KR KR ?_; clear ha HW a; intro a W2576 HW ha
                  refine endl ?_
                  refine blkN ?_
                  exact thenN ⟨t2563, t2567, false, 0, 0, h, ha.sub (subs_cons KR (subs_cons KR (subs_cons KR (subs_nil _)))), HW.pick [0, 1] [] (by decide) (by decide) KR KR⟩
              · skip
                replace h := ite_neg' h hp2560
                refine condF ha KR KR (t := x2558) (bool_f hp2560) ?_
                refine wp_seq_k (fun K2577 hK2578 => ?_)
                refine cutn (fun a W2586 => ∃ (x2585 : Bool), headgateref15_Parse.j2 K a0 x2585 = some r ∧ Has 142 [(0, .string a0), (2, .pointer (some ⟨b2499, 0, none⟩)), (5, .pointer (some ⟨b2528, 0, none⟩)), (29, .int .u8 (bt a0 0)), (64, .bool x2585)] a ∧ Wd w W2586 [(b2499, .cells #[.int .i64 0, .int .i64 0, .int .i64 0, .bool false, .int .i64 0, .int .i64 0, .int .i64 0] 43 (0, 0)), (b2528, .cells #[.int .i64 (IntKind.wrap .i64 (bt a0 0)), .int .i64 0, .int .i64 0, .bool false, .int .i64 0, .int .i64 0, .int .i64 0] 43 (0, 0))] []) ?_ ?_
                · skip
                  refine wp_seq_k (fun K2579 hK2580 => ?_)
                  refine wp_region_lit ?_
                  refine stepp ha 65 (.bool ((bt a0 0) == 136)) KR KR ?_; clear ha a; intro a ha
                  refine stepp ha 64 (.bool ((bt a0 0) == 136)) KR KR ?_; clear ha a; intro a ha
                  refine endl ?_
                  refine thenN (hK2580 _ _ ?_); clear hK2580
                  by_cases hp2581 : (bt a0 0) = 136
                  · skip
                    replace h := ite_pos' h hp2581
                    refine condT ha KR KR (t := ((bt a0 0) == 136)) (ieq_t hp2581) ?_
                    refine wp_skip ?_
                    exact thenN ⟨((bt a0 0) == 136), h, ha.sub (subs_cons KR (subs_cons KR (subs_cons KR (subs_cons KR (subs_cons KR (subs_nil _)))))), HW.pick [0, 1] [] (by decide) (by decide) KR KR⟩
                  · skip
                    replace h := ite_neg' h hp2581
                    refine condF ha KR KR (t := ((bt a0 0) == 136)) (ieq_f hp2581) ?_
                    refine wp_seq_k (fun K2582 hK2583 => ?_)
                    refine wp_region_lit ?_
                    refine stepp ha 66 (.bool ((bt a0 0) == 138)) KR KR ?_; clear ha a; intro a ha
                    refine stepp ha 64 (.bool ((bt a0 0) == 138)) KR KR ?_; clear ha a; intro a ha
                    refine endl ?_
                    refine thenN (hK2583 _ _ ?_); clear hK2583
                    by_cases hp2584 : (bt a0 0) = 138
                    · skip
                      replace h := ite_pos' h hp2584
                      refine condT ha KR KR (t := ((bt a0 0) == 138)) (ieq_t hp2584) ?_
                      refine wp_skip ?_
                      exact thenN ⟨((bt a0 0) == 138), h, ha.sub (subs_cons KR (subs_cons KR (subs_cons KR (subs_cons KR (subs_cons KR (subs_nil _)))))), HW.pick [0, 1] [] (by decide) (by decide) KR KR⟩
                    · skip
                      replace h := ite_neg' h hp2584
                      refine condF ha KR KR (t := ((bt a0 0) == 138)) (ieq_f hp2584) ?_
                      refine wp_region_lit ?_
                      refine stepp ha 67 (.bool ((bt a0 0) == 147)) KR KR ?_; clear ha a; intro a ha
                      refine stepp ha 64 (.bool ((bt a0 0) == 147)) KR KR ?_; clear ha a; intro a ha
                      refine endl ?_
                      exact thenN ⟨((bt a0 0) == 147), h, ha.sub (subs_cons KR (subs_cons KR (subs_cons KR (subs_cons KR (subs_cons KR (subs_nil _)))))), HW.pick [0, 1] [] (by decide) (by decide) KR KR⟩
                · skip
                  intro a W2586 hJ
                  obtain ⟨x2585, h, ha, HW⟩ := hJ
                  replace h : headgateref15_Parse.j2 K a0 x2585 = some r := h
                  unfold headgateref15_Parse.j2 at h
                  refine hK2578 _ _ ?_; clear hK2578
                  by_cases hp2587 : x2585 = true
                  · skip
                    replace h := ite_pos' h hp2587
                    refine condT ha KR KR (t := x2585) (hp2587) ?_
                    refine wp_seq_k (fun K2588 hK2589 => ?_)
                    refine wp_region_lit ?_
                    refine stepp ha 68 (.string a0) KR KR ?_; clear ha a; intro a ha
                    obtain ⟨t2590, ht2591, h_⟩ := bind_some' h; clear h; have h := h_; clear h_
                    refine stepc ha 69 KR KR (headgateref15_num.calls K a0 2 8 t2590 _ ht2591) ?_; clear ha a; rintro e W2592 ⟨rfl, HX2593⟩
                    refine ⟨_, rfl, ?_⟩; intro a ha; replace HW := HW.callw HX2593; clear HX2593
                    refine stepp ha 70 (.string a0) KR KR ?_; clear ha a; intro a ha
                    obtain ⟨t2594, ht2595, h_⟩ := bind_some' h; clear h; have h := h_; clear h_
                    refine stepc ha 71 KR KR (headgateref15_num.calls K a0 10 4 t2594 _ ht2595) ?_; clear ha a; rintro e W2596 ⟨rfl, HX2597⟩
                    refine ⟨_, rfl, ?_⟩; intro a ha; replace HW := HW.callw HX2597; clear HX2597
                    refine stepp ha 72 (.pointer (some ⟨b2528, 1, none⟩)) KR KR ?_; clear ha a; intro a ha
                    refine stepst ha HW 1 (b := b2528) (C := #[.int .i64 (IntKind.wrap .i64 (bt a0 0)), .int .i64 0, .int .i64 0, .bool false, .int .i64 0, .int .i64 0, .int .i64 0]) (T := 43) KR 3 1 (.tmp 72) (.tmp 69) (.int .i64 t2590) #[.int .i64 (IntKind.wrap .i64 (bt a0 0)), .int .i64 t2590, .int .i64 0, .bool false, .int .i64 0, .int .i64 0, .int .i64 0] rfl KR KR KR KR KR KR KR ?_; clear ha HW a; intro a W2598 HW ha
                    refine stepp ha 73 (.pointer (some ⟨b2528, 2, none⟩)) KR KR ?_; clear ha a; intro a ha
                    refine stepst ha HW 1 (b := b2528) (C := #[.int .i64 (IntKind.wrap .i64 (bt a0 0)), .int .i64 t2590, .int .i64 0, .bool false, .int .i64 0, .int .i64 0, .int .i64 0]) (T := 43) KR 3 2 (.tmp 73) (.tmp 71) (.int .i64 t2594) #[.int .i64 (IntKind.wrap .i64 (bt a0 0)), .int .i64 t2590, .int .i64 t2594, .bool false, .int .i64 0, .int .i64 0, .int .i64 0] rfl KR KR KR KR KR KR KR ?_; clear ha HW a; intro a W2599 HW ha
                    refine endl ?_
                    refine thenN (hK2589 _ _ ?_); clear hK2589
                    refine wp_seq_k (fun K2600 hK2601 => ?_)
                    refine cutn (fun a W2607 => ∃ (x2606 : Bool), headgateref15_Parse.j3 K a0 t2590 t2594 x2606 = some r ∧ Has 142 [(0, .string a0), (2, .pointer (some ⟨b2499, 0, none⟩)), (5, .pointer (some ⟨b2528, 0, none⟩))] a ∧ Wd w W2607 [(b2499, .cells #[.int .i64 0, .int .i64 0, .int .i64 0, .bool false, .int .i64 0, .int .i64 0, .int .i64 0] 43 (0, 0)), (b2528, .cells #[.int .i64 (IntKind.wrap .i64 (bt a0 0)), .int .i64 t2590, .int .i64 t2594, .bool x2606, .int .i64 0, .int .i64 0, .int .i64 0] 43 (0, 0))] []) ?_ ?_
                    · skip
                      refine wp_region_lit ?_
                      refine stepp ha 74 (.string a0) KR KR ?_; clear ha a; intro a ha
                      refine stepsi ha 75 9 (.tmp 74) (.const (.int .i64 0)) a0 .i64 0 rfl KR KR KR (by decide) (show (0 : Int) < ((a0).size : Int) from hA2527) KR ?_; clear ha a; intro a ha
                      refine stepp ha 76 (.bool ((bt a0 0) == 138)) KR KR ?_; clear ha a; intro a ha
                      refine stepp ha 77 (.bool ((bt a0 0) == 138)) KR KR ?_; clear ha a; intro a ha
                      by_cases hp2602 : (bt a0 0) = 138
                      · skip
                        replace h := ite_pos' h hp2602
                        replace ha := ha.bool 77 KR (ieq_t hp2602)
                        refine stepp ha 78 (.string a0) KR KR ?_; clear ha a; intro a ha
                        obtain ⟨hA2603, h_⟩ := asrt_some h; clear h; have h := h_; clear h_
                        refine stepsi ha 79 9 (.tmp 78) (.const (.int .i64 1)) a0 .i64 1 rfl KR KR KR (by decide) (show (1 : Int) < ((a0).size : Int) from hA2603) KR ?_; clear ha a; intro a ha
                        refine stepp ha 80 (.int .u8 (IntKind.wrap .u8 (Int.tdiv (bt a0 1) 8))) KR KR ?_; clear ha a; intro a ha
                        refine stepp ha 81 (.int .u8 (Int.tmod (IntKind.wrap .u8 (Int.tdiv (bt a0 1) 8)) 2)) KR KR ?_; clear ha a; intro a ha
                        refine stepp ha 82 (.bool ((Int.tmod (IntKind.wrap .u8 (Int.tdiv (bt a0 1) 8)) 2) == 1)) KR KR ?_; clear ha a; intro a ha
                        refine stepp ha 83 (.bool ((Int.tmod (IntKind.wrap .u8 (Int.tdiv (bt a0 1) 8)) 2) == 1)) KR KR ?_; clear ha a; intro a ha
                        refine stepp ha 84 (.pointer (some ⟨b2528, 3, none⟩)) KR KR ?_; clear ha a; intro a ha
                        refine stepst ha HW 1 (b := b2528) (C := #[.int .i64 (IntKind.wrap .i64 (bt a0 0)), .int .i64 t2590, .int .i64 t2594, .bool false, .int .i64 0, .int .i64 0, .int .i64 0]) (T := 43) KR 4 3 (.tmp 84) (.tmp 83) (.bool ((Int.tmod (IntKind.wrap .u8 (Int.tdiv (bt a0 1) 8)) 2) == 1)) #[.int .i64 (IntKind.wrap .i64 (bt a0 0)), .int .i64 t2590, .int .i64 t2594, .bool ((Int.tmod (IntKind.wrap .u8 (Int.tdiv (bt a0 1) 8)) 2) == 1), .int .i64 0, .int .i64 0, .int .i64 0] rfl KR KR KR KR KR KR KR ?_; clear ha HW a; intro a W2604 HW ha
                        refine endl ?_
                        exact thenN ⟨((Int.tmod (IntKind.wrap .u8 (Int.tdiv (bt a0 1) 8)) 2) == 1), h, ha.sub (subs_cons KR (subs_cons KR (subs_cons KR (subs_nil _)))), HW.pick [0, 1] [] (by decide) (by decide) KR KR⟩
                      · skip
                        replace h := ite_neg' h hp2602
                        replace ha := ha.bool 77 KR (ieq_f hp2602)
                        refine stepo ha 78 KR ?_; clear ha a; intro a ha
                        refine stepo ha 79 KR ?_; clear ha a; intro a ha
                        refine stepo ha 80 KR ?_; clear ha a; intro a ha
                        refine stepo ha 81 KR ?_; clear ha a; intro a ha
                        refine stepo ha 82 KR ?_; clear ha a; intro a ha
                        refine stepp ha 83 (.bool false) KR KR ?_; clear ha a; intro a ha
                        refine stepp ha 84 (.pointer (some ⟨b2528, 3, none⟩)) KR KR ?_; clear ha a; intro a ha
                        refine stepst ha HW 1 (b := b2528) (C := #[.int .i64 (IntKind.wrap .i64 (bt a0 0)), .int .i64 t2590, .int .i64 t2594, .bool false, .int .i64 0, .int .i64 0, .int .i64 0]) (T := 43) KR 4 3 (.tmp 84) (.tmp 83) (.bool false) #[.int .i64 (IntKind.wrap .i64 (bt a0 0)), .int .i64 t2590, .int .i64 t2594, .bool false, .int .i64 0, .int .i64 0, .int .i64 0] rfl KR KR KR KR KR KR KR ?_; clear ha HW a; intro a W2605 HW ha
                        refine endl ?_
                        exact thenN ⟨false, h, ha.sub (subs_cons KR (subs_cons KR (subs_cons KR (subs_nil _)))), HW.pick [0, 1] [] (by decide) (by decide) KR KR⟩
                    · skip
                      intro a W2607 hJ
                      obtain ⟨x2606, h, ha, HW⟩ := hJ
                      replace h : headgateref15_Parse.j3 K a0 t2590 t2594 x2606 = some r := h
                      unfold headgateref15_Parse.j3 at h
                      refine hK2601 _ _ ?_; clear hK2601
                      refine wp_seq_k (fun K2608 hK2609 => ?_)
                      refine wp_region_lit ?_
                      refine stepp ha 85 (.string a0) KR KR ?_; clear ha a; intro a ha
                      refine stepsi ha 86 9 (.tmp 85) (.const (.int .i64 0)) a0 .i64 0 rfl KR KR KR (by decide) (show (0 : Int) < ((a0).size : Int) from hA2527) KR ?_; clear ha a; intro a ha
                      refine stepp ha 87 (.bool ((bt a0 0) == 147)) KR KR ?_; clear ha a; intro a ha
                      refine stepp ha 88 (.bool ((bt a0 0) == 147)) KR KR ?_; clear ha a; intro a ha
                      by_cases hp2610 : (bt a0 0) = 147
                      · skip
                        replace h := ite_pos' h hp2610
                        replace ha := ha.bool 88 KR (ieq_t hp2610)
                        refine stepp ha 89 (.string a0) KR KR ?_; clear ha a; intro a ha
                        obtain ⟨hA2611, h_⟩ := asrt_some h; clear h; have h := h_; clear h_
                        refine stepsi ha 90 9 (.tmp 89) (.const (.int .i64 1)) a0 .i64 1 rfl KR KR KR (by decide) (show (1 : Int) < ((a0).size : Int) from hA2611) KR ?_; clear ha a; intro a ha
                        refine stepp ha 91 (.int .u8 (Int.tmod (bt a0 1) 2)) KR KR ?_; clear ha a; intro a ha
                        refine stepp ha 92 (.bool ((Int.tmod (bt a0 1) 2) == 0)) KR KR ?_; clear ha a; intro a ha
                        refine stepp ha 93 (.bool ((Int.tmod (bt a0 1) 2) == 0)) KR KR ?_; clear ha a; intro a ha
                        refine endl ?_
                        refine thenN (hK2609 _ _ ?_); clear hK2609
                        by_cases hp2612 : (Int.tmod (bt a0 1) 2) = 0
                        · skip
                          replace h := ite_pos' h hp2612
                          refine condT ha KR KR (t := ((Int.tmod (bt a0 1) 2) == 0)) (ieq_t hp2612) ?_
                          refine wp_seq_k (fun K2613 hK2614 => ?_)
                          refine wp_region_lit ?_
                          refine stepp ha 94 (.agg #[.int .i64 0, .int .i64 0, .int .i64 0, .bool false, .int .i64 0, .int .i64 0, .int .i64 0]) KR KR ?_; clear ha a; intro a ha
                          refine stepst ha HW 0 (b := b2499) (C := #[.int .i64 0, .int .i64 0, .int .i64 0, .bool false, .int .i64 0, .int .i64 0, .int .i64 0]) (T := 43) KR 43 0 (.tmp 2) (.tmp 94) (.agg #[.int .i64 0, .int .i64 0, .int .i64 0, .bool false, .int .i64 0, .int .i64 0, .int .i64 0]) #[.int .i64 0, .int .i64 0, .int .i64 0, .bool false, .int .i64 0, .int .i64 0, .int .i64 0] rfl KR KR KR KR KR KR KR ?_; clear ha HW a; intro a W2615 HW ha
                          refine stepp ha 3 (.int .i64 150) KR KR ?_; clear ha a; intro a ha
                          refine endl ?_
                          refine thenN (hK2614 _ _ ?_); clear hK2614
                          refine wp_ret ?_
                          refine blkR ?_
                          refine thenR ?_
                          obtain rfl := Option.some.inj h
                          exact finv ha _ _ rfl (.cell (ad := ⟨b2499, 0, none⟩) (v := .agg #[.int .i64 0, .int .i64 0, .int .i64 0, .bool false, .int .i64 0, .int .i64 0, .int .i64 0]) KR (run_loadVar_ca0 (HW.ca (i := 0) (b := b2499) (C := #[.int .i64 0, .int .i64 0, .int .i64 0, .bool false, .int .i64 0, .int .i64 0, .int .i64 0]) (T := 43) (fr := (0, 0)) KR) 43 0 (.agg #[.int .i64 0, .int .i64 0, .int .i64 0, .bool false, .int .i64 0, .int .i64 0, .int .i64 0]) KR) (.tmp (v := .int .i64 150) KR .nil)) (.tuple #[.agg #[.int .i64 0, .int .i64 0, .int .i64 0, .bool false, .int .i64 0, .int .i64 0, .int .i64 0], .int .i64 150]) rfl ⟨rfl, HW.pick [] [] (by decide) (by decide) rfl KR⟩
                        · skip
                          replace h := ite_neg' h hp2612
                          refine condF ha KR KR (t := ((Int.tmod (bt a0 1) 2) == 0)) (ieq_f hp2612) ?_
                          refine wp_skip ?_
                          refine blkN ?_
                          exact thenN ⟨t2590, t2594, x2606, 0, 0, h, ha.sub (subs_cons KR (subs_cons KR (subs_cons KR (subs_nil _)))), HW.pick [0, 1] [] (by decide) (by decide) KR KR⟩
                      · skip
                        replace h := ite_neg' h hp2610
                        replace ha := ha.bool 88 KR (ieq_f hp2610)
                        refine stepo ha 89 KR ?_; clear ha a; intro a ha
                        refine stepo ha 90 KR ?_; clear ha a; intro a ha
                        refine stepo ha 91 KR ?_; clear ha a; intro a ha
                        refine stepo ha 92 KR ?_; clear ha a; intro a ha
                        refine stepp ha 93 (.bool false) KR KR ?_; clear ha a; intro a ha
                        refine endl ?_
                        refine thenN (hK2609 _ _ ?_); clear hK2609
                        refine condF ha KR KR (t := false) (rfl) ?_
                        refine wp_skip ?_
                        refine blkN ?_
                        exact thenN ⟨t2590, t2594, x2606, 0, 0, h, ha.sub (subs_cons KR (subs_cons KR (subs_cons KR (subs_nil _)))), HW.pick [0, 1] [] (by decide) (by decide) KR KR⟩
                  · skip
                    replace h := ite_neg' h hp2587
                    refine condF ha KR KR (t := x2585) (bool_f hp2587) ?_
                    refine wp_seq_k (fun K2616 hK2617 => ?_)
                    refine wp_region_lit ?_
                    refine stepp ha 96 (.bool ((bt a0 0) == 137)) KR KR ?_; clear ha a; intro a ha
                    refine stepp ha 95 (.bool ((bt a0 0) == 137)) KR KR ?_; clear ha a; intro a ha
                    refine endl ?_
                    refine thenN (hK2617 _ _ ?_); clear hK2617
                    by_cases hp2618 : (bt a0 0) = 137
                    · skip
                      replace h := ite_pos' h hp2618
                      refine condT ha KR KR (t := ((bt a0 0) == 137)) (ieq_t hp2618) ?_
                      obtain ⟨t2619, ht2620, h_⟩ := bind_some' h; clear h; have h := h_; clear h_
                      obtain ⟨hA2623, h_⟩ := asrt_some h; clear h; have h := h_; clear h_
                      refine regionL 7 KR ([(b2499, .cells #[.int .i64 0, .int .i64 0, .int .i64 0, .bool false, .int .i64 0, .int .i64 0, .int .i64 0] 43 (0, 0))], []) ([(b2499, .cells #[.int .i64 0, .int .i64 0, .int .i64 0, .bool false, .int .i64 0, .int .i64 0, .int .i64 0] 43 (0, 0)), (b2528, .cells #[.int .i64 (IntKind.wrap .i64 (bt a0 0)), .int .i64 0, .int .i64 0, .bool false, .int .i64 0, .int .i64 0, .int .i64 0] 43 (0, 0))], []) [none, none, none, none, none, none, some ([(b2499, .cells #[.int .i64 0, .int .i64 0, .int .i64 0, .bool false, .int .i64 0, .int .i64 0, .int .i64 0] 43 (0, 0)), (b2528, .cells #[.int .i64 (IntKind.wrap .i64 (bt a0 0)), .int .i64 t2619, .int .i64 0, .bool false, .int .i64 0, .int .i64 0, .int .i64 0] 43 (0, 0))], [])] [.fix (.string a0), .fix (.int .i64 t2619), .fix (.string a0), .fix (.int .u8 (bt a0 13)), .fix (.int .i64 (IntKind.wrap .i64 (bt a0 13))), .fix (.pointer (some ⟨b2528, 1, none⟩)), .any] KR ha HW ⟨(fun w_ h_ => h_.pick [0] [] (by decide) (by decide) KR KR), (fun w_ h_ => h_.pick [0] [] (by decide) (by decide) KR KR)⟩ ?_ ?_
                      · skip
                        refine ⟨?_, ?_, ?_, ?_, ?_, ?_, ?_, trivial⟩
                        · skip
                          intro a wr hn hd HW hs; have ha := hasNil hn hd
                          have ha := ha.add (seeE hs 0 (.string a0) KR KR)
                          refine yStep ha 97 KR ?_; intro l_ ha HK
                          refine stepp ha 97 (.string a0) KR KR ?_; intro ax hax; exact HK _ _ _ hax rfl (Below.refl _ _)
                        · skip
                          intro a wr hn hd HW hs; have ha := hasNil hn hd
                          have ha := ha.add (seeF hs 97 0 (.string a0) KR KR)
                          refine yStep ha 98 KR ?_; intro l_ ha HK
                          refine stepc ha 98 KR KR (headgateref15_num.calls K a0 2 8 t2619 _ ht2620) ?_; rintro e W2621 ⟨rfl, HX2622⟩
                          refine ⟨_, rfl, ?_⟩; intro ax hax; exact HK _ _ _ hax rfl HX2622.below
                        · skip
                          intro a wr hn hd HW hs; have ha := hasNil hn hd
                          have ha := ha.add (seeE hs 0 (.string a0) KR KR)
                          refine yStep ha 99 KR ?_; intro l_ ha HK
                          refine stepp ha 99 (.string a0) KR KR ?_; intro ax hax; exact HK _ _ _ hax rfl (Below.refl _ _)
                        · skip
                          intro a wr hn hd HW hs; have ha := hasNil hn hd
                          have ha := ha.add (seeF hs 99 2 (.string a0) KR KR)
                          refine yStep ha 100 KR ?_; intro l_ ha HK
                          refine stepsi ha 100 9 (.tmp 99) (.const (.int .i64 13)) a0 .i64 13 rfl KR KR KR (by decide) (show (13 : Int) < ((a0).size : Int) from hA2623) KR ?_; intro ax hax; exact HK _ _ _ hax rfl (Below.refl _ _)
                        · skip
                          intro a wr hn hd HW hs; have ha := hasNil hn hd
                          have ha := ha.add (seeF hs 100 3 (.int .u8 (bt a0 13)) KR KR)
                          refine yStep ha 101 KR ?_; intro l_ ha HK
                          refine stepp ha 101 (.int .i64 (IntKind.wrap .i64 (bt a0 13))) KR KR ?_; intro ax hax; exact HK _ _ _ hax rfl (Below.refl _ _)
                        · skip
                          intro a wr hn hd HW hs; have ha := hasNil hn hd
                          have ha := ha.add (seeE hs 5 (.pointer (some ⟨b2528, 0, none⟩)) KR KR)
                          refine yStep ha 102 KR ?_; intro l_ ha HK
                          refine stepp ha 102 (.pointer (some ⟨b2528, 1, none⟩)) KR KR ?_; intro ax hax; exact HK _ _ _ hax rfl (Below.refl _ _)
                        · skip
                          intro a wr hn hd HW hs; have ha := hasNil hn hd
                          have ha := ha.add (seeF hs 98 1 (.int .i64 t2619) KR KR)
                          have ha := ha.add (seeF hs 102 5 (.pointer (some ⟨b2528, 1, none⟩)) KR KR)
                          refine yStepS ha KR ?_; intro l_ ha HK
                          refine stepst ha HW 1 (b := b2528) (C := #[.int .i64 (IntKind.wrap .i64 (bt a0 0)), .int .i64 0, .int .i64 0, .bool false, .int .i64 0, .int .i64 0, .int .i64 0]) (T := 43) KR 3 1 (.tmp 102) (.tmp 98) (.int .i64 t2619) #[.int .i64 (IntKind.wrap .i64 (bt a0 0)), .int .i64 t2619, .int .i64 0, .bool false, .int .i64 0, .int .i64 0, .int .i64 0] rfl KR KR KR KR KR KR KR ?_; intro ax wx HV hax; exact HK _ _ hax HV
                      · skip
                        intro a W2625 ha HW he hf
                        replace HW : Wd w W2625 [(b2499, .cells #[.int .i64 0, .int .i64 0, .int .i64 0, .bool false, .int .i64 0, .int .i64 0, .int .i64 0] 43 (0, 0)), (b2528, .cells #[.int .i64 (IntKind.wrap .i64 (bt a0 0)), .int .i64 t2619, .int .i64 0, .bool false, .int .i64 0, .int .i64 0, .int .i64 0] 43 (0, 0))] [] := HW
                        replace ha := ha.add (he 0 (.string a0) KR KR)
                        replace ha := ha.add (he 2 (.pointer (some ⟨b2499, 0, none⟩)) KR KR)
                        replace ha := ha.add (he 5 (.pointer (some ⟨b2528, 0, none⟩)) KR KR)
                        replace ha := ha.add (gotF (m := 7) (j := 4) (d := 101) (v := .int .i64 (IntKind.wrap .i64 (bt a0 13))) hf KR KR KR)
                        clear he hf
                        refine stepp ha 103 (.pointer (some ⟨b2528, 2, none⟩)) KR KR ?_; clear ha a; intro a ha
                        refine stepst ha HW 1 (b := b2528) (C := #[.int .i64 (IntKind.wrap .i64 (bt a0 0)), .int .i64 t2619, .int .i64 0, .bool false, .int .i64 0, .int .i64 0, .int .i64 0]) (T := 43) KR 3 2 (.tmp 103) (.tmp 101) (.int .i64 (IntKind.wrap .i64 (bt a0 13))) #[.int .i64 (IntKind.wrap .i64 (bt a0 0)), .int .i64 t2619, .int .i64 (IntKind.wrap .i64 (bt a0 13)), .bool false, .int .i64 0, .int .i64 0, .int .i64 0] rfl KR KR KR KR KR KR KR ?_; clear ha HW a; intro a W2626 HW ha
                        refine endl ?_
                        refine blkN ?_
                        exact thenN ⟨t2619, IntKind.wrap .i64 (bt a0 13), false, 0, 0, h, ha.sub (subs_cons KR (subs_cons KR (subs_cons KR (subs_nil _)))), HW.pick [0, 1] [] (by decide) (by decide) KR KR⟩
                    · skip
                      replace h := ite_neg' h hp2618
                      refine condF ha KR KR (t := ((bt a0 0) == 137)) (ieq_f hp2618) ?_
                      refine wp_seq_k (fun K2627 hK2628 => ?_)
                      refine wp_region_lit ?_
                      refine stepp ha 105 (.bool ((bt a0 0) == 66)) KR KR ?_; clear ha a; intro a ha
                      refine stepp ha 104 (.bool ((bt a0 0) == 66)) KR KR ?_; clear ha a; intro a ha
                      refine endl ?_
                      refine thenN (hK2628 _ _ ?_); clear hK2628
                      by_cases hp2629 : (bt a0 0) = 66
                      · skip
                        replace h := ite_pos' h hp2629
                        refine condT ha KR KR (t := ((bt a0 0) == 66)) (ieq_t hp2629) ?_
                        refine wp_region_lit ?_
                        refine stepp ha 106 (.string a0) KR KR ?_; clear ha a; intro a ha
                        obtain ⟨t2630, ht2631, h_⟩ := bind_some' h; clear h; have h := h_; clear h_
                        refine stepc ha 107 KR KR (headgateref15_num.calls K a0 7 2 t2630 _ ht2631) ?_; clear ha a; rintro e W2632 ⟨rfl, HX2633⟩
                        refine ⟨_, rfl, ?_⟩; intro a ha; replace HW := HW.callw HX2633; clear HX2633
                        refine stepp ha 108 (.pointer (some ⟨b2528, 5, none⟩)) KR KR ?_; clear ha a; intro a ha
                        refine stepst ha HW 1 (b := b2528) (C := #[.int .i64 (IntKind.wrap .i64 (bt a0 0)), .int .i64 0, .int .i64 0, .bool false, .int .i64 0, .int .i64 0, .int .i64 0]) (T := 43) KR 3 5 (.tmp 108) (.tmp 107) (.int .i64 t2630) #[.int .i64 (IntKind.wrap .i64 (bt a0 0)), .int .i64 0, .int .i64 0, .bool false, .int .i64 0, .int .i64 t2630, .int .i64 0] rfl KR KR KR KR KR KR KR ?_; clear ha HW a; intro a W2634 HW ha
                        refine endl ?_
                        refine blkN ?_
                        exact thenN ⟨0, 0, false, 0, t2630, h, ha.sub (subs_cons KR (subs_cons KR (subs_cons KR (subs_nil _)))), HW.pick [0, 1] [] (by decide) (by decide) KR KR⟩
                      · skip
                        replace h := ite_neg' h hp2629
                        refine condF ha KR KR (t := ((bt a0 0) == 66)) (ieq_f hp2629) ?_
                        refine wp_seq_k (fun K2635 hK2636 => ?_)
                        refine wp_region_lit ?_
                        refine stepp ha 110 (.bool ((bt a0 0) == 160)) KR KR ?_; clear ha a; intro a ha
                        refine stepp ha 109 (.bool ((bt a0 0) == 160)) KR KR ?_; clear ha a; intro a ha
                        refine endl ?_
                        refine thenN (hK2636 _ _ ?_); clear hK2636
                        by_cases hp2637 : (bt a0 0) = 160
                        · skip
                          replace h := ite_pos' h hp2637
                          refine condT ha KR KR (t := ((bt a0 0) == 160)) (ieq_t hp2637) ?_
                          refine wp_region_lit ?_
                          refine stepp ha 111 (.string a0) KR KR ?_; clear ha a; intro a ha
                          obtain ⟨t2638, ht2639, h_⟩ := bind_some' h; clear h; have h := h_; clear h_
                          refine stepc ha 112 KR KR (headgateref15_num.calls K a0 6 4 t2638 _ ht2639) ?_; clear ha a; rintro e W2640 ⟨rfl, HX2641⟩
                          refine ⟨_, rfl, ?_⟩; intro a ha; replace HW := HW.callw HX2641; clear HX2641
                          refine stepp ha 113 (.pointer (some ⟨b2528, 5, none⟩)) KR KR ?_; clear ha a; intro a ha
                          refine stepst ha HW 1 (b := b2528) (C := #[.int .i64 (IntKind.wrap .i64 (bt a0 0)), .int .i64 0, .int .i64 0, .bool false, .int .i64 0, .int .i64 0, .int .i64 0]) (T := 43) KR 3 5 (.tmp 113) (.tmp 112) (.int .i64 t2638) #[.int .i64 (IntKind.wrap .i64 (bt a0 0)), .int .i64 0, .int .i64 0, .bool false, .int .i64 0, .int .i64 t2638, .int .i64 0] rfl KR KR KR KR KR KR KR ?_; clear ha HW a; intro a W2642 HW ha
                          refine endl ?_
                          refine blkN ?_
                          exact thenN ⟨0, 0, false, 0, t2638, h, ha.sub (subs_cons KR (subs_cons KR (subs_cons KR (subs_nil _)))), HW.pick [0, 1] [] (by decide) (by decide) KR KR⟩
                        · skip
                          replace h := ite_neg' h hp2637
                          refine condF ha KR KR (t := ((bt a0 0) == 160)) (ieq_f hp2637) ?_
                          refine wp_seq_k (fun K2643 hK2644 => ?_)
                          refine cutn (fun a W2649 => ∃ (x2648 : Bool), headgateref15_Parse.j4 K a0 x2648 = some r ∧ Has 142 [(0, .string a0), (2, .pointer (some ⟨b2499, 0, none⟩)), (5, .pointer (some ⟨b2528, 0, none⟩)), (114, .bool x2648)] a ∧ Wd w W2649 [(b2499, .cells #[.int .i64 0, .int .i64 0, .int .i64 0, .bool false, .int .i64 0, .int .i64 0, .int .i64 0] 43 (0, 0)), (b2528, .cells #[.int .i64 (IntKind.wrap .i64 (bt a0 0)), .int .i64 0, .int .i64 0, .bool false, .int .i64 0, .int .i64 0, .int .i64 0] 43 (0, 0))] []) ?_ ?_
                          · skip
                            refine wp_seq_k (fun K2645 hK2646 => ?_)
                            refine wp_region_lit ?_
                            refine stepp ha 115 (.bool ((bt a0 0) == 94)) KR KR ?_; clear ha a; intro a ha
                            refine stepp ha 114 (.bool ((bt a0 0) == 94)) KR KR ?_; clear ha a; intro a ha
                            refine endl ?_
                            refine thenN (hK2646 _ _ ?_); clear hK2646
                            by_cases hp2647 : (bt a0 0) = 94
                            · skip
                              replace h := ite_pos' h hp2647
                              refine condT ha KR KR (t := ((bt a0 0) == 94)) (ieq_t hp2647) ?_
                              refine wp_skip ?_
                              exact thenN ⟨((bt a0 0) == 94), h, ha.sub (subs_cons KR (subs_cons KR (subs_cons KR (subs_cons KR (subs_nil _))))), HW.pick [0, 1] [] (by decide) (by decide) KR KR⟩
                            · skip
                              replace h := ite_neg' h hp2647
                              refine condF ha KR KR (t := ((bt a0 0) == 94)) (ieq_f hp2647) ?_
                              refine wp_region_lit ?_
                              refine stepp ha 116 (.bool ((bt a0 0) == 95)) KR KR ?_; clear ha a; intro a ha
                              refine stepp ha 114 (.bool ((bt a0 0) == 95)) KR KR ?_; clear ha a; intro a ha
                              refine endl ?_
                              exact thenN ⟨((bt a0 0) == 95), h, ha.sub (subs_cons KR (subs_cons KR (subs_cons KR (subs_cons KR (subs_nil _))))), HW.pick [0, 1] [] (by decide) (by decide) KR KR⟩
                          · skip
                            intro a W2649 hJ
                            obtain ⟨x2648, h, ha, HW⟩ := hJ
                            replace h : headgateref15_Parse.j4 K a0 x2648 = some r := h
                            unfold headgateref15_Parse.j4 at h
                            refine hK2644 _ _ ?_; clear hK2644
                            by_cases hp2650 : x2648 = true
                            · skip
                              replace h := ite_pos' h hp2650
                              refine condT ha KR KR (t := x2648) (hp2650) ?_
                              refine wp_seq_k (fun K2651 hK2652 => ?_)
                              refine wp_region_lit ?_
                              refine stepp ha 117 (.string a0) KR KR ?_; clear ha a; intro a ha
                              refine stepl ha 118 (HW.ca (i := 1) (b := b2528) (C := #[.int .i64 (IntKind.wrap .i64 (bt a0 0)), .int .i64 0, .int .i64 0, .bool false, .int .i64 0, .int .i64 0, .int .i64 0]) (T := 43) (fr := (0, 0)) KR) 43 0 (.tmp 5) (.agg #[.int .i64 (IntKind.wrap .i64 (bt a0 0)), .int .i64 0, .int .i64 0, .bool false, .int .i64 0, .int .i64 0, .int .i64 0]) rfl KR KR KR ?_; clear ha a; intro a ha
                              obtain ⟨t2653, ht2654, h_⟩ := bind_some' h; clear h; have h := h_; clear h_
                              refine stepc ha 119 KR KR (headgateref15_reservation.calls K a0 (⟨IntKind.wrap .i64 (bt a0 0), 0, 0, false, 0, 0, 0⟩ : T_headgateref15_Ask) t2653 _ ht2654) ?_; clear ha a; rintro e W2655 ⟨rfl, HX2656⟩
                              refine ⟨_, rfl, ?_⟩; intro a ha; replace HW := HW.callw HX2656; clear HX2656
                              refine stepp ha 120 (.agg #[.int .i64 t2653.1.f0, .int .i64 t2653.1.f1, .int .i64 t2653.1.f2, .bool t2653.1.f3, .int .i64 t2653.1.f4, .int .i64 t2653.1.f5, .int .i64 t2653.1.f6]) KR KR ?_; clear ha a; intro a ha
                              refine stepp ha 121 (.int .i64 t2653.2) KR KR ?_; clear ha a; intro a ha
                              refine stepst ha HW 0 (b := b2499) (C := #[.int .i64 0, .int .i64 0, .int .i64 0, .bool false, .int .i64 0, .int .i64 0, .int .i64 0]) (T := 43) KR 43 0 (.tmp 2) (.tmp 120) (.agg #[.int .i64 t2653.1.f0, .int .i64 t2653.1.f1, .int .i64 t2653.1.f2, .bool t2653.1.f3, .int .i64 t2653.1.f4, .int .i64 t2653.1.f5, .int .i64 t2653.1.f6]) #[.int .i64 t2653.1.f0, .int .i64 t2653.1.f1, .int .i64 t2653.1.f2, .bool t2653.1.f3, .int .i64 t2653.1.f4, .int .i64 t2653.1.f5, .int .i64 t2653.1.f6] rfl KR KR KR KR KR KR KR ?_; clear ha HW a; intro a W2657 HW ha
                              refine stepp ha 3 (.int .i64 t2653.2) KR KR ?_; clear ha a; intro a ha
                              refine endl ?_
                              refine thenN (hK2652 _ _ ?_); clear hK2652
                              refine wp_ret ?_
                              refine blkR ?_
                              refine thenR ?_
                              obtain rfl := Option.some.inj h
                              exact finv ha _ _ rfl (.cell (ad := ⟨b2499, 0, none⟩) (v := .agg #[.int .i64 t2653.1.f0, .int .i64 t2653.1.f1, .int .i64 t2653.1.f2, .bool t2653.1.f3, .int .i64 t2653.1.f4, .int .i64 t2653.1.f5, .int .i64 t2653.1.f6]) KR (run_loadVar_ca0 (HW.ca (i := 0) (b := b2499) (C := #[.int .i64 t2653.1.f0, .int .i64 t2653.1.f1, .int .i64 t2653.1.f2, .bool t2653.1.f3, .int .i64 t2653.1.f4, .int .i64 t2653.1.f5, .int .i64 t2653.1.f6]) (T := 43) (fr := (0, 0)) KR) 43 0 (.agg #[.int .i64 t2653.1.f0, .int .i64 t2653.1.f1, .int .i64 t2653.1.f2, .bool t2653.1.f3, .int .i64 t2653.1.f4, .int .i64 t2653.1.f5, .int .i64 t2653.1.f6]) KR) (.tmp (v := .int .i64 t2653.2) KR .nil)) (.tuple #[.agg #[.int .i64 t2653.1.f0, .int .i64 t2653.1.f1, .int .i64 t2653.1.f2, .bool t2653.1.f3, .int .i64 t2653.1.f4, .int .i64 t2653.1.f5, .int .i64 t2653.1.f6], .int .i64 t2653.2]) rfl ⟨rfl, HW.pick [] [] (by decide) (by decide) rfl KR⟩
                            · skip
                              replace h := ite_neg' h hp2650
                              refine condF ha KR KR (t := x2648) (bool_f hp2650) ?_
                              refine wp_skip ?_
                              refine blkN ?_
                              exact thenN ⟨0, 0, false, 0, 0, h, ha.sub (subs_cons KR (subs_cons KR (subs_cons KR (subs_nil _)))), HW.pick [0, 1] [] (by decide) (by decide) KR KR⟩
        · skip
          intro a W2663 hJ
          obtain ⟨x2658, x2659, x2660, x2661, x2662, h, ha, HW⟩ := hJ
          replace h : headgateref15_Parse.j5 K a0 x2658 x2659 x2660 x2661 x2662 = some r := h
          unfold headgateref15_Parse.j5 at h
          refine hK2532 _ _ ?_; clear hK2532
          refine wp_seq_k (fun K2664 hK2665 => ?_)
          refine wp_seq_k (fun K2666 hK2667 => ?_)
          refine wp_region_lit ?_
          refine stepp ha 122 (.string a0) KR KR ?_; clear ha a; intro a ha
          refine stepsi ha 123 9 (.tmp 122) (.const (.int .i64 0)) a0 .i64 0 rfl KR KR KR (by decide) (show (0 : Int) < ((a0).size : Int) from hA2527) KR ?_; clear ha a; intro a ha
          refine stepp ha 124 (.bool (decide ((bt a0 0) ≥ 136))) KR KR ?_; clear ha a; intro a ha
          refine stepp ha 125 (.bool (decide ((bt a0 0) ≥ 136))) KR KR ?_; clear ha a; intro a ha
          by_cases hp2668 : (bt a0 0) ≥ 136
          · skip
            replace h := ite_pos' h hp2668
            replace ha := ha.bool 125 KR (decide_eq_true hp2668)
            refine stepp ha 126 (.string a0) KR KR ?_; clear ha a; intro a ha
            refine stepsi ha 127 9 (.tmp 126) (.const (.int .i64 0)) a0 .i64 0 rfl KR KR KR (by decide) (show (0 : Int) < ((a0).size : Int) from hA2527) KR ?_; clear ha a; intro a ha
            refine stepp ha 128 (.bool (decide ((bt a0 0) ≤ 147))) KR KR ?_; clear ha a; intro a ha
            refine stepp ha 129 (.bool (decide ((bt a0 0) ≤ 147))) KR KR ?_; clear ha a; intro a ha
            refine stepp ha 130 (.bool (decide ((bt a0 0) ≤ 147))) KR KR ?_; clear ha a; intro a ha
            by_cases hp2669 : (bt a0 0) ≤ 147
            · skip
              replace h := ite_pos' h hp2669
              replace ha := ha.bool 130 KR (decide_eq_true hp2669)
              refine stepp ha 131 (.pointer (some ⟨b2528, 1, none⟩)) KR KR ?_; clear ha a; intro a ha
              refine stepl ha 132 (HW.ca (i := 1) (b := b2528) (C := #[.int .i64 (IntKind.wrap .i64 (bt a0 0)), .int .i64 x2658, .int .i64 x2659, .bool x2660, .int .i64 x2661, .int .i64 x2662, .int .i64 0]) (T := 43) (fr := (0, 0)) KR) 3 1 (.tmp 131) (.int .i64 x2658) rfl KR KR KR ?_; clear ha a; intro a ha
              refine stepp ha 133 (.bool (decide (x2658 ≥ 2147483648))) KR KR ?_; clear ha a; intro a ha
              refine stepp ha 134 (.bool (decide (x2658 ≥ 2147483648))) KR KR ?_; clear ha a; intro a ha
              by_cases hp2670 : x2658 ≥ 2147483648
              · skip
                replace h := ite_pos' h hp2670
                replace ha := ha.bool 134 KR (decide_eq_true hp2670)
                refine stepo ha 135 KR ?_; clear ha a; intro a ha
                refine stepo ha 136 KR ?_; clear ha a; intro a ha
                refine stepo ha 137 KR ?_; clear ha a; intro a ha
                refine stepp ha 138 (.bool true) KR KR ?_; clear ha a; intro a ha
                refine stepp ha 139 (.bool true) KR KR ?_; clear ha a; intro a ha
                refine endl ?_
                refine thenN (hK2667 _ _ ?_); clear hK2667
                refine condT ha KR KR (t := true) (rfl) ?_
                refine wp_seq_k (fun K2671 hK2672 => ?_)
                refine wp_region_lit ?_
                refine stepp ha 140 (.agg #[.int .i64 0, .int .i64 0, .int .i64 0, .bool false, .int .i64 0, .int .i64 0, .int .i64 0]) KR KR ?_; clear ha a; intro a ha
                refine stepst ha HW 0 (b := b2499) (C := #[.int .i64 0, .int .i64 0, .int .i64 0, .bool false, .int .i64 0, .int .i64 0, .int .i64 0]) (T := 43) KR 43 0 (.tmp 2) (.tmp 140) (.agg #[.int .i64 0, .int .i64 0, .int .i64 0, .bool false, .int .i64 0, .int .i64 0, .int .i64 0]) #[.int .i64 0, .int .i64 0, .int .i64 0, .bool false, .int .i64 0, .int .i64 0, .int .i64 0] rfl KR KR KR KR KR KR KR ?_; clear ha HW a; intro a W2673 HW ha
                refine stepp ha 3 (.int .i64 150) KR KR ?_; clear ha a; intro a ha
                refine endl ?_
                refine thenN (hK2672 _ _ ?_); clear hK2672
                refine wp_ret ?_
                refine thenR ?_
                obtain rfl := Option.some.inj h
                exact finv ha _ _ rfl (.cell (ad := ⟨b2499, 0, none⟩) (v := .agg #[.int .i64 0, .int .i64 0, .int .i64 0, .bool false, .int .i64 0, .int .i64 0, .int .i64 0]) KR (run_loadVar_ca0 (HW.ca (i := 0) (b := b2499) (C := #[.int .i64 0, .int .i64 0, .int .i64 0, .bool false, .int .i64 0, .int .i64 0, .int .i64 0]) (T := 43) (fr := (0, 0)) KR) 43 0 (.agg #[.int .i64 0, .int .i64 0, .int .i64 0, .bool false, .int .i64 0, .int .i64 0, .int .i64 0]) KR) (.tmp (v := .int .i64 150) KR .nil)) (.tuple #[.agg #[.int .i64 0, .int .i64 0, .int .i64 0, .bool false, .int .i64 0, .int .i64 0, .int .i64 0], .int .i64 150]) rfl ⟨rfl, HW.pick [] [] (by decide) (by decide) rfl KR⟩
              · skip
                replace h := ite_neg' h hp2670
                replace ha := ha.bool 134 KR (decide_eq_false hp2670)
                refine stepp ha 135 (.pointer (some ⟨b2528, 2, none⟩)) KR KR ?_; clear ha a; intro a ha
                refine stepl ha 136 (HW.ca (i := 1) (b := b2528) (C := #[.int .i64 (IntKind.wrap .i64 (bt a0 0)), .int .i64 x2658, .int .i64 x2659, .bool x2660, .int .i64 x2661, .int .i64 x2662, .int .i64 0]) (T := 43) (fr := (0, 0)) KR) 3 2 (.tmp 135) (.int .i64 x2659) rfl KR KR KR ?_; clear ha a; intro a ha
                refine stepp ha 137 (.bool (decide (x2659 ≥ 2147483648))) KR KR ?_; clear ha a; intro a ha
                refine stepp ha 138 (.bool (decide (x2659 ≥ 2147483648))) KR KR ?_; clear ha a; intro a ha
                refine stepp ha 139 (.bool (decide (x2659 ≥ 2147483648))) KR KR ?_; clear ha a; intro a ha
                refine endl ?_
                refine thenN (hK2667 _ _ ?_); clear hK2667
                by_cases hp2674 : x2659 ≥ 2147483648
                · skip
                  replace h := ite_pos' h hp2674
                  refine condT ha KR KR (t := decide (x2659 ≥ 2147483648)) (decide_eq_true hp2674) ?_
                  refine wp_seq_k (fun K2675 hK2676 => ?_)
                  refine wp_region_lit ?_
                  refine stepp ha 140 (.agg #[.int .i64 0, .int .i64 0, .int .i64 0, .bool false, .int .i64 0, .int .i64 0, .int .i64 0]) KR KR ?_; clear ha a; intro a ha
                  refine stepst ha HW 0 (b := b2499) (C := #[.int .i64 0, .int .i64 0, .int .i64 0, .bool false, .int .i64 0, .int .i64 0, .int .i64 0]) (T := 43) KR 43 0 (.tmp 2) (.tmp 140) (.agg #[.int .i64 0, .int .i64 0, .int .i64 0, .bool false, .int .i64 0, .int .i64 0, .int .i64 0]) #[.int .i64 0, .int .i64 0, .int .i64 0, .bool false, .int .i64 0, .int .i64 0, .int .i64 0] rfl KR KR KR KR KR KR KR ?_; clear ha HW a; intro a W2677 HW ha
                  refine stepp ha 3 (.int .i64 150) KR KR ?_; clear ha a; intro a ha
                  refine endl ?_
                  refine thenN (hK2676 _ _ ?_); clear hK2676
                  refine wp_ret ?_
                  refine thenR ?_
                  obtain rfl := Option.some.inj h
                  exact finv ha _ _ rfl (.cell (ad := ⟨b2499, 0, none⟩) (v := .agg #[.int .i64 0, .int .i64 0, .int .i64 0, .bool false, .int .i64 0, .int .i64 0, .int .i64 0]) KR (run_loadVar_ca0 (HW.ca (i := 0) (b := b2499) (C := #[.int .i64 0, .int .i64 0, .int .i64 0, .bool false, .int .i64 0, .int .i64 0, .int .i64 0]) (T := 43) (fr := (0, 0)) KR) 43 0 (.agg #[.int .i64 0, .int .i64 0, .int .i64 0, .bool false, .int .i64 0, .int .i64 0, .int .i64 0]) KR) (.tmp (v := .int .i64 150) KR .nil)) (.tuple #[.agg #[.int .i64 0, .int .i64 0, .int .i64 0, .bool false, .int .i64 0, .int .i64 0, .int .i64 0], .int .i64 150]) rfl ⟨rfl, HW.pick [] [] (by decide) (by decide) rfl KR⟩
                · skip
                  replace h := ite_neg' h hp2674
                  refine condF ha KR KR (t := decide (x2659 ≥ 2147483648)) (decide_eq_false hp2674) ?_
                  refine wp_skip ?_
                  refine thenN (hK2665 _ _ ?_); clear hK2665
                  refine wp_seq_k (fun K2678 hK2679 => ?_)
                  refine wp_region_lit ?_
                  refine stepl ha 141 (HW.ca (i := 1) (b := b2528) (C := #[.int .i64 (IntKind.wrap .i64 (bt a0 0)), .int .i64 x2658, .int .i64 x2659, .bool x2660, .int .i64 x2661, .int .i64 x2662, .int .i64 0]) (T := 43) (fr := (0, 0)) KR) 43 0 (.tmp 5) (.agg #[.int .i64 (IntKind.wrap .i64 (bt a0 0)), .int .i64 x2658, .int .i64 x2659, .bool x2660, .int .i64 x2661, .int .i64 x2662, .int .i64 0]) rfl KR KR KR ?_; clear ha a; intro a ha
                  refine stepst ha HW 0 (b := b2499) (C := #[.int .i64 0, .int .i64 0, .int .i64 0, .bool false, .int .i64 0, .int .i64 0, .int .i64 0]) (T := 43) KR 43 0 (.tmp 2) (.tmp 141) (.agg #[.int .i64 (IntKind.wrap .i64 (bt a0 0)), .int .i64 x2658, .int .i64 x2659, .bool x2660, .int .i64 x2661, .int .i64 x2662, .int .i64 0]) #[.int .i64 (IntKind.wrap .i64 (bt a0 0)), .int .i64 x2658, .int .i64 x2659, .bool x2660, .int .i64 x2661, .int .i64 x2662, .int .i64 0] rfl KR KR KR KR KR KR KR ?_; clear ha HW a; intro a W2680 HW ha
                  refine stepp ha 3 (.int .i64 0) KR KR ?_; clear ha a; intro a ha
                  refine endl ?_
                  refine thenN (hK2679 _ _ ?_); clear hK2679
                  refine wp_ret ?_
                  obtain rfl := Option.some.inj h
                  exact finv ha _ _ rfl (.cell (ad := ⟨b2499, 0, none⟩) (v := .agg #[.int .i64 (IntKind.wrap .i64 (bt a0 0)), .int .i64 x2658, .int .i64 x2659, .bool x2660, .int .i64 x2661, .int .i64 x2662, .int .i64 0]) KR (run_loadVar_ca0 (HW.ca (i := 0) (b := b2499) (C := #[.int .i64 (IntKind.wrap .i64 (bt a0 0)), .int .i64 x2658, .int .i64 x2659, .bool x2660, .int .i64 x2661, .int .i64 x2662, .int .i64 0]) (T := 43) (fr := (0, 0)) KR) 43 0 (.agg #[.int .i64 (IntKind.wrap .i64 (bt a0 0)), .int .i64 x2658, .int .i64 x2659, .bool x2660, .int .i64 x2661, .int .i64 x2662, .int .i64 0]) KR) (.tmp (v := .int .i64 0) KR .nil)) (.tuple #[.agg #[.int .i64 (IntKind.wrap .i64 (bt a0 0)), .int .i64 x2658, .int .i64 x2659, .bool x2660, .int .i64 x2661, .int .i64 x2662, .int .i64 0], .int .i64 0]) rfl ⟨rfl, HW.pick [] [] (by decide) (by decide) rfl KR⟩
            · skip
              replace h := ite_neg' h hp2669
              replace ha := ha.bool 130 KR (decide_eq_false hp2669)
              refine stepo ha 131 KR ?_; clear ha a; intro a ha
              refine stepo ha 132 KR ?_; clear ha a; intro a ha
              refine stepo ha 133 KR ?_; clear ha a; intro a ha
              refine stepo ha 134 KR ?_; clear ha a; intro a ha
              refine stepo ha 135 KR ?_; clear ha a; intro a ha
              refine stepo ha 136 KR ?_; clear ha a; intro a ha
              refine stepo ha 137 KR ?_; clear ha a; intro a ha
              refine stepo ha 138 KR ?_; clear ha a; intro a ha
              refine stepp ha 139 (.bool false) KR KR ?_; clear ha a; intro a ha
              refine endl ?_
              refine thenN (hK2667 _ _ ?_); clear hK2667
              refine condF ha KR KR (t := false) (rfl) ?_
              refine wp_skip ?_
              refine thenN (hK2665 _ _ ?_); clear hK2665
              refine wp_seq_k (fun K2681 hK2682 => ?_)
              refine wp_region_lit ?_
              refine stepl ha 141 (HW.ca (i := 1) (b := b2528) (C := #[.int .i64 (IntKind.wrap .i64 (bt a0 0)), .int .i64 x2658, .int .i64 x2659, .bool x2660, .int .i64 x2661, .int .i64 x2662, .int .i64 0]) (T := 43) (fr := (0, 0)) KR) 43 0 (.tmp 5) (.agg #[.int .i64 (IntKind.wrap .i64 (bt a0 0)), .int .i64 x2658, .int .i64 x2659, .bool x2660, .int .i64 x2661, .int .i64 x2662, .int .i64 0]) rfl KR KR KR ?_; clear ha a; intro a ha
              refine stepst ha HW 0 (b := b2499) (C := #[.int .i64 0, .int .i64 0, .int .i64 0, .bool false, .int .i64 0, .int .i64 0, .int .i64 0]) (T := 43) KR 43 0 (.tmp 2) (.tmp 141) (.agg #[.int .i64 (IntKind.wrap .i64 (bt a0 0)), .int .i64 x2658, .int .i64 x2659, .bool x2660, .int .i64 x2661, .int .i64 x2662, .int .i64 0]) #[.int .i64 (IntKind.wrap .i64 (bt a0 0)), .int .i64 x2658, .int .i64 x2659, .bool x2660, .int .i64 x2661, .int .i64 x2662, .int .i64 0] rfl KR KR KR KR KR KR KR ?_; clear ha HW a; intro a W2683 HW ha
              refine stepp ha 3 (.int .i64 0) KR KR ?_; clear ha a; intro a ha
              refine endl ?_
              refine thenN (hK2682 _ _ ?_); clear hK2682
              refine wp_ret ?_
              obtain rfl := Option.some.inj h
              exact finv ha _ _ rfl (.cell (ad := ⟨b2499, 0, none⟩) (v := .agg #[.int .i64 (IntKind.wrap .i64 (bt a0 0)), .int .i64 x2658, .int .i64 x2659, .bool x2660, .int .i64 x2661, .int .i64 x2662, .int .i64 0]) KR (run_loadVar_ca0 (HW.ca (i := 0) (b := b2499) (C := #[.int .i64 (IntKind.wrap .i64 (bt a0 0)), .int .i64 x2658, .int .i64 x2659, .bool x2660, .int .i64 x2661, .int .i64 x2662, .int .i64 0]) (T := 43) (fr := (0, 0)) KR) 43 0 (.agg #[.int .i64 (IntKind.wrap .i64 (bt a0 0)), .int .i64 x2658, .int .i64 x2659, .bool x2660, .int .i64 x2661, .int .i64 x2662, .int .i64 0]) KR) (.tmp (v := .int .i64 0) KR .nil)) (.tuple #[.agg #[.int .i64 (IntKind.wrap .i64 (bt a0 0)), .int .i64 x2658, .int .i64 x2659, .bool x2660, .int .i64 x2661, .int .i64 x2662, .int .i64 0], .int .i64 0]) rfl ⟨rfl, HW.pick [] [] (by decide) (by decide) rfl KR⟩
          · skip
            replace h := ite_neg' h hp2668
            replace ha := ha.bool 125 KR (decide_eq_false hp2668)
            refine stepo ha 126 KR ?_; clear ha a; intro a ha
            refine stepo ha 127 KR ?_; clear ha a; intro a ha
            refine stepo ha 128 KR ?_; clear ha a; intro a ha
            refine stepp ha 129 (.bool false) KR KR ?_; clear ha a; intro a ha
            refine stepp ha 130 (.bool false) KR KR ?_; clear ha a; intro a ha
            refine stepo ha 131 KR ?_; clear ha a; intro a ha
            refine stepo ha 132 KR ?_; clear ha a; intro a ha
            refine stepo ha 133 KR ?_; clear ha a; intro a ha
            refine stepo ha 134 KR ?_; clear ha a; intro a ha
            refine stepo ha 135 KR ?_; clear ha a; intro a ha
            refine stepo ha 136 KR ?_; clear ha a; intro a ha
            refine stepo ha 137 KR ?_; clear ha a; intro a ha
            refine stepo ha 138 KR ?_; clear ha a; intro a ha
            refine stepp ha 139 (.bool false) KR KR ?_; clear ha a; intro a ha
            refine endl ?_
            refine thenN (hK2667 _ _ ?_); clear hK2667
            refine condF ha KR KR (t := false) (rfl) ?_
            refine wp_skip ?_
            refine thenN (hK2665 _ _ ?_); clear hK2665
            refine wp_seq_k (fun K2684 hK2685 => ?_)
            refine wp_region_lit ?_
            refine stepl ha 141 (HW.ca (i := 1) (b := b2528) (C := #[.int .i64 (IntKind.wrap .i64 (bt a0 0)), .int .i64 x2658, .int .i64 x2659, .bool x2660, .int .i64 x2661, .int .i64 x2662, .int .i64 0]) (T := 43) (fr := (0, 0)) KR) 43 0 (.tmp 5) (.agg #[.int .i64 (IntKind.wrap .i64 (bt a0 0)), .int .i64 x2658, .int .i64 x2659, .bool x2660, .int .i64 x2661, .int .i64 x2662, .int .i64 0]) rfl KR KR KR ?_; clear ha a; intro a ha
            refine stepst ha HW 0 (b := b2499) (C := #[.int .i64 0, .int .i64 0, .int .i64 0, .bool false, .int .i64 0, .int .i64 0, .int .i64 0]) (T := 43) KR 43 0 (.tmp 2) (.tmp 141) (.agg #[.int .i64 (IntKind.wrap .i64 (bt a0 0)), .int .i64 x2658, .int .i64 x2659, .bool x2660, .int .i64 x2661, .int .i64 x2662, .int .i64 0]) #[.int .i64 (IntKind.wrap .i64 (bt a0 0)), .int .i64 x2658, .int .i64 x2659, .bool x2660, .int .i64 x2661, .int .i64 x2662, .int .i64 0] rfl KR KR KR KR KR KR KR ?_; clear ha HW a; intro a W2686 HW ha
            refine stepp ha 3 (.int .i64 0) KR KR ?_; clear ha a; intro a ha
            refine endl ?_
            refine thenN (hK2685 _ _ ?_); clear hK2685
            refine wp_ret ?_
            obtain rfl := Option.some.inj h
            exact finv ha _ _ rfl (.cell (ad := ⟨b2499, 0, none⟩) (v := .agg #[.int .i64 (IntKind.wrap .i64 (bt a0 0)), .int .i64 x2658, .int .i64 x2659, .bool x2660, .int .i64 x2661, .int .i64 x2662, .int .i64 0]) KR (run_loadVar_ca0 (HW.ca (i := 0) (b := b2499) (C := #[.int .i64 (IntKind.wrap .i64 (bt a0 0)), .int .i64 x2658, .int .i64 x2659, .bool x2660, .int .i64 x2661, .int .i64 x2662, .int .i64 0]) (T := 43) (fr := (0, 0)) KR) 43 0 (.agg #[.int .i64 (IntKind.wrap .i64 (bt a0 0)), .int .i64 x2658, .int .i64 x2659, .bool x2660, .int .i64 x2661, .int .i64 x2662, .int .i64 0]) KR) (.tmp (v := .int .i64 0) KR .nil)) (.tuple #[.agg #[.int .i64 (IntKind.wrap .i64 (bt a0 0)), .int .i64 x2658, .int .i64 x2659, .bool x2660, .int .i64 x2661, .int .i64 x2662, .int .i64 0], .int .i64 0]) rfl ⟨rfl, HW.pick [] [] (by decide) (by decide) rfl KR⟩
      · skip
        replace h := ite_neg' h hp2518
        refine condT ha KR KR (t := ((bt a0 (IntKind.wrap .i64 (t2503 - 1))) != 0)) (ineq_t hp2518) ?_
        refine wp_seq_k (fun K2519 hK2520 => ?_)
        refine wp_region_lit ?_
        refine stepp ha 23 (.agg #[.int .i64 0, .int .i64 0, .int .i64 0, .bool false, .int .i64 0, .int .i64 0, .int .i64 0]) KR KR ?_; clear ha a; intro a ha
        refine stepst ha HW 0 (b := b2499) (C := #[.int .i64 0, .int .i64 0, .int .i64 0, .bool false, .int .i64 0, .int .i64 0, .int .i64 0]) (T := 43) KR 43 0 (.tmp 2) (.tmp 23) (.agg #[.int .i64 0, .int .i64 0, .int .i64 0, .bool false, .int .i64 0, .int .i64 0, .int .i64 0]) #[.int .i64 0, .int .i64 0, .int .i64 0, .bool false, .int .i64 0, .int .i64 0, .int .i64 0] rfl KR KR KR KR KR KR KR ?_; clear ha HW a; intro a W2521 HW ha
        refine stepp ha 3 (.int .i64 150) KR KR ?_; clear ha a; intro a ha
        refine endl ?_
        refine thenN (hK2520 _ _ ?_); clear hK2520
        refine wp_ret ?_
        refine thenR ?_
        obtain rfl := Option.some.inj h
        exact finv ha _ _ rfl (.cell (ad := ⟨b2499, 0, none⟩) (v := .agg #[.int .i64 0, .int .i64 0, .int .i64 0, .bool false, .int .i64 0, .int .i64 0, .int .i64 0]) KR (run_loadVar_ca0 (HW.ca (i := 0) (b := b2499) (C := #[.int .i64 0, .int .i64 0, .int .i64 0, .bool false, .int .i64 0, .int .i64 0, .int .i64 0]) (T := 43) (fr := (0, 0)) KR) 43 0 (.agg #[.int .i64 0, .int .i64 0, .int .i64 0, .bool false, .int .i64 0, .int .i64 0, .int .i64 0]) KR) (.tmp (v := .int .i64 150) KR .nil)) (.tuple #[.agg #[.int .i64 0, .int .i64 0, .int .i64 0, .bool false, .int .i64 0, .int .i64 0, .int .i64 0], .int .i64 150]) rfl ⟨rfl, HW.pick [] [] (by decide) (by decide) rfl KR⟩
    · skip
      replace h := ite_neg' h hp2512
      replace ha := ha.bool 16 KR (ineq_t hp2512)
      refine stepo ha 17 KR ?_; clear ha a; intro a ha
      refine stepo ha 18 KR ?_; clear ha a; intro a ha
      refine stepo ha 19 KR ?_; clear ha a; intro a ha
      refine stepo ha 20 KR ?_; clear ha a; intro a ha
      refine stepo ha 21 KR ?_; clear ha a; intro a ha
      refine stepp ha 22 (.bool true) KR KR ?_; clear ha a; intro a ha
      refine endl ?_
      refine thenN (hK2510 _ _ ?_); clear hK2510
      refine condT ha KR KR (t := true) (rfl) ?_
      refine wp_seq_k (fun K2522 hK2523 => ?_)
      refine wp_region_lit ?_
      refine stepp ha 23 (.agg #[.int .i64 0, .int .i64 0, .int .i64 0, .bool false, .int .i64 0, .int .i64 0, .int .i64 0]) KR KR ?_; clear ha a; intro a ha
      refine stepst ha HW 0 (b := b2499) (C := #[.int .i64 0, .int .i64 0, .int .i64 0, .bool false, .int .i64 0, .int .i64 0, .int .i64 0]) (T := 43) KR 43 0 (.tmp 2) (.tmp 23) (.agg #[.int .i64 0, .int .i64 0, .int .i64 0, .bool false, .int .i64 0, .int .i64 0, .int .i64 0]) #[.int .i64 0, .int .i64 0, .int .i64 0, .bool false, .int .i64 0, .int .i64 0, .int .i64 0] rfl KR KR KR KR KR KR KR ?_; clear ha HW a; intro a W2524 HW ha
      refine stepp ha 3 (.int .i64 150) KR KR ?_; clear ha a; intro a ha
      refine endl ?_
      refine thenN (hK2523 _ _ ?_); clear hK2523
      refine wp_ret ?_
      refine thenR ?_
      obtain rfl := Option.some.inj h
      exact finv ha _ _ rfl (.cell (ad := ⟨b2499, 0, none⟩) (v := .agg #[.int .i64 0, .int .i64 0, .int .i64 0, .bool false, .int .i64 0, .int .i64 0, .int .i64 0]) KR (run_loadVar_ca0 (HW.ca (i := 0) (b := b2499) (C := #[.int .i64 0, .int .i64 0, .int .i64 0, .bool false, .int .i64 0, .int .i64 0, .int .i64 0]) (T := 43) (fr := (0, 0)) KR) 43 0 (.agg #[.int .i64 0, .int .i64 0, .int .i64 0, .bool false, .int .i64 0, .int .i64 0, .int .i64 0]) KR) (.tmp (v := .int .i64 150) KR .nil)) (.tuple #[.agg #[.int .i64 0, .int .i64 0, .int .i64 0, .bool false, .int .i64 0, .int .i64 0, .int .i64 0], .int .i64 150]) rfl ⟨rfl, HW.pick [] [] (by decide) (by decide) rfl KR⟩
end Go.Proofs.YtpjcipadjegmlaaDoor.F
