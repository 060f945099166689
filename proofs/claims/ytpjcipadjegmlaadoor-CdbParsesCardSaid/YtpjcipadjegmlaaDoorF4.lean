/- headgate/headgatelaw15.CdbParses: plain functions, and that the calls come to what they say. No condition. -/
import Derived.Test.YtpjcipadjegmlaaDoorFT
import Derived.Test.YtpjcipadjegmlaaDoorF15
import Derived.Test.YtpjcipadjegmlaaDoorF16
import Derived.Test.YtpjcipadjegmlaaDoorF17
import Derived.Test.YtpjcipadjegmlaaDoorF18
import Derived.Test.YtpjcipadjegmlaaDoorF21
import Derived.Test.YtpjcipadjegmlaaDoorF48
namespace Go.Proofs.YtpjcipadjegmlaaDoor.F
open Go Go.RowKit Go.Proofs.YtpjcipadjegmlaaDoor.X
set_option linter.unusedVariables false
set_option linter.unusedSimpArgs false
/-! ### headgate/headgatelaw15.CdbParses: function 4 -/
def headgatelaw15_CdbParses.f (K : Nat) (a0 : ByteArray) : Option Bool :=
  if (a0.size : Int) > 5000 then ((headgatelaw15_wakes.f K).bind fun t2538 => (some t2538)) else ((cdb_Parse.f K a0).bind fun t2544 => ((headgateref15_Parse.f K a0).bind fun t2553 => ((headgatelaw15_own.f (⟨t2544.1.f0, t2544.1.f1, t2544.1.f2, t2544.1.f3, t2544.1.f4, t2544.1.f5, t2544.1.f6⟩ : T_cdb_Ask)).bind fun t2562 => ((headgateref15_Same.f t2562 (⟨t2553.1.f0, t2553.1.f1, t2553.1.f2, t2553.1.f3, t2553.1.f4, t2553.1.f5, t2553.1.f6⟩ : T_headgateref15_Ask)).bind fun t2566 => (if t2566 = true then (if t2544.2 = t2553.2 then ((cdb_Length.f K a0).bind fun t2572 => ((headgateref15_Length.f K a0).bind fun t2576 => (if t2572 = t2576 then ((headgatelaw15_wakes.f K).bind fun t2581 => (some t2581)) else (some false)))) else (some false)) else (some false))))))
set_option maxRecDepth 100000 in
set_option maxHeartbeats 4000000 in
theorem headgatelaw15_CdbParses.calls (K : Nat) (a0 : ByteArray)  (r : Bool) (w : World) (hG0 : CA w 0 0 (encs (encI .i64) G_cdb_numbers).toArray) (hG1 : CA w 1 0 (encs T_cdb_form.enc G_cdb_forms).toArray) (h : headgatelaw15_CdbParses.f K a0 = some r) :
    Calls Tryd.prog 4 #[.string a0] w (fun e W' => e = .returned (.bool r) ∧ Wd w W' [] [] ) := by
  refine sxstart (n := 40) (l := [(0, .string a0)]) Tryd.func4 rfl rfl (Nat.le_of_ble_eq_true KR) (subsA_cons rfl (subsA_nil _)) ?_
  intro a ha
  have HW := Wd.refl w
  unfold headgatelaw15_CdbParses.f at h
  refine wp_seq_k (fun K2529 hK2530 => ?_)
  refine wp_region_lit ?_
  refine stepp ha 2 (.bool false) KR KR ?_; clear ha a; intro a ha
  refine endl ?_
  refine thenN (hK2530 _ _ ?_); clear hK2530
  refine wp_seq_k (fun K2531 hK2532 => ?_)
  refine wp_seq_k (fun K2533 hK2534 => ?_)
  refine wp_region_lit ?_
  refine stepp ha 7 (.string a0) KR KR ?_; clear ha a; intro a ha
  refine stepp ha 8 (.int .i64 (a0.size : Int)) KR KR ?_; clear ha a; intro a ha
  refine stepp ha 9 (.bool (decide ((a0.size : Int) > 5000))) KR KR ?_; clear ha a; intro a ha
  refine endl ?_
  refine thenN (hK2534 _ _ ?_); clear hK2534
  by_cases hp2535 : (a0.size : Int) > 5000
  · skip
    replace h := ite_pos' h hp2535
    refine condT ha KR KR (t := decide ((a0.size : Int) > 5000)) (decide_eq_true hp2535) ?_
    refine wp_seq_k (fun K2536 hK2537 => ?_)
    refine wp_region_lit ?_
    obtain ⟨t2538, ht2539, h_⟩ := bind_some' h; clear h; have h := h_; clear h_
    refine stepc ha 10 KR KR (headgatelaw15_wakes.calls K t2538 _ (HW.ca0 hG0) (HW.ca0 hG1) ht2539) ?_; clear ha a; rintro e W2540 ⟨rfl, HX2541⟩
    refine ⟨_, rfl, ?_⟩; intro a ha; replace HW := HW.callw HX2541; clear HX2541
    refine stepp ha 2 (.bool t2538) KR KR ?_; clear ha a; intro a ha
    refine endl ?_
    refine thenN (hK2537 _ _ ?_); clear hK2537
    refine wp_ret ?_
    refine thenR ?_
    obtain rfl := Option.some.inj h
    exact finv ha _ _ rfl (.tmp (v := .bool t2538) KR .nil) (.bool t2538) rfl ⟨rfl, HW.pick [] [] (by decide) (by decide) rfl KR⟩
  · skip
    replace h := ite_neg' h hp2535
    refine condF ha KR KR (t := decide ((a0.size : Int) > 5000)) (decide_eq_false hp2535) ?_
    refine wp_skip ?_
    refine thenN (hK2532 _ _ ?_); clear hK2532
    refine wp_seq_k (fun K2542 hK2543 => ?_)
    refine wp_region_lit ?_
    refine stepp ha 12 (.string a0) KR KR ?_; clear ha a; intro a ha
    obtain ⟨t2544, ht2545, h_⟩ := bind_some' h; clear h; have h := h_; clear h_
    refine stepc ha 13 KR KR (cdb_Parse.calls K a0 t2544 _ (HW.ca0 hG0) (HW.ca0 hG1) ht2545) ?_; clear ha a; rintro e W2546 ⟨rfl, HX2547⟩
    refine ⟨_, rfl, ?_⟩; intro a ha; replace HW := HW.callw HX2547; clear HX2547
    refine stepp ha 11 (.tuple #[.agg #[.int .i64 t2544.1.f0, .int .i64 t2544.1.f1, .int .i64 t2544.1.f2, .bool t2544.1.f3, .int .i64 t2544.1.f4, .int .i64 t2544.1.f5, .int .i64 t2544.1.f6], .int .i64 t2544.2]) KR KR ?_; clear ha a; intro a ha
    refine stepp ha 14 (.agg #[.int .i64 t2544.1.f0, .int .i64 t2544.1.f1, .int .i64 t2544.1.f2, .bool t2544.1.f3, .int .i64 t2544.1.f4, .int .i64 t2544.1.f5, .int .i64 t2544.1.f6]) KR KR ?_; clear ha a; intro a ha
    refine stepp ha 15 (.int .i64 t2544.2) KR KR ?_; clear ha a; intro a ha
    refine stepnew ha HW 3 #[.int .i64 0, .int .i64 0, .int .i64 0, .bool false, .int .i64 0, .int .i64 0, .int .i64 0] 39 KR KR ?_; clear ha HW a; intro b2548 a W2549 HW ha
    refine stepst ha HW 0 (b := b2548) (C := #[.int .i64 0, .int .i64 0, .int .i64 0, .bool false, .int .i64 0, .int .i64 0, .int .i64 0]) (T := 39) KR 39 0 (.tmp 3) (.tmp 14) (.agg #[.int .i64 t2544.1.f0, .int .i64 t2544.1.f1, .int .i64 t2544.1.f2, .bool t2544.1.f3, .int .i64 t2544.1.f4, .int .i64 t2544.1.f5, .int .i64 t2544.1.f6]) #[.int .i64 t2544.1.f0, .int .i64 t2544.1.f1, .int .i64 t2544.1.f2, .bool t2544.1.f3, .int .i64 t2544.1.f4, .int .i64 t2544.1.f5, .int .i64 t2544.1.f6] rfl KR KR KR KR KR KR KR ?_; clear ha HW a; intro a W2550 HW ha
    refine stepp ha 4 (.int .i64 t2544.2) KR KR ?_; clear ha a; intro a ha
    refine endl ?_
    refine thenN (hK2543 _ _ ?_); clear hK2543
    refine wp_seq_k (fun K2551 hK2552 => ?_)
    refine wp_region_lit ?_
    refine stepp ha 17 (.string a0) KR KR ?_; clear ha a; intro a ha
    obtain ⟨t2553, ht2554, h_⟩ := bind_some' h; clear h; have h := h_; clear h_
    refine stepc ha 18 KR KR (headgateref15_Parse.calls K a0 t2553 _ ht2554) ?_; clear ha a; rintro e W2555 ⟨rfl, HX2556⟩
    refine ⟨_, rfl, ?_⟩; intro a ha; replace HW := HW.callw HX2556; clear HX2556
    refine stepp ha 16 (.tuple #[.agg #[.int .i64 t2553.1.f0, .int .i64 t2553.1.f1, .int .i64 t2553.1.f2, .bool t2553.1.f3, .int .i64 t2553.1.f4, .int .i64 t2553.1.f5, .int .i64 t2553.1.f6], .int .i64 t2553.2]) KR KR ?_; clear ha a; intro a ha
    refine stepp ha 19 (.agg #[.int .i64 t2553.1.f0, .int .i64 t2553.1.f1, .int .i64 t2553.1.f2, .bool t2553.1.f3, .int .i64 t2553.1.f4, .int .i64 t2553.1.f5, .int .i64 t2553.1.f6]) KR KR ?_; clear ha a; intro a ha
    refine stepp ha 20 (.int .i64 t2553.2) KR KR ?_; clear ha a; intro a ha
    refine stepnew ha HW 5 #[.int .i64 0, .int .i64 0, .int .i64 0, .bool false, .int .i64 0, .int .i64 0, .int .i64 0] 43 KR KR ?_; clear ha HW a; intro b2557 a W2558 HW ha
    refine stepst ha HW 0 (b := b2557) (C := #[.int .i64 0, .int .i64 0, .int .i64 0, .bool false, .int .i64 0, .int .i64 0, .int .i64 0]) (T := 43) KR 43 0 (.tmp 5) (.tmp 19) (.agg #[.int .i64 t2553.1.f0, .int .i64 t2553.1.f1, .int .i64 t2553.1.f2, .bool t2553.1.f3, .int .i64 t2553.1.f4, .int .i64 t2553.1.f5, .int .i64 t2553.1.f6]) #[.int .i64 t2553.1.f0, .int .i64 t2553.1.f1, .int .i64 t2553.1.f2, .bool t2553.1.f3, .int .i64 t2553.1.f4, .int .i64 t2553.1.f5, .int .i64 t2553.1.f6] rfl KR KR KR KR KR KR KR ?_; clear ha HW a; intro a W2559 HW ha
    refine stepp ha 6 (.int .i64 t2553.2) KR KR ?_; clear ha a; intro a ha
    refine endl ?_
    refine thenN (hK2552 _ _ ?_); clear hK2552
    refine wp_seq_k (fun K2560 hK2561 => ?_)
    obtain ⟨t2562, ht2563, h_⟩ := bind_some' h; clear h; have h := h_; clear h_
    obtain ⟨t2566, ht2567, h_⟩ := bind_some' h; clear h; have h := h_; clear h_
    by_cases hp2570 : t2566 = true
    · skip
      replace h := ite_pos' h hp2570
      by_cases hp2571 : t2544.2 = t2553.2
      · skip
        replace h := ite_pos' h hp2571
        obtain ⟨t2572, ht2573, h_⟩ := bind_some' h; clear h; have h := h_; clear h_
        obtain ⟨t2576, ht2577, h_⟩ := bind_some' h; clear h; have h := h_; clear h_
        by_cases hp2580 : t2572 = t2576
        · skip
          replace h := ite_pos' h hp2580
          obtain ⟨t2581, ht2582, h_⟩ := bind_some' h; clear h; have h := h_; clear h_
          refine regionG 19 KR KR ha HW [.fix (.agg #[.int .i64 t2544.1.f0, .int .i64 t2544.1.f1, .int .i64 t2544.1.f2, .bool t2544.1.f3, .int .i64 t2544.1.f4, .int .i64 t2544.1.f5, .int .i64 t2544.1.f6]), .fix (.agg #[.int .i64 t2562.f0, .int .i64 t2562.f1, .int .i64 t2562.f2, .bool t2562.f3, .int .i64 t2562.f4, .int .i64 t2562.f5, .int .i64 t2562.f6]), .fix (.agg #[.int .i64 t2553.1.f0, .int .i64 t2553.1.f1, .int .i64 t2553.1.f2, .bool t2553.1.f3, .int .i64 t2553.1.f4, .int .i64 t2553.1.f5, .int .i64 t2553.1.f6]), .fix (.bool t2566), .fix (.bool t2566), .fix (.int .i64 t2544.2), .fix (.int .i64 t2553.2), .fix (.bool (t2544.2 == t2553.2)), .fix (.bool (t2544.2 == t2553.2)), .fix (.bool (t2544.2 == t2553.2)), .fix (.string a0), .fix (.int .i64 t2572), .fix (.string a0), .fix (.int .i64 t2576), .fix (.bool (t2572 == t2576)), .fix (.bool (t2572 == t2576)), .fix (.bool (t2572 == t2576)), .fix (.bool t2581), .fix (.bool t2581)] ?_ ?_
          · skip
            refine ⟨?_, ?_, ?_, ?_, ?_, ?_, ?_, ?_, ?_, ?_, ?_, ?_, ?_, ?_, ?_, ?_, ?_, ?_, ?_, trivial⟩
            · skip
              intro a wr hn hd HW hs; have ha := hasNil hn hd
              have ha := ha.add (seeE hs 3 (.pointer (some ⟨b2548, 0, none⟩)) KR KR)
              refine yStep ha 21 KR ?_; intro l_ ha HK
              refine stepl ha 21 (HW.ca (i := 1) (b := b2548) (C := #[.int .i64 t2544.1.f0, .int .i64 t2544.1.f1, .int .i64 t2544.1.f2, .bool t2544.1.f3, .int .i64 t2544.1.f4, .int .i64 t2544.1.f5, .int .i64 t2544.1.f6]) (T := 39) (fr := (0, 0)) KR) 39 0 (.tmp 3) (.agg #[.int .i64 t2544.1.f0, .int .i64 t2544.1.f1, .int .i64 t2544.1.f2, .bool t2544.1.f3, .int .i64 t2544.1.f4, .int .i64 t2544.1.f5, .int .i64 t2544.1.f6]) rfl KR KR KR ?_; intro ax hax; exact HK _ _ _ hax rfl (Below.refl _ _)
            · skip
              intro a wr hn hd HW hs; have ha := hasNil hn hd
              have ha := ha.add (seeF hs 21 0 (.agg #[.int .i64 t2544.1.f0, .int .i64 t2544.1.f1, .int .i64 t2544.1.f2, .bool t2544.1.f3, .int .i64 t2544.1.f4, .int .i64 t2544.1.f5, .int .i64 t2544.1.f6]) KR KR)
              refine yStep ha 22 KR ?_; intro l_ ha HK
              refine stepc ha 22 KR KR (headgatelaw15_own.calls (⟨t2544.1.f0, t2544.1.f1, t2544.1.f2, t2544.1.f3, t2544.1.f4, t2544.1.f5, t2544.1.f6⟩ : T_cdb_Ask) t2562 _ ht2563) ?_; rintro e W2564 ⟨rfl, HX2565⟩
              refine ⟨_, rfl, ?_⟩; intro ax hax; exact HK _ _ _ hax rfl HX2565.below
            · skip
              intro a wr hn hd HW hs; have ha := hasNil hn hd
              have ha := ha.add (seeE hs 5 (.pointer (some ⟨b2557, 0, none⟩)) KR KR)
              refine yStep ha 23 KR ?_; intro l_ ha HK
              refine stepl ha 23 (HW.ca (i := 0) (b := b2557) (C := #[.int .i64 t2553.1.f0, .int .i64 t2553.1.f1, .int .i64 t2553.1.f2, .bool t2553.1.f3, .int .i64 t2553.1.f4, .int .i64 t2553.1.f5, .int .i64 t2553.1.f6]) (T := 43) (fr := (0, 0)) KR) 43 0 (.tmp 5) (.agg #[.int .i64 t2553.1.f0, .int .i64 t2553.1.f1, .int .i64 t2553.1.f2, .bool t2553.1.f3, .int .i64 t2553.1.f4, .int .i64 t2553.1.f5, .int .i64 t2553.1.f6]) rfl KR KR KR ?_; intro ax hax; exact HK _ _ _ hax rfl (Below.refl _ _)
            · skip
              intro a wr hn hd HW hs; have ha := hasNil hn hd
              have ha := ha.add (seeF hs 22 1 (.agg #[.int .i64 t2562.f0, .int .i64 t2562.f1, .int .i64 t2562.f2, .bool t2562.f3, .int .i64 t2562.f4, .int .i64 t2562.f5, .int .i64 t2562.f6]) KR KR)
              have ha := ha.add (seeF hs 23 2 (.agg #[.int .i64 t2553.1.f0, .int .i64 t2553.1.f1, .int .i64 t2553.1.f2, .bool t2553.1.f3, .int .i64 t2553.1.f4, .int .i64 t2553.1.f5, .int .i64 t2553.1.f6]) KR KR)
              refine yStep ha 24 KR ?_; intro l_ ha HK
              refine stepc ha 24 KR KR (headgateref15_Same.calls t2562 (⟨t2553.1.f0, t2553.1.f1, t2553.1.f2, t2553.1.f3, t2553.1.f4, t2553.1.f5, t2553.1.f6⟩ : T_headgateref15_Ask) t2566 _ ht2567) ?_; rintro e W2568 ⟨rfl, HX2569⟩
              refine ⟨_, rfl, ?_⟩; intro ax hax; exact HK _ _ _ hax rfl HX2569.below
            · skip
              intro a wr hn hd HW hs; have ha := hasNil hn hd
              have ha := ha.add (seeF hs 24 3 (.bool t2566) KR KR)
              refine yStep ha 25 KR ?_; intro l_ ha HK
              refine stepp ha 25 (.bool t2566) KR KR ?_; intro ax hax; exact HK _ _ _ hax rfl (Below.refl _ _)
            · skip
              intro a wr hn hd HW hs; have ha := hasNil hn hd
              have ha := ha.add (seeE hs 4 (.int .i64 t2544.2) KR KR)
              have ha := ha.add (seeF hs 25 4 (.bool t2566) KR KR)
              have ha := ha.bool 25 KR (hp2570)
              refine yStep ha 26 KR ?_; intro l_ ha HK
              refine stepp ha 26 (.int .i64 t2544.2) KR KR ?_; intro ax hax; exact HK _ _ _ hax rfl (Below.refl _ _)
            · skip
              intro a wr hn hd HW hs; have ha := hasNil hn hd
              have ha := ha.add (seeE hs 6 (.int .i64 t2553.2) KR KR)
              have ha := ha.add (seeF hs 25 4 (.bool t2566) KR KR)
              have ha := ha.bool 25 KR (hp2570)
              refine yStep ha 27 KR ?_; intro l_ ha HK
              refine stepp ha 27 (.int .i64 t2553.2) KR KR ?_; intro ax hax; exact HK _ _ _ hax rfl (Below.refl _ _)
            · skip
              intro a wr hn hd HW hs; have ha := hasNil hn hd
              have ha := ha.add (seeF hs 26 5 (.int .i64 t2544.2) KR KR)
              have ha := ha.add (seeF hs 27 6 (.int .i64 t2553.2) KR KR)
              have ha := ha.add (seeF hs 25 4 (.bool t2566) KR KR)
              have ha := ha.bool 25 KR (hp2570)
              refine yStep ha 28 KR ?_; intro l_ ha HK
              refine stepp ha 28 (.bool (t2544.2 == t2553.2)) KR KR ?_; intro ax hax; exact HK _ _ _ hax rfl (Below.refl _ _)
            · skip
              intro a wr hn hd HW hs; have ha := hasNil hn hd
              have ha := ha.add (seeF hs 25 4 (.bool t2566) KR KR)
              have ha := ha.bool 25 KR (hp2570)
              have ha := ha.add (seeF hs 28 7 (.bool (t2544.2 == t2553.2)) KR KR)
              refine yStep ha 29 KR ?_; intro l_ ha HK
              refine stepp ha 29 (.bool (t2544.2 == t2553.2)) KR KR ?_; intro ax hax; exact HK _ _ _ hax rfl (Below.refl _ _)
            · skip
              intro a wr hn hd HW hs; have ha := hasNil hn hd
              have ha := ha.add (seeF hs 29 8 (.bool (t2544.2 == t2553.2)) KR KR)
              refine yStep ha 30 KR ?_; intro l_ ha HK
              refine stepp ha 30 (.bool (t2544.2 == t2553.2)) KR KR ?_; intro ax hax; exact HK _ _ _ hax rfl (Below.refl _ _)
            · skip
              intro a wr hn hd HW hs; have ha := hasNil hn hd
              have ha := ha.add (seeE hs 0 (.string a0) KR KR)
              have ha := ha.add (seeF hs 30 9 (.bool (t2544.2 == t2553.2)) KR KR)
              have ha := ha.bool 30 KR (ieq_t hp2571)
              refine yStep ha 31 KR ?_; intro l_ ha HK
              refine stepp ha 31 (.string a0) KR KR ?_; intro ax hax; exact HK _ _ _ hax rfl (Below.refl _ _)
            · skip
              intro a wr hn hd HW hs; have ha := hasNil hn hd
              have ha := ha.add (seeF hs 31 10 (.string a0) KR KR)
              have ha := ha.add (seeF hs 30 9 (.bool (t2544.2 == t2553.2)) KR KR)
              have ha := ha.bool 30 KR (ieq_t hp2571)
              refine yStep ha 32 KR ?_; intro l_ ha HK
              refine stepc ha 32 KR KR (cdb_Length.calls K a0 t2572 _ (HW.ca0 hG1) ht2573) ?_; rintro e W2574 ⟨rfl, HX2575⟩
              refine ⟨_, rfl, ?_⟩; intro ax hax; exact HK _ _ _ hax rfl HX2575.below
            · skip
              intro a wr hn hd HW hs; have ha := hasNil hn hd
              have ha := ha.add (seeE hs 0 (.string a0) KR KR)
              have ha := ha.add (seeF hs 30 9 (.bool (t2544.2 == t2553.2)) KR KR)
              have ha := ha.bool 30 KR (ieq_t hp2571)
              refine yStep ha 33 KR ?_; intro l_ ha HK
              refine stepp ha 33 (.string a0) KR KR ?_; intro ax hax; exact HK _ _ _ hax rfl (Below.refl _ _)
            · skip
              intro a wr hn hd HW hs; have ha := hasNil hn hd
              have ha := ha.add (seeF hs 33 12 (.string a0) KR KR)
              have ha := ha.add (seeF hs 30 9 (.bool (t2544.2 == t2553.2)) KR KR)
              have ha := ha.bool 30 KR (ieq_t hp2571)
              refine yStep ha 34 KR ?_; intro l_ ha HK
              refine stepc ha 34 KR KR (headgateref15_Length.calls K a0 t2576 _ ht2577) ?_; rintro e W2578 ⟨rfl, HX2579⟩
              refine ⟨_, rfl, ?_⟩; intro ax hax; exact HK _ _ _ hax rfl HX2579.below
            · skip
              intro a wr hn hd HW hs; have ha := hasNil hn hd
              have ha := ha.add (seeF hs 32 11 (.int .i64 t2572) KR KR)
              have ha := ha.add (seeF hs 34 13 (.int .i64 t2576) KR KR)
              have ha := ha.add (seeF hs 30 9 (.bool (t2544.2 == t2553.2)) KR KR)
              have ha := ha.bool 30 KR (ieq_t hp2571)
              refine yStep ha 35 KR ?_; intro l_ ha HK
              refine stepp ha 35 (.bool (t2572 == t2576)) KR KR ?_; intro ax hax; exact HK _ _ _ hax rfl (Below.refl _ _)
            · skip
              intro a wr hn hd HW hs; have ha := hasNil hn hd
              have ha := ha.add (seeF hs 30 9 (.bool (t2544.2 == t2553.2)) KR KR)
              have ha := ha.bool 30 KR (ieq_t hp2571)
              have ha := ha.add (seeF hs 35 14 (.bool (t2572 == t2576)) KR KR)
              refine yStep ha 36 KR ?_; intro l_ ha HK
              refine stepp ha 36 (.bool (t2572 == t2576)) KR KR ?_; intro ax hax; exact HK _ _ _ hax rfl (Below.refl _ _)
            · skip
              intro a wr hn hd HW hs; have ha := hasNil hn hd
              have ha := ha.add (seeF hs 36 15 (.bool (t2572 == t2576)) KR KR)
              refine yStep ha 37 KR ?_; intro l_ ha HK
              refine stepp ha 37 (.bool (t2572 == t2576)) KR KR ?_; intro ax hax; exact HK _ _ _ hax rfl (Below.refl _ _)
            · skip
              intro a wr hn hd HW hs; have ha := hasNil hn hd
              have ha := ha.add (seeF hs 37 16 (.bool (t2572 == t2576)) KR KR)
              have ha := ha.bool 37 KR (ieq_t hp2580)
              refine yStep ha 38 KR ?_; intro l_ ha HK
              refine stepc ha 38 KR KR (headgatelaw15_wakes.calls K t2581 _ (HW.ca0 hG0) (HW.ca0 hG1) ht2582) ?_; rintro e W2583 ⟨rfl, HX2584⟩
              refine ⟨_, rfl, ?_⟩; intro ax hax; exact HK _ _ _ hax rfl HX2584.below
            · skip
              intro a wr hn hd HW hs; have ha := hasNil hn hd
              have ha := ha.add (seeF hs 37 16 (.bool (t2572 == t2576)) KR KR)
              have ha := ha.bool 37 KR (ieq_t hp2580)
              have ha := ha.add (seeF hs 38 17 (.bool t2581) KR KR)
              refine yStep ha 39 KR ?_; intro l_ ha HK
              refine stepp ha 39 (.bool t2581) KR KR ?_; intro ax hax; exact HK _ _ _ hax rfl (Below.refl _ _)
          · skip
            intro a W2585 ha HW he hf
            replace ha := ha.add (gotF (m := 19) (j := 18) (d := 39) (v := .bool t2581) hf KR KR KR)
            clear he hf
            refine stepp ha 2 (.bool t2581) KR KR ?_; clear ha a; intro a ha
            refine endl ?_
            refine thenN (hK2561 _ _ ?_); clear hK2561
            refine wp_ret ?_
            obtain rfl := Option.some.inj h
            exact finv ha _ _ rfl (.tmp (v := .bool t2581) KR .nil) (.bool t2581) rfl ⟨rfl, HW.pick [] [] (by decide) (by decide) rfl KR⟩
        · skip
          replace h := ite_neg' h hp2580
          refine regionG 19 KR KR ha HW [.fix (.agg #[.int .i64 t2544.1.f0, .int .i64 t2544.1.f1, .int .i64 t2544.1.f2, .bool t2544.1.f3, .int .i64 t2544.1.f4, .int .i64 t2544.1.f5, .int .i64 t2544.1.f6]), .fix (.agg #[.int .i64 t2562.f0, .int .i64 t2562.f1, .int .i64 t2562.f2, .bool t2562.f3, .int .i64 t2562.f4, .int .i64 t2562.f5, .int .i64 t2562.f6]), .fix (.agg #[.int .i64 t2553.1.f0, .int .i64 t2553.1.f1, .int .i64 t2553.1.f2, .bool t2553.1.f3, .int .i64 t2553.1.f4, .int .i64 t2553.1.f5, .int .i64 t2553.1.f6]), .fix (.bool t2566), .fix (.bool t2566), .fix (.int .i64 t2544.2), .fix (.int .i64 t2553.2), .fix (.bool (t2544.2 == t2553.2)), .fix (.bool (t2544.2 == t2553.2)), .fix (.bool (t2544.2 == t2553.2)), .fix (.string a0), .fix (.int .i64 t2572), .fix (.string a0), .fix (.int .i64 t2576), .fix (.bool (t2572 == t2576)), .fix (.bool (t2572 == t2576)), .fix (.bool (t2572 == t2576)), .fix undef, .fix (.bool false)] ?_ ?_
          · skip
            refine ⟨?_, ?_, ?_, ?_, ?_, ?_, ?_, ?_, ?_, ?_, ?_, ?_, ?_, ?_, ?_, ?_, ?_, ?_, ?_, trivial⟩
            · skip
              intro a wr hn hd HW hs; have ha := hasNil hn hd
              have ha := ha.add (seeE hs 3 (.pointer (some ⟨b2548, 0, none⟩)) KR KR)
              refine yStep ha 21 KR ?_; intro l_ ha HK
              refine stepl ha 21 (HW.ca (i := 1) (b := b2548) (C := #[.int .i64 t2544.1.f0, .int .i64 t2544.1.f1, .int .i64 t2544.1.f2, .bool t2544.1.f3, .int .i64 t2544.1.f4, .int .i64 t2544.1.f5, .int .i64 t2544.1.f6]) (T := 39) (fr := (0, 0)) KR) 39 0 (.tmp 3) (.agg #[.int .i64 t2544.1.f0, .int .i64 t2544.1.f1, .int .i64 t2544.1.f2, .bool t2544.1.f3, .int .i64 t2544.1.f4, .int .i64 t2544.1.f5, .int .i64 t2544.1.f6]) rfl KR KR KR ?_; intro ax hax; exact HK _ _ _ hax rfl (Below.refl _ _)
            · skip
              intro a wr hn hd HW hs; have ha := hasNil hn hd
              have ha := ha.add (seeF hs 21 0 (.agg #[.int .i64 t2544.1.f0, .int .i64 t2544.1.f1, .int .i64 t2544.1.f2, .bool t2544.1.f3, .int .i64 t2544.1.f4, .int .i64 t2544.1.f5, .int .i64 t2544.1.f6]) KR KR)
              refine yStep ha 22 KR ?_; intro l_ ha HK
              refine stepc ha 22 KR KR (headgatelaw15_own.calls (⟨t2544.1.f0, t2544.1.f1, t2544.1.f2, t2544.1.f3, t2544.1.f4, t2544.1.f5, t2544.1.f6⟩ : T_cdb_Ask) t2562 _ ht2563) ?_; rintro e W2564 ⟨rfl, HX2565⟩
              refine ⟨_, rfl, ?_⟩; intro ax hax; exact HK _ _ _ hax rfl HX2565.below
            · skip
              intro a wr hn hd HW hs; have ha := hasNil hn hd
              have ha := ha.add (seeE hs 5 (.pointer (some ⟨b2557, 0, none⟩)) KR KR)
              refine yStep ha 23 KR ?_; intro l_ ha HK
              refine stepl ha 23 (HW.ca (i := 0) (b := b2557) (C := #[.int .i64 t2553.1.f0, .int .i64 t2553.1.f1, .int .i64 t2553.1.f2, .bool t2553.1.f3, .int .i64 t2553.1.f4, .int .i64 t2553.1.f5, .int .i64 t2553.1.f6]) (T := 43) (fr := (0, 0)) KR) 43 0 (.tmp 5) (.agg #[.int .i64 t2553.1.f0, .int .i64 t2553.1.f1, .int .i64 t2553.1.f2, .bool t2553.1.f3, .int .i64 t2553.1.f4, .int .i64 t2553.1.f5, .int .i64 t2553.1.f6]) rfl KR KR KR ?_; intro ax hax; exact HK _ _ _ hax rfl (Below.refl _ _)
            · skip
              intro a wr hn hd HW hs; have ha := hasNil hn hd
              have ha := ha.add (seeF hs 22 1 (.agg #[.int .i64 t2562.f0, .int .i64 t2562.f1, .int .i64 t2562.f2, .bool t2562.f3, .int .i64 t2562.f4, .int .i64 t2562.f5, .int .i64 t2562.f6]) KR KR)
              have ha := ha.add (seeF hs 23 2 (.agg #[.int .i64 t2553.1.f0, .int .i64 t2553.1.f1, .int .i64 t2553.1.f2, .bool t2553.1.f3, .int .i64 t2553.1.f4, .int .i64 t2553.1.f5, .int .i64 t2553.1.f6]) KR KR)
              refine yStep ha 24 KR ?_; intro l_ ha HK
              refine stepc ha 24 KR KR (headgateref15_Same.calls t2562 (⟨t2553.1.f0, t2553.1.f1, t2553.1.f2, t2553.1.f3, t2553.1.f4, t2553.1.f5, t2553.1.f6⟩ : T_headgateref15_Ask) t2566 _ ht2567) ?_; rintro e W2568 ⟨rfl, HX2569⟩
              refine ⟨_, rfl, ?_⟩; intro ax hax; exact HK _ _ _ hax rfl HX2569.below
            · skip
              intro a wr hn hd HW hs; have ha := hasNil hn hd
              have ha := ha.add (seeF hs 24 3 (.bool t2566) KR KR)
              refine yStep ha 25 KR ?_; intro l_ ha HK
              refine stepp ha 25 (.bool t2566) KR KR ?_; intro ax hax; exact HK _ _ _ hax rfl (Below.refl _ _)
            · skip
              intro a wr hn hd HW hs; have ha := hasNil hn hd
              have ha := ha.add (seeE hs 4 (.int .i64 t2544.2) KR KR)
              have ha := ha.add (seeF hs 25 4 (.bool t2566) KR KR)
              have ha := ha.bool 25 KR (hp2570)
              refine yStep ha 26 KR ?_; intro l_ ha HK
              refine stepp ha 26 (.int .i64 t2544.2) KR KR ?_; intro ax hax; exact HK _ _ _ hax rfl (Below.refl _ _)
            · skip
              intro a wr hn hd HW hs; have ha := hasNil hn hd
              have ha := ha.add (seeE hs 6 (.int .i64 t2553.2) KR KR)
              have ha := ha.add (seeF hs 25 4 (.bool t2566) KR KR)
              have ha := ha.bool 25 KR (hp2570)
              refine yStep ha 27 KR ?_; intro l_ ha HK
              refine stepp ha 27 (.int .i64 t2553.2) KR KR ?_; intro ax hax; exact HK _ _ _ hax rfl (Below.refl _ _)
            · skip
              intro a wr hn hd HW hs; have ha := hasNil hn hd
              have ha := ha.add (seeF hs 26 5 (.int .i64 t2544.2) KR KR)
              have ha := ha.add (seeF hs 27 6 (.int .i64 t2553.2) KR KR)
              have ha := ha.add (seeF hs 25 4 (.bool t2566) KR KR)
              have ha := ha.bool 25 KR (hp2570)
              refine yStep ha 28 KR ?_; intro l_ ha HK
              refine stepp ha 28 (.bool (t2544.2 == t2553.2)) KR KR ?_; intro ax hax; exact HK _ _ _ hax rfl (Below.refl _ _)
            · skip
              intro a wr hn hd HW hs; have ha := hasNil hn hd
              have ha := ha.add (seeF hs 25 4 (.bool t2566) KR KR)
              have ha := ha.bool 25 KR (hp2570)
              have ha := ha.add (seeF hs 28 7 (.bool (t2544.2 == t2553.2)) KR KR)
              refine yStep ha 29 KR ?_; intro l_ ha HK
              refine stepp ha 29 (.bool (t2544.2 == t2553.2)) KR KR ?_; intro ax hax; exact HK _ _ _ hax rfl (Below.refl _ _)
            · skip
              intro a wr hn hd HW hs; have ha := hasNil hn hd
              have ha := ha.add (seeF hs 29 8 (.bool (t2544.2 == t2553.2)) KR KR)
              refine yStep ha 30 KR ?_; intro l_ ha HK
              refine stepp ha 30 (.bool (t2544.2 == t2553.2)) KR KR ?_; intro ax hax; exact HK _ _ _ hax rfl (Below.refl _ _)
            · skip
              intro a wr hn hd HW hs; have ha := hasNil hn hd
              have ha := ha.add (seeE hs 0 (.string a0) KR KR)
              have ha := ha.add (seeF hs 30 9 (.bool (t2544.2 == t2553.2)) KR KR)
              have ha := ha.bool 30 KR (ieq_t hp2571)
              refine yStep ha 31 KR ?_; intro l_ ha HK
              refine stepp ha 31 (.string a0) KR KR ?_; intro ax hax; exact HK _ _ _ hax rfl (Below.refl _ _)
            · skip
              intro a wr hn hd HW hs; have ha := hasNil hn hd
              have ha := ha.add (seeF hs 31 10 (.string a0) KR KR)
              have ha := ha.add (seeF hs 30 9 (.bool (t2544.2 == t2553.2)) KR KR)
              have ha := ha.bool 30 KR (ieq_t hp2571)
              refine yStep ha 32 KR ?_; intro l_ ha HK
              refine stepc ha 32 KR KR (cdb_Length.calls K a0 t2572 _ (HW.ca0 hG1) ht2573) ?_; rintro e W2574 ⟨rfl, HX2575⟩
              refine ⟨_, rfl, ?_⟩; intro ax hax; exact HK _ _ _ hax rfl HX2575.below
            · skip
              intro a wr hn hd HW hs; have ha := hasNil hn hd
              have ha := ha.add (seeE hs 0 (.string a0) KR KR)
              have ha := ha.add (seeF hs 30 9 (.bool (t2544.2 == t2553.2)) KR KR)
              have ha := ha.bool 30 KR (ieq_t hp2571)
              refine yStep ha 33 KR ?_; intro l_ ha HK
              refine stepp ha 33 (.string a0) KR KR ?_; intro ax hax; exact HK _ _ _ hax rfl (Below.refl _ _)
            · skip
              intro a wr hn hd HW hs; have ha := hasNil hn hd
              have ha := ha.add (seeF hs 33 12 (.string a0) KR KR)
              have ha := ha.add (seeF hs 30 9 (.bool (t2544.2 == t2553.2)) KR KR)
              have ha := ha.bool 30 KR (ieq_t hp2571)
              refine yStep ha 34 KR ?_; intro l_ ha HK
              refine stepc ha 34 KR KR (headgateref15_Length.calls K a0 t2576 _ ht2577) ?_; rintro e W2578 ⟨rfl, HX2579⟩
              refine ⟨_, rfl, ?_⟩; intro ax hax; exact HK _ _ _ hax rfl HX2579.below
            · skip
              intro a wr hn hd HW hs; have ha := hasNil hn hd
              have ha := ha.add (seeF hs 32 11 (.int .i64 t2572) KR KR)
              have ha := ha.add (seeF hs 34 13 (.int .i64 t2576) KR KR)
              have ha := ha.add (seeF hs 30 9 (.bool (t2544.2 == t2553.2)) KR KR)
              have ha := ha.bool 30 KR (ieq_t hp2571)
              refine yStep ha 35 KR ?_; intro l_ ha HK
              refine stepp ha 35 (.bool (t2572 == t2576)) KR KR ?_; intro ax hax; exact HK _ _ _ hax rfl (Below.refl _ _)
            · skip
              intro a wr hn hd HW hs; have ha := hasNil hn hd
              have ha := ha.add (seeF hs 30 9 (.bool (t2544.2 == t2553.2)) KR KR)
              have ha := ha.bool 30 KR (ieq_t hp2571)
              have ha := ha.add (seeF hs 35 14 (.bool (t2572 == t2576)) KR KR)
              refine yStep ha 36 KR ?_; intro l_ ha HK
              refine stepp ha 36 (.bool (t2572 == t2576)) KR KR ?_; intro ax hax; exact HK _ _ _ hax rfl (Below.refl _ _)
            · skip
              intro a wr hn hd HW hs; have ha := hasNil hn hd
              have ha := ha.add (seeF hs 36 15 (.bool (t2572 == t2576)) KR KR)
              refine yStep ha 37 KR ?_; intro l_ ha HK
              refine stepp ha 37 (.bool (t2572 == t2576)) KR KR ?_; intro ax hax; exact HK _ _ _ hax rfl (Below.refl _ _)
            · skip
              intro a wr hn hd HW hs; have ha := hasNil hn hd
              have ha := ha.add (seeF hs 37 16 (.bool (t2572 == t2576)) KR KR)
              have ha := ha.bool 37 KR (ieq_f hp2580)
              exact yo ha KR rfl
            · skip
              intro a wr hn hd HW hs; have ha := hasNil hn hd
              have ha := ha.add (seeF hs 37 16 (.bool (t2572 == t2576)) KR KR)
              have ha := ha.bool 37 KR (ieq_f hp2580)
              have ha := ha.add (seeF hs 38 17 (undef) KR KR)
              refine yStep ha 39 KR ?_; intro l_ ha HK
              refine stepp ha 39 (.bool false) KR KR ?_; intro ax hax; exact HK _ _ _ hax rfl (Below.refl _ _)
          · skip
            intro a W2586 ha HW he hf
            replace ha := ha.add (gotF (m := 19) (j := 18) (d := 39) (v := .bool false) hf KR KR KR)
            clear he hf
            refine stepp ha 2 (.bool false) KR KR ?_; clear ha a; intro a ha
            refine endl ?_
            refine thenN (hK2561 _ _ ?_); clear hK2561
            refine wp_ret ?_
            obtain rfl := Option.some.inj h
            exact finv ha _ _ rfl (.tmp (v := .bool false) KR .nil) (.bool false) rfl ⟨rfl, HW.pick [] [] (by decide) (by decide) rfl KR⟩
      · skip
        replace h := ite_neg' h hp2571
        refine regionG 19 KR KR ha HW [.fix (.agg #[.int .i64 t2544.1.f0, .int .i64 t2544.1.f1, .int .i64 t2544.1.f2, .bool t2544.1.f3, .int .i64 t2544.1.f4, .int .i64 t2544.1.f5, .int .i64 t2544.1.f6]), .fix (.agg #[.int .i64 t2562.f0, .int .i64 t2562.f1, .int .i64 t2562.f2, .bool t2562.f3, .int .i64 t2562.f4, .int .i64 t2562.f5, .int .i64 t2562.f6]), .fix (.agg #[.int .i64 t2553.1.f0, .int .i64 t2553.1.f1, .int .i64 t2553.1.f2, .bool t2553.1.f3, .int .i64 t2553.1.f4, .int .i64 t2553.1.f5, .int .i64 t2553.1.f6]), .fix (.bool t2566), .fix (.bool t2566), .fix (.int .i64 t2544.2), .fix (.int .i64 t2553.2), .fix (.bool (t2544.2 == t2553.2)), .fix (.bool (t2544.2 == t2553.2)), .fix (.bool (t2544.2 == t2553.2)), .fix undef, .fix undef, .fix undef, .fix undef, .fix undef, .fix (.bool false), .fix (.bool false), .fix undef, .fix (.bool false)] ?_ ?_
        · skip
          refine ⟨?_, ?_, ?_, ?_, ?_, ?_, ?_, ?_, ?_, ?_, ?_, ?_, ?_, ?_, ?_, ?_, ?_, ?_, ?_, trivial⟩
          · skip
            intro a wr hn hd HW hs; have ha := hasNil hn hd
            have ha := ha.add (seeE hs 3 (.pointer (some ⟨b2548, 0, none⟩)) KR KR)
            refine yStep ha 21 KR ?_; intro l_ ha HK
            refine stepl ha 21 (HW.ca (i := 1) (b := b2548) (C := #[.int .i64 t2544.1.f0, .int .i64 t2544.1.f1, .int .i64 t2544.1.f2, .bool t2544.1.f3, .int .i64 t2544.1.f4, .int .i64 t2544.1.f5, .int .i64 t2544.1.f6]) (T := 39) (fr := (0, 0)) KR) 39 0 (.tmp 3) (.agg #[.int .i64 t2544.1.f0, .int .i64 t2544.1.f1, .int .i64 t2544.1.f2, .bool t2544.1.f3, .int .i64 t2544.1.f4, .int .i64 t2544.1.f5, .int .i64 t2544.1.f6]) rfl KR KR KR ?_; intro ax hax; exact HK _ _ _ hax rfl (Below.refl _ _)
          · skip
            intro a wr hn hd HW hs; have ha := hasNil hn hd
            have ha := ha.add (seeF hs 21 0 (.agg #[.int .i64 t2544.1.f0, .int .i64 t2544.1.f1, .int .i64 t2544.1.f2, .bool t2544.1.f3, .int .i64 t2544.1.f4, .int .i64 t2544.1.f5, .int .i64 t2544.1.f6]) KR KR)
            refine yStep ha 22 KR ?_; intro l_ ha HK
            refine stepc ha 22 KR KR (headgatelaw15_own.calls (⟨t2544.1.f0, t2544.1.f1, t2544.1.f2, t2544.1.f3, t2544.1.f4, t2544.1.f5, t2544.1.f6⟩ : T_cdb_Ask) t2562 _ ht2563) ?_; rintro e W2564 ⟨rfl, HX2565⟩
            refine ⟨_, rfl, ?_⟩; intro ax hax; exact HK _ _ _ hax rfl HX2565.below
          · skip
            intro a wr hn hd HW hs; have ha := hasNil hn hd
            have ha := ha.add (seeE hs 5 (.pointer (some ⟨b2557, 0, none⟩)) KR KR)
            refine yStep ha 23 KR ?_; intro l_ ha HK
            refine stepl ha 23 (HW.ca (i := 0) (b := b2557) (C := #[.int .i64 t2553.1.f0, .int .i64 t2553.1.f1, .int .i64 t2553.1.f2, .bool t2553.1.f3, .int .i64 t2553.1.f4, .int .i64 t2553.1.f5, .int .i64 t2553.1.f6]) (T := 43) (fr := (0, 0)) KR) 43 0 (.tmp 5) (.agg #[.int .i64 t2553.1.f0, .int .i64 t2553.1.f1, .int .i64 t2553.1.f2, .bool t2553.1.f3, .int .i64 t2553.1.f4, .int .i64 t2553.1.f5, .int .i64 t2553.1.f6]) rfl KR KR KR ?_; intro ax hax; exact HK _ _ _ hax rfl (Below.refl _ _)
          · skip
            intro a wr hn hd HW hs; have ha := hasNil hn hd
            have ha := ha.add (seeF hs 22 1 (.agg #[.int .i64 t2562.f0, .int .i64 t2562.f1, .int .i64 t2562.f2, .bool t2562.f3, .int .i64 t2562.f4, .int .i64 t2562.f5, .int .i64 t2562.f6]) KR KR)
            have ha := ha.add (seeF hs 23 2 (.agg #[.int .i64 t2553.1.f0, .int .i64 t2553.1.f1, .int .i64 t2553.1.f2, .bool t2553.1.f3, .int .i64 t2553.1.f4, .int .i64 t2553.1.f5, .int .i64 t2553.1.f6]) KR KR)
            refine yStep ha 24 KR ?_; intro l_ ha HK
            refine stepc ha 24 KR KR (headgateref15_Same.calls t2562 (⟨t2553.1.f0, t2553.1.f1, t2553.1.f2, t2553.1.f3, t2553.1.f4, t2553.1.f5, t2553.1.f6⟩ : T_headgateref15_Ask) t2566 _ ht2567) ?_; rintro e W2568 ⟨rfl, HX2569⟩
            refine ⟨_, rfl, ?_⟩; intro ax hax; exact HK _ _ _ hax rfl HX2569.below
          · skip
            intro a wr hn hd HW hs; have ha := hasNil hn hd
            have ha := ha.add (seeF hs 24 3 (.bool t2566) KR KR)
            refine yStep ha 25 KR ?_; intro l_ ha HK
            refine stepp ha 25 (.bool t2566) KR KR ?_; intro ax hax; exact HK _ _ _ hax rfl (Below.refl _ _)
          · skip
            intro a wr hn hd HW hs; have ha := hasNil hn hd
            have ha := ha.add (seeE hs 4 (.int .i64 t2544.2) KR KR)
            have ha := ha.add (seeF hs 25 4 (.bool t2566) KR KR)
            have ha := ha.bool 25 KR (hp2570)
            refine yStep ha 26 KR ?_; intro l_ ha HK
            refine stepp ha 26 (.int .i64 t2544.2) KR KR ?_; intro ax hax; exact HK _ _ _ hax rfl (Below.refl _ _)
          · skip
            intro a wr hn hd HW hs; have ha := hasNil hn hd
            have ha := ha.add (seeE hs 6 (.int .i64 t2553.2) KR KR)
            have ha := ha.add (seeF hs 25 4 (.bool t2566) KR KR)
            have ha := ha.bool 25 KR (hp2570)
            refine yStep ha 27 KR ?_; intro l_ ha HK
            refine stepp ha 27 (.int .i64 t2553.2) KR KR ?_; intro ax hax; exact HK _ _ _ hax rfl (Below.refl _ _)
          · skip
            intro a wr hn hd HW hs; have ha := hasNil hn hd
            have ha := ha.add (seeF hs 26 5 (.int .i64 t2544.2) KR KR)
            have ha := ha.add (seeF hs 27 6 (.int .i64 t2553.2) KR KR)
            have ha := ha.add (seeF hs 25 4 (.bool t2566) KR KR)
            have ha := ha.bool 25 KR (hp2570)
            refine yStep ha 28 KR ?_; intro l_ ha HK
            refine stepp ha 28 (.bool (t2544.2 == t2553.2)) KR KR ?_; intro ax hax; exact HK _ _ _ hax rfl (Below.refl _ _)
          · skip
            intro a wr hn hd HW hs; have ha := hasNil hn hd
            have ha := ha.add (seeF hs 25 4 (.bool t2566) KR KR)
            have ha := ha.bool 25 KR (hp2570)
            have ha := ha.add (seeF hs 28 7 (.bool (t2544.2 == t2553.2)) KR KR)
            refine yStep ha 29 KR ?_; intro l_ ha HK
            refine stepp ha 29 (.bool (t2544.2 == t2553.2)) KR KR ?_; intro ax hax; exact HK _ _ _ hax rfl (Below.refl _ _)
          · skip
            intro a wr hn hd HW hs; have ha := hasNil hn hd
            have ha := ha.add (seeF hs 29 8 (.bool (t2544.2 == t2553.2)) KR KR)
            refine yStep ha 30 KR ?_; intro l_ ha HK
            refine stepp ha 30 (.bool (t2544.2 == t2553.2)) KR KR ?_; intro ax hax; exact HK _ _ _ hax rfl (Below.refl _ _)
          · skip
            intro a wr hn hd HW hs; have ha := hasNil hn hd
            have ha := ha.add (seeE hs 0 (.string a0) KR KR)
            have ha := ha.add (seeF hs 30 9 (.bool (t2544.2 == t2553.2)) KR KR)
            have ha := ha.bool 30 KR (ieq_f hp2571)
            exact yo ha KR rfl
          · skip
            intro a wr hn hd HW hs; have ha := hasNil hn hd
            have ha := ha.add (seeF hs 31 10 (undef) KR KR)
            have ha := ha.add (seeF hs 30 9 (.bool (t2544.2 == t2553.2)) KR KR)
            have ha := ha.bool 30 KR (ieq_f hp2571)
            exact yo ha KR rfl
          · skip
            intro a wr hn hd HW hs; have ha := hasNil hn hd
            have ha := ha.add (seeE hs 0 (.string a0) KR KR)
            have ha := ha.add (seeF hs 30 9 (.bool (t2544.2 == t2553.2)) KR KR)
            have ha := ha.bool 30 KR (ieq_f hp2571)
            exact yo ha KR rfl
          · skip
            intro a wr hn hd HW hs; have ha := hasNil hn hd
            have ha := ha.add (seeF hs 33 12 (undef) KR KR)
            have ha := ha.add (seeF hs 30 9 (.bool (t2544.2 == t2553.2)) KR KR)
            have ha := ha.bool 30 KR (ieq_f hp2571)
            exact yo ha KR rfl
          · skip
            intro a wr hn hd HW hs; have ha := hasNil hn hd
            have ha := ha.add (seeF hs 32 11 (undef) KR KR)
            have ha := ha.add (seeF hs 34 13 (undef) KR KR)
            have ha := ha.add (seeF hs 30 9 (.bool (t2544.2 == t2553.2)) KR KR)
            have ha := ha.bool 30 KR (ieq_f hp2571)
            exact yo ha KR rfl
          · skip
            intro a wr hn hd HW hs; have ha := hasNil hn hd
            have ha := ha.add (seeF hs 30 9 (.bool (t2544.2 == t2553.2)) KR KR)
            have ha := ha.bool 30 KR (ieq_f hp2571)
            have ha := ha.add (seeF hs 35 14 (undef) KR KR)
            refine yStep ha 36 KR ?_; intro l_ ha HK
            refine stepp ha 36 (.bool false) KR KR ?_; intro ax hax; exact HK _ _ _ hax rfl (Below.refl _ _)
          · skip
            intro a wr hn hd HW hs; have ha := hasNil hn hd
            have ha := ha.add (seeF hs 36 15 (.bool false) KR KR)
            refine yStep ha 37 KR ?_; intro l_ ha HK
            refine stepp ha 37 (.bool false) KR KR ?_; intro ax hax; exact HK _ _ _ hax rfl (Below.refl _ _)
          · skip
            intro a wr hn hd HW hs; have ha := hasNil hn hd
            have ha := ha.add (seeF hs 37 16 (.bool false) KR KR)
            exact yo ha KR rfl
          · skip
            intro a wr hn hd HW hs; have ha := hasNil hn hd
            have ha := ha.add (seeF hs 37 16 (.bool false) KR KR)
            have ha := ha.add (seeF hs 38 17 (undef) KR KR)
            refine yStep ha 39 KR ?_; intro l_ ha HK
            refine stepp ha 39 (.bool false) KR KR ?_; intro ax hax; exact HK _ _ _ hax rfl (Below.refl _ _)
        · skip
          intro a W2587 ha HW he hf
          replace ha := ha.add (gotF (m := 19) (j := 18) (d := 39) (v := .bool false) hf KR KR KR)
          clear he hf
          refine stepp ha 2 (.bool false) KR KR ?_; clear ha a; intro a ha
          refine endl ?_
          refine thenN (hK2561 _ _ ?_); clear hK2561
          refine wp_ret ?_
          obtain rfl := Option.some.inj h
          exact finv ha _ _ rfl (.tmp (v := .bool false) KR .nil) (.bool false) rfl ⟨rfl, HW.pick [] [] (by decide) (by decide) rfl KR⟩
    · skip
      replace h := ite_neg' h hp2570
      refine regionG 19 KR KR ha HW [.fix (.agg #[.int .i64 t2544.1.f0, .int .i64 t2544.1.f1, .int .i64 t2544.1.f2, .bool t2544.1.f3, .int .i64 t2544.1.f4, .int .i64 t2544.1.f5, .int .i64 t2544.1.f6]), .fix (.agg #[.int .i64 t2562.f0, .int .i64 t2562.f1, .int .i64 t2562.f2, .bool t2562.f3, .int .i64 t2562.f4, .int .i64 t2562.f5, .int .i64 t2562.f6]), .fix (.agg #[.int .i64 t2553.1.f0, .int .i64 t2553.1.f1, .int .i64 t2553.1.f2, .bool t2553.1.f3, .int .i64 t2553.1.f4, .int .i64 t2553.1.f5, .int .i64 t2553.1.f6]), .fix (.bool t2566), .fix (.bool t2566), .fix undef, .fix undef, .fix undef, .fix (.bool false), .fix (.bool false), .fix undef, .fix undef, .fix undef, .fix undef, .fix undef, .fix (.bool false), .fix (.bool false), .fix undef, .fix (.bool false)] ?_ ?_
      · skip
        refine ⟨?_, ?_, ?_, ?_, ?_, ?_, ?_, ?_, ?_, ?_, ?_, ?_, ?_, ?_, ?_, ?_, ?_, ?_, ?_, trivial⟩
        · skip
          intro a wr hn hd HW hs; have ha := hasNil hn hd
          have ha := ha.add (seeE hs 3 (.pointer (some ⟨b2548, 0, none⟩)) KR KR)
          refine yStep ha 21 KR ?_; intro l_ ha HK
          refine stepl ha 21 (HW.ca (i := 1) (b := b2548) (C := #[.int .i64 t2544.1.f0, .int .i64 t2544.1.f1, .int .i64 t2544.1.f2, .bool t2544.1.f3, .int .i64 t2544.1.f4, .int .i64 t2544.1.f5, .int .i64 t2544.1.f6]) (T := 39) (fr := (0, 0)) KR) 39 0 (.tmp 3) (.agg #[.int .i64 t2544.1.f0, .int .i64 t2544.1.f1, .int .i64 t2544.1.f2, .bool t2544.1.f3, .int .i64 t2544.1.f4, .int .i64 t2544.1.f5, .int .i64 t2544.1.f6]) rfl KR KR KR ?_; intro ax hax; exact HK _ _ _ hax rfl (Below.refl _ _)
        · skip
          intro a wr hn hd HW hs; have ha := hasNil hn hd
          have ha := ha.add (seeF hs 21 0 (.agg #[.int .i64 t2544.1.f0, .int .i64 t2544.1.f1, .int .i64 t2544.1.f2, .bool t2544.1.f3, .int .i64 t2544.1.f4, .int .i64 t2544.1.f5, .int .i64 t2544.1.f6]) KR KR)
          refine yStep ha 22 KR ?_; intro l_ ha HK
          refine stepc ha 22 KR KR (headgatelaw15_own.calls (⟨t2544.1.f0, t2544.1.f1, t2544.1.f2, t2544.1.f3, t2544.1.f4, t2544.1.f5, t2544.1.f6⟩ : T_cdb_Ask) t2562 _ ht2563) ?_; rintro e W2564 ⟨rfl, HX2565⟩
          refine ⟨_, rfl, ?_⟩; intro ax hax; exact HK _ _ _ hax rfl HX2565.below
        · skip
          intro a wr hn hd HW hs; have ha := hasNil hn hd
          have ha := ha.add (seeE hs 5 (.pointer (some ⟨b2557, 0, none⟩)) KR KR)
          refine yStep ha 23 KR ?_; intro l_ ha HK
          refine stepl ha 23 (HW.ca (i := 0) (b := b2557) (C := #[.int .i64 t2553.1.f0, .int .i64 t2553.1.f1, .int .i64 t2553.1.f2, .bool t2553.1.f3, .int .i64 t2553.1.f4, .int .i64 t2553.1.f5, .int .i64 t2553.1.f6]) (T := 43) (fr := (0, 0)) KR) 43 0 (.tmp 5) (.agg #[.int .i64 t2553.1.f0, .int .i64 t2553.1.f1, .int .i64 t2553.1.f2, .bool t2553.1.f3, .int .i64 t2553.1.f4, .int .i64 t2553.1.f5, .int .i64 t2553.1.f6]) rfl KR KR KR ?_; intro ax hax; exact HK _ _ _ hax rfl (Below.refl _ _)
        · skip
          intro a wr hn hd HW hs; have ha := hasNil hn hd
          have ha := ha.add (seeF hs 22 1 (.agg #[.int .i64 t2562.f0, .int .i64 t2562.f1, .int .i64 t2562.f2, .bool t2562.f3, .int .i64 t2562.f4, .int .i64 t2562.f5, .int .i64 t2562.f6]) KR KR)
          have ha := ha.add (seeF hs 23 2 (.agg #[.int .i64 t2553.1.f0, .int .i64 t2553.1.f1, .int .i64 t2553.1.f2, .bool t2553.1.f3, .int .i64 t2553.1.f4, .int .i64 t2553.1.f5, .int .i64 t2553.1.f6]) KR KR)
          refine yStep ha 24 KR ?_; intro l_ ha HK
          refine stepc ha 24 KR KR (headgateref15_Same.calls t2562 (⟨t2553.1.f0, t2553.1.f1, t2553.1.f2, t2553.1.f3, t2553.1.f4, t2553.1.f5, t2553.1.f6⟩ : T_headgateref15_Ask) t2566 _ ht2567) ?_; rintro e W2568 ⟨rfl, HX2569⟩
          refine ⟨_, rfl, ?_⟩; intro ax hax; exact HK _ _ _ hax rfl HX2569.below
        · skip
          intro a wr hn hd HW hs; have ha := hasNil hn hd
          have ha := ha.add (seeF hs 24 3 (.bool t2566) KR KR)
          refine yStep ha 25 KR ?_; intro l_ ha HK
          refine stepp ha 25 (.bool t2566) KR KR ?_; intro ax hax; exact HK _ _ _ hax rfl (Below.refl _ _)
        · skip
          intro a wr hn hd HW hs; have ha := hasNil hn hd
          have ha := ha.add (seeE hs 4 (.int .i64 t2544.2) KR KR)
          have ha := ha.add (seeF hs 25 4 (.bool t2566) KR KR)
          have ha := ha.bool 25 KR (bool_f hp2570)
          exact yo ha KR rfl
        · skip
          intro a wr hn hd HW hs; have ha := hasNil hn hd
          have ha := ha.add (seeE hs 6 (.int .i64 t2553.2) KR KR)
          have ha := ha.add (seeF hs 25 4 (.bool t2566) KR KR)
          have ha := ha.bool 25 KR (bool_f hp2570)
          exact yo ha KR rfl
        · skip
          intro a wr hn hd HW hs; have ha := hasNil hn hd
          have ha := ha.add (seeF hs 26 5 (undef) KR KR)
          have ha := ha.add (seeF hs 27 6 (undef) KR KR)
          have ha := ha.add (seeF hs 25 4 (.bool t2566) KR KR)
          have ha := ha.bool 25 KR (bool_f hp2570)
          exact yo ha KR rfl
        · skip
          intro a wr hn hd HW hs; have ha := hasNil hn hd
          have ha := ha.add (seeF hs 25 4 (.bool t2566) KR KR)
          have ha := ha.bool 25 KR (bool_f hp2570)
          have ha := ha.add (seeF hs 28 7 (undef) KR KR)
          refine yStep ha 29 KR ?_; intro l_ ha HK
          refine stepp ha 29 (.bool false) KR KR ?_; intro ax hax; exact HK _ _ _ hax rfl (Below.refl _ _)
        · skip
          intro a wr hn hd HW hs; have ha := hasNil hn hd
          have ha := ha.add (seeF hs 29 8 (.bool false) KR KR)
          refine yStep ha 30 KR ?_; intro l_ ha HK
          refine stepp ha 30 (.bool false) KR KR ?_; intro ax hax; exact HK _ _ _ hax rfl (Below.refl _ _)
        · skip
          intro a wr hn hd HW hs; have ha := hasNil hn hd
          have ha := ha.add (seeE hs 0 (.string a0) KR KR)
          have ha := ha.add (seeF hs 30 9 (.bool false) KR KR)
          exact yo ha KR rfl
        · skip
          intro a wr hn hd HW hs; have ha := hasNil hn hd
          have ha := ha.add (seeF hs 31 10 (undef) KR KR)
          have ha := ha.add (seeF hs 30 9 (.bool false) KR KR)
          exact yo ha KR rfl
        · skip
          intro a wr hn hd HW hs; have ha := hasNil hn hd
          have ha := ha.add (seeE hs 0 (.string a0) KR KR)
          have ha := ha.add (seeF hs 30 9 (.bool false) KR KR)
          exact yo ha KR rfl
        · skip
          intro a wr hn hd HW hs; have ha := hasNil hn hd
          have ha := ha.add (seeF hs 33 12 (undef) KR KR)
          have ha := ha.add (seeF hs 30 9 (.bool false) KR KR)
          exact yo ha KR rfl
        · skip
          intro a wr hn hd HW hs; have ha := hasNil hn hd
          have ha := ha.add (seeF hs 32 11 (undef) KR KR)
          have ha := ha.add (seeF hs 34 13 (undef) KR KR)
          have ha := ha.add (seeF hs 30 9 (.bool false) KR KR)
          exact yo ha KR rfl
        · skip
          intro a wr hn hd HW hs; have ha := hasNil hn hd
          have ha := ha.add (seeF hs 30 9 (.bool false) KR KR)
          have ha := ha.add (seeF hs 35 14 (undef) KR KR)
          refine yStep ha 36 KR ?_; intro l_ ha HK
          refine stepp ha 36 (.bool false) KR KR ?_; intro ax hax; exact HK _ _ _ hax rfl (Below.refl _ _)
        · skip
          intro a wr hn hd HW hs; have ha := hasNil hn hd
          have ha := ha.add (seeF hs 36 15 (.bool false) KR KR)
          refine yStep ha 37 KR ?_; intro l_ ha HK
          refine stepp ha 37 (.bool false) KR KR ?_; intro ax hax; exact HK _ _ _ hax rfl (Below.refl _ _)
        · skip
          intro a wr hn hd HW hs; have ha := hasNil hn hd
          have ha := ha.add (seeF hs 37 16 (.bool false) KR KR)
          exact yo ha KR rfl
        · skip
          intro a wr hn hd HW hs; have ha := hasNil hn hd
          have ha := ha.add (seeF hs 37 16 (.bool false) KR KR)
          have ha := ha.add (seeF hs 38 17 (undef) KR KR)
          refine yStep ha 39 KR ?_; intro l_ ha HK
          refine stepp ha 39 (.bool false) KR KR ?_; intro ax hax; exact HK _ _ _ hax rfl (Below.refl _ _)
      · skip
        intro a W2588 ha HW he hf
        replace ha := ha.add (gotF (m := 19) (j := 18) (d := 39) (v := .bool false) hf KR KR KR)
        clear he hf
        refine stepp ha 2 (.bool false) KR KR ?_; clear ha a; intro a ha
        refine endl ?_
        refine thenN (hK2561 _ _ ?_); clear hK2561
        refine wp_ret ?_
        obtain rfl := Option.some.inj h
        exact finv ha _ _ rfl (.tmp (v := .bool false) KR .nil) (.bool false) rfl ⟨rfl, HW.pick [] [] (by decide) (by decide) rfl KR⟩
end Go.Proofs.YtpjcipadjegmlaaDoor.F
