/- headgate/headgateref05.Writes, headgate/headgateref05.Split: plain functions, and that the calls come to what they say. No condition. -/
import Derived.Test.YtdcojinnjpihaaaDoorFT
import Derived.Test.YtdcojinnjpihaaaDoorXSB
import Derived.Test.YtdcojinnjpihaaaDoorXEff
import Derived.Test.YtdcojinnjpihaaaDoorF24
namespace Go.Proofs.YtdcojinnjpihaaaDoor.F
open Go Go.RowKit Go.Proofs.YtdcojinnjpihaaaDoor.X
set_option linter.unusedVariables false
set_option linter.unusedSimpArgs false
/-! ### headgate/headgateref05.Writes: function 17 -/
def headgateref05_Writes.b1 (K : Nat) (a0 : List T_api_Write) (again2636 : ByteArray → Int → Option (ByteArray × Int)) (x2638 : ByteArray) (x2641 : Int) : Option (ByteArray × Int) :=
  if x2641 < (a0.length : Int) then (asrt (0 ≤ x2641) ((headgateref01_PutBig.f K (IntKind.wrap .u64 ((rdL T_api_Write.z a0 x2641).f0)) 4).bind fun t2657 => (asrt (x2638.size + t2657.size ≤ 140737488355328) (asrt ((x2638 ++ t2657).size + ((rdL T_api_Write.z a0 x2641).f1).size ≤ 140737488355328) (again2636 ((x2638 ++ t2657) ++ ((rdL T_api_Write.z a0 x2641).f1)) (IntKind.wrap .i64 (x2641 + 1))))))) else (some (x2638, 0))
def headgateref05_Writes.l1 (K : Nat) (a0 : List T_api_Write) : Nat → ByteArray → Int → Option (ByteArray × Int)
  | 0, _, _ => none
  | k_ + 1, x2638, x2641 => headgateref05_Writes.b1 K a0 (headgateref05_Writes.l1 K a0 k_) x2638 x2641
def headgateref05_Writes.b0 (K : Nat) (a0 : List T_api_Write) (again2521 : Int → Option (ByteArray × Int)) (x2522 : Int) : Option (ByteArray × Int) :=
  if x2522 < (a0.length : Int) then (asrt (0 ≤ x2522) (if ((rdL T_api_Write.z a0 x2522).f0) < 0 then (some ((⟨#[]⟩ : ByteArray), 40)) else (if ((rdL T_api_Write.z a0 x2522).f0) ≥ 8192 then (some ((⟨#[]⟩ : ByteArray), 40)) else (if (((rdL T_api_Write.z a0 x2522).f1).size : Int) = 512 then (again2521 (IntKind.wrap .i64 (x2522 + 1))) else (some ((⟨#[]⟩ : ByteArray), 40)))))) else ((headgateref01_PutBig.f K (IntKind.wrap .u64 (a0.length : Int)) 4).bind fun t2556 => (asrt (t2556.size ≤ 140737488355328) (headgateref05_Writes.l1 K a0 K t2556 0)))
def headgateref05_Writes.l0 (K : Nat) (a0 : List T_api_Write) : Nat → Int → Option (ByteArray × Int)
  | 0, _ => none
  | k_ + 1, x2522 => headgateref05_Writes.b0 K a0 (headgateref05_Writes.l0 K a0 k_) x2522
def headgateref05_Writes.f (K : Nat) (a0 : List T_api_Write) : Option (ByteArray × Int) :=
  if (a0.length : Int) > 80 then (some ((⟨#[]⟩ : ByteArray), 3)) else (headgateref05_Writes.l0 K a0 K 0)
set_option maxRecDepth 100000 in
set_option maxHeartbeats 4000000 in
theorem headgateref05_Writes.calls (K : Nat) (a0 : List T_api_Write) (A0_0 : Option Addr) (c0_0 : Nat) (r : ByteArray × Int) (w : World) (hr0_0 : Rd 2 w (.slice A0_0 a0.length c0_0) a0.length (encs T_api_Write.enc a0)) (h : headgateref05_Writes.f K a0 = some r) :
    Calls Tryd.prog 17 #[.slice A0_0 a0.length c0_0] w (fun e W' => e = .returned (.tuple #[.string r.1, .int .i64 r.2]) ∧ Wd w W' [] [] ) := by
  refine sxstart (n := 67) (l := [(0, .slice A0_0 a0.length c0_0)]) Tryd.func17 rfl rfl (Nat.le_of_ble_eq_true KR) (subsA_cons rfl (subsA_nil _)) ?_
  intro a ha
  have HW := Wd.refl w
  unfold headgateref05_Writes.f at h
  refine wp_seq_k (fun K2449 hK2450 => ?_)
  refine wp_region_lit ?_
  refine stepp ha 2 (.string (⟨#[]⟩ : ByteArray)) KR KR ?_; clear ha a; intro a ha
  refine stepp ha 3 (.int .i64 0) KR KR ?_; clear ha a; intro a ha
  refine endl ?_
  refine thenN (hK2450 _ _ ?_); clear hK2450
  refine wp_seq_k (fun K2451 hK2452 => ?_)
  refine wp_seq_k (fun K2453 hK2454 => ?_)
  refine wp_region_lit ?_
  refine stepp ha 7 (.slice A0_0 a0.length c0_0) KR KR ?_; clear ha a; intro a ha
  refine stepp ha 8 (.int .i64 (a0.length : Int)) KR KR ?_; clear ha a; intro a ha
  refine stepp ha 9 (.bool (decide ((a0.length : Int) > 80))) KR KR ?_; clear ha a; intro a ha
  refine endl ?_
  refine thenN (hK2454 _ _ ?_); clear hK2454
  by_cases hp2455 : (a0.length : Int) > 80
  · skip
    replace h := ite_pos' h hp2455
    refine condT ha KR KR (t := decide ((a0.length : Int) > 80)) (decide_eq_true hp2455) ?_
    refine wp_seq_k (fun K2456 hK2457 => ?_)
    refine wp_region_lit ?_
    refine stepp ha 2 (.string (⟨#[]⟩ : ByteArray)) KR KR ?_; clear ha a; intro a ha
    refine stepp ha 3 (.int .i64 3) KR KR ?_; clear ha a; intro a ha
    refine endl ?_
    refine thenN (hK2457 _ _ ?_); clear hK2457
    refine wp_ret ?_
    refine thenR ?_
    obtain rfl := Option.some.inj h
    exact finv ha _ _ rfl (.tmp (v := .string (⟨#[]⟩ : ByteArray)) KR (.tmp (v := .int .i64 3) KR .nil)) (.tuple #[.string (⟨#[]⟩ : ByteArray), .int .i64 3]) rfl ⟨rfl, HW.pick [] [] (by decide) (by decide) rfl KR⟩
  · skip
    replace h := ite_neg' h hp2455
    refine condF ha KR KR (t := decide ((a0.length : Int) > 80)) (decide_eq_false hp2455) ?_
    refine wp_skip ?_
    refine thenN (hK2452 _ _ ?_); clear hK2452
    refine wp_seq_k (fun K2458 hK2459 => ?_)
    refine wp_seq_k (fun K2460 hK2461 => ?_)
    refine wp_region_lit ?_
    refine stepp ha 4 (.int .i64 0) KR KR ?_; clear ha a; intro a ha
    refine endl ?_
    refine thenN (hK2461 _ _ ?_); clear hK2461
    refine wp_block ?_
    refine loopk (fun k => fun a W2523 => ∃ (x2522 : Int), headgateref05_Writes.l0 K a0 k x2522 = some r ∧ Has 67 [(0, .slice A0_0 a0.length c0_0), (4, .int .i64 x2522)] a ∧ Wd w W2523 [] []) K ?_ ?_
    · skip
      exact ⟨0, h, ha.sub (subs_cons KR (subs_cons KR (subs_nil _))), HW.pick [] [] (by decide) (by decide) KR KR⟩
    · skip
      intro k a W2523 hI
      obtain ⟨x2522, h, ha, HW⟩ := hI
      cases k with
      | zero => exact (none_some (show none = some r from h)).elim
      | succ k2524 =>
        replace h : headgateref05_Writes.b0 K a0 (headgateref05_Writes.l0 K a0 k2524) x2522 = some r := h
        obtain ⟨again2521, hag2525⟩ : ∃ g_, g_ = headgateref05_Writes.l0 K a0 k2524 := ⟨_, rfl⟩
        rw [← hag2525] at h
        unfold headgateref05_Writes.b0 at h
        refine wp_seq_k (fun K2526 hK2527 => ?_)
        refine wp_seq_k (fun K2528 hK2529 => ?_)
        refine wp_region_lit ?_
        refine stepp ha 10 (.int .i64 x2522) KR KR ?_; clear ha a; intro a ha
        refine stepp ha 11 (.slice A0_0 a0.length c0_0) KR KR ?_; clear ha a; intro a ha
        refine stepp ha 12 (.int .i64 (a0.length : Int)) KR KR ?_; clear ha a; intro a ha
        refine stepp ha 13 (.bool (decide (x2522 < (a0.length : Int)))) KR KR ?_; clear ha a; intro a ha
        refine endl ?_
        refine thenN (hK2529 _ _ ?_); clear hK2529
        by_cases hp2530 : x2522 < (a0.length : Int)
        · skip
          replace h := ite_pos' h hp2530
          refine condT ha KR KR (t := decide (x2522 < (a0.length : Int))) (decide_eq_true hp2530) ?_
          refine wp_skip ?_
          refine thenN (hK2527 _ _ ?_); clear hK2527
          refine wp_seq_k (fun K2531 hK2532 => ?_)
          refine wp_block ?_
          refine wp_seq_k (fun K2533 hK2534 => ?_)
          refine wp_region_lit ?_
          refine stepp ha 16 (.slice A0_0 a0.length c0_0) KR KR ?_; clear ha a; intro a ha
          refine stepp ha 17 (.int .i64 x2522) KR KR ?_; clear ha a; intro a ha
          obtain ⟨hA2535, h_⟩ := asrt_some h; clear h; have h := h_; clear h_
          refine stepie T_api_Write.enc T_api_Write.z ha 18 (fun _ => rfl) (v := .slice A0_0 a0.length c0_0) (xs := a0) ((HW.rd0 hr0_0)) 44 46 (.tmp 16) (.tmp 17) .i64 x2522 rfl KR KR KR KR hA2535 (show (x2522 : Int) < ((a0).length : Int) from hp2530) KR ?_; clear ha a; intro b2536 off2537 a hC2538 ha
          refine stepp ha 19 (.pointer (some ⟨b2536, off2537, none⟩)) KR KR ?_; clear ha a; intro a ha
          refine stepl ha 20 hC2538 3 0 (.tmp 19) (.int .i64 ((rdL T_api_Write.z a0 x2522).f0)) rfl KR KR KR ?_; clear ha a; intro a ha
          refine stepp ha 21 (.bool (decide (((rdL T_api_Write.z a0 x2522).f0) < 0))) KR KR ?_; clear ha a; intro a ha
          refine stepp ha 22 (.bool (decide (((rdL T_api_Write.z a0 x2522).f0) < 0))) KR KR ?_; clear ha a; intro a ha
          by_cases hp2539 : ((rdL T_api_Write.z a0 x2522).f0) < 0
          · skip
            replace h := ite_pos' h hp2539
            replace ha := ha.bool 22 KR (decide_eq_true hp2539)
            refine stepo ha 23 KR ?_; clear ha a; intro a ha
            refine stepo ha 24 KR ?_; clear ha a; intro a ha
            refine stepo ha 25 KR ?_; clear ha a; intro a ha
            refine stepo ha 26 KR ?_; clear ha a; intro a ha
            refine stepo ha 27 KR ?_; clear ha a; intro a ha
            refine stepo ha 28 KR ?_; clear ha a; intro a ha
            refine stepp ha 29 (.bool true) KR KR ?_; clear ha a; intro a ha
            refine stepp ha 30 (.bool true) KR KR ?_; clear ha a; intro a ha
            refine stepo ha 31 KR ?_; clear ha a; intro a ha
            refine stepo ha 32 KR ?_; clear ha a; intro a ha
            refine stepo ha 33 KR ?_; clear ha a; intro a ha
            refine stepo ha 34 KR ?_; clear ha a; intro a ha
            refine stepo ha 35 KR ?_; clear ha a; intro a ha
            refine stepo ha 36 KR ?_; clear ha a; intro a ha
            refine stepo ha 37 KR ?_; clear ha a; intro a ha
            refine stepp ha 38 (.bool true) KR KR ?_; clear ha a; intro a ha
            refine endl ?_
            refine thenN (hK2534 _ _ ?_); clear hK2534
            refine condT ha KR KR (t := true) (rfl) ?_
            refine wp_seq_k (fun K2547 hK2548 => ?_)
            refine wp_region_lit ?_
            refine stepp ha 2 (.string (⟨#[]⟩ : ByteArray)) KR KR ?_; clear ha a; intro a ha
            refine stepp ha 3 (.int .i64 40) KR KR ?_; clear ha a; intro a ha
            refine endl ?_
            refine thenN (hK2548 _ _ ?_); clear hK2548
            refine wp_ret ?_
            refine blkR ?_
            refine thenR ?_
            refine thenR ?_
            refine blkR ?_
            refine thenR ?_
            obtain rfl := Option.some.inj h
            exact finv ha _ _ rfl (.tmp (v := .string (⟨#[]⟩ : ByteArray)) KR (.tmp (v := .int .i64 40) KR .nil)) (.tuple #[.string (⟨#[]⟩ : ByteArray), .int .i64 40]) rfl ⟨rfl, HW.pick [] [] (by decide) (by decide) rfl KR⟩
          · skip
            replace h := ite_neg' h hp2539
            replace ha := ha.bool 22 KR (decide_eq_false hp2539)
            refine stepp ha 23 (.slice A0_0 a0.length c0_0) KR KR ?_; clear ha a; intro a ha
            refine stepp ha 24 (.int .i64 x2522) KR KR ?_; clear ha a; intro a ha
            refine stepie T_api_Write.enc T_api_Write.z ha 25 (fun _ => rfl) (v := .slice A0_0 a0.length c0_0) (xs := a0) ((HW.rd0 hr0_0)) 44 46 (.tmp 23) (.tmp 24) .i64 x2522 rfl KR KR KR KR hA2535 (show (x2522 : Int) < ((a0).length : Int) from hp2530) KR ?_; clear ha a; intro b2540 off2541 a hC2542 ha
            refine stepp ha 26 (.pointer (some ⟨b2540, off2541, none⟩)) KR KR ?_; clear ha a; intro a ha
            refine stepl ha 27 hC2542 3 0 (.tmp 26) (.int .i64 ((rdL T_api_Write.z a0 x2522).f0)) rfl KR KR KR ?_; clear ha a; intro a ha
            refine stepp ha 28 (.bool (decide (((rdL T_api_Write.z a0 x2522).f0) ≥ 8192))) KR KR ?_; clear ha a; intro a ha
            refine stepp ha 29 (.bool (decide (((rdL T_api_Write.z a0 x2522).f0) ≥ 8192))) KR KR ?_; clear ha a; intro a ha
            refine stepp ha 30 (.bool (decide (((rdL T_api_Write.z a0 x2522).f0) ≥ 8192))) KR KR ?_; clear ha a; intro a ha
            by_cases hp2543 : ((rdL T_api_Write.z a0 x2522).f0) ≥ 8192
            · skip
              replace h := ite_pos' h hp2543
              replace ha := ha.bool 30 KR (decide_eq_true hp2543)
              refine stepo ha 31 KR ?_; clear ha a; intro a ha
              refine stepo ha 32 KR ?_; clear ha a; intro a ha
              refine stepo ha 33 KR ?_; clear ha a; intro a ha
              refine stepo ha 34 KR ?_; clear ha a; intro a ha
              refine stepo ha 35 KR ?_; clear ha a; intro a ha
              refine stepo ha 36 KR ?_; clear ha a; intro a ha
              refine stepo ha 37 KR ?_; clear ha a; intro a ha
              refine stepp ha 38 (.bool true) KR KR ?_; clear ha a; intro a ha
              refine endl ?_
              refine thenN (hK2534 _ _ ?_); clear hK2534
              refine condT ha KR KR (t := true) (rfl) ?_
              refine wp_seq_k (fun K2549 hK2550 => ?_)
              refine wp_region_lit ?_
              refine stepp ha 2 (.string (⟨#[]⟩ : ByteArray)) KR KR ?_; clear ha a; intro a ha
              refine stepp ha 3 (.int .i64 40) KR KR ?_; clear ha a; intro a ha
              refine endl ?_
              refine thenN (hK2550 _ _ ?_); clear hK2550
              refine wp_ret ?_
              refine blkR ?_
              refine thenR ?_
              refine thenR ?_
              refine blkR ?_
              refine thenR ?_
              obtain rfl := Option.some.inj h
              exact finv ha _ _ rfl (.tmp (v := .string (⟨#[]⟩ : ByteArray)) KR (.tmp (v := .int .i64 40) KR .nil)) (.tuple #[.string (⟨#[]⟩ : ByteArray), .int .i64 40]) rfl ⟨rfl, HW.pick [] [] (by decide) (by decide) rfl KR⟩
            · skip
              replace h := ite_neg' h hp2543
              replace ha := ha.bool 30 KR (decide_eq_false hp2543)
              refine stepp ha 31 (.slice A0_0 a0.length c0_0) KR KR ?_; clear ha a; intro a ha
              refine stepp ha 32 (.int .i64 x2522) KR KR ?_; clear ha a; intro a ha
              refine stepie T_api_Write.enc T_api_Write.z ha 33 (fun _ => rfl) (v := .slice A0_0 a0.length c0_0) (xs := a0) ((HW.rd0 hr0_0)) 44 46 (.tmp 31) (.tmp 32) .i64 x2522 rfl KR KR KR KR hA2535 (show (x2522 : Int) < ((a0).length : Int) from hp2530) KR ?_; clear ha a; intro b2544 off2545 a hC2546 ha
              refine stepp ha 34 (.pointer (some ⟨b2544, off2545 + 1, none⟩)) KR KR ?_; clear ha a; intro a ha
              refine stepl ha 35 hC2546 9 1 (.tmp 34) (.string ((rdL T_api_Write.z a0 x2522).f1)) rfl KR KR KR ?_; clear ha a; intro a ha
              refine stepp ha 36 (.int .i64 (((rdL T_api_Write.z a0 x2522).f1).size : Int)) KR KR ?_; clear ha a; intro a ha
              refine stepp ha 37 (.bool ((((rdL T_api_Write.z a0 x2522).f1).size : Int) != 512)) KR KR ?_; clear ha a; intro a ha
              refine stepp ha 38 (.bool ((((rdL T_api_Write.z a0 x2522).f1).size : Int) != 512)) KR KR ?_; clear ha a; intro a ha
              refine endl ?_
              refine thenN (hK2534 _ _ ?_); clear hK2534
              by_cases hp2551 : (((rdL T_api_Write.z a0 x2522).f1).size : Int) = 512
              · skip
                replace h := ite_pos' h hp2551
                refine condF ha KR KR (t := ((((rdL T_api_Write.z a0 x2522).f1).size : Int) != 512)) (ineq_f hp2551) ?_
                refine wp_skip ?_
                refine blkN ?_
                refine thenN (hK2532 _ _ ?_); clear hK2532
                refine wp_region_lit ?_
                refine stepp ha 14 (.int .i64 x2522) KR KR ?_; clear ha a; intro a ha
                refine stepp ha 15 (.int .i64 (IntKind.wrap .i64 (x2522 + 1))) KR KR ?_; clear ha a; intro a ha
                refine stepp ha 4 (.int .i64 (IntKind.wrap .i64 (x2522 + 1))) KR KR ?_; clear ha a; intro a ha
                refine endl ?_
                exact thenN ⟨k2524, Nat.lt_succ_self k2524, IntKind.wrap .i64 (x2522 + 1), (by rw [← hag2525]; exact h), ha.sub (subs_cons KR (subs_cons KR (subs_nil _))), HW.pick [] [] (by decide) (by decide) KR KR⟩
              · skip
                replace h := ite_neg' h hp2551
                refine condT ha KR KR (t := ((((rdL T_api_Write.z a0 x2522).f1).size : Int) != 512)) (ineq_t hp2551) ?_
                refine wp_seq_k (fun K2552 hK2553 => ?_)
                refine wp_region_lit ?_
                refine stepp ha 2 (.string (⟨#[]⟩ : ByteArray)) KR KR ?_; clear ha a; intro a ha
                refine stepp ha 3 (.int .i64 40) KR KR ?_; clear ha a; intro a ha
                refine endl ?_
                refine thenN (hK2553 _ _ ?_); clear hK2553
                refine wp_ret ?_
                refine blkR ?_
                refine thenR ?_
                refine thenR ?_
                refine blkR ?_
                refine thenR ?_
                obtain rfl := Option.some.inj h
                exact finv ha _ _ rfl (.tmp (v := .string (⟨#[]⟩ : ByteArray)) KR (.tmp (v := .int .i64 40) KR .nil)) (.tuple #[.string (⟨#[]⟩ : ByteArray), .int .i64 40]) rfl ⟨rfl, HW.pick [] [] (by decide) (by decide) rfl KR⟩
        · skip
          replace h := ite_neg' h hp2530
          refine condF ha KR KR (t := decide (x2522 < (a0.length : Int))) (decide_eq_false hp2530) ?_
          refine wp_exit ?_
          refine thenE ?_
          refine thenE ?_
          refine inBlk ?_
          refine thenN (hK2459 _ _ ?_); clear hK2459
          refine wp_seq_k (fun K2554 hK2555 => ?_)
          refine wp_region_lit ?_
          refine stepp ha 39 (.slice A0_0 a0.length c0_0) KR KR ?_; clear ha a; intro a ha
          refine stepp ha 40 (.int .i64 (a0.length : Int)) KR KR ?_; clear ha a; intro a ha
          refine stepp ha 41 (.int .u64 (IntKind.wrap .u64 (a0.length : Int))) KR KR ?_; clear ha a; intro a ha
          obtain ⟨t2556, ht2557, h_⟩ := bind_some' h; clear h; have h := h_; clear h_
          refine stepc ha 42 KR KR (headgateref01_PutBig.calls K (IntKind.wrap .u64 (a0.length : Int)) 4 t2556 _ ht2557) ?_; clear ha a; rintro e W2558 ⟨rfl, HX2559⟩
          refine ⟨_, rfl, ?_⟩; intro a ha; replace HW := HW.callw HX2559; clear HX2559
          obtain ⟨hA2560, h_⟩ := asrt_some h; clear h; have h := h_; clear h_
          refine stepsbo ha HW 43 9 40 5 (.tmp 42) t2556 rfl KR KR KR KR (show (t2556).size ≤ 140737488355328 from hA2560) KR ?_; clear ha HW a; intro A2561 c2562 a W2563 HW ha
          refine stepp ha 5 (.slice A2561 t2556.size c2562) KR KR ?_; clear ha a; intro a ha
          refine endl ?_
          refine thenN (hK2555 _ _ ?_); clear hK2555
          refine wp_seq_k (fun K2565 hK2566 => ?_)
          refine wp_seq_k (fun K2567 hK2568 => ?_)
          refine wp_region_lit ?_
          refine stepp ha 6 (.int .i64 0) KR KR ?_; clear ha a; intro a ha
          refine endl ?_
          refine thenN (hK2568 _ _ ?_); clear hK2568
          refine wp_block ?_
          refine loopk (fun k => fun a W2642 => ∃ (x2638 : ByteArray), ∃ A2639, ∃ c2640, ∃ (x2641 : Int), headgateref05_Writes.l1 K a0 k x2638 x2641 = some r ∧ Has 67 [(0, .slice A0_0 a0.length c0_0), (5, .slice A2639 x2638.size c2640), (6, .int .i64 x2641)] a ∧ Wd w W2642 [] [⟨5, 1, .slice A2639 x2638.size c2640, x2638.size, byteCells x2638⟩]) K ?_ ?_
          · skip
            exact ⟨t2556, A2561, c2562, 0, h, ha.sub (subs_cons KR (subs_cons KR (subs_cons KR (subs_nil _)))), HW.pick [] [0] (by decide) (by decide) KR KR⟩
          · skip
            intro k a W2642 hI
            obtain ⟨x2638, A2639, c2640, x2641, h, ha, HW⟩ := hI
            cases k with
            | zero => exact (none_some (show none = some r from h)).elim
            | succ k2643 =>
              replace h : headgateref05_Writes.b1 K a0 (headgateref05_Writes.l1 K a0 k2643) x2638 x2641 = some r := h
              obtain ⟨again2636, hag2644⟩ : ∃ g_, g_ = headgateref05_Writes.l1 K a0 k2643 := ⟨_, rfl⟩
              rw [← hag2644] at h
              unfold headgateref05_Writes.b1 at h
              refine wp_seq_k (fun K2645 hK2646 => ?_)
              refine wp_seq_k (fun K2647 hK2648 => ?_)
              refine wp_region_lit ?_
              refine stepp ha 44 (.int .i64 x2641) KR KR ?_; clear ha a; intro a ha
              refine stepp ha 45 (.slice A0_0 a0.length c0_0) KR KR ?_; clear ha a; intro a ha
              refine stepp ha 46 (.int .i64 (a0.length : Int)) KR KR ?_; clear ha a; intro a ha
              refine stepp ha 47 (.bool (decide (x2641 < (a0.length : Int)))) KR KR ?_; clear ha a; intro a ha
              refine endl ?_
              refine thenN (hK2648 _ _ ?_); clear hK2648
              by_cases hp2649 : x2641 < (a0.length : Int)
              · skip
                replace h := ite_pos' h hp2649
                refine condT ha KR KR (t := decide (x2641 < (a0.length : Int))) (decide_eq_true hp2649) ?_
                refine wp_skip ?_
                refine thenN (hK2646 _ _ ?_); clear hK2646
                refine wp_seq_k (fun K2650 hK2651 => ?_)
                refine wp_block ?_
                obtain ⟨hA2652, h_⟩ := asrt_some h; clear h; have h := h_; clear h_
                obtain ⟨b2654, off2655, hA2656⟩ := Rd.addr ((HW.rd0 hr0_0)) hA2652 (show (x2641 : Int) < ((a0).length : Int) from hp2649)
                obtain ⟨t2657, ht2658, h_⟩ := bind_some' h; clear h; have h := h_; clear h_
                obtain ⟨hA2661, h_⟩ := asrt_some h; clear h; have h := h_; clear h_
                refine regionA 14 8 KR [.fix (.slice A2639 x2638.size c2640), .fix (.slice A0_0 a0.length c0_0), .fix (.int .i64 x2641), .fix (.pointer (some ⟨b2654, off2655 + (x2641 : Int).toNat * 2, none⟩)), .fix (.pointer (some ⟨b2654, off2655 + (x2641 : Int).toNat * 2, none⟩)), .fix (.int .i64 ((rdL T_api_Write.z a0 x2641).f0)), .fix (.int .u64 (IntKind.wrap .u64 ((rdL T_api_Write.z a0 x2641).f0))), .fix (.string t2657), (.wd (fun As2666 ns2667 => .slice (As2666.getD 0 none) (x2638 ++ t2657).size (ns2667.getD 0 0)) w (fun As2666 ns2667 => []) (fun As2666 ns2667 => [⟨5, 1, .slice (As2666.getD 0 none) (x2638 ++ t2657).size (ns2667.getD 0 0), (x2638 ++ t2657).size, byteCells (x2638 ++ t2657)⟩])), .fix (.slice A0_0 a0.length c0_0), .fix (.int .i64 x2641), .fix (.pointer (some ⟨b2654, off2655 + (x2641 : Int).toNat * 2, none⟩)), .fix (.pointer (some ⟨b2654, off2655 + (x2641 : Int).toNat * 2 + 1, none⟩)), .fix (.string ((rdL T_api_Write.z a0 x2641).f1))] KR ([], []) ([], [⟨5, 1, .slice A2639 x2638.size c2640, x2638.size, byteCells x2638⟩]) ha HW (.wd (fun As2666 ns2667 => .slice (As2666.getD 0 none) (x2638 ++ t2657).size (ns2667.getD 0 0)) w (fun As2666 ns2667 => []) (fun As2666 ns2667 => [⟨5, 1, .slice (As2666.getD 0 none) (x2638 ++ t2657).size (ns2667.getD 0 0), (x2638 ++ t2657).size, byteCells (x2638 ++ t2657)⟩])) KR (fun w_ h_ => h_.pick [] [] (by decide) (by decide) KR KR) (fun v_ w_ h_ => by obtain ⟨As_, ns_, _, h_⟩ := h_; exact h_.pick [] [] (by decide) (by decide) KR KR) ?_ ?_
                · skip
                  refine ⟨?_, ?_, ?_, ?_, ?_, ?_, ?_, ?_, ?_, ?_, ?_, ?_, ?_, ?_, trivial⟩
                  · skip
                    show OpOk _ _ _ _ _ _ _ _ _ _
                    intro a wr hn hd HW hs; have ha := hasNil hn hd
                    have ha := ha.add (seeE hs 5 (.slice A2639 x2638.size c2640) KR KR)
                    refine yStep ha 50 KR ?_; intro l_ ha HK
                    refine stepp ha 50 (.slice A2639 x2638.size c2640) KR KR ?_; intro ax hax; exact HK _ _ _ hax rfl (Below.refl _ _)
                  · skip
                    show OpOk _ _ _ _ _ _ _ _ _ _
                    intro a wr hn hd HW hs; have ha := hasNil hn hd
                    have ha := ha.add (seeE hs 0 (.slice A0_0 a0.length c0_0) KR KR)
                    refine yStep ha 51 KR ?_; intro l_ ha HK
                    refine stepp ha 51 (.slice A0_0 a0.length c0_0) KR KR ?_; intro ax hax; exact HK _ _ _ hax rfl (Below.refl _ _)
                  · skip
                    show OpOk _ _ _ _ _ _ _ _ _ _
                    intro a wr hn hd HW hs; have ha := hasNil hn hd
                    have ha := ha.add (seeE hs 6 (.int .i64 x2641) KR KR)
                    refine yStep ha 52 KR ?_; intro l_ ha HK
                    refine stepp ha 52 (.int .i64 x2641) KR KR ?_; intro ax hax; exact HK _ _ _ hax rfl (Below.refl _ _)
                  · skip
                    show OpOk _ _ _ _ _ _ _ _ _ _
                    intro a wr hn hd HW hs; have ha := hasNil hn hd
                    have ha := ha.add (seeF hs 51 1 (.slice A0_0 a0.length c0_0) KR KR)
                    have ha := ha.add (seeF hs 52 2 (.int .i64 x2641) KR KR)
                    replace ha := ha.turn 51 (u := .slice A0_0 a0.length c0_0) (v := .slice (some ⟨b2654, off2655, none⟩) a0.length c0_0) KR (by rw [hA2656])
                    refine yStep ha 53 KR ?_; intro l_ ha HK
                    refine stepif ha 53 (sz := 2) (len := a0.length) (b := b2654) (off := off2655) (c := c0_0) 44 46 (.tmp 51) (.tmp 52) .i64 x2641 rfl KR KR KR KR hA2652 (show (x2641 : Int) < ((a0).length : Int) from hp2649) KR ?_; intro ax hax; exact HK _ _ _ hax rfl (Below.refl _ _)
                  · skip
                    show OpOk _ _ _ _ _ _ _ _ _ _
                    intro a wr hn hd HW hs; have ha := hasNil hn hd
                    have ha := ha.add (seeF hs 53 3 (.pointer (some ⟨b2654, off2655 + (x2641 : Int).toNat * 2, none⟩)) KR KR)
                    refine yStep ha 54 KR ?_; intro l_ ha HK
                    refine stepp ha 54 (.pointer (some ⟨b2654, off2655 + (x2641 : Int).toNat * 2, none⟩)) KR KR ?_; intro ax hax; exact HK _ _ _ hax rfl (Below.refl _ _)
                  · skip
                    show OpOk _ _ _ _ _ _ _ _ _ _
                    intro a wr hn hd HW hs; have ha := hasNil hn hd
                    have ha := ha.add (seeF hs 54 4 (.pointer (some ⟨b2654, off2655 + (x2641 : Int).toNat * 2, none⟩)) KR KR)
                    refine yStep ha 55 KR ?_; intro l_ ha HK
                    refine stepl ha 55 (Rd.ca T_api_Write.enc T_api_Write.z (fun _ => rfl) (by have h_ := ((HW.rd0 hr0_0)); rw [hA2656] at h_; exact h_) hA2652 (show (x2641 : Int) < ((a0).length : Int) from hp2649)) 3 0 (.tmp 54) (.int .i64 ((rdL T_api_Write.z a0 x2641).f0)) rfl KR KR KR ?_; intro ax hax; exact HK _ _ _ hax rfl (Below.refl _ _)
                  · skip
                    show OpOk _ _ _ _ _ _ _ _ _ _
                    intro a wr hn hd HW hs; have ha := hasNil hn hd
                    have ha := ha.add (seeF hs 55 5 (.int .i64 ((rdL T_api_Write.z a0 x2641).f0)) KR KR)
                    refine yStep ha 56 KR ?_; intro l_ ha HK
                    refine stepp ha 56 (.int .u64 (IntKind.wrap .u64 ((rdL T_api_Write.z a0 x2641).f0))) KR KR ?_; intro ax hax; exact HK _ _ _ hax rfl (Below.refl _ _)
                  · skip
                    show OpOk _ _ _ _ _ _ _ _ _ _
                    intro a wr hn hd HW hs; have ha := hasNil hn hd
                    have ha := ha.add (seeF hs 56 6 (.int .u64 (IntKind.wrap .u64 ((rdL T_api_Write.z a0 x2641).f0))) KR KR)
                    refine yStep ha 57 KR ?_; intro l_ ha HK
                    refine stepc ha 57 KR KR (headgateref01_PutBig.calls K (IntKind.wrap .u64 ((rdL T_api_Write.z a0 x2641).f0)) 4 t2657 _ ht2658) ?_; rintro e W2659 ⟨rfl, HX2660⟩
                    refine ⟨_, rfl, ?_⟩; intro ax hax; exact HK _ _ _ hax rfl HX2660.below
                  · skip
                    show EffOk _ _ _ _ _ _ _ _ _
                    intro a wr hn hd HW hs; have ha := hasNil hn hd
                    have ha := ha.add (seeF hs 50 0 (.slice A2639 x2638.size c2640) KR KR)
                    have ha := ha.add (seeF hs 57 7 (.string t2657) KR KR)
                    refine yStepA ha 58 KR ?_; intro l_ ha HK
                    refine stepapt ha HW 58 0 40 9 5 (.tmp 50) (.tmp 57) (.slice A2639 x2638.size c2640) x2638 t2657 KR rfl KR KR KR KR KR (show (x2638).size + (t2657).size ≤ 140737488355328 from hA2661) KR ?_; intro A2662 c2663 ax wx HV hax; exact HK _ _ _ hax ⟨[A2662], [c2663], rfl, HV⟩
                  · skip
                    show OpOk _ _ _ _ _ _ _ _ _ _
                    intro a wr hn hd HW hs; have ha := hasNil hn hd
                    have ha := ha.add (seeE hs 0 (.slice A0_0 a0.length c0_0) KR KR)
                    refine yStep ha 59 KR ?_; intro l_ ha HK
                    refine stepp ha 59 (.slice A0_0 a0.length c0_0) KR KR ?_; intro ax hax; exact HK _ _ _ hax rfl (Below.refl _ _)
                  · skip
                    show OpOk _ _ _ _ _ _ _ _ _ _
                    intro a wr hn hd HW hs; have ha := hasNil hn hd
                    have ha := ha.add (seeE hs 6 (.int .i64 x2641) KR KR)
                    refine yStep ha 60 KR ?_; intro l_ ha HK
                    refine stepp ha 60 (.int .i64 x2641) KR KR ?_; intro ax hax; exact HK _ _ _ hax rfl (Below.refl _ _)
                  · skip
                    show OpOk _ _ _ _ _ _ _ _ _ _
                    intro a wr hn hd HW hs; have ha := hasNil hn hd
                    have ha := ha.add (seeF hs 59 9 (.slice A0_0 a0.length c0_0) KR KR)
                    have ha := ha.add (seeF hs 60 10 (.int .i64 x2641) KR KR)
                    replace ha := ha.turn 59 (u := .slice A0_0 a0.length c0_0) (v := .slice (some ⟨b2654, off2655, none⟩) a0.length c0_0) KR (by rw [hA2656])
                    refine yStep ha 61 KR ?_; intro l_ ha HK
                    refine stepif ha 61 (sz := 2) (len := a0.length) (b := b2654) (off := off2655) (c := c0_0) 44 46 (.tmp 59) (.tmp 60) .i64 x2641 rfl KR KR KR KR hA2652 (show (x2641 : Int) < ((a0).length : Int) from hp2649) KR ?_; intro ax hax; exact HK _ _ _ hax rfl (Below.refl _ _)
                  · skip
                    show OpOk _ _ _ _ _ _ _ _ _ _
                    intro a wr hn hd HW hs; have ha := hasNil hn hd
                    have ha := ha.add (seeF hs 61 11 (.pointer (some ⟨b2654, off2655 + (x2641 : Int).toNat * 2, none⟩)) KR KR)
                    refine yStep ha 62 KR ?_; intro l_ ha HK
                    refine stepp ha 62 (.pointer (some ⟨b2654, off2655 + (x2641 : Int).toNat * 2 + 1, none⟩)) KR KR ?_; intro ax hax; exact HK _ _ _ hax rfl (Below.refl _ _)
                  · skip
                    show OpOk _ _ _ _ _ _ _ _ _ _
                    intro a wr hn hd HW hs; have ha := hasNil hn hd
                    have ha := ha.add (seeF hs 62 12 (.pointer (some ⟨b2654, off2655 + (x2641 : Int).toNat * 2 + 1, none⟩)) KR KR)
                    refine yStep ha 63 KR ?_; intro l_ ha HK
                    refine stepl ha 63 (Rd.ca T_api_Write.enc T_api_Write.z (fun _ => rfl) (by have h_ := ((HW.rd0 hr0_0)); rw [hA2656] at h_; exact h_) hA2652 (show (x2641 : Int) < ((a0).length : Int) from hp2649)) 9 1 (.tmp 62) (.string ((rdL T_api_Write.z a0 x2641).f1)) rfl KR KR KR ?_; intro ax hax; exact HK _ _ _ hax rfl (Below.refl _ _)
                · skip
                  intro a W2669 ha he hf
                  clear HW; obtain ⟨_, he_, As2666, ns2667, rfl, HW⟩ := gotK (m := 14) (j := 8) (d := 58) (f := .wd (fun As2666 ns2667 => .slice (As2666.getD 0 none) (x2638 ++ t2657).size (ns2667.getD 0 0)) w (fun As2666 ns2667 => []) (fun As2666 ns2667 => [⟨5, 1, .slice (As2666.getD 0 none) (x2638 ++ t2657).size (ns2667.getD 0 0), (x2638 ++ t2657).size, byteCells (x2638 ++ t2657)⟩])) hf KR KR KR; replace ha := ha.add he_; clear he_
                  replace HW : Wd w W2669 [] [⟨5, 1, .slice (As2666.getD 0 none) (x2638 ++ t2657).size (ns2667.getD 0 0), (x2638 ++ t2657).size, byteCells (x2638 ++ t2657)⟩] := HW
                  replace ha := ha.add (he 0 (.slice A0_0 a0.length c0_0) KR KR)
                  replace ha := ha.add (he 6 (.int .i64 x2641) KR KR)
                  replace ha := ha.add (gotF (m := 14) (j := 13) (d := 63) (v := .string ((rdL T_api_Write.z a0 x2641).f1)) hf KR KR KR)
                  clear he hf
                  obtain ⟨hA2670, h_⟩ := asrt_some h; clear h; have h := h_; clear h_
                  refine stepapt ha HW 64 0 40 9 5 (.tmp 58) (.tmp 63) (.slice (As2666.getD 0 none) (x2638 ++ t2657).size (ns2667.getD 0 0)) (x2638 ++ t2657) ((rdL T_api_Write.z a0 x2641).f1) KR rfl KR KR KR KR KR (show (x2638 ++ t2657).size + ((rdL T_api_Write.z a0 x2641).f1).size ≤ 140737488355328 from hA2670) KR ?_; clear ha HW a; intro A2671 c2672 a W2673 HW ha
                  refine stepp ha 5 (.slice A2671 ((x2638 ++ t2657) ++ ((rdL T_api_Write.z a0 x2641).f1)).size c2672) KR KR ?_; clear ha a; intro a ha
                  refine endl ?_
                  refine blkN ?_
                  refine thenN (hK2651 _ _ ?_); clear hK2651
                  refine wp_region_lit ?_
                  refine stepp ha 48 (.int .i64 x2641) KR KR ?_; clear ha a; intro a ha
                  refine stepp ha 49 (.int .i64 (IntKind.wrap .i64 (x2641 + 1))) KR KR ?_; clear ha a; intro a ha
                  refine stepp ha 6 (.int .i64 (IntKind.wrap .i64 (x2641 + 1))) KR KR ?_; clear ha a; intro a ha
                  refine endl ?_
                  exact thenN ⟨k2643, Nat.lt_succ_self k2643, (x2638 ++ t2657) ++ ((rdL T_api_Write.z a0 x2641).f1), A2671, c2672, IntKind.wrap .i64 (x2641 + 1), (by rw [← hag2644]; exact h), ha.sub (subs_cons KR (subs_cons KR (subs_cons KR (subs_nil _)))), HW.pick [] [0] (by decide) (by decide) KR KR⟩
              · skip
                replace h := ite_neg' h hp2649
                refine condF ha KR KR (t := decide (x2641 < (a0.length : Int))) (decide_eq_false hp2649) ?_
                refine wp_exit ?_
                refine thenE ?_
                refine thenE ?_
                refine inBlk ?_
                refine thenN (hK2566 _ _ ?_); clear hK2566
                refine wp_seq_k (fun K2675 hK2676 => ?_)
                refine wp_region_lit ?_
                refine stepp ha 65 (.slice A2639 x2638.size c2640) KR KR ?_; clear ha a; intro a ha
                refine stepbts ha 66 40 9 5 (.tmp 65) (v := .slice A2639 x2638.size c2640) (s := x2638) (HW.rdo (i := 0) (q := ⟨5, 1, .slice A2639 x2638.size c2640, x2638.size, byteCells x2638⟩) KR) rfl KR KR KR KR KR ?_; clear ha a; intro a ha
                refine stepp ha 2 (.string x2638) KR KR ?_; clear ha a; intro a ha
                refine stepp ha 3 (.int .i64 0) KR KR ?_; clear ha a; intro a ha
                refine endl ?_
                refine thenN (hK2676 _ _ ?_); clear hK2676
                refine wp_ret ?_
                obtain rfl := Option.some.inj h
                exact finv ha _ _ rfl (.tmp (v := .string x2638) KR (.tmp (v := .int .i64 0) KR .nil)) (.tuple #[.string x2638, .int .i64 0]) rfl ⟨rfl, HW.pick [] [] (by decide) (by decide) rfl KR⟩
/-! ### headgate/headgateref05.Split: function 19 -/
def headgateref05_Split.b0 (K : Nat) (a0 : ByteArray) (t2833 : Int × Bool) (again2931 : (List T_api_Write) → Int → Option ((List T_api_Write) × Int)) (x2932 : List T_api_Write) (x2936 : Int) : Option ((List T_api_Write) × Int) :=
  if x2936 < (IntKind.wrap .i64 t2833.1) then ((headgateref01_Big.f K a0 (IntKind.wrap .i64 (4 + (IntKind.wrap .i64 (x2936 * 516)))) 4).bind fun t2949 => (if t2949.1 ≥ 8192 then (some (([] : List T_api_Write), 50)) else (asrt (0 ≤ (IntKind.wrap .i64 (8 + (IntKind.wrap .i64 (x2936 * 516))))) (asrt ((IntKind.wrap .i64 (8 + (IntKind.wrap .i64 (x2936 * 516)))) ≤ (IntKind.wrap .i64 ((IntKind.wrap .i64 (8 + (IntKind.wrap .i64 (x2936 * 516)))) + 512))) (asrt ((IntKind.wrap .i64 ((IntKind.wrap .i64 (8 + (IntKind.wrap .i64 (x2936 * 516)))) + 512)) ≤ (a0.size : Int)) (asrt (x2932.length + ([(⟨IntKind.wrap .i64 t2949.1, a0.extract (IntKind.wrap .i64 (8 + (IntKind.wrap .i64 (x2936 * 516))) : Int).toNat (IntKind.wrap .i64 ((IntKind.wrap .i64 (8 + (IntKind.wrap .i64 (x2936 * 516)))) + 512) : Int).toNat⟩ : T_api_Write)] : List T_api_Write).length ≤ 5864062014805) (again2931 (x2932 ++ ([(⟨IntKind.wrap .i64 t2949.1, a0.extract (IntKind.wrap .i64 (8 + (IntKind.wrap .i64 (x2936 * 516))) : Int).toNat (IntKind.wrap .i64 ((IntKind.wrap .i64 (8 + (IntKind.wrap .i64 (x2936 * 516)))) + 512) : Int).toNat⟩ : T_api_Write)] : List T_api_Write)) (IntKind.wrap .i64 (x2936 + 1))))))))) else (some (x2932, 0))
def headgateref05_Split.l0 (K : Nat) (a0 : ByteArray) (t2833 : Int × Bool) : Nat → (List T_api_Write) → Int → Option ((List T_api_Write) × Int)
  | 0, _, _ => none
  | k_ + 1, x2932, x2936 => headgateref05_Split.b0 K a0 t2833 (headgateref05_Split.l0 K a0 t2833 k_) x2932 x2936
def headgateref05_Split.f (K : Nat) (a0 : ByteArray) : Option ((List T_api_Write) × Int) :=
  (headgateref01_Big.f K a0 0 4).bind fun t2833 => (if t2833.2 = true then (if t2833.1 > 80 then (some (([] : List T_api_Write), 50)) else (if (a0.size : Int) = (IntKind.wrap .i64 (4 + (IntKind.wrap .i64 ((IntKind.wrap .i64 t2833.1) * 516)))) then (headgateref05_Split.l0 K a0 t2833 K ([] : List T_api_Write) 0) else (some (([] : List T_api_Write), 50)))) else (some (([] : List T_api_Write), 50)))
set_option maxRecDepth 100000 in
set_option maxHeartbeats 4000000 in
theorem headgateref05_Split.calls (K : Nat) (a0 : ByteArray)  (r : (List T_api_Write) × Int) (w : World)  (h : headgateref05_Split.f K a0 = some r) :
    Calls Tryd.prog 19 #[.string a0] w (fun e W' => ∃ A_0 c_0, e = .returned (.tuple #[.slice A_0 r.1.length c_0, .int .i64 r.2]) ∧ Wd w W' [] [⟨46, 2, .slice A_0 r.1.length c_0, r.1.length, encs T_api_Write.enc r.1⟩] ) := by
  refine sxstart (n := 62) (l := [(0, .string a0)]) Tryd.func19 rfl rfl (Nat.le_of_ble_eq_true KR) (subsA_cons rfl (subsA_nil _)) ?_
  intro a ha
  have HW := Wd.refl w
  unfold headgateref05_Split.f at h
  refine wp_seq_k (fun K2829 hK2830 => ?_)
  refine wp_region_lit ?_
  refine stepp ha 2 (.slice none 0 0) KR KR ?_; clear ha a; intro a ha
  refine stepp ha 3 (.int .i64 0) KR KR ?_; clear ha a; intro a ha
  refine endl ?_
  refine thenN (hK2830 _ _ ?_); clear hK2830
  refine wp_seq_k (fun K2831 hK2832 => ?_)
  refine wp_region_lit ?_
  refine stepp ha 11 (.string a0) KR KR ?_; clear ha a; intro a ha
  obtain ⟨t2833, ht2834, h_⟩ := bind_some' h; clear h; have h := h_; clear h_
  refine stepc ha 12 KR KR (headgateref01_Big.calls K a0 0 4 t2833 _ ht2834) ?_; clear ha a; rintro e W2835 ⟨rfl, HX2836⟩
  refine ⟨_, rfl, ?_⟩; intro a ha; replace HW := HW.callw HX2836; clear HX2836
  refine stepp ha 10 (.tuple #[.int .u64 t2833.1, .bool t2833.2]) KR KR ?_; clear ha a; intro a ha
  refine stepp ha 13 (.int .u64 t2833.1) KR KR ?_; clear ha a; intro a ha
  refine stepp ha 14 (.bool t2833.2) KR KR ?_; clear ha a; intro a ha
  refine stepp ha 4 (.int .u64 t2833.1) KR KR ?_; clear ha a; intro a ha
  refine stepp ha 5 (.bool t2833.2) KR KR ?_; clear ha a; intro a ha
  refine endl ?_
  refine thenN (hK2832 _ _ ?_); clear hK2832
  refine wp_seq_k (fun K2837 hK2838 => ?_)
  refine wp_seq_k (fun K2839 hK2840 => ?_)
  refine wp_region_lit ?_
  refine stepp ha 15 (.bool t2833.2) KR KR ?_; clear ha a; intro a ha
  refine stepp ha 16 (.bool (!t2833.2)) KR KR ?_; clear ha a; intro a ha
  refine stepp ha 17 (.bool (!t2833.2)) KR KR ?_; clear ha a; intro a ha
  by_cases hp2841 : t2833.2 = true
  · skip
    replace h := ite_pos' h hp2841
    replace ha := ha.bool 17 KR (not_f (hp2841))
    refine stepp ha 18 (.int .u64 t2833.1) KR KR ?_; clear ha a; intro a ha
    refine stepp ha 19 (.bool (decide (t2833.1 > 80))) KR KR ?_; clear ha a; intro a ha
    refine stepp ha 20 (.bool (decide (t2833.1 > 80))) KR KR ?_; clear ha a; intro a ha
    refine stepp ha 21 (.bool (decide (t2833.1 > 80))) KR KR ?_; clear ha a; intro a ha
    by_cases hp2842 : t2833.1 > 80
    · skip
      replace h := ite_pos' h hp2842
      replace ha := ha.bool 21 KR (decide_eq_true hp2842)
      refine stepo ha 22 KR ?_; clear ha a; intro a ha
      refine stepo ha 23 KR ?_; clear ha a; intro a ha
      refine stepo ha 24 KR ?_; clear ha a; intro a ha
      refine stepo ha 25 KR ?_; clear ha a; intro a ha
      refine stepo ha 26 KR ?_; clear ha a; intro a ha
      refine stepo ha 27 KR ?_; clear ha a; intro a ha
      refine stepo ha 28 KR ?_; clear ha a; intro a ha
      refine stepp ha 29 (.bool true) KR KR ?_; clear ha a; intro a ha
      refine endl ?_
      refine thenN (hK2840 _ _ ?_); clear hK2840
      refine condT ha KR KR (t := true) (rfl) ?_
      refine wp_seq_k (fun K2843 hK2844 => ?_)
      refine wp_region_lit ?_
      refine stepp ha 2 (.slice none 0 0) KR KR ?_; clear ha a; intro a ha
      refine stepp ha 3 (.int .i64 50) KR KR ?_; clear ha a; intro a ha
      refine endl ?_
      refine thenN (hK2844 _ _ ?_); clear hK2844
      refine wp_ret ?_
      refine thenR ?_
      obtain rfl := Option.some.inj h
      replace HW := HW.nilo 46 2
      exact finv ha _ _ rfl (.tmp (v := .slice none 0 0) KR (.tmp (v := .int .i64 50) KR .nil)) (.tuple #[.slice none 0 0, .int .i64 50]) rfl ⟨none, 0, rfl, HW.pick [] [0] (by decide) (by decide) rfl KR⟩
    · skip
      replace h := ite_neg' h hp2842
      replace ha := ha.bool 21 KR (decide_eq_false hp2842)
      refine stepp ha 22 (.string a0) KR KR ?_; clear ha a; intro a ha
      refine stepp ha 23 (.int .i64 (a0.size : Int)) KR KR ?_; clear ha a; intro a ha
      refine stepp ha 24 (.int .u64 t2833.1) KR KR ?_; clear ha a; intro a ha
      refine stepp ha 25 (.int .i64 (IntKind.wrap .i64 t2833.1)) KR KR ?_; clear ha a; intro a ha
      refine stepp ha 26 (.int .i64 (IntKind.wrap .i64 ((IntKind.wrap .i64 t2833.1) * 516))) KR KR ?_; clear ha a; intro a ha
      refine stepp ha 27 (.int .i64 (IntKind.wrap .i64 (4 + (IntKind.wrap .i64 ((IntKind.wrap .i64 t2833.1) * 516))))) KR KR ?_; clear ha a; intro a ha
      refine stepp ha 28 (.bool ((a0.size : Int) != (IntKind.wrap .i64 (4 + (IntKind.wrap .i64 ((IntKind.wrap .i64 t2833.1) * 516)))))) KR KR ?_; clear ha a; intro a ha
      refine stepp ha 29 (.bool ((a0.size : Int) != (IntKind.wrap .i64 (4 + (IntKind.wrap .i64 ((IntKind.wrap .i64 t2833.1) * 516)))))) KR KR ?_; clear ha a; intro a ha
      refine endl ?_
      refine thenN (hK2840 _ _ ?_); clear hK2840
      by_cases hp2846 : (a0.size : Int) = (IntKind.wrap .i64 (4 + (IntKind.wrap .i64 ((IntKind.wrap .i64 t2833.1) * 516))))
      · skip
        replace h := ite_pos' h hp2846
        refine condF ha KR KR (t := ((a0.size : Int) != (IntKind.wrap .i64 (4 + (IntKind.wrap .i64 ((IntKind.wrap .i64 t2833.1) * 516)))))) (ineq_f hp2846) ?_
        refine wp_skip ?_
        refine thenN (hK2838 _ _ ?_); clear hK2838
        refine wp_seq_k (fun K2853 hK2854 => ?_)
        refine wp_region_lit ?_
        refine stepp ha 6 (.slice none 0 0) KR KR ?_; clear ha a; intro a ha
        refine endl ?_
        refine thenN (hK2854 _ _ ?_); clear hK2854
        refine wp_seq_k (fun K2855 hK2856 => ?_)
        refine wp_seq_k (fun K2857 hK2858 => ?_)
        refine wp_region_lit ?_
        refine stepp ha 7 (.int .i64 0) KR KR ?_; clear ha a; intro a ha
        refine endl ?_
        refine thenN (hK2858 _ _ ?_); clear hK2858
        refine wp_block ?_
        refine loopk (fun k => fun a W2937 => ∃ (x2932 : List T_api_Write), ∃ A2933, ∃ c2934, ∃ (x2936 : Int), headgateref05_Split.l0 K a0 t2833 k x2932 x2936 = some r ∧ Has 62 [(0, .string a0), (4, .int .u64 t2833.1), (6, .slice A2933 x2932.length c2934), (7, .int .i64 x2936)] a ∧ Wd w W2937 [] [⟨46, 2, .slice A2933 x2932.length c2934, x2932.length, encs T_api_Write.enc x2932⟩]) K ?_ ?_
        · skip
          replace HW := HW.nilo 46 2
          exact ⟨([] : List T_api_Write), none, 0, 0, h, ha.sub (subs_cons KR (subs_cons KR (subs_cons KR (subs_cons KR (subs_nil _))))), HW.pick [] [0] (by decide) (by decide) KR KR⟩
        · skip
          intro k a W2937 hI
          obtain ⟨x2932, A2933, c2934, x2936, h, ha, HW⟩ := hI
          cases k with
          | zero => exact (none_some (show none = some r from h)).elim
          | succ k2938 =>
            replace h : headgateref05_Split.b0 K a0 t2833 (headgateref05_Split.l0 K a0 t2833 k2938) x2932 x2936 = some r := h
            obtain ⟨again2931, hag2939⟩ : ∃ g_, g_ = headgateref05_Split.l0 K a0 t2833 k2938 := ⟨_, rfl⟩
            rw [← hag2939] at h
            unfold headgateref05_Split.b0 at h
            refine wp_seq_k (fun K2940 hK2941 => ?_)
            refine wp_seq_k (fun K2942 hK2943 => ?_)
            refine wp_region_lit ?_
            refine stepp ha 30 (.int .i64 x2936) KR KR ?_; clear ha a; intro a ha
            refine stepp ha 31 (.int .u64 t2833.1) KR KR ?_; clear ha a; intro a ha
            refine stepp ha 32 (.int .i64 (IntKind.wrap .i64 t2833.1)) KR KR ?_; clear ha a; intro a ha
            refine stepp ha 33 (.bool (decide (x2936 < (IntKind.wrap .i64 t2833.1)))) KR KR ?_; clear ha a; intro a ha
            refine endl ?_
            refine thenN (hK2943 _ _ ?_); clear hK2943
            by_cases hp2944 : x2936 < (IntKind.wrap .i64 t2833.1)
            · skip
              replace h := ite_pos' h hp2944
              refine condT ha KR KR (t := decide (x2936 < (IntKind.wrap .i64 t2833.1))) (decide_eq_true hp2944) ?_
              refine wp_skip ?_
              refine thenN (hK2941 _ _ ?_); clear hK2941
              refine wp_seq_k (fun K2945 hK2946 => ?_)
              refine wp_block ?_
              refine wp_seq_k (fun K2947 hK2948 => ?_)
              refine wp_region_lit ?_
              refine stepp ha 37 (.string a0) KR KR ?_; clear ha a; intro a ha
              refine stepp ha 38 (.int .i64 x2936) KR KR ?_; clear ha a; intro a ha
              refine stepp ha 39 (.int .i64 (IntKind.wrap .i64 (x2936 * 516))) KR KR ?_; clear ha a; intro a ha
              refine stepp ha 40 (.int .i64 (IntKind.wrap .i64 (4 + (IntKind.wrap .i64 (x2936 * 516))))) KR KR ?_; clear ha a; intro a ha
              obtain ⟨t2949, ht2950, h_⟩ := bind_some' h; clear h; have h := h_; clear h_
              refine stepc ha 41 KR KR (headgateref01_Big.calls K a0 (IntKind.wrap .i64 (4 + (IntKind.wrap .i64 (x2936 * 516)))) 4 t2949 _ ht2950) ?_; clear ha a; rintro e W2951 ⟨rfl, HX2952⟩
              refine ⟨_, rfl, ?_⟩; intro a ha; replace HW := HW.callw HX2952; clear HX2952
              refine stepp ha 36 (.tuple #[.int .u64 t2949.1, .bool t2949.2]) KR KR ?_; clear ha a; intro a ha
              refine stepp ha 42 (.int .u64 t2949.1) KR KR ?_; clear ha a; intro a ha
              refine stepp ha 43 (.bool t2949.2) KR KR ?_; clear ha a; intro a ha
              refine stepp ha 8 (.int .u64 t2949.1) KR KR ?_; clear ha a; intro a ha
              refine stepp ha 9 (.bool t2949.2) KR KR ?_; clear ha a; intro a ha
              refine endl ?_
              refine thenN (hK2948 _ _ ?_); clear hK2948
              refine wp_seq_k (fun K2953 hK2954 => ?_)
              refine wp_seq_k (fun K2955 hK2956 => ?_)
              refine wp_region_lit ?_
              refine stepp ha 44 (.int .u64 t2949.1) KR KR ?_; clear ha a; intro a ha
              refine stepp ha 45 (.bool (decide (t2949.1 ≥ 8192))) KR KR ?_; clear ha a; intro a ha
              refine endl ?_
              refine thenN (hK2956 _ _ ?_); clear hK2956
              by_cases hp2957 : t2949.1 ≥ 8192
              · skip
                replace h := ite_pos' h hp2957
                refine condT ha KR KR (t := decide (t2949.1 ≥ 8192)) (decide_eq_true hp2957) ?_
                refine wp_seq_k (fun K2958 hK2959 => ?_)
                refine wp_region_lit ?_
                refine stepp ha 2 (.slice none 0 0) KR KR ?_; clear ha a; intro a ha
                refine stepp ha 3 (.int .i64 50) KR KR ?_; clear ha a; intro a ha
                refine endl ?_
                refine thenN (hK2959 _ _ ?_); clear hK2959
                refine wp_ret ?_
                refine thenR ?_
                refine blkR ?_
                refine thenR ?_
                refine thenR ?_
                refine blkR ?_
                refine thenR ?_
                obtain rfl := Option.some.inj h
                replace HW := HW.nilo 46 2
                exact finv ha _ _ rfl (.tmp (v := .slice none 0 0) KR (.tmp (v := .int .i64 50) KR .nil)) (.tuple #[.slice none 0 0, .int .i64 50]) rfl ⟨none, 0, rfl, HW.pick [] [0] (by decide) (by decide) rfl KR⟩
              · skip
                replace h := ite_neg' h hp2957
                refine condF ha KR KR (t := decide (t2949.1 ≥ 8192)) (decide_eq_false hp2957) ?_
                refine wp_skip ?_
                refine thenN (hK2954 _ _ ?_); clear hK2954
                refine wp_region_lit ?_
                refine stepp ha 46 (.slice A2933 x2932.length c2934) KR KR ?_; clear ha a; intro a ha
                refine stepp ha 47 (.int .u64 t2949.1) KR KR ?_; clear ha a; intro a ha
                refine stepp ha 48 (.int .i64 (IntKind.wrap .i64 t2949.1)) KR KR ?_; clear ha a; intro a ha
                refine stepp ha 49 (.string a0) KR KR ?_; clear ha a; intro a ha
                refine stepp ha 50 (.int .i64 x2936) KR KR ?_; clear ha a; intro a ha
                refine stepp ha 51 (.int .i64 (IntKind.wrap .i64 (x2936 * 516))) KR KR ?_; clear ha a; intro a ha
                refine stepp ha 52 (.int .i64 (IntKind.wrap .i64 (8 + (IntKind.wrap .i64 (x2936 * 516))))) KR KR ?_; clear ha a; intro a ha
                refine stepp ha 53 (.int .i64 x2936) KR KR ?_; clear ha a; intro a ha
                refine stepp ha 54 (.int .i64 (IntKind.wrap .i64 (x2936 * 516))) KR KR ?_; clear ha a; intro a ha
                refine stepp ha 55 (.int .i64 (IntKind.wrap .i64 (8 + (IntKind.wrap .i64 (x2936 * 516))))) KR KR ?_; clear ha a; intro a ha
                refine stepp ha 56 (.int .i64 (IntKind.wrap .i64 ((IntKind.wrap .i64 (8 + (IntKind.wrap .i64 (x2936 * 516)))) + 512))) KR KR ?_; clear ha a; intro a ha
                obtain ⟨hA2961, h_⟩ := asrt_some h; clear h; have h := h_; clear h_
                obtain ⟨hA2962, h_⟩ := asrt_some h; clear h; have h := h_; clear h_
                obtain ⟨hA2963, h_⟩ := asrt_some h; clear h; have h := h_; clear h_
                refine stepss ha 57 9 (.tmp 49) (.tmp 52) (.tmp 56) a0 .i64 .i64 (IntKind.wrap .i64 (8 + (IntKind.wrap .i64 (x2936 * 516)))) (IntKind.wrap .i64 ((IntKind.wrap .i64 (8 + (IntKind.wrap .i64 (x2936 * 516)))) + 512)) rfl KR KR KR KR hA2961 hA2962 (show (IntKind.wrap .i64 ((IntKind.wrap .i64 (8 + (IntKind.wrap .i64 (x2936 * 516)))) + 512) : Int) ≤ ((a0).size : Int) from hA2963) KR ?_; clear ha a; intro a ha
                refine stepp ha 58 (.agg #[.int .i64 (IntKind.wrap .i64 t2949.1), .string (a0.extract (IntKind.wrap .i64 (8 + (IntKind.wrap .i64 (x2936 * 516))) : Int).toNat (IntKind.wrap .i64 ((IntKind.wrap .i64 (8 + (IntKind.wrap .i64 (x2936 * 516)))) + 512) : Int).toNat)]) KR KR ?_; clear ha a; intro a ha
                refine stepbs ha HW 59 46 2 1 #[.int .i64 (IntKind.wrap .i64 t2949.1), .string (a0.extract (IntKind.wrap .i64 (8 + (IntKind.wrap .i64 (x2936 * 516))) : Int).toNat (IntKind.wrap .i64 ((IntKind.wrap .i64 (8 + (IntKind.wrap .i64 (x2936 * 516)))) + 512) : Int).toNat)] [.int .i64 (IntKind.wrap .i64 t2949.1), .string (a0.extract (IntKind.wrap .i64 (8 + (IntKind.wrap .i64 (x2936 * 516))) : Int).toNat (IntKind.wrap .i64 ((IntKind.wrap .i64 (8 + (IntKind.wrap .i64 (x2936 * 516)))) + 512) : Int).toNat)] (by decide) KR KR KR KR ?_; clear ha HW a; intro b2964 a W2965 HW ha
                replace HW : Wd w W2965 [] [⟨46, 2, .slice (some ⟨b2964, 0, none⟩) ([(⟨IntKind.wrap .i64 t2949.1, a0.extract (IntKind.wrap .i64 (8 + (IntKind.wrap .i64 (x2936 * 516))) : Int).toNat (IntKind.wrap .i64 ((IntKind.wrap .i64 (8 + (IntKind.wrap .i64 (x2936 * 516)))) + 512) : Int).toNat⟩ : T_api_Write)] : List T_api_Write).length 1, ([(⟨IntKind.wrap .i64 t2949.1, a0.extract (IntKind.wrap .i64 (8 + (IntKind.wrap .i64 (x2936 * 516))) : Int).toNat (IntKind.wrap .i64 ((IntKind.wrap .i64 (8 + (IntKind.wrap .i64 (x2936 * 516)))) + 512) : Int).toNat⟩ : T_api_Write)] : List T_api_Write).length, encs T_api_Write.enc ([(⟨IntKind.wrap .i64 t2949.1, a0.extract (IntKind.wrap .i64 (8 + (IntKind.wrap .i64 (x2936 * 516))) : Int).toNat (IntKind.wrap .i64 ((IntKind.wrap .i64 (8 + (IntKind.wrap .i64 (x2936 * 516)))) + 512) : Int).toNat⟩ : T_api_Write)] : List T_api_Write)⟩, ⟨46, 2, .slice A2933 x2932.length c2934, x2932.length, encs T_api_Write.enc x2932⟩] := HW
                replace ha := ha.turn 59 (v := .slice (some ⟨b2964, 0, none⟩) ([(⟨IntKind.wrap .i64 t2949.1, a0.extract (IntKind.wrap .i64 (8 + (IntKind.wrap .i64 (x2936 * 516))) : Int).toNat (IntKind.wrap .i64 ((IntKind.wrap .i64 (8 + (IntKind.wrap .i64 (x2936 * 516)))) + 512) : Int).toNat⟩ : T_api_Write)] : List T_api_Write).length 1) KR rfl
                obtain ⟨hA2967, h_⟩ := asrt_some h; clear h; have h := h_; clear h_
                refine stepape T_api_Write.enc ha HW 60 1 44 46 (.tmp 46) (.tmp 59) (.agg #[.int .i64 0, .string (⟨#[]⟩ : ByteArray)]) 2 24 (.slice A2933 x2932.length c2934) x2932 (.slice (some ⟨b2964, 0, none⟩) ([(⟨IntKind.wrap .i64 t2949.1, a0.extract (IntKind.wrap .i64 (8 + (IntKind.wrap .i64 (x2936 * 516))) : Int).toNat (IntKind.wrap .i64 ((IntKind.wrap .i64 (8 + (IntKind.wrap .i64 (x2936 * 516)))) + 512) : Int).toNat⟩ : T_api_Write)] : List T_api_Write).length 1) ([(⟨IntKind.wrap .i64 t2949.1, a0.extract (IntKind.wrap .i64 (8 + (IntKind.wrap .i64 (x2936 * 516))) : Int).toNat (IntKind.wrap .i64 ((IntKind.wrap .i64 (8 + (IntKind.wrap .i64 (x2936 * 516)))) + 512) : Int).toNat⟩ : T_api_Write)] : List T_api_Write) KR rfl KR KR (HW.rdo (i := 0) (q := ⟨46, 2, .slice (some ⟨b2964, 0, none⟩) ([(⟨IntKind.wrap .i64 t2949.1, a0.extract (IntKind.wrap .i64 (8 + (IntKind.wrap .i64 (x2936 * 516))) : Int).toNat (IntKind.wrap .i64 ((IntKind.wrap .i64 (8 + (IntKind.wrap .i64 (x2936 * 516)))) + 512) : Int).toNat⟩ : T_api_Write)] : List T_api_Write).length 1, ([(⟨IntKind.wrap .i64 t2949.1, a0.extract (IntKind.wrap .i64 (8 + (IntKind.wrap .i64 (x2936 * 516))) : Int).toNat (IntKind.wrap .i64 ((IntKind.wrap .i64 (8 + (IntKind.wrap .i64 (x2936 * 516)))) + 512) : Int).toNat⟩ : T_api_Write)] : List T_api_Write).length, encs T_api_Write.enc ([(⟨IntKind.wrap .i64 t2949.1, a0.extract (IntKind.wrap .i64 (8 + (IntKind.wrap .i64 (x2936 * 516))) : Int).toNat (IntKind.wrap .i64 ((IntKind.wrap .i64 (8 + (IntKind.wrap .i64 (x2936 * 516)))) + 512) : Int).toNat⟩ : T_api_Write)] : List T_api_Write)⟩) KR) (fun _ => rfl) KR KR KR (by decide) (by have := hA2967; unfold maxLen; omega) (by have := hA2967; omega) KR ?_; clear ha HW a; intro A2968 c2969 a W2970 HW ha
                refine stepp ha 6 (.slice A2968 (x2932 ++ ([(⟨IntKind.wrap .i64 t2949.1, a0.extract (IntKind.wrap .i64 (8 + (IntKind.wrap .i64 (x2936 * 516))) : Int).toNat (IntKind.wrap .i64 ((IntKind.wrap .i64 (8 + (IntKind.wrap .i64 (x2936 * 516)))) + 512) : Int).toNat⟩ : T_api_Write)] : List T_api_Write)).length c2969) KR KR ?_; clear ha a; intro a ha
                refine endl ?_
                refine blkN ?_
                refine thenN (hK2946 _ _ ?_); clear hK2946
                refine wp_region_lit ?_
                refine stepp ha 34 (.int .i64 x2936) KR KR ?_; clear ha a; intro a ha
                refine stepp ha 35 (.int .i64 (IntKind.wrap .i64 (x2936 + 1))) KR KR ?_; clear ha a; intro a ha
                refine stepp ha 7 (.int .i64 (IntKind.wrap .i64 (x2936 + 1))) KR KR ?_; clear ha a; intro a ha
                refine endl ?_
                exact thenN ⟨k2938, Nat.lt_succ_self k2938, x2932 ++ ([(⟨IntKind.wrap .i64 t2949.1, a0.extract (IntKind.wrap .i64 (8 + (IntKind.wrap .i64 (x2936 * 516))) : Int).toNat (IntKind.wrap .i64 ((IntKind.wrap .i64 (8 + (IntKind.wrap .i64 (x2936 * 516)))) + 512) : Int).toNat⟩ : T_api_Write)] : List T_api_Write), A2968, c2969, IntKind.wrap .i64 (x2936 + 1), (by rw [← hag2939]; exact h), ha.sub (subs_cons KR (subs_cons KR (subs_cons KR (subs_cons KR (subs_nil _))))), HW.pick [] [1] (by decide) (by decide) KR KR⟩
            · skip
              replace h := ite_neg' h hp2944
              refine condF ha KR KR (t := decide (x2936 < (IntKind.wrap .i64 t2833.1))) (decide_eq_false hp2944) ?_
              refine wp_exit ?_
              refine thenE ?_
              refine thenE ?_
              refine inBlk ?_
              refine thenN (hK2856 _ _ ?_); clear hK2856
              refine wp_seq_k (fun K2973 hK2974 => ?_)
              refine wp_region_lit ?_
              refine stepp ha 61 (.slice A2933 x2932.length c2934) KR KR ?_; clear ha a; intro a ha
              refine stepp ha 2 (.slice A2933 x2932.length c2934) KR KR ?_; clear ha a; intro a ha
              refine stepp ha 3 (.int .i64 0) KR KR ?_; clear ha a; intro a ha
              refine endl ?_
              refine thenN (hK2974 _ _ ?_); clear hK2974
              refine wp_ret ?_
              obtain rfl := Option.some.inj h
              exact finv ha _ _ rfl (.tmp (v := .slice A2933 x2932.length c2934) KR (.tmp (v := .int .i64 0) KR .nil)) (.tuple #[.slice A2933 x2932.length c2934, .int .i64 0]) rfl ⟨A2933, c2934, rfl, HW.pick [] [0] (by decide) (by decide) rfl KR⟩
      · skip
        replace h := ite_neg' h hp2846
        refine condT ha KR KR (t := ((a0.size : Int) != (IntKind.wrap .i64 (4 + (IntKind.wrap .i64 ((IntKind.wrap .i64 t2833.1) * 516)))))) (ineq_t hp2846) ?_
        refine wp_seq_k (fun K2847 hK2848 => ?_)
        refine wp_region_lit ?_
        refine stepp ha 2 (.slice none 0 0) KR KR ?_; clear ha a; intro a ha
        refine stepp ha 3 (.int .i64 50) KR KR ?_; clear ha a; intro a ha
        refine endl ?_
        refine thenN (hK2848 _ _ ?_); clear hK2848
        refine wp_ret ?_
        refine thenR ?_
        obtain rfl := Option.some.inj h
        replace HW := HW.nilo 46 2
        exact finv ha _ _ rfl (.tmp (v := .slice none 0 0) KR (.tmp (v := .int .i64 50) KR .nil)) (.tuple #[.slice none 0 0, .int .i64 50]) rfl ⟨none, 0, rfl, HW.pick [] [0] (by decide) (by decide) rfl KR⟩
  · skip
    replace h := ite_neg' h hp2841
    replace ha := ha.bool 17 KR (not_t (bool_f hp2841))
    refine stepo ha 18 KR ?_; clear ha a; intro a ha
    refine stepo ha 19 KR ?_; clear ha a; intro a ha
    refine stepp ha 20 (.bool true) KR KR ?_; clear ha a; intro a ha
    refine stepp ha 21 (.bool true) KR KR ?_; clear ha a; intro a ha
    refine stepo ha 22 KR ?_; clear ha a; intro a ha
    refine stepo ha 23 KR ?_; clear ha a; intro a ha
    refine stepo ha 24 KR ?_; clear ha a; intro a ha
    refine stepo ha 25 KR ?_; clear ha a; intro a ha
    refine stepo ha 26 KR ?_; clear ha a; intro a ha
    refine stepo ha 27 KR ?_; clear ha a; intro a ha
    refine stepo ha 28 KR ?_; clear ha a; intro a ha
    refine stepp ha 29 (.bool true) KR KR ?_; clear ha a; intro a ha
    refine endl ?_
    refine thenN (hK2840 _ _ ?_); clear hK2840
    refine condT ha KR KR (t := true) (rfl) ?_
    refine wp_seq_k (fun K2850 hK2851 => ?_)
    refine wp_region_lit ?_
    refine stepp ha 2 (.slice none 0 0) KR KR ?_; clear ha a; intro a ha
    refine stepp ha 3 (.int .i64 50) KR KR ?_; clear ha a; intro a ha
    refine endl ?_
    refine thenN (hK2851 _ _ ?_); clear hK2851
    refine wp_ret ?_
    refine thenR ?_
    obtain rfl := Option.some.inj h
    replace HW := HW.nilo 46 2
    exact finv ha _ _ rfl (.tmp (v := .slice none 0 0) KR (.tmp (v := .int .i64 50) KR .nil)) (.tuple #[.slice none 0 0, .int .i64 50]) rfl ⟨none, 0, rfl, HW.pick [] [0] (by decide) (by decide) rfl KR⟩
end Go.Proofs.YtdcojinnjpihaaaDoor.F
