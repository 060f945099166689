/- headgate/headgateref01.there, headgate/headgateref01.Big, headgate/headgateref15.Type: plain functions, and that the calls come to what they say. No condition. -/
import Derived.Test.YteilejfncdacfaaGreatDoorFT
namespace Go.Proofs.YteilejfncdacfaaGreatDoor.F
open Go Go.RowKit Go.Proofs.YteilejfncdacfaaGreatDoor.X
set_option linter.unusedVariables false
set_option linter.unusedSimpArgs false
/-! ### headgate/headgateref01.there: function 263 -/
def headgateref01_there.f (a0 : ByteArray) (a1 : Int) (a2 : Int) : Option Bool :=
  if a1 ≥ 0 then (if a2 ≥ 0 then (if a1 ≤ (a0.size : Int) then (some (decide (a2 ≤ (IntKind.wrap .i64 ((a0.size : Int) - a1))))) else (some false)) else (some false)) else (some false)
set_option maxRecDepth 100000 in
set_option maxHeartbeats 4000000 in
theorem headgateref01_there.calls (a0 : ByteArray) (a1 : Int) (a2 : Int)  (r : Bool) (w : World)  (h : headgateref01_there.f a0 a1 a2 = some r) :
    Calls Tryz.prog 263 #[.string a0, .int .i64 a1, .int .i64 a2] w (fun e W' => e = .returned (.bool r) ∧ Wd w W' [] [] ) := by
  refine sxstart (n := 27) (l := [(0, .string a0), (1, .int .i64 a1), (2, .int .i64 a2)]) Tryz.func263 rfl rfl (Nat.le_of_ble_eq_true KR) (subsA_cons rfl (subsA_cons rfl (subsA_cons rfl (subsA_nil _)))) ?_
  intro a ha
  have HW := Wd.refl w
  unfold headgateref01_there.f at h
  refine wp_seq_k (fun K2392 hK2393 => ?_)
  refine wp_region_lit ?_
  refine stepp ha 6 (.bool false) KR KR ?_; clear ha a; intro a ha
  refine endl ?_
  refine thenN (hK2393 _ _ ?_); clear hK2393
  refine wp_seq_k (fun K2394 hK2395 => ?_)
  refine wp_region_lit ?_
  refine stepp ha 7 (.int .i64 a1) KR KR ?_; clear ha a; intro a ha
  refine stepp ha 8 (.bool (decide (a1 ≥ 0))) KR KR ?_; clear ha a; intro a ha
  refine stepp ha 9 (.bool (decide (a1 ≥ 0))) KR KR ?_; clear ha a; intro a ha
  by_cases hp2396 : a1 ≥ 0
  · skip
    replace h := ite_pos' h hp2396
    replace ha := ha.bool 9 KR (decide_eq_true hp2396)
    refine stepp ha 10 (.int .i64 a2) KR KR ?_; clear ha a; intro a ha
    refine stepp ha 11 (.bool (decide (a2 ≥ 0))) KR KR ?_; clear ha a; intro a ha
    refine stepp ha 12 (.bool (decide (a2 ≥ 0))) KR KR ?_; clear ha a; intro a ha
    refine stepp ha 13 (.bool (decide (a2 ≥ 0))) KR KR ?_; clear ha a; intro a ha
    by_cases hp2397 : a2 ≥ 0
    · skip
      replace h := ite_pos' h hp2397
      replace ha := ha.bool 13 KR (decide_eq_true hp2397)
      refine stepp ha 14 (.int .i64 a1) KR KR ?_; clear ha a; intro a ha
      refine stepp ha 15 (.string a0) KR KR ?_; clear ha a; intro a ha
      refine stepp ha 16 (.int .i64 (a0.size : Int)) KR KR ?_; clear ha a; intro a ha
      refine stepp ha 17 (.bool (decide (a1 ≤ (a0.size : Int)))) KR KR ?_; clear ha a; intro a ha
      refine stepp ha 18 (.bool (decide (a1 ≤ (a0.size : Int)))) KR KR ?_; clear ha a; intro a ha
      refine stepp ha 19 (.bool (decide (a1 ≤ (a0.size : Int)))) KR KR ?_; clear ha a; intro a ha
      by_cases hp2398 : a1 ≤ (a0.size : Int)
      · skip
        replace h := ite_pos' h hp2398
        replace ha := ha.bool 19 KR (decide_eq_true hp2398)
        refine stepp ha 20 (.int .i64 a2) KR KR ?_; clear ha a; intro a ha
        refine stepp ha 21 (.string a0) KR KR ?_; clear ha a; intro a ha
        refine stepp ha 22 (.int .i64 (a0.size : Int)) KR KR ?_; clear ha a; intro a ha
        refine stepp ha 23 (.int .i64 a1) KR KR ?_; clear ha a; intro a ha
        refine stepp ha 24 (.int .i64 (IntKind.wrap .i64 ((a0.size : Int) - a1))) KR KR ?_; clear ha a; intro a ha
        refine stepp ha 25 (.bool (decide (a2 ≤ (IntKind.wrap .i64 ((a0.size : Int) - a1))))) KR KR ?_; clear ha a; intro a ha
        refine stepp ha 26 (.bool (decide (a2 ≤ (IntKind.wrap .i64 ((a0.size : Int) - a1))))) KR KR ?_; clear ha a; intro a ha
        refine stepp ha 6 (.bool (decide (a2 ≤ (IntKind.wrap .i64 ((a0.size : Int) - a1))))) KR KR ?_; clear ha a; intro a ha
        refine endl ?_
        refine thenN (hK2395 _ _ ?_); clear hK2395
        refine wp_ret ?_
        obtain rfl := Option.some.inj h
        exact finv ha _ _ rfl (.tmp (v := .bool (decide (a2 ≤ (IntKind.wrap .i64 ((a0.size : Int) - a1))))) KR .nil) (.bool (decide (a2 ≤ (IntKind.wrap .i64 ((a0.size : Int) - a1))))) rfl ⟨rfl, HW.pick [] [] (by decide) (by decide) rfl KR⟩
      · skip
        replace h := ite_neg' h hp2398
        replace ha := ha.bool 19 KR (decide_eq_false hp2398)
        refine stepo ha 20 KR ?_; clear ha a; intro a ha
        refine stepo ha 21 KR ?_; clear ha a; intro a ha
        refine stepo ha 22 KR ?_; clear ha a; intro a ha
        refine stepo ha 23 KR ?_; clear ha a; intro a ha
        refine stepo ha 24 KR ?_; clear ha a; intro a ha
        refine stepo ha 25 KR ?_; clear ha a; intro a ha
        refine stepp ha 26 (.bool false) KR KR ?_; clear ha a; intro a ha
        refine stepp ha 6 (.bool false) KR KR ?_; clear ha a; intro a ha
        refine endl ?_
        refine thenN (hK2395 _ _ ?_); clear hK2395
        refine wp_ret ?_
        obtain rfl := Option.some.inj h
        exact finv ha _ _ rfl (.tmp (v := .bool false) KR .nil) (.bool false) rfl ⟨rfl, HW.pick [] [] (by decide) (by decide) rfl KR⟩
    · skip
      replace h := ite_neg' h hp2397
      replace ha := ha.bool 13 KR (decide_eq_false hp2397)
      refine stepo ha 14 KR ?_; clear ha a; intro a ha
      refine stepo ha 15 KR ?_; clear ha a; intro a ha
      refine stepo ha 16 KR ?_; clear ha a; intro a ha
      refine stepo ha 17 KR ?_; clear ha a; intro a ha
      refine stepp ha 18 (.bool false) KR KR ?_; clear ha a; intro a ha
      refine stepp ha 19 (.bool false) KR KR ?_; clear ha a; intro a ha
      refine stepo ha 20 KR ?_; clear ha a; intro a ha
      refine stepo ha 21 KR ?_; clear ha a; intro a ha
      refine stepo ha 22 KR ?_; clear ha a; intro a ha
      refine stepo ha 23 KR ?_; clear ha a; intro a ha
      refine stepo ha 24 KR ?_; clear ha a; intro a ha
      refine stepo ha 25 KR ?_; clear ha a; intro a ha
      refine stepp ha 26 (.bool false) KR KR ?_; clear ha a; intro a ha
      refine stepp ha 6 (.bool false) KR KR ?_; clear ha a; intro a ha
      refine endl ?_
      refine thenN (hK2395 _ _ ?_); clear hK2395
      refine wp_ret ?_
      obtain rfl := Option.some.inj h
      exact finv ha _ _ rfl (.tmp (v := .bool false) KR .nil) (.bool false) rfl ⟨rfl, HW.pick [] [] (by decide) (by decide) rfl KR⟩
  · skip
    replace h := ite_neg' h hp2396
    replace ha := ha.bool 9 KR (decide_eq_false hp2396)
    refine stepo ha 10 KR ?_; clear ha a; intro a ha
    refine stepo ha 11 KR ?_; clear ha a; intro a ha
    refine stepp ha 12 (.bool false) KR KR ?_; clear ha a; intro a ha
    refine stepp ha 13 (.bool false) KR KR ?_; clear ha a; intro a ha
    refine stepo ha 14 KR ?_; clear ha a; intro a ha
    refine stepo ha 15 KR ?_; clear ha a; intro a ha
    refine stepo ha 16 KR ?_; clear ha a; intro a ha
    refine stepo ha 17 KR ?_; clear ha a; intro a ha
    refine stepp ha 18 (.bool false) KR KR ?_; clear ha a; intro a ha
    refine stepp ha 19 (.bool false) KR KR ?_; clear ha a; intro a ha
    refine stepo ha 20 KR ?_; clear ha a; intro a ha
    refine stepo ha 21 KR ?_; clear ha a; intro a ha
    refine stepo ha 22 KR ?_; clear ha a; intro a ha
    refine stepo ha 23 KR ?_; clear ha a; intro a ha
    refine stepo ha 24 KR ?_; clear ha a; intro a ha
    refine stepo ha 25 KR ?_; clear ha a; intro a ha
    refine stepp ha 26 (.bool false) KR KR ?_; clear ha a; intro a ha
    refine stepp ha 6 (.bool false) KR KR ?_; clear ha a; intro a ha
    refine endl ?_
    refine thenN (hK2395 _ _ ?_); clear hK2395
    refine wp_ret ?_
    obtain rfl := Option.some.inj h
    exact finv ha _ _ rfl (.tmp (v := .bool false) KR .nil) (.bool false) rfl ⟨rfl, HW.pick [] [] (by decide) (by decide) rfl KR⟩
/-! ### headgate/headgateref01.Big: function 207 -/
def headgateref01_Big.b0 (K : Nat) (a0 : ByteArray) (a1 : Int) (a2 : Int) (again2446 : Int → Int → Option (Int × Bool)) (x2447 : Int) (x2448 : Int) : Option (Int × Bool) :=
  if x2448 < a2 then (asrt (0 ≤ (IntKind.wrap .i64 (a1 + x2448))) (asrt ((IntKind.wrap .i64 (a1 + x2448)) < (a0.size : Int)) (again2446 (IntKind.wrap .u64 ((IntKind.wrap .u64 (x2447 * 256)) + (IntKind.wrap .u64 (bt a0 (IntKind.wrap .i64 (a1 + x2448)))))) (IntKind.wrap .i64 (x2448 + 1))))) else (some (x2447, true))
def headgateref01_Big.l0 (K : Nat) (a0 : ByteArray) (a1 : Int) (a2 : Int) : Nat → Int → Int → Option (Int × Bool)
  | 0, _, _ => none
  | k_ + 1, x2447, x2448 => headgateref01_Big.b0 K a0 a1 a2 (headgateref01_Big.l0 K a0 a1 a2 k_) x2447 x2448
def headgateref01_Big.f (K : Nat) (a0 : ByteArray) (a1 : Int) (a2 : Int) : Option (Int × Bool) :=
  if a2 < 1 then (some (0, false)) else (if a2 > 8 then (some (0, false)) else ((headgateref01_there.f a0 a1 a2).bind fun t2407 => (if t2407 = true then (headgateref01_Big.l0 K a0 a1 a2 K 0 0) else (some (0, false)))))
set_option maxRecDepth 100000 in
set_option maxHeartbeats 4000000 in
theorem headgateref01_Big.calls (K : Nat) (a0 : ByteArray) (a1 : Int) (a2 : Int)  (r : Int × Bool) (w : World)  (h : headgateref01_Big.f K a0 a1 a2 = some r) :
    Calls Tryz.prog 207 #[.string a0, .int .i64 a1, .int .i64 a2] w (fun e W' => e = .returned (.tuple #[.int .u64 r.1, .bool r.2]) ∧ Wd w W' [] [] ) := by
  refine sxstart (n := 38) (l := [(0, .string a0), (1, .int .i64 a1), (2, .int .i64 a2)]) Tryz.func207 rfl rfl (Nat.le_of_ble_eq_true KR) (subsA_cons rfl (subsA_cons rfl (subsA_cons rfl (subsA_nil _)))) ?_
  intro a ha
  have HW := Wd.refl w
  unfold headgateref01_Big.f at h
  refine wp_seq_k (fun K2399 hK2400 => ?_)
  refine wp_region_lit ?_
  refine stepp ha 6 (.int .u64 0) KR KR ?_; clear ha a; intro a ha
  refine stepp ha 7 (.bool false) KR KR ?_; clear ha a; intro a ha
  refine endl ?_
  refine thenN (hK2400 _ _ ?_); clear hK2400
  refine wp_seq_k (fun K2401 hK2402 => ?_)
  refine wp_seq_k (fun K2403 hK2404 => ?_)
  refine wp_region_lit ?_
  refine stepp ha 10 (.int .i64 a2) KR KR ?_; clear ha a; intro a ha
  refine stepp ha 11 (.bool (decide (a2 < 1))) KR KR ?_; clear ha a; intro a ha
  refine stepp ha 12 (.bool (decide (a2 < 1))) KR KR ?_; clear ha a; intro a ha
  by_cases hp2405 : a2 < 1
  · skip
    replace h := ite_pos' h hp2405
    replace ha := ha.bool 12 KR (decide_eq_true hp2405)
    refine stepo ha 13 KR ?_; clear ha a; intro a ha
    refine stepo ha 14 KR ?_; clear ha a; intro a ha
    refine stepp ha 15 (.bool true) KR KR ?_; clear ha a; intro a ha
    refine stepp ha 16 (.bool true) KR KR ?_; clear ha a; intro a ha
    refine stepo ha 17 KR ?_; clear ha a; intro a ha
    refine stepo ha 18 KR ?_; clear ha a; intro a ha
    refine stepo ha 19 KR ?_; clear ha a; intro a ha
    refine stepo ha 20 KR ?_; clear ha a; intro a ha
    refine stepo ha 21 KR ?_; clear ha a; intro a ha
    refine stepp ha 22 (.bool true) KR KR ?_; clear ha a; intro a ha
    refine endl ?_
    refine thenN (hK2404 _ _ ?_); clear hK2404
    refine condT ha KR KR (t := true) (rfl) ?_
    refine wp_seq_k (fun K2411 hK2412 => ?_)
    refine wp_region_lit ?_
    refine stepp ha 6 (.int .u64 0) KR KR ?_; clear ha a; intro a ha
    refine stepp ha 7 (.bool false) KR KR ?_; clear ha a; intro a ha
    refine endl ?_
    refine thenN (hK2412 _ _ ?_); clear hK2412
    refine wp_ret ?_
    refine thenR ?_
    obtain rfl := Option.some.inj h
    exact finv ha _ _ rfl (.tmp (v := .int .u64 0) KR (.tmp (v := .bool false) KR .nil)) (.tuple #[.int .u64 0, .bool false]) rfl ⟨rfl, HW.pick [] [] (by decide) (by decide) rfl KR⟩
  · skip
    replace h := ite_neg' h hp2405
    replace ha := ha.bool 12 KR (decide_eq_false hp2405)
    refine stepp ha 13 (.int .i64 a2) KR KR ?_; clear ha a; intro a ha
    refine stepp ha 14 (.bool (decide (a2 > 8))) KR KR ?_; clear ha a; intro a ha
    refine stepp ha 15 (.bool (decide (a2 > 8))) KR KR ?_; clear ha a; intro a ha
    refine stepp ha 16 (.bool (decide (a2 > 8))) KR KR ?_; clear ha a; intro a ha
    by_cases hp2406 : a2 > 8
    · skip
      replace h := ite_pos' h hp2406
      replace ha := ha.bool 16 KR (decide_eq_true hp2406)
      refine stepo ha 17 KR ?_; clear ha a; intro a ha
      refine stepo ha 18 KR ?_; clear ha a; intro a ha
      refine stepo ha 19 KR ?_; clear ha a; intro a ha
      refine stepo ha 20 KR ?_; clear ha a; intro a ha
      refine stepo ha 21 KR ?_; clear ha a; intro a ha
      refine stepp ha 22 (.bool true) KR KR ?_; clear ha a; intro a ha
      refine endl ?_
      refine thenN (hK2404 _ _ ?_); clear hK2404
      refine condT ha KR KR (t := true) (rfl) ?_
      refine wp_seq_k (fun K2413 hK2414 => ?_)
      refine wp_region_lit ?_
      refine stepp ha 6 (.int .u64 0) KR KR ?_; clear ha a; intro a ha
      refine stepp ha 7 (.bool false) KR KR ?_; clear ha a; intro a ha
      refine endl ?_
      refine thenN (hK2414 _ _ ?_); clear hK2414
      refine wp_ret ?_
      refine thenR ?_
      obtain rfl := Option.some.inj h
      exact finv ha _ _ rfl (.tmp (v := .int .u64 0) KR (.tmp (v := .bool false) KR .nil)) (.tuple #[.int .u64 0, .bool false]) rfl ⟨rfl, HW.pick [] [] (by decide) (by decide) rfl KR⟩
    · skip
      replace h := ite_neg' h hp2406
      replace ha := ha.bool 16 KR (decide_eq_false hp2406)
      refine stepp ha 17 (.string a0) KR KR ?_; clear ha a; intro a ha
      refine stepp ha 18 (.int .i64 a1) KR KR ?_; clear ha a; intro a ha
      refine stepp ha 19 (.int .i64 a2) KR KR ?_; clear ha a; intro a ha
      obtain ⟨t2407, ht2408, h_⟩ := bind_some' h; clear h; have h := h_; clear h_
      refine stepc ha 20 KR KR (headgateref01_there.calls a0 a1 a2 t2407 _ ht2408) ?_; clear ha a; rintro e W2409 ⟨rfl, HX2410⟩
      refine ⟨_, rfl, ?_⟩; intro a ha; replace HW := HW.callw HX2410; clear HX2410
      refine stepp ha 21 (.bool (!t2407)) KR KR ?_; clear ha a; intro a ha
      refine stepp ha 22 (.bool (!t2407)) KR KR ?_; clear ha a; intro a ha
      refine endl ?_
      refine thenN (hK2404 _ _ ?_); clear hK2404
      by_cases hp2415 : t2407 = true
      · skip
        replace h := ite_pos' h hp2415
        refine condF ha KR KR (t := (!t2407)) (not_f (hp2415)) ?_
        refine wp_skip ?_
        refine thenN (hK2402 _ _ ?_); clear hK2402
        refine wp_seq_k (fun K2418 hK2419 => ?_)
        refine wp_region_lit ?_
        refine stepp ha 8 (.int .u64 0) KR KR ?_; clear ha a; intro a ha
        refine endl ?_
        refine thenN (hK2419 _ _ ?_); clear hK2419
        refine wp_seq_k (fun K2420 hK2421 => ?_)
        refine wp_seq_k (fun K2422 hK2423 => ?_)
        refine wp_region_lit ?_
        refine stepp ha 9 (.int .i64 0) KR KR ?_; clear ha a; intro a ha
        refine endl ?_
        refine thenN (hK2423 _ _ ?_); clear hK2423
        refine wp_block ?_
        refine loopk (fun k => fun a W2449 => ∃ (x2447 : Int), ∃ (x2448 : Int), headgateref01_Big.l0 K a0 a1 a2 k x2447 x2448 = some r ∧ Has 38 [(0, .string a0), (1, .int .i64 a1), (2, .int .i64 a2), (8, .int .u64 x2447), (9, .int .i64 x2448)] a ∧ Wd w W2449 [] []) K ?_ ?_
        · skip
          exact ⟨0, 0, h, ha.sub (subs_cons KR (subs_cons KR (subs_cons KR (subs_cons KR (subs_cons KR (subs_nil _)))))), HW.pick [] [] (by decide) (by decide) KR KR⟩
        · skip
          intro k a W2449 hI
          obtain ⟨x2447, x2448, h, ha, HW⟩ := hI
          cases k with
          | zero => exact (none_some (show none = some r from h)).elim
          | succ k2450 =>
            replace h : headgateref01_Big.b0 K a0 a1 a2 (headgateref01_Big.l0 K a0 a1 a2 k2450) x2447 x2448 = some r := h
            obtain ⟨again2446, hag2451⟩ : ∃ g_, g_ = headgateref01_Big.l0 K a0 a1 a2 k2450 := ⟨_, rfl⟩
            rw [← hag2451] at h
            unfold headgateref01_Big.b0 at h
            refine wp_seq_k (fun K2452 hK2453 => ?_)
            refine wp_seq_k (fun K2454 hK2455 => ?_)
            refine wp_region_lit ?_
            refine stepp ha 23 (.int .i64 x2448) KR KR ?_; clear ha a; intro a ha
            refine stepp ha 24 (.int .i64 a2) KR KR ?_; clear ha a; intro a ha
            refine stepp ha 25 (.bool (decide (x2448 < a2))) KR KR ?_; clear ha a; intro a ha
            refine endl ?_
            refine thenN (hK2455 _ _ ?_); clear hK2455
            by_cases hp2456 : x2448 < a2
            · skip
              replace h := ite_pos' h hp2456
              refine condT ha KR KR (t := decide (x2448 < a2)) (decide_eq_true hp2456) ?_
              refine wp_skip ?_
              refine thenN (hK2453 _ _ ?_); clear hK2453
              refine wp_seq_k (fun K2457 hK2458 => ?_)
              refine wp_block ?_
              refine wp_region_lit ?_
              refine stepp ha 28 (.int .u64 x2447) KR KR ?_; clear ha a; intro a ha
              refine stepp ha 29 (.int .u64 (IntKind.wrap .u64 (x2447 * 256))) KR KR ?_; clear ha a; intro a ha
              refine stepp ha 30 (.string a0) KR KR ?_; clear ha a; intro a ha
              refine stepp ha 31 (.int .i64 a1) KR KR ?_; clear ha a; intro a ha
              refine stepp ha 32 (.int .i64 x2448) KR KR ?_; clear ha a; intro a ha
              refine stepp ha 33 (.int .i64 (IntKind.wrap .i64 (a1 + x2448))) KR KR ?_; clear ha a; intro a ha
              obtain ⟨hA2459, h_⟩ := asrt_some h; clear h; have h := h_; clear h_
              obtain ⟨hA2460, h_⟩ := asrt_some h; clear h; have h := h_; clear h_
              refine stepsi ha 34 9 (.tmp 30) (.tmp 33) a0 .i64 (IntKind.wrap .i64 (a1 + x2448)) rfl KR KR KR hA2459 (show (IntKind.wrap .i64 (a1 + x2448) : Int) < ((a0).size : Int) from hA2460) KR ?_; clear ha a; intro a ha
              refine stepp ha 35 (.int .u64 (IntKind.wrap .u64 (bt a0 (IntKind.wrap .i64 (a1 + x2448))))) KR KR ?_; clear ha a; intro a ha
              refine stepp ha 36 (.int .u64 (IntKind.wrap .u64 ((IntKind.wrap .u64 (x2447 * 256)) + (IntKind.wrap .u64 (bt a0 (IntKind.wrap .i64 (a1 + x2448))))))) KR KR ?_; clear ha a; intro a ha
              refine stepp ha 8 (.int .u64 (IntKind.wrap .u64 ((IntKind.wrap .u64 (x2447 * 256)) + (IntKind.wrap .u64 (bt a0 (IntKind.wrap .i64 (a1 + x2448))))))) KR KR ?_; clear ha a; intro a ha
              refine endl ?_
              refine blkN ?_
              refine thenN (hK2458 _ _ ?_); clear hK2458
              refine wp_region_lit ?_
              refine stepp ha 26 (.int .i64 x2448) KR KR ?_; clear ha a; intro a ha
              refine stepp ha 27 (.int .i64 (IntKind.wrap .i64 (x2448 + 1))) KR KR ?_; clear ha a; intro a ha
              refine stepp ha 9 (.int .i64 (IntKind.wrap .i64 (x2448 + 1))) KR KR ?_; clear ha a; intro a ha
              refine endl ?_
              exact thenN ⟨k2450, Nat.lt_succ_self k2450, IntKind.wrap .u64 ((IntKind.wrap .u64 (x2447 * 256)) + (IntKind.wrap .u64 (bt a0 (IntKind.wrap .i64 (a1 + x2448))))), IntKind.wrap .i64 (x2448 + 1), (by rw [← hag2451]; exact h), ha.sub (subs_cons KR (subs_cons KR (subs_cons KR (subs_cons KR (subs_cons KR (subs_nil _)))))), HW.pick [] [] (by decide) (by decide) KR KR⟩
            · skip
              replace h := ite_neg' h hp2456
              refine condF ha KR KR (t := decide (x2448 < a2)) (decide_eq_false hp2456) ?_
              refine wp_exit ?_
              refine thenE ?_
              refine thenE ?_
              refine inBlk ?_
              refine thenN (hK2421 _ _ ?_); clear hK2421
              refine wp_seq_k (fun K2461 hK2462 => ?_)
              refine wp_region_lit ?_
              refine stepp ha 37 (.int .u64 x2447) KR KR ?_; clear ha a; intro a ha
              refine stepp ha 6 (.int .u64 x2447) KR KR ?_; clear ha a; intro a ha
              refine stepp ha 7 (.bool true) KR KR ?_; clear ha a; intro a ha
              refine endl ?_
              refine thenN (hK2462 _ _ ?_); clear hK2462
              refine wp_ret ?_
              obtain rfl := Option.some.inj h
              exact finv ha _ _ rfl (.tmp (v := .int .u64 x2447) KR (.tmp (v := .bool true) KR .nil)) (.tuple #[.int .u64 x2447, .bool true]) rfl ⟨rfl, HW.pick [] [] (by decide) (by decide) rfl KR⟩
      · skip
        replace h := ite_neg' h hp2415
        refine condT ha KR KR (t := (!t2407)) (not_t (bool_f hp2415)) ?_
        refine wp_seq_k (fun K2416 hK2417 => ?_)
        refine wp_region_lit ?_
        refine stepp ha 6 (.int .u64 0) KR KR ?_; clear ha a; intro a ha
        refine stepp ha 7 (.bool false) KR KR ?_; clear ha a; intro a ha
        refine endl ?_
        refine thenN (hK2417 _ _ ?_); clear hK2417
        refine wp_ret ?_
        refine thenR ?_
        obtain rfl := Option.some.inj h
        exact finv ha _ _ rfl (.tmp (v := .int .u64 0) KR (.tmp (v := .bool false) KR .nil)) (.tuple #[.int .u64 0, .bool false]) rfl ⟨rfl, HW.pick [] [] (by decide) (by decide) rfl KR⟩
/-! ### headgate/headgateref15.Type: function 174 -/
def headgateref15_Type.f (a0 : Int) : Option Int :=
  if a0 = 1 then (some 1) else (if a0 = 3 then (some 2) else (if a0 = 5 then (some (IntKind.wrap .i64 (a0 - 2))) else (if a0 = 6 then (some (IntKind.wrap .i64 (a0 - 2))) else (if a0 = 7 then (some (IntKind.wrap .i64 (a0 - 2))) else (if a0 = 8 then (some (IntKind.wrap .i64 (a0 - 2))) else (some 0))))))
set_option maxRecDepth 100000 in
set_option maxHeartbeats 4000000 in
theorem headgateref15_Type.calls (a0 : Int)  (r : Int) (w : World)  (h : headgateref15_Type.f a0 = some r) :
    Calls Tryz.prog 174 #[.int .i64 a0] w (fun e W' => e = .returned (.int .i64 r) ∧ Wd w W' [] [] ) := by
  refine sxstart (n := 15) (l := [(0, .int .i64 a0)]) Tryz.func174 rfl rfl (Nat.le_of_ble_eq_true KR) (subsA_cons rfl (subsA_nil _)) ?_
  intro a ha
  have HW := Wd.refl w
  unfold headgateref15_Type.f at h
  refine wp_seq_k (fun K6756 hK6757 => ?_)
  refine wp_region_lit ?_
  refine stepp ha 2 (.int .i64 0) KR KR ?_; clear ha a; intro a ha
  refine endl ?_
  refine thenN (hK6757 _ _ ?_); clear hK6757
  refine wp_seq_k (fun K6758 hK6759 => ?_)
  refine wp_seq_k (fun K6760 hK6761 => ?_)
  refine wp_region_lit ?_
  refine stepp ha 3 (.int .i64 a0) KR KR ?_; clear ha a; intro a ha
  refine endl ?_
  refine thenN (hK6761 _ _ ?_); clear hK6761
  refine wp_block ?_
  refine wp_seq_k (fun K6762 hK6763 => ?_)
  refine wp_region_lit ?_
  refine stepp ha 5 (.bool (a0 == 1)) KR KR ?_; clear ha a; intro a ha
  refine stepp ha 4 (.bool (a0 == 1)) KR KR ?_; clear ha a; intro a ha
  refine endl ?_
  refine thenN (hK6763 _ _ ?_); clear hK6763
  by_cases hp6764 : a0 = 1
  · skip
    replace h := ite_pos' h hp6764
    refine condT ha KR KR (t := (a0 == 1)) (ieq_t hp6764) ?_
    refine wp_seq_k (fun K6765 hK6766 => ?_)
    refine wp_region_lit ?_
    refine stepp ha 2 (.int .i64 1) KR KR ?_; clear ha a; intro a ha
    refine endl ?_
    refine thenN (hK6766 _ _ ?_); clear hK6766
    refine wp_ret ?_
    refine blkR ?_
    refine thenR ?_
    obtain rfl := Option.some.inj h
    exact finv ha _ _ rfl (.tmp (v := .int .i64 1) KR .nil) (.int .i64 1) rfl ⟨rfl, HW.pick [] [] (by decide) (by decide) rfl KR⟩
  · skip
    replace h := ite_neg' h hp6764
    refine condF ha KR KR (t := (a0 == 1)) (ieq_f hp6764) ?_
    refine wp_seq_k (fun K6767 hK6768 => ?_)
    refine wp_region_lit ?_
    refine stepp ha 7 (.bool (a0 == 3)) KR KR ?_; clear ha a; intro a ha
    refine stepp ha 6 (.bool (a0 == 3)) KR KR ?_; clear ha a; intro a ha
    refine endl ?_
    refine thenN (hK6768 _ _ ?_); clear hK6768
    by_cases hp6769 : a0 = 3
    · skip
      replace h := ite_pos' h hp6769
      refine condT ha KR KR (t := (a0 == 3)) (ieq_t hp6769) ?_
      refine wp_seq_k (fun K6770 hK6771 => ?_)
      refine wp_region_lit ?_
      refine stepp ha 2 (.int .i64 2) KR KR ?_; clear ha a; intro a ha
      refine endl ?_
      refine thenN (hK6771 _ _ ?_); clear hK6771
      refine wp_ret ?_
      refine blkR ?_
      refine thenR ?_
      obtain rfl := Option.some.inj h
      exact finv ha _ _ rfl (.tmp (v := .int .i64 2) KR .nil) (.int .i64 2) rfl ⟨rfl, HW.pick [] [] (by decide) (by decide) rfl KR⟩
    · skip
      replace h := ite_neg' h hp6769
      refine condF ha KR KR (t := (a0 == 3)) (ieq_f hp6769) ?_
      refine wp_seq_k (fun K6772 hK6773 => ?_)
      refine wp_seq_k (fun K6774 hK6775 => ?_)
      refine wp_region_lit ?_
      refine stepp ha 9 (.bool (a0 == 5)) KR KR ?_; clear ha a; intro a ha
      refine stepp ha 8 (.bool (a0 == 5)) KR KR ?_; clear ha a; intro a ha
      refine endl ?_
      refine thenN (hK6775 _ _ ?_); clear hK6775
      by_cases hp6776 : a0 = 5
      · skip
        replace h := ite_pos' h hp6776
        refine condT ha KR KR (t := (a0 == 5)) (ieq_t hp6776) ?_
        refine wp_skip ?_
        refine thenN (hK6773 _ _ ?_); clear hK6773
        refine condT ha KR KR (t := (a0 == 5)) (ieq_t hp6776) ?_
        refine wp_seq_k (fun K6783 hK6784 => ?_)
        refine wp_region_lit ?_
        refine stepp ha 13 (.int .i64 a0) KR KR ?_; clear ha a; intro a ha
        refine stepp ha 14 (.int .i64 (IntKind.wrap .i64 (a0 - 2))) KR KR ?_; clear ha a; intro a ha
        refine stepp ha 2 (.int .i64 (IntKind.wrap .i64 (a0 - 2))) KR KR ?_; clear ha a; intro a ha
        refine endl ?_
        refine thenN (hK6784 _ _ ?_); clear hK6784
        refine wp_ret ?_
        refine blkR ?_
        refine thenR ?_
        obtain rfl := Option.some.inj h
        exact finv ha _ _ rfl (.tmp (v := .int .i64 (IntKind.wrap .i64 (a0 - 2))) KR .nil) (.int .i64 (IntKind.wrap .i64 (a0 - 2))) rfl ⟨rfl, HW.pick [] [] (by decide) (by decide) rfl KR⟩
      · skip
        replace h := ite_neg' h hp6776
        refine condF ha KR KR (t := (a0 == 5)) (ieq_f hp6776) ?_
        refine wp_seq_k (fun K6777 hK6778 => ?_)
        refine wp_region_lit ?_
        refine stepp ha 10 (.bool (a0 == 6)) KR KR ?_; clear ha a; intro a ha
        refine stepp ha 8 (.bool (a0 == 6)) KR KR ?_; clear ha a; intro a ha
        refine endl ?_
        refine thenN (hK6778 _ _ ?_); clear hK6778
        by_cases hp6779 : a0 = 6
        · skip
          replace h := ite_pos' h hp6779
          refine condT ha KR KR (t := (a0 == 6)) (ieq_t hp6779) ?_
          refine wp_skip ?_
          refine thenN (hK6773 _ _ ?_); clear hK6773
          refine condT ha KR KR (t := (a0 == 6)) (ieq_t hp6779) ?_
          refine wp_seq_k (fun K6785 hK6786 => ?_)
          refine wp_region_lit ?_
          refine stepp ha 13 (.int .i64 a0) KR KR ?_; clear ha a; intro a ha
          refine stepp ha 14 (.int .i64 (IntKind.wrap .i64 (a0 - 2))) KR KR ?_; clear ha a; intro a ha
          refine stepp ha 2 (.int .i64 (IntKind.wrap .i64 (a0 - 2))) KR KR ?_; clear ha a; intro a ha
          refine endl ?_
          refine thenN (hK6786 _ _ ?_); clear hK6786
          refine wp_ret ?_
          refine blkR ?_
          refine thenR ?_
          obtain rfl := Option.some.inj h
          exact finv ha _ _ rfl (.tmp (v := .int .i64 (IntKind.wrap .i64 (a0 - 2))) KR .nil) (.int .i64 (IntKind.wrap .i64 (a0 - 2))) rfl ⟨rfl, HW.pick [] [] (by decide) (by decide) rfl KR⟩
        · skip
          replace h := ite_neg' h hp6779
          refine condF ha KR KR (t := (a0 == 6)) (ieq_f hp6779) ?_
          refine wp_seq_k (fun K6780 hK6781 => ?_)
          refine wp_region_lit ?_
          refine stepp ha 11 (.bool (a0 == 7)) KR KR ?_; clear ha a; intro a ha
          refine stepp ha 8 (.bool (a0 == 7)) KR KR ?_; clear ha a; intro a ha
          refine endl ?_
          refine thenN (hK6781 _ _ ?_); clear hK6781
          by_cases hp6782 : a0 = 7
          · skip
            replace h := ite_pos' h hp6782
            refine condT ha KR KR (t := (a0 == 7)) (ieq_t hp6782) ?_
            refine wp_skip ?_
            refine thenN (hK6773 _ _ ?_); clear hK6773
            refine condT ha KR KR (t := (a0 == 7)) (ieq_t hp6782) ?_
            refine wp_seq_k (fun K6787 hK6788 => ?_)
            refine wp_region_lit ?_
            refine stepp ha 13 (.int .i64 a0) KR KR ?_; clear ha a; intro a ha
            refine stepp ha 14 (.int .i64 (IntKind.wrap .i64 (a0 - 2))) KR KR ?_; clear ha a; intro a ha
            refine stepp ha 2 (.int .i64 (IntKind.wrap .i64 (a0 - 2))) KR KR ?_; clear ha a; intro a ha
            refine endl ?_
            refine thenN (hK6788 _ _ ?_); clear hK6788
            refine wp_ret ?_
            refine blkR ?_
            refine thenR ?_
            obtain rfl := Option.some.inj h
            exact finv ha _ _ rfl (.tmp (v := .int .i64 (IntKind.wrap .i64 (a0 - 2))) KR .nil) (.int .i64 (IntKind.wrap .i64 (a0 - 2))) rfl ⟨rfl, HW.pick [] [] (by decide) (by decide) rfl KR⟩
          · skip
            replace h := ite_neg' h hp6782
            refine condF ha KR KR (t := (a0 == 7)) (ieq_f hp6782) ?_
            refine wp_region_lit ?_
            refine stepp ha 12 (.bool (a0 == 8)) KR KR ?_; clear ha a; intro a ha
            refine stepp ha 8 (.bool (a0 == 8)) KR KR ?_; clear ha a; intro a ha
            refine endl ?_
            refine thenN (hK6773 _ _ ?_); clear hK6773
            by_cases hp6789 : a0 = 8
            · skip
              replace h := ite_pos' h hp6789
              refine condT ha KR KR (t := (a0 == 8)) (ieq_t hp6789) ?_
              refine wp_seq_k (fun K6790 hK6791 => ?_)
              refine wp_region_lit ?_
              refine stepp ha 13 (.int .i64 a0) KR KR ?_; clear ha a; intro a ha
              refine stepp ha 14 (.int .i64 (IntKind.wrap .i64 (a0 - 2))) KR KR ?_; clear ha a; intro a ha
              refine stepp ha 2 (.int .i64 (IntKind.wrap .i64 (a0 - 2))) KR KR ?_; clear ha a; intro a ha
              refine endl ?_
              refine thenN (hK6791 _ _ ?_); clear hK6791
              refine wp_ret ?_
              refine blkR ?_
              refine thenR ?_
              obtain rfl := Option.some.inj h
              exact finv ha _ _ rfl (.tmp (v := .int .i64 (IntKind.wrap .i64 (a0 - 2))) KR .nil) (.int .i64 (IntKind.wrap .i64 (a0 - 2))) rfl ⟨rfl, HW.pick [] [] (by decide) (by decide) rfl KR⟩
            · skip
              replace h := ite_neg' h hp6789
              refine condF ha KR KR (t := (a0 == 8)) (ieq_f hp6789) ?_
              refine wp_skip ?_
              refine blkN ?_
              refine thenN (hK6759 _ _ ?_); clear hK6759
              refine wp_seq_k (fun K6792 hK6793 => ?_)
              refine wp_region_lit ?_
              refine stepp ha 2 (.int .i64 0) KR KR ?_; clear ha a; intro a ha
              refine endl ?_
              refine thenN (hK6793 _ _ ?_); clear hK6793
              refine wp_ret ?_
              obtain rfl := Option.some.inj h
              exact finv ha _ _ rfl (.tmp (v := .int .i64 0) KR .nil) (.int .i64 0) rfl ⟨rfl, HW.pick [] [] (by decide) (by decide) rfl KR⟩
end Go.Proofs.YteilejfncdacfaaGreatDoor.F
