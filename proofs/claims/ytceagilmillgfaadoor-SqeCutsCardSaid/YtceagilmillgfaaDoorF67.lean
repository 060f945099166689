/- headgate/headgateref01.Little: a plain function, and that the call comes to what it says. No condition. -/
import Derived.Test.YtceagilmillgfaaDoorFT
import Derived.Test.YtceagilmillgfaaDoorF73
namespace Go.Proofs.YtceagilmillgfaaDoor.F
open Go Go.RowKit Go.Proofs.YtceagilmillgfaaDoor.X
set_option linter.unusedVariables false
set_option linter.unusedSimpArgs false
/-! ### headgate/headgateref01.Little: function 67 -/
def headgateref01_Little.b0 (K : Nat) (a0 : ByteArray) (a1 : Int) (again2449 : Int → Int → Option (Int × Bool)) (x2450 : Int) (x2451 : Int) : Option (Int × Bool) :=
  if x2451 ≥ 0 then (asrt (0 ≤ (IntKind.wrap .i64 (a1 + x2451))) (asrt ((IntKind.wrap .i64 (a1 + x2451)) < (a0.size : Int)) (again2449 (IntKind.wrap .u64 ((IntKind.wrap .u64 (x2450 * 256)) + (IntKind.wrap .u64 (bt a0 (IntKind.wrap .i64 (a1 + x2451)))))) (IntKind.wrap .i64 (x2451 - 1))))) else (some (x2450, true))
def headgateref01_Little.l0 (K : Nat) (a0 : ByteArray) (a1 : Int) : Nat → Int → Int → Option (Int × Bool)
  | 0, _, _ => none
  | k_ + 1, x2450, x2451 => headgateref01_Little.b0 K a0 a1 (headgateref01_Little.l0 K a0 a1 k_) x2450 x2451
def headgateref01_Little.f (K : Nat) (a0 : ByteArray) (a1 : Int) (a2 : Int) : Option (Int × Bool) :=
  if a2 < 1 then (some (0, false)) else (if a2 > 8 then (some (0, false)) else ((headgateref01_there.f a0 a1 a2).bind fun t2410 => (if t2410 = true then (headgateref01_Little.l0 K a0 a1 K 0 (IntKind.wrap .i64 (a2 - 1))) else (some (0, false)))))
set_option maxRecDepth 100000 in
set_option maxHeartbeats 4000000 in
theorem headgateref01_Little.calls (K : Nat) (a0 : ByteArray) (a1 : Int) (a2 : Int)  (r : Int × Bool) (w : World)  (h : headgateref01_Little.f K a0 a1 a2 = some r) :
    Calls Tryd.prog 67 #[.string a0, .int .i64 a1, .int .i64 a2] w (fun e W' => e = .returned (.tuple #[.int .u64 r.1, .bool r.2]) ∧ Wd w W' [] [] ) := by
  refine sxstart (n := 39) (l := [(0, .string a0), (1, .int .i64 a1), (2, .int .i64 a2)]) Tryd.func67 rfl rfl (Nat.le_of_ble_eq_true (by kernel_rfl)) (subsA_cons rfl (subsA_cons rfl (subsA_cons rfl (subsA_nil _)))) ?_
  intro a ha
  have HW := Wd.refl w
  unfold headgateref01_Little.f at h
  refine wp_seq_k (fun K2402 hK2403 => ?_)
  refine wp_region_lit ?_
  refine stepp ha 6 (.int .u64 0) (by kernel_rfl) (by kernel_rfl) ?_; clear ha a; intro a ha
  refine stepp ha 7 (.bool false) (by kernel_rfl) (by kernel_rfl) ?_; clear ha a; intro a ha
  refine endl ?_
  refine thenN (hK2403 _ _ ?_); clear hK2403
  refine wp_seq_k (fun K2404 hK2405 => ?_)
  refine wp_seq_k (fun K2406 hK2407 => ?_)
  refine wp_region_lit ?_
  refine stepp ha 10 (.int .i64 a2) (by kernel_rfl) (by kernel_rfl) ?_; clear ha a; intro a ha
  refine stepp ha 11 (.bool (decide (a2 < 1))) (by kernel_rfl) (by kernel_rfl) ?_; clear ha a; intro a ha
  refine stepp ha 12 (.bool (decide (a2 < 1))) (by kernel_rfl) (by kernel_rfl) ?_; clear ha a; intro a ha
  by_cases hp2408 : a2 < 1
  · skip
    replace h := ite_pos' h hp2408
    replace ha := ha.bool 12 (by kernel_rfl) (decide_eq_true hp2408)
    refine stepo ha 13 (by kernel_rfl) ?_; clear ha a; intro a ha
    refine stepo ha 14 (by kernel_rfl) ?_; clear ha a; intro a ha
    refine stepp ha 15 (.bool true) (by kernel_rfl) (by kernel_rfl) ?_; clear ha a; intro a ha
    refine stepp ha 16 (.bool true) (by kernel_rfl) (by kernel_rfl) ?_; clear ha a; intro a ha
    refine stepo ha 17 (by kernel_rfl) ?_; clear ha a; intro a ha
    refine stepo ha 18 (by kernel_rfl) ?_; clear ha a; intro a ha
    refine stepo ha 19 (by kernel_rfl) ?_; clear ha a; intro a ha
    refine stepo ha 20 (by kernel_rfl) ?_; clear ha a; intro a ha
    refine stepo ha 21 (by kernel_rfl) ?_; clear ha a; intro a ha
    refine stepp ha 22 (.bool true) (by kernel_rfl) (by kernel_rfl) ?_; clear ha a; intro a ha
    refine endl ?_
    refine thenN (hK2407 _ _ ?_); clear hK2407
    refine condT ha (by kernel_rfl) (by kernel_rfl) (t := true) (rfl) ?_
    refine wp_seq_k (fun K2414 hK2415 => ?_)
    refine wp_region_lit ?_
    refine stepp ha 6 (.int .u64 0) (by kernel_rfl) (by kernel_rfl) ?_; clear ha a; intro a ha
    refine stepp ha 7 (.bool false) (by kernel_rfl) (by kernel_rfl) ?_; clear ha a; intro a ha
    refine endl ?_
    refine thenN (hK2415 _ _ ?_); clear hK2415
    refine wp_ret ?_
    refine thenR ?_
    obtain rfl := Option.some.inj h
    exact finv ha _ _ rfl (.tmp (v := .int .u64 0) (by kernel_rfl) (.tmp (v := .bool false) (by kernel_rfl) .nil)) (.tuple #[.int .u64 0, .bool false]) rfl ⟨rfl, HW.pick [] [] (by decide) (by decide) rfl (by kernel_rfl)⟩
  · skip
    replace h := ite_neg' h hp2408
    replace ha := ha.bool 12 (by kernel_rfl) (decide_eq_false hp2408)
    refine stepp ha 13 (.int .i64 a2) (by kernel_rfl) (by kernel_rfl) ?_; clear ha a; intro a ha
    refine stepp ha 14 (.bool (decide (a2 > 8))) (by kernel_rfl) (by kernel_rfl) ?_; clear ha a; intro a ha
    refine stepp ha 15 (.bool (decide (a2 > 8))) (by kernel_rfl) (by kernel_rfl) ?_; clear ha a; intro a ha
    refine stepp ha 16 (.bool (decide (a2 > 8))) (by kernel_rfl) (by kernel_rfl) ?_; clear ha a; intro a ha
    by_cases hp2409 : a2 > 8
    · skip
      replace h := ite_pos' h hp2409
      replace ha := ha.bool 16 (by kernel_rfl) (decide_eq_true hp2409)
      refine stepo ha 17 (by kernel_rfl) ?_; clear ha a; intro a ha
      refine stepo ha 18 (by kernel_rfl) ?_; clear ha a; intro a ha
      refine stepo ha 19 (by kernel_rfl) ?_; clear ha a; intro a ha
      refine stepo ha 20 (by kernel_rfl) ?_; clear ha a; intro a ha
      refine stepo ha 21 (by kernel_rfl) ?_; clear ha a; intro a ha
      refine stepp ha 22 (.bool true) (by kernel_rfl) (by kernel_rfl) ?_; clear ha a; intro a ha
      refine endl ?_
      refine thenN (hK2407 _ _ ?_); clear hK2407
      refine condT ha (by kernel_rfl) (by kernel_rfl) (t := true) (rfl) ?_
      refine wp_seq_k (fun K2416 hK2417 => ?_)
      refine wp_region_lit ?_
      refine stepp ha 6 (.int .u64 0) (by kernel_rfl) (by kernel_rfl) ?_; clear ha a; intro a ha
      refine stepp ha 7 (.bool false) (by kernel_rfl) (by kernel_rfl) ?_; clear ha a; intro a ha
      refine endl ?_
      refine thenN (hK2417 _ _ ?_); clear hK2417
      refine wp_ret ?_
      refine thenR ?_
      obtain rfl := Option.some.inj h
      exact finv ha _ _ rfl (.tmp (v := .int .u64 0) (by kernel_rfl) (.tmp (v := .bool false) (by kernel_rfl) .nil)) (.tuple #[.int .u64 0, .bool false]) rfl ⟨rfl, HW.pick [] [] (by decide) (by decide) rfl (by kernel_rfl)⟩
    · skip
      replace h := ite_neg' h hp2409
      replace ha := ha.bool 16 (by kernel_rfl) (decide_eq_false hp2409)
      refine stepp ha 17 (.string a0) (by kernel_rfl) (by kernel_rfl) ?_; clear ha a; intro a ha
      refine stepp ha 18 (.int .i64 a1) (by kernel_rfl) (by kernel_rfl) ?_; clear ha a; intro a ha
      refine stepp ha 19 (.int .i64 a2) (by kernel_rfl) (by kernel_rfl) ?_; clear ha a; intro a ha
      obtain ⟨t2410, ht2411, h_⟩ := bind_some' h; clear h; have h := h_; clear h_
      refine stepc ha 20 (by kernel_rfl) (by kernel_rfl) (headgateref01_there.calls a0 a1 a2 t2410 _ ht2411) ?_; clear ha a; rintro e W2412 ⟨rfl, HX2413⟩
      refine ⟨_, rfl, ?_⟩; intro a ha; replace HW := HW.callw HX2413; clear HX2413
      refine stepp ha 21 (.bool (!t2410)) (by kernel_rfl) (by kernel_rfl) ?_; clear ha a; intro a ha
      refine stepp ha 22 (.bool (!t2410)) (by kernel_rfl) (by kernel_rfl) ?_; clear ha a; intro a ha
      refine endl ?_
      refine thenN (hK2407 _ _ ?_); clear hK2407
      by_cases hp2418 : t2410 = true
      · skip
        replace h := ite_pos' h hp2418
        refine condF ha (by kernel_rfl) (by kernel_rfl) (t := (!t2410)) (not_f (hp2418)) ?_
        refine wp_skip ?_
        refine thenN (hK2405 _ _ ?_); clear hK2405
        refine wp_seq_k (fun K2421 hK2422 => ?_)
        refine wp_region_lit ?_
        refine stepp ha 8 (.int .u64 0) (by kernel_rfl) (by kernel_rfl) ?_; clear ha a; intro a ha
        refine endl ?_
        refine thenN (hK2422 _ _ ?_); clear hK2422
        refine wp_seq_k (fun K2423 hK2424 => ?_)
        refine wp_seq_k (fun K2425 hK2426 => ?_)
        refine wp_region_lit ?_
        refine stepp ha 23 (.int .i64 a2) (by kernel_rfl) (by kernel_rfl) ?_; clear ha a; intro a ha
        refine stepp ha 24 (.int .i64 (IntKind.wrap .i64 (a2 - 1))) (by kernel_rfl) (by kernel_rfl) ?_; clear ha a; intro a ha
        refine stepp ha 9 (.int .i64 (IntKind.wrap .i64 (a2 - 1))) (by kernel_rfl) (by kernel_rfl) ?_; clear ha a; intro a ha
        refine endl ?_
        refine thenN (hK2426 _ _ ?_); clear hK2426
        refine wp_block ?_
        refine loopk (fun k => fun a W2452 => ∃ (x2450 : Int), ∃ (x2451 : Int), headgateref01_Little.l0 K a0 a1 k x2450 x2451 = some r ∧ Has 39 [(0, .string a0), (1, .int .i64 a1), (8, .int .u64 x2450), (9, .int .i64 x2451)] a ∧ Wd w W2452 [] []) K ?_ ?_
        · skip
          exact ⟨0, IntKind.wrap .i64 (a2 - 1), h, ha.sub (subs_cons (by kernel_rfl) (subs_cons (by kernel_rfl) (subs_cons (by kernel_rfl) (subs_cons (by kernel_rfl) (subs_nil _))))), HW.pick [] [] (by decide) (by decide) (by kernel_rfl) (by kernel_rfl)⟩
        · skip
          intro k a W2452 hI
          obtain ⟨x2450, x2451, h, ha, HW⟩ := hI
          cases k with
          | zero => exact (none_some (show none = some r from h)).elim
          | succ k2453 =>
            replace h : headgateref01_Little.b0 K a0 a1 (headgateref01_Little.l0 K a0 a1 k2453) x2450 x2451 = some r := h
            obtain ⟨again2449, hag2454⟩ : ∃ g_, g_ = headgateref01_Little.l0 K a0 a1 k2453 := ⟨_, rfl⟩
            rw [← hag2454] at h
            unfold headgateref01_Little.b0 at h
            refine wp_seq_k (fun K2455 hK2456 => ?_)
            refine wp_seq_k (fun K2457 hK2458 => ?_)
            refine wp_region_lit ?_
            refine stepp ha 25 (.int .i64 x2451) (by kernel_rfl) (by kernel_rfl) ?_; clear ha a; intro a ha
            refine stepp ha 26 (.bool (decide (x2451 ≥ 0))) (by kernel_rfl) (by kernel_rfl) ?_; clear ha a; intro a ha
            refine endl ?_
            refine thenN (hK2458 _ _ ?_); clear hK2458
            by_cases hp2459 : x2451 ≥ 0
            · skip
              replace h := ite_pos' h hp2459
              refine condT ha (by kernel_rfl) (by kernel_rfl) (t := decide (x2451 ≥ 0)) (decide_eq_true hp2459) ?_
              refine wp_skip ?_
              refine thenN (hK2456 _ _ ?_); clear hK2456
              refine wp_seq_k (fun K2460 hK2461 => ?_)
              refine wp_block ?_
              refine wp_region_lit ?_
              refine stepp ha 29 (.int .u64 x2450) (by kernel_rfl) (by kernel_rfl) ?_; clear ha a; intro a ha
              refine stepp ha 30 (.int .u64 (IntKind.wrap .u64 (x2450 * 256))) (by kernel_rfl) (by kernel_rfl) ?_; clear ha a; intro a ha
              refine stepp ha 31 (.string a0) (by kernel_rfl) (by kernel_rfl) ?_; clear ha a; intro a ha
              refine stepp ha 32 (.int .i64 a1) (by kernel_rfl) (by kernel_rfl) ?_; clear ha a; intro a ha
              refine stepp ha 33 (.int .i64 x2451) (by kernel_rfl) (by kernel_rfl) ?_; clear ha a; intro a ha
              refine stepp ha 34 (.int .i64 (IntKind.wrap .i64 (a1 + x2451))) (by kernel_rfl) (by kernel_rfl) ?_; clear ha a; intro a ha
              obtain ⟨hA2462, h_⟩ := asrt_some h; clear h; have h := h_; clear h_
              obtain ⟨hA2463, h_⟩ := asrt_some h; clear h; have h := h_; clear h_
              refine stepsi ha 35 9 (.tmp 31) (.tmp 34) a0 .i64 (IntKind.wrap .i64 (a1 + x2451)) rfl (by kernel_rfl) (by kernel_rfl) (by kernel_rfl) hA2462 (show (IntKind.wrap .i64 (a1 + x2451) : Int) < ((a0).size : Int) from hA2463) (by kernel_rfl) ?_; clear ha a; intro a ha
              refine stepp ha 36 (.int .u64 (IntKind.wrap .u64 (bt a0 (IntKind.wrap .i64 (a1 + x2451))))) (by kernel_rfl) (by kernel_rfl) ?_; clear ha a; intro a ha
              refine stepp ha 37 (.int .u64 (IntKind.wrap .u64 ((IntKind.wrap .u64 (x2450 * 256)) + (IntKind.wrap .u64 (bt a0 (IntKind.wrap .i64 (a1 + x2451))))))) (by kernel_rfl) (by kernel_rfl) ?_; clear ha a; intro a ha
              refine stepp ha 8 (.int .u64 (IntKind.wrap .u64 ((IntKind.wrap .u64 (x2450 * 256)) + (IntKind.wrap .u64 (bt a0 (IntKind.wrap .i64 (a1 + x2451))))))) (by kernel_rfl) (by kernel_rfl) ?_; clear ha a; intro a ha
              refine endl ?_
              refine blkN ?_
              refine thenN (hK2461 _ _ ?_); clear hK2461
              refine wp_region_lit ?_
              refine stepp ha 27 (.int .i64 x2451) (by kernel_rfl) (by kernel_rfl) ?_; clear ha a; intro a ha
              refine stepp ha 28 (.int .i64 (IntKind.wrap .i64 (x2451 - 1))) (by kernel_rfl) (by kernel_rfl) ?_; clear ha a; intro a ha
              refine stepp ha 9 (.int .i64 (IntKind.wrap .i64 (x2451 - 1))) (by kernel_rfl) (by kernel_rfl) ?_; clear ha a; intro a ha
              refine endl ?_
              exact thenN ⟨k2453, Nat.lt_succ_self k2453, IntKind.wrap .u64 ((IntKind.wrap .u64 (x2450 * 256)) + (IntKind.wrap .u64 (bt a0 (IntKind.wrap .i64 (a1 + x2451))))), IntKind.wrap .i64 (x2451 - 1), (by rw [← hag2454]; exact h), ha.sub (subs_cons (by kernel_rfl) (subs_cons (by kernel_rfl) (subs_cons (by kernel_rfl) (subs_cons (by kernel_rfl) (subs_nil _))))), HW.pick [] [] (by decide) (by decide) (by kernel_rfl) (by kernel_rfl)⟩
            · skip
              replace h := ite_neg' h hp2459
              refine condF ha (by kernel_rfl) (by kernel_rfl) (t := decide (x2451 ≥ 0)) (decide_eq_false hp2459) ?_
              refine wp_exit ?_
              refine thenE ?_
              refine thenE ?_
              refine inBlk ?_
              refine thenN (hK2424 _ _ ?_); clear hK2424
              refine wp_seq_k (fun K2464 hK2465 => ?_)
              refine wp_region_lit ?_
              refine stepp ha 38 (.int .u64 x2450) (by kernel_rfl) (by kernel_rfl) ?_; clear ha a; intro a ha
              refine stepp ha 6 (.int .u64 x2450) (by kernel_rfl) (by kernel_rfl) ?_; clear ha a; intro a ha
              refine stepp ha 7 (.bool true) (by kernel_rfl) (by kernel_rfl) ?_; clear ha a; intro a ha
              refine endl ?_
              refine thenN (hK2465 _ _ ?_); clear hK2465
              refine wp_ret ?_
              obtain rfl := Option.some.inj h
              exact finv ha _ _ rfl (.tmp (v := .int .u64 x2450) (by kernel_rfl) (.tmp (v := .bool true) (by kernel_rfl) .nil)) (.tuple #[.int .u64 x2450, .bool true]) rfl ⟨rfl, HW.pick [] [] (by decide) (by decide) rfl (by kernel_rfl)⟩
      · skip
        replace h := ite_neg' h hp2418
        refine condT ha (by kernel_rfl) (by kernel_rfl) (t := (!t2410)) (not_t (bool_f hp2418)) ?_
        refine wp_seq_k (fun K2419 hK2420 => ?_)
        refine wp_region_lit ?_
        refine stepp ha 6 (.int .u64 0) (by kernel_rfl) (by kernel_rfl) ?_; clear ha a; intro a ha
        refine stepp ha 7 (.bool false) (by kernel_rfl) (by kernel_rfl) ?_; clear ha a; intro a ha
        refine endl ?_
        refine thenN (hK2420 _ _ ?_); clear hK2420
        refine wp_ret ?_
        refine thenR ?_
        obtain rfl := Option.some.inj h
        exact finv ha _ _ rfl (.tmp (v := .int .u64 0) (by kernel_rfl) (.tmp (v := .bool false) (by kernel_rfl) .nil)) (.tuple #[.int .u64 0, .bool false]) rfl ⟨rfl, HW.pick [] [] (by decide) (by decide) rfl (by kernel_rfl)⟩
end Go.Proofs.YtceagilmillgfaaDoor.F
