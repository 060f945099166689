/- headgate/headgateref03.letter, headgate/headgateref03.digit, headgate/headgateref03.Name, headgate/headgateref11.alone, headgate/headgateref11.Good: plain functions, and that the calls come to what they say. No condition. -/
import Derived.Test.YthjjbkgifelooaaDoorFT
import Derived.Test.YthjjbkgifelooaaDoorF12
import Derived.Test.YthjjbkgifelooaaDoorF50
namespace Go.Proofs.YthjjbkgifelooaaDoor.F
open Go Go.RowKit Go.Proofs.YthjjbkgifelooaaDoor.X
set_option linter.unusedVariables false
set_option linter.unusedSimpArgs false
/-! ### headgate/headgateref03.letter: function 79 -/
def headgateref03_letter.f (a0 : Int) : Option Bool :=
  if a0 ≥ 97 then (some (decide (a0 ≤ 122))) else (some false)
set_option maxRecDepth 100000 in
set_option maxHeartbeats 4000000 in
theorem headgateref03_letter.calls (a0 : Int)  (r : Bool) (w : World)  (h : headgateref03_letter.f a0 = some r) :
    Calls Tryd.prog 79 #[.int .u8 a0] w (fun e W' => e = .returned (.bool r) ∧ Wd w W' [] [] ) := by
  refine sxstart (n := 9) (l := [(0, .int .u8 a0)]) Tryd.func79 rfl rfl (Nat.le_of_ble_eq_true KR) (subsA_cons rfl (subsA_nil _)) ?_
  intro a ha
  have HW := Wd.refl w
  unfold headgateref03_letter.f at h
  refine wp_seq_k (fun K2340 hK2341 => ?_)
  refine wp_region_lit ?_
  refine stepp ha 2 (.bool false) KR KR ?_; clear ha a; intro a ha
  refine endl ?_
  refine thenN (hK2341 _ _ ?_); clear hK2341
  refine wp_seq_k (fun K2342 hK2343 => ?_)
  refine wp_region_lit ?_
  refine stepp ha 3 (.int .u8 a0) KR KR ?_; clear ha a; intro a ha
  refine stepp ha 4 (.bool (decide (a0 ≥ 97))) KR KR ?_; clear ha a; intro a ha
  refine stepp ha 5 (.bool (decide (a0 ≥ 97))) KR KR ?_; clear ha a; intro a ha
  by_cases hp2344 : a0 ≥ 97
  · skip
    replace h := ite_pos' h hp2344
    replace ha := ha.bool 5 KR (decide_eq_true hp2344)
    refine stepp ha 6 (.int .u8 a0) KR KR ?_; clear ha a; intro a ha
    refine stepp ha 7 (.bool (decide (a0 ≤ 122))) KR KR ?_; clear ha a; intro a ha
    refine stepp ha 8 (.bool (decide (a0 ≤ 122))) KR KR ?_; clear ha a; intro a ha
    refine stepp ha 2 (.bool (decide (a0 ≤ 122))) KR KR ?_; clear ha a; intro a ha
    refine endl ?_
    refine thenN (hK2343 _ _ ?_); clear hK2343
    refine wp_ret ?_
    obtain rfl := Option.some.inj h
    exact finv ha _ _ rfl (.tmp (v := .bool (decide (a0 ≤ 122))) KR .nil) (.bool (decide (a0 ≤ 122))) rfl ⟨rfl, HW.pick [] [] (by decide) (by decide) rfl KR⟩
  · skip
    replace h := ite_neg' h hp2344
    replace ha := ha.bool 5 KR (decide_eq_false hp2344)
    refine stepo ha 6 KR ?_; clear ha a; intro a ha
    refine stepo ha 7 KR ?_; clear ha a; intro a ha
    refine stepp ha 8 (.bool false) KR KR ?_; clear ha a; intro a ha
    refine stepp ha 2 (.bool false) KR KR ?_; clear ha a; intro a ha
    refine endl ?_
    refine thenN (hK2343 _ _ ?_); clear hK2343
    refine wp_ret ?_
    obtain rfl := Option.some.inj h
    exact finv ha _ _ rfl (.tmp (v := .bool false) KR .nil) (.bool false) rfl ⟨rfl, HW.pick [] [] (by decide) (by decide) rfl KR⟩
/-! ### headgate/headgateref03.digit: function 80 -/
def headgateref03_digit.f (a0 : Int) : Option Bool :=
  if a0 ≥ 48 then (some (decide (a0 ≤ 57))) else (some false)
set_option maxRecDepth 100000 in
set_option maxHeartbeats 4000000 in
theorem headgateref03_digit.calls (a0 : Int)  (r : Bool) (w : World)  (h : headgateref03_digit.f a0 = some r) :
    Calls Tryd.prog 80 #[.int .u8 a0] w (fun e W' => e = .returned (.bool r) ∧ Wd w W' [] [] ) := by
  refine sxstart (n := 9) (l := [(0, .int .u8 a0)]) Tryd.func80 rfl rfl (Nat.le_of_ble_eq_true KR) (subsA_cons rfl (subsA_nil _)) ?_
  intro a ha
  have HW := Wd.refl w
  unfold headgateref03_digit.f at h
  refine wp_seq_k (fun K2345 hK2346 => ?_)
  refine wp_region_lit ?_
  refine stepp ha 2 (.bool false) KR KR ?_; clear ha a; intro a ha
  refine endl ?_
  refine thenN (hK2346 _ _ ?_); clear hK2346
  refine wp_seq_k (fun K2347 hK2348 => ?_)
  refine wp_region_lit ?_
  refine stepp ha 3 (.int .u8 a0) KR KR ?_; clear ha a; intro a ha
  refine stepp ha 4 (.bool (decide (a0 ≥ 48))) KR KR ?_; clear ha a; intro a ha
  refine stepp ha 5 (.bool (decide (a0 ≥ 48))) KR KR ?_; clear ha a; intro a ha
  by_cases hp2349 : a0 ≥ 48
  · skip
    replace h := ite_pos' h hp2349
    replace ha := ha.bool 5 KR (decide_eq_true hp2349)
    refine stepp ha 6 (.int .u8 a0) KR KR ?_; clear ha a; intro a ha
    refine stepp ha 7 (.bool (decide (a0 ≤ 57))) KR KR ?_; clear ha a; intro a ha
    refine stepp ha 8 (.bool (decide (a0 ≤ 57))) KR KR ?_; clear ha a; intro a ha
    refine stepp ha 2 (.bool (decide (a0 ≤ 57))) KR KR ?_; clear ha a; intro a ha
    refine endl ?_
    refine thenN (hK2348 _ _ ?_); clear hK2348
    refine wp_ret ?_
    obtain rfl := Option.some.inj h
    exact finv ha _ _ rfl (.tmp (v := .bool (decide (a0 ≤ 57))) KR .nil) (.bool (decide (a0 ≤ 57))) rfl ⟨rfl, HW.pick [] [] (by decide) (by decide) rfl KR⟩
  · skip
    replace h := ite_neg' h hp2349
    replace ha := ha.bool 5 KR (decide_eq_false hp2349)
    refine stepo ha 6 KR ?_; clear ha a; intro a ha
    refine stepo ha 7 KR ?_; clear ha a; intro a ha
    refine stepp ha 8 (.bool false) KR KR ?_; clear ha a; intro a ha
    refine stepp ha 2 (.bool false) KR KR ?_; clear ha a; intro a ha
    refine endl ?_
    refine thenN (hK2348 _ _ ?_); clear hK2348
    refine wp_ret ?_
    obtain rfl := Option.some.inj h
    exact finv ha _ _ rfl (.tmp (v := .bool false) KR .nil) (.bool false) rfl ⟨rfl, HW.pick [] [] (by decide) (by decide) rfl KR⟩
/-! ### headgate/headgateref03.Name: function 53 -/
def headgateref03_Name.b0 (K : Nat) (a0 : ByteArray) (again2426 : Int → Option Bool) (x2427 : Int) : Option Bool :=
  if x2427 < (a0.size : Int) then (asrt (0 ≤ x2427) ((headgateref03_letter.f (bt a0 x2427)).bind fun t2441 => (if t2441 = true then (again2426 (IntKind.wrap .i64 (x2427 + 1))) else ((headgateref03_digit.f (bt a0 x2427)).bind fun t2446 => (if t2446 = true then (again2426 (IntKind.wrap .i64 (x2427 + 1))) else (if (bt a0 x2427) = 46 then (again2426 (IntKind.wrap .i64 (x2427 + 1))) else (if (bt a0 x2427) = 45 then (again2426 (IntKind.wrap .i64 (x2427 + 1))) else (if (bt a0 x2427) = 58 then (again2426 (IntKind.wrap .i64 (x2427 + 1))) else (some false))))))))) else (some true)
def headgateref03_Name.l0 (K : Nat) (a0 : ByteArray) : Nat → Int → Option Bool
  | 0, _ => none
  | k_ + 1, x2427 => headgateref03_Name.b0 K a0 (headgateref03_Name.l0 K a0 k_) x2427
def headgateref03_Name.f (K : Nat) (a0 : ByteArray) : Option Bool :=
  if (a0.size : Int) < 1 then (some false) else (if (a0.size : Int) > 64 then (some false) else (asrt (0 < (a0.size : Int)) ((headgateref03_letter.f (bt a0 0)).bind fun t2359 => (if t2359 = true then (headgateref03_Name.l0 K a0 K 0) else (some false)))))
set_option maxRecDepth 100000 in
set_option maxHeartbeats 4000000 in
theorem headgateref03_Name.calls (K : Nat) (a0 : ByteArray)  (r : Bool) (w : World)  (h : headgateref03_Name.f K a0 = some r) :
    Calls Tryd.prog 53 #[.string a0] w (fun e W' => e = .returned (.bool r) ∧ Wd w W' [] [] ) := by
  refine sxstart (n := 54) (l := [(0, .string a0)]) Tryd.func53 rfl rfl (Nat.le_of_ble_eq_true KR) (subsA_cons rfl (subsA_nil _)) ?_
  intro a ha
  have HW := Wd.refl w
  unfold headgateref03_Name.f at h
  refine wp_seq_k (fun K2350 hK2351 => ?_)
  refine wp_region_lit ?_
  refine stepp ha 2 (.bool false) KR KR ?_; clear ha a; intro a ha
  refine endl ?_
  refine thenN (hK2351 _ _ ?_); clear hK2351
  refine wp_seq_k (fun K2352 hK2353 => ?_)
  refine wp_seq_k (fun K2354 hK2355 => ?_)
  refine wp_region_lit ?_
  refine stepp ha 4 (.string a0) KR KR ?_; clear ha a; intro a ha
  refine stepp ha 5 (.int .i64 (a0.size : Int)) KR KR ?_; clear ha a; intro a ha
  refine stepp ha 6 (.bool (decide ((a0.size : Int) < 1))) KR KR ?_; clear ha a; intro a ha
  refine stepp ha 7 (.bool (decide ((a0.size : Int) < 1))) KR KR ?_; clear ha a; intro a ha
  by_cases hp2356 : (a0.size : Int) < 1
  · skip
    replace h := ite_pos' h hp2356
    replace ha := ha.bool 7 KR (decide_eq_true hp2356)
    refine stepo ha 8 KR ?_; clear ha a; intro a ha
    refine stepo ha 9 KR ?_; clear ha a; intro a ha
    refine stepo ha 10 KR ?_; clear ha a; intro a ha
    refine stepp ha 11 (.bool true) KR KR ?_; clear ha a; intro a ha
    refine stepp ha 12 (.bool true) KR KR ?_; clear ha a; intro a ha
    refine stepo ha 13 KR ?_; clear ha a; intro a ha
    refine stepo ha 14 KR ?_; clear ha a; intro a ha
    refine stepo ha 15 KR ?_; clear ha a; intro a ha
    refine stepo ha 16 KR ?_; clear ha a; intro a ha
    refine stepp ha 17 (.bool true) KR KR ?_; clear ha a; intro a ha
    refine endl ?_
    refine thenN (hK2355 _ _ ?_); clear hK2355
    refine condT ha KR KR (t := true) (rfl) ?_
    refine wp_seq_k (fun K2363 hK2364 => ?_)
    refine wp_region_lit ?_
    refine stepp ha 2 (.bool false) KR KR ?_; clear ha a; intro a ha
    refine endl ?_
    refine thenN (hK2364 _ _ ?_); clear hK2364
    refine wp_ret ?_
    refine thenR ?_
    obtain rfl := Option.some.inj h
    exact finv ha _ _ rfl (.tmp (v := .bool false) KR .nil) (.bool false) rfl ⟨rfl, HW.pick [] [] (by decide) (by decide) rfl KR⟩
  · skip
    replace h := ite_neg' h hp2356
    replace ha := ha.bool 7 KR (decide_eq_false hp2356)
    refine stepp ha 8 (.string a0) KR KR ?_; clear ha a; intro a ha
    refine stepp ha 9 (.int .i64 (a0.size : Int)) KR KR ?_; clear ha a; intro a ha
    refine stepp ha 10 (.bool (decide ((a0.size : Int) > 64))) KR KR ?_; clear ha a; intro a ha
    refine stepp ha 11 (.bool (decide ((a0.size : Int) > 64))) KR KR ?_; clear ha a; intro a ha
    refine stepp ha 12 (.bool (decide ((a0.size : Int) > 64))) KR KR ?_; clear ha a; intro a ha
    by_cases hp2357 : (a0.size : Int) > 64
    · skip
      replace h := ite_pos' h hp2357
      replace ha := ha.bool 12 KR (decide_eq_true hp2357)
      refine stepo ha 13 KR ?_; clear ha a; intro a ha
      refine stepo ha 14 KR ?_; clear ha a; intro a ha
      refine stepo ha 15 KR ?_; clear ha a; intro a ha
      refine stepo ha 16 KR ?_; clear ha a; intro a ha
      refine stepp ha 17 (.bool true) KR KR ?_; clear ha a; intro a ha
      refine endl ?_
      refine thenN (hK2355 _ _ ?_); clear hK2355
      refine condT ha KR KR (t := true) (rfl) ?_
      refine wp_seq_k (fun K2365 hK2366 => ?_)
      refine wp_region_lit ?_
      refine stepp ha 2 (.bool false) KR KR ?_; clear ha a; intro a ha
      refine endl ?_
      refine thenN (hK2366 _ _ ?_); clear hK2366
      refine wp_ret ?_
      refine thenR ?_
      obtain rfl := Option.some.inj h
      exact finv ha _ _ rfl (.tmp (v := .bool false) KR .nil) (.bool false) rfl ⟨rfl, HW.pick [] [] (by decide) (by decide) rfl KR⟩
    · skip
      replace h := ite_neg' h hp2357
      replace ha := ha.bool 12 KR (decide_eq_false hp2357)
      refine stepp ha 13 (.string a0) KR KR ?_; clear ha a; intro a ha
      obtain ⟨hA2358, h_⟩ := asrt_some h; clear h; have h := h_; clear h_
      refine stepsi ha 14 9 (.tmp 13) (.const (.int .i64 0)) a0 .i64 0 rfl KR KR KR (by decide) (show (0 : Int) < ((a0).size : Int) from hA2358) KR ?_; clear ha a; intro a ha
      obtain ⟨t2359, ht2360, h_⟩ := bind_some' h; clear h; have h := h_; clear h_
      refine stepc ha 15 KR KR (headgateref03_letter.calls (bt a0 0) t2359 _ ht2360) ?_; clear ha a; rintro e W2361 ⟨rfl, HX2362⟩
      refine ⟨_, rfl, ?_⟩; intro a ha; replace HW := HW.callw HX2362; clear HX2362
      refine stepp ha 16 (.bool (!t2359)) KR KR ?_; clear ha a; intro a ha
      refine stepp ha 17 (.bool (!t2359)) KR KR ?_; clear ha a; intro a ha
      refine endl ?_
      refine thenN (hK2355 _ _ ?_); clear hK2355
      by_cases hp2367 : t2359 = true
      · skip
        replace h := ite_pos' h hp2367
        refine condF ha KR KR (t := (!t2359)) (not_f (hp2367)) ?_
        refine wp_skip ?_
        refine thenN (hK2353 _ _ ?_); clear hK2353
        refine wp_seq_k (fun K2370 hK2371 => ?_)
        refine wp_seq_k (fun K2372 hK2373 => ?_)
        refine wp_region_lit ?_
        refine stepp ha 3 (.int .i64 0) KR KR ?_; clear ha a; intro a ha
        refine endl ?_
        refine thenN (hK2373 _ _ ?_); clear hK2373
        refine wp_block ?_
        refine loopk (fun k => fun a W2428 => ∃ (x2427 : Int), headgateref03_Name.l0 K a0 k x2427 = some r ∧ Has 54 [(0, .string a0), (3, .int .i64 x2427)] a ∧ Wd w W2428 [] []) K ?_ ?_
        · skip
          exact ⟨0, h, ha.sub (subs_cons KR (subs_cons KR (subs_nil _))), HW.pick [] [] (by decide) (by decide) KR KR⟩
        · skip
          intro k a W2428 hI
          obtain ⟨x2427, h, ha, HW⟩ := hI
          cases k with
          | zero => exact (none_some (show none = some r from h)).elim
          | succ k2429 =>
            replace h : headgateref03_Name.b0 K a0 (headgateref03_Name.l0 K a0 k2429) x2427 = some r := h
            obtain ⟨again2426, hag2430⟩ : ∃ g_, g_ = headgateref03_Name.l0 K a0 k2429 := ⟨_, rfl⟩
            rw [← hag2430] at h
            unfold headgateref03_Name.b0 at h
            refine wp_seq_k (fun K2431 hK2432 => ?_)
            refine wp_seq_k (fun K2433 hK2434 => ?_)
            refine wp_region_lit ?_
            refine stepp ha 18 (.int .i64 x2427) KR KR ?_; clear ha a; intro a ha
            refine stepp ha 19 (.string a0) KR KR ?_; clear ha a; intro a ha
            refine stepp ha 20 (.int .i64 (a0.size : Int)) KR KR ?_; clear ha a; intro a ha
            refine stepp ha 21 (.bool (decide (x2427 < (a0.size : Int)))) KR KR ?_; clear ha a; intro a ha
            refine endl ?_
            refine thenN (hK2434 _ _ ?_); clear hK2434
            by_cases hp2435 : x2427 < (a0.size : Int)
            · skip
              replace h := ite_pos' h hp2435
              refine condT ha KR KR (t := decide (x2427 < (a0.size : Int))) (decide_eq_true hp2435) ?_
              refine wp_skip ?_
              refine thenN (hK2432 _ _ ?_); clear hK2432
              refine wp_seq_k (fun K2436 hK2437 => ?_)
              refine wp_block ?_
              refine wp_seq_k (fun K2438 hK2439 => ?_)
              refine wp_region_lit ?_
              refine stepp ha 24 (.string a0) KR KR ?_; clear ha a; intro a ha
              refine stepp ha 25 (.int .i64 x2427) KR KR ?_; clear ha a; intro a ha
              obtain ⟨hA2440, h_⟩ := asrt_some h; clear h; have h := h_; clear h_
              refine stepsi ha 26 9 (.tmp 24) (.tmp 25) a0 .i64 x2427 rfl KR KR KR hA2440 (show (x2427 : Int) < ((a0).size : Int) from hp2435) KR ?_; clear ha a; intro a ha
              obtain ⟨t2441, ht2442, h_⟩ := bind_some' h; clear h; have h := h_; clear h_
              refine stepc ha 27 KR KR (headgateref03_letter.calls (bt a0 x2427) t2441 _ ht2442) ?_; clear ha a; rintro e W2443 ⟨rfl, HX2444⟩
              refine ⟨_, rfl, ?_⟩; intro a ha; replace HW := HW.callw HX2444; clear HX2444
              refine stepp ha 28 (.bool (!t2441)) KR KR ?_; clear ha a; intro a ha
              refine stepp ha 29 (.bool (!t2441)) KR KR ?_; clear ha a; intro a ha
              by_cases hp2445 : t2441 = true
              · skip
                replace h := ite_pos' h hp2445
                replace ha := ha.bool 29 KR (not_f (hp2445))
                refine stepo ha 30 KR ?_; clear ha a; intro a ha
                refine stepo ha 31 KR ?_; clear ha a; intro a ha
                refine stepo ha 32 KR ?_; clear ha a; intro a ha
                refine stepo ha 33 KR ?_; clear ha a; intro a ha
                refine stepo ha 34 KR ?_; clear ha a; intro a ha
                refine stepp ha 35 (.bool false) KR KR ?_; clear ha a; intro a ha
                refine stepp ha 36 (.bool false) KR KR ?_; clear ha a; intro a ha
                refine stepo ha 37 KR ?_; clear ha a; intro a ha
                refine stepo ha 38 KR ?_; clear ha a; intro a ha
                refine stepo ha 39 KR ?_; clear ha a; intro a ha
                refine stepo ha 40 KR ?_; clear ha a; intro a ha
                refine stepp ha 41 (.bool false) KR KR ?_; clear ha a; intro a ha
                refine stepp ha 42 (.bool false) KR KR ?_; clear ha a; intro a ha
                refine stepo ha 43 KR ?_; clear ha a; intro a ha
                refine stepo ha 44 KR ?_; clear ha a; intro a ha
                refine stepo ha 45 KR ?_; clear ha a; intro a ha
                refine stepo ha 46 KR ?_; clear ha a; intro a ha
                refine stepp ha 47 (.bool false) KR KR ?_; clear ha a; intro a ha
                refine stepp ha 48 (.bool false) KR KR ?_; clear ha a; intro a ha
                refine stepo ha 49 KR ?_; clear ha a; intro a ha
                refine stepo ha 50 KR ?_; clear ha a; intro a ha
                refine stepo ha 51 KR ?_; clear ha a; intro a ha
                refine stepo ha 52 KR ?_; clear ha a; intro a ha
                refine stepp ha 53 (.bool false) KR KR ?_; clear ha a; intro a ha
                refine endl ?_
                refine thenN (hK2439 _ _ ?_); clear hK2439
                refine condF ha KR KR (t := false) (rfl) ?_
                refine wp_skip ?_
                refine blkN ?_
                refine thenN (hK2437 _ _ ?_); clear hK2437
                refine wp_region_lit ?_
                refine stepp ha 22 (.int .i64 x2427) KR KR ?_; clear ha a; intro a ha
                refine stepp ha 23 (.int .i64 (IntKind.wrap .i64 (x2427 + 1))) KR KR ?_; clear ha a; intro a ha
                refine stepp ha 3 (.int .i64 (IntKind.wrap .i64 (x2427 + 1))) KR KR ?_; clear ha a; intro a ha
                refine endl ?_
                exact thenN ⟨k2429, Nat.lt_succ_self k2429, IntKind.wrap .i64 (x2427 + 1), (by rw [← hag2430]; exact h), ha.sub (subs_cons KR (subs_cons KR (subs_nil _))), HW.pick [] [] (by decide) (by decide) KR KR⟩
              · skip
                replace h := ite_neg' h hp2445
                replace ha := ha.bool 29 KR (not_t (bool_f hp2445))
                refine stepp ha 30 (.string a0) KR KR ?_; clear ha a; intro a ha
                refine stepp ha 31 (.int .i64 x2427) KR KR ?_; clear ha a; intro a ha
                refine stepsi ha 32 9 (.tmp 30) (.tmp 31) a0 .i64 x2427 rfl KR KR KR hA2440 (show (x2427 : Int) < ((a0).size : Int) from hp2435) KR ?_; clear ha a; intro a ha
                obtain ⟨t2446, ht2447, h_⟩ := bind_some' h; clear h; have h := h_; clear h_
                refine stepc ha 33 KR KR (headgateref03_digit.calls (bt a0 x2427) t2446 _ ht2447) ?_; clear ha a; rintro e W2448 ⟨rfl, HX2449⟩
                refine ⟨_, rfl, ?_⟩; intro a ha; replace HW := HW.callw HX2449; clear HX2449
                refine stepp ha 34 (.bool (!t2446)) KR KR ?_; clear ha a; intro a ha
                refine stepp ha 35 (.bool (!t2446)) KR KR ?_; clear ha a; intro a ha
                refine stepp ha 36 (.bool (!t2446)) KR KR ?_; clear ha a; intro a ha
                by_cases hp2450 : t2446 = true
                · skip
                  replace h := ite_pos' h hp2450
                  replace ha := ha.bool 36 KR (not_f (hp2450))
                  refine stepo ha 37 KR ?_; clear ha a; intro a ha
                  refine stepo ha 38 KR ?_; clear ha a; intro a ha
                  refine stepo ha 39 KR ?_; clear ha a; intro a ha
                  refine stepo ha 40 KR ?_; clear ha a; intro a ha
                  refine stepp ha 41 (.bool false) KR KR ?_; clear ha a; intro a ha
                  refine stepp ha 42 (.bool false) KR KR ?_; clear ha a; intro a ha
                  refine stepo ha 43 KR ?_; clear ha a; intro a ha
                  refine stepo ha 44 KR ?_; clear ha a; intro a ha
                  refine stepo ha 45 KR ?_; clear ha a; intro a ha
                  refine stepo ha 46 KR ?_; clear ha a; intro a ha
                  refine stepp ha 47 (.bool false) KR KR ?_; clear ha a; intro a ha
                  refine stepp ha 48 (.bool false) KR KR ?_; clear ha a; intro a ha
                  refine stepo ha 49 KR ?_; clear ha a; intro a ha
                  refine stepo ha 50 KR ?_; clear ha a; intro a ha
                  refine stepo ha 51 KR ?_; clear ha a; intro a ha
                  refine stepo ha 52 KR ?_; clear ha a; intro a ha
                  refine stepp ha 53 (.bool false) KR KR ?_; clear ha a; intro a ha
                  refine endl ?_
                  refine thenN (hK2439 _ _ ?_); clear hK2439
                  refine condF ha KR KR (t := false) (rfl) ?_
                  refine wp_skip ?_
                  refine blkN ?_
                  refine thenN (hK2437 _ _ ?_); clear hK2437
                  refine wp_region_lit ?_
                  refine stepp ha 22 (.int .i64 x2427) KR KR ?_; clear ha a; intro a ha
                  refine stepp ha 23 (.int .i64 (IntKind.wrap .i64 (x2427 + 1))) KR KR ?_; clear ha a; intro a ha
                  refine stepp ha 3 (.int .i64 (IntKind.wrap .i64 (x2427 + 1))) KR KR ?_; clear ha a; intro a ha
                  refine endl ?_
                  exact thenN ⟨k2429, Nat.lt_succ_self k2429, IntKind.wrap .i64 (x2427 + 1), (by rw [← hag2430]; exact h), ha.sub (subs_cons KR (subs_cons KR (subs_nil _))), HW.pick [] [] (by decide) (by decide) KR KR⟩
                · skip
                  replace h := ite_neg' h hp2450
                  replace ha := ha.bool 36 KR (not_t (bool_f hp2450))
                  refine stepp ha 37 (.string a0) KR KR ?_; clear ha a; intro a ha
                  refine stepp ha 38 (.int .i64 x2427) KR KR ?_; clear ha a; intro a ha
                  refine stepsi ha 39 9 (.tmp 37) (.tmp 38) a0 .i64 x2427 rfl KR KR KR hA2440 (show (x2427 : Int) < ((a0).size : Int) from hp2435) KR ?_; clear ha a; intro a ha
                  refine stepp ha 40 (.bool ((bt a0 x2427) != 46)) KR KR ?_; clear ha a; intro a ha
                  refine stepp ha 41 (.bool ((bt a0 x2427) != 46)) KR KR ?_; clear ha a; intro a ha
                  refine stepp ha 42 (.bool ((bt a0 x2427) != 46)) KR KR ?_; clear ha a; intro a ha
                  by_cases hp2451 : (bt a0 x2427) = 46
                  · skip
                    replace h := ite_pos' h hp2451
                    replace ha := ha.bool 42 KR (ineq_f hp2451)
                    refine stepo ha 43 KR ?_; clear ha a; intro a ha
                    refine stepo ha 44 KR ?_; clear ha a; intro a ha
                    refine stepo ha 45 KR ?_; clear ha a; intro a ha
                    refine stepo ha 46 KR ?_; clear ha a; intro a ha
                    refine stepp ha 47 (.bool false) KR KR ?_; clear ha a; intro a ha
                    refine stepp ha 48 (.bool false) KR KR ?_; clear ha a; intro a ha
                    refine stepo ha 49 KR ?_; clear ha a; intro a ha
                    refine stepo ha 50 KR ?_; clear ha a; intro a ha
                    refine stepo ha 51 KR ?_; clear ha a; intro a ha
                    refine stepo ha 52 KR ?_; clear ha a; intro a ha
                    refine stepp ha 53 (.bool false) KR KR ?_; clear ha a; intro a ha
                    refine endl ?_
                    refine thenN (hK2439 _ _ ?_); clear hK2439
                    refine condF ha KR KR (t := false) (rfl) ?_
                    refine wp_skip ?_
                    refine blkN ?_
                    refine thenN (hK2437 _ _ ?_); clear hK2437
                    refine wp_region_lit ?_
                    refine stepp ha 22 (.int .i64 x2427) KR KR ?_; clear ha a; intro a ha
                    refine stepp ha 23 (.int .i64 (IntKind.wrap .i64 (x2427 + 1))) KR KR ?_; clear ha a; intro a ha
                    refine stepp ha 3 (.int .i64 (IntKind.wrap .i64 (x2427 + 1))) KR KR ?_; clear ha a; intro a ha
                    refine endl ?_
                    exact thenN ⟨k2429, Nat.lt_succ_self k2429, IntKind.wrap .i64 (x2427 + 1), (by rw [← hag2430]; exact h), ha.sub (subs_cons KR (subs_cons KR (subs_nil _))), HW.pick [] [] (by decide) (by decide) KR KR⟩
                  · skip
                    replace h := ite_neg' h hp2451
                    replace ha := ha.bool 42 KR (ineq_t hp2451)
                    refine stepp ha 43 (.string a0) KR KR ?_; clear ha a; intro a ha
                    refine stepp ha 44 (.int .i64 x2427) KR KR ?_; clear ha a; intro a ha
                    refine stepsi ha 45 9 (.tmp 43) (.tmp 44) a0 .i64 x2427 rfl KR KR KR hA2440 (show (x2427 : Int) < ((a0).size : Int) from hp2435) KR ?_; clear ha a; intro a ha
                    refine stepp ha 46 (.bool ((bt a0 x2427) != 45)) KR KR ?_; clear ha a; intro a ha
                    refine stepp ha 47 (.bool ((bt a0 x2427) != 45)) KR KR ?_; clear ha a; intro a ha
                    refine stepp ha 48 (.bool ((bt a0 x2427) != 45)) KR KR ?_; clear ha a; intro a ha
                    by_cases hp2452 : (bt a0 x2427) = 45
                    · skip
                      replace h := ite_pos' h hp2452
                      replace ha := ha.bool 48 KR (ineq_f hp2452)
                      refine stepo ha 49 KR ?_; clear ha a; intro a ha
                      refine stepo ha 50 KR ?_; clear ha a; intro a ha
                      refine stepo ha 51 KR ?_; clear ha a; intro a ha
                      refine stepo ha 52 KR ?_; clear ha a; intro a ha
                      refine stepp ha 53 (.bool false) KR KR ?_; clear ha a; intro a ha
                      refine endl ?_
                      refine thenN (hK2439 _ _ ?_); clear hK2439
                      refine condF ha KR KR (t := false) (rfl) ?_
                      refine wp_skip ?_
                      refine blkN ?_
                      refine thenN (hK2437 _ _ ?_); clear hK2437
                      refine wp_region_lit ?_
                      refine stepp ha 22 (.int .i64 x2427) KR KR ?_; clear ha a; intro a ha
                      refine stepp ha 23 (.int .i64 (IntKind.wrap .i64 (x2427 + 1))) KR KR ?_; clear ha a; intro a ha
                      refine stepp ha 3 (.int .i64 (IntKind.wrap .i64 (x2427 + 1))) KR KR ?_; clear ha a; intro a ha
                      refine endl ?_
                      exact thenN ⟨k2429, Nat.lt_succ_self k2429, IntKind.wrap .i64 (x2427 + 1), (by rw [← hag2430]; exact h), ha.sub (subs_cons KR (subs_cons KR (subs_nil _))), HW.pick [] [] (by decide) (by decide) KR KR⟩
                    · skip
                      replace h := ite_neg' h hp2452
                      replace ha := ha.bool 48 KR (ineq_t hp2452)
                      refine stepp ha 49 (.string a0) KR KR ?_; clear ha a; intro a ha
                      refine stepp ha 50 (.int .i64 x2427) KR KR ?_; clear ha a; intro a ha
                      refine stepsi ha 51 9 (.tmp 49) (.tmp 50) a0 .i64 x2427 rfl KR KR KR hA2440 (show (x2427 : Int) < ((a0).size : Int) from hp2435) KR ?_; clear ha a; intro a ha
                      refine stepp ha 52 (.bool ((bt a0 x2427) != 58)) KR KR ?_; clear ha a; intro a ha
                      refine stepp ha 53 (.bool ((bt a0 x2427) != 58)) KR KR ?_; clear ha a; intro a ha
                      refine endl ?_
                      refine thenN (hK2439 _ _ ?_); clear hK2439
                      by_cases hp2453 : (bt a0 x2427) = 58
                      · skip
                        replace h := ite_pos' h hp2453
                        refine condF ha KR KR (t := ((bt a0 x2427) != 58)) (ineq_f hp2453) ?_
                        refine wp_skip ?_
                        refine blkN ?_
                        refine thenN (hK2437 _ _ ?_); clear hK2437
                        refine wp_region_lit ?_
                        refine stepp ha 22 (.int .i64 x2427) KR KR ?_; clear ha a; intro a ha
                        refine stepp ha 23 (.int .i64 (IntKind.wrap .i64 (x2427 + 1))) KR KR ?_; clear ha a; intro a ha
                        refine stepp ha 3 (.int .i64 (IntKind.wrap .i64 (x2427 + 1))) KR KR ?_; clear ha a; intro a ha
                        refine endl ?_
                        exact thenN ⟨k2429, Nat.lt_succ_self k2429, IntKind.wrap .i64 (x2427 + 1), (by rw [← hag2430]; exact h), ha.sub (subs_cons KR (subs_cons KR (subs_nil _))), HW.pick [] [] (by decide) (by decide) KR KR⟩
                      · skip
                        replace h := ite_neg' h hp2453
                        refine condT ha KR KR (t := ((bt a0 x2427) != 58)) (ineq_t hp2453) ?_
                        refine wp_seq_k (fun K2454 hK2455 => ?_)
                        refine wp_region_lit ?_
                        refine stepp ha 2 (.bool false) KR KR ?_; clear ha a; intro a ha
                        refine endl ?_
                        refine thenN (hK2455 _ _ ?_); clear hK2455
                        refine wp_ret ?_
                        refine blkR ?_
                        refine thenR ?_
                        refine thenR ?_
                        refine blkR ?_
                        refine thenR ?_
                        obtain rfl := Option.some.inj h
                        exact finv ha _ _ rfl (.tmp (v := .bool false) KR .nil) (.bool false) rfl ⟨rfl, HW.pick [] [] (by decide) (by decide) rfl KR⟩
            · skip
              replace h := ite_neg' h hp2435
              refine condF ha KR KR (t := decide (x2427 < (a0.size : Int))) (decide_eq_false hp2435) ?_
              refine wp_exit ?_
              refine thenE ?_
              refine thenE ?_
              refine inBlk ?_
              refine thenN (hK2371 _ _ ?_); clear hK2371
              refine wp_seq_k (fun K2456 hK2457 => ?_)
              refine wp_region_lit ?_
              refine stepp ha 2 (.bool true) KR KR ?_; clear ha a; intro a ha
              refine endl ?_
              refine thenN (hK2457 _ _ ?_); clear hK2457
              refine wp_ret ?_
              obtain rfl := Option.some.inj h
              exact finv ha _ _ rfl (.tmp (v := .bool true) KR .nil) (.bool true) rfl ⟨rfl, HW.pick [] [] (by decide) (by decide) rfl KR⟩
      · skip
        replace h := ite_neg' h hp2367
        refine condT ha KR KR (t := (!t2359)) (not_t (bool_f hp2367)) ?_
        refine wp_seq_k (fun K2368 hK2369 => ?_)
        refine wp_region_lit ?_
        refine stepp ha 2 (.bool false) KR KR ?_; clear ha a; intro a ha
        refine endl ?_
        refine thenN (hK2369 _ _ ?_); clear hK2369
        refine wp_ret ?_
        refine thenR ?_
        obtain rfl := Option.some.inj h
        exact finv ha _ _ rfl (.tmp (v := .bool false) KR .nil) (.bool false) rfl ⟨rfl, HW.pick [] [] (by decide) (by decide) rfl KR⟩
/-! ### headgate/headgateref11.alone: function 54 -/
def headgateref11_alone.f (a0 : Int) : Option Bool :=
  if a0 ≥ 1 then (some (decide (a0 ≤ 4))) else (some false)
set_option maxRecDepth 100000 in
set_option maxHeartbeats 4000000 in
theorem headgateref11_alone.calls (a0 : Int)  (r : Bool) (w : World)  (h : headgateref11_alone.f a0 = some r) :
    Calls Tryd.prog 54 #[.int .i64 a0] w (fun e W' => e = .returned (.bool r) ∧ Wd w W' [] [] ) := by
  refine sxstart (n := 9) (l := [(0, .int .i64 a0)]) Tryd.func54 rfl rfl (Nat.le_of_ble_eq_true KR) (subsA_cons rfl (subsA_nil _)) ?_
  intro a ha
  have HW := Wd.refl w
  unfold headgateref11_alone.f at h
  refine wp_seq_k (fun K2458 hK2459 => ?_)
  refine wp_region_lit ?_
  refine stepp ha 2 (.bool false) KR KR ?_; clear ha a; intro a ha
  refine endl ?_
  refine thenN (hK2459 _ _ ?_); clear hK2459
  refine wp_seq_k (fun K2460 hK2461 => ?_)
  refine wp_region_lit ?_
  refine stepp ha 3 (.int .i64 a0) KR KR ?_; clear ha a; intro a ha
  refine stepp ha 4 (.bool (decide (a0 ≥ 1))) KR KR ?_; clear ha a; intro a ha
  refine stepp ha 5 (.bool (decide (a0 ≥ 1))) KR KR ?_; clear ha a; intro a ha
  by_cases hp2462 : a0 ≥ 1
  · skip
    replace h := ite_pos' h hp2462
    replace ha := ha.bool 5 KR (decide_eq_true hp2462)
    refine stepp ha 6 (.int .i64 a0) KR KR ?_; clear ha a; intro a ha
    refine stepp ha 7 (.bool (decide (a0 ≤ 4))) KR KR ?_; clear ha a; intro a ha
    refine stepp ha 8 (.bool (decide (a0 ≤ 4))) KR KR ?_; clear ha a; intro a ha
    refine stepp ha 2 (.bool (decide (a0 ≤ 4))) KR KR ?_; clear ha a; intro a ha
    refine endl ?_
    refine thenN (hK2461 _ _ ?_); clear hK2461
    refine wp_ret ?_
    obtain rfl := Option.some.inj h
    exact finv ha _ _ rfl (.tmp (v := .bool (decide (a0 ≤ 4))) KR .nil) (.bool (decide (a0 ≤ 4))) rfl ⟨rfl, HW.pick [] [] (by decide) (by decide) rfl KR⟩
  · skip
    replace h := ite_neg' h hp2462
    replace ha := ha.bool 5 KR (decide_eq_false hp2462)
    refine stepo ha 6 KR ?_; clear ha a; intro a ha
    refine stepo ha 7 KR ?_; clear ha a; intro a ha
    refine stepp ha 8 (.bool false) KR KR ?_; clear ha a; intro a ha
    refine stepp ha 2 (.bool false) KR KR ?_; clear ha a; intro a ha
    refine endl ?_
    refine thenN (hK2461 _ _ ?_); clear hK2461
    refine wp_ret ?_
    obtain rfl := Option.some.inj h
    exact finv ha _ _ rfl (.tmp (v := .bool false) KR .nil) (.bool false) rfl ⟨rfl, HW.pick [] [] (by decide) (by decide) rfl KR⟩
/-! ### headgate/headgateref11.Good: function 21 -/
def headgateref11_Good.b1 (K : Nat) (a0 : T_api_Table) (again2621 : Int → Option Bool) (x2622 : Int) (again2698 : Int → Option Bool) (x2699 : Int) : Option Bool :=
  if x2699 < x2622 then (asrt (0 ≤ x2699) (asrt (x2699 < (a0.f0.length : Int)) (if ((rdL T_api_Reg.z a0.f0 x2699).f0) = ((rdL T_api_Reg.z a0.f0 x2622).f0) then (some false) else (again2698 (IntKind.wrap .i64 (x2699 + 1)))))) else (again2621 (IntKind.wrap .i64 (x2622 + 1)))
def headgateref11_Good.l1 (K : Nat) (a0 : T_api_Table) (again2621 : Int → Option Bool) (x2622 : Int) : Nat → Int → Option Bool
  | 0, _ => none
  | k_ + 1, x2699 => headgateref11_Good.b1 K a0 again2621 x2622 (headgateref11_Good.l1 K a0 again2621 x2622 k_) x2699
def headgateref11_Good.b0 (K : Nat) (a0 : T_api_Table) (again2621 : Int → Option Bool) (x2622 : Int) : Option Bool :=
  if x2622 < (a0.f0.length : Int) then (asrt (0 ≤ x2622) ((headgateref03_Name.f K ((rdL T_api_Reg.z a0.f0 x2622).f0)).bind fun t2641 => (if t2641 = true then (if ((rdL T_api_Reg.z a0.f0 x2622).f1) = 0 then (some false) else (headgateref11_Good.l1 K a0 again2621 x2622 K 0)) else (some false)))) else (if a0.f1.f0 = 0 then (some (a0.f1.f1.toList == (⟨#[]⟩ : ByteArray).toList)) else ((headgateref11_alone.f a0.f1.f0).bind fun t2732 => (if t2732 = true then ((headgateref10_Registered.f K (⟨a0.f0, (⟨a0.f1.f0, a0.f1.f1⟩ : T_api_Hold), a0.f2, a0.f3⟩ : T_api_Table) a0.f1.f1).bind fun t2739 => (some t2739)) else ((headgateref10_Type.f a0.f1.f0).bind fun t2745 => (if t2745 = true then (if a0.f1.f1 = (⟨#[]⟩ : ByteArray) then (some (decide ((a0.f0.length : Int) > 0))) else (some false)) else (some false))))))
def headgateref11_Good.l0 (K : Nat) (a0 : T_api_Table) : Nat → Int → Option Bool
  | 0, _ => none
  | k_ + 1, x2622 => headgateref11_Good.b0 K a0 (headgateref11_Good.l0 K a0 k_) x2622
def headgateref11_Good.f (K : Nat) (a0 : T_api_Table) : Option Bool :=
  if (a0.f0.length : Int) > 16 then (some false) else (headgateref11_Good.l0 K a0 K 0)
set_option maxRecDepth 100000 in
set_option maxHeartbeats 4000000 in
theorem headgateref11_Good.calls (K : Nat) (a0 : T_api_Table) (A0_0 : Option Addr) (c0_0 : Nat) (r : Bool) (w : World) (hr0_0 : Rd 2 w (.slice A0_0 a0.f0.length c0_0) a0.f0.length (encs T_api_Reg.enc a0.f0)) (h : headgateref11_Good.f K a0 = some r) :
    Calls Tryd.prog 21 #[.agg #[.slice A0_0 a0.f0.length c0_0, .int .i64 a0.f1.f0, .string a0.f1.f1, .int .u32 a0.f2, .bool a0.f3]] w (fun e W' => e = .returned (.bool r) ∧ Wd w W' [] [] ) := by
  refine sxstart (n := 85) (l := [(0, .agg #[.slice A0_0 a0.f0.length c0_0, .int .i64 a0.f1.f0, .string a0.f1.f1, .int .u32 a0.f2, .bool a0.f3])]) Tryd.func21 rfl rfl (Nat.le_of_ble_eq_true KR) (subsA_cons rfl (subsA_nil _)) ?_
  intro a ha
  have HW := Wd.refl w
  unfold headgateref11_Good.f at h
  refine wp_seq_k (fun K2463 hK2464 => ?_)
  refine wp_region_lit ?_
  refine stepnew ha HW 1 #[.slice A0_0 a0.f0.length c0_0, .int .i64 a0.f1.f0, .string a0.f1.f1, .int .u32 a0.f2, .bool a0.f3] 27 KR KR ?_; clear ha HW a; intro b2465 a W2466 HW ha
  refine stepp ha 2 (.bool false) KR KR ?_; clear ha a; intro a ha
  refine endl ?_
  refine thenN (hK2464 _ _ ?_); clear hK2464
  refine wp_seq_k (fun K2467 hK2468 => ?_)
  refine wp_seq_k (fun K2469 hK2470 => ?_)
  refine wp_region_lit ?_
  refine stepp ha 5 (.pointer (some ⟨b2465, 0, none⟩)) KR KR ?_; clear ha a; intro a ha
  refine stepl ha 6 (HW.ca (i := 0) (b := b2465) (C := #[.slice A0_0 a0.f0.length c0_0, .int .i64 a0.f1.f0, .string a0.f1.f1, .int .u32 a0.f2, .bool a0.f3]) (T := 27) (fr := (0, 0)) KR) 22 0 (.tmp 5) (.slice A0_0 a0.f0.length c0_0) rfl KR KR KR ?_; clear ha a; intro a ha
  refine stepp ha 7 (.int .i64 (a0.f0.length : Int)) KR KR ?_; clear ha a; intro a ha
  refine stepp ha 8 (.bool (decide ((a0.f0.length : Int) > 16))) KR KR ?_; clear ha a; intro a ha
  refine endl ?_
  refine thenN (hK2470 _ _ ?_); clear hK2470
  by_cases hp2471 : (a0.f0.length : Int) > 16
  · skip
    replace h := ite_pos' h hp2471
    refine condT ha KR KR (t := decide ((a0.f0.length : Int) > 16)) (decide_eq_true hp2471) ?_
    refine wp_seq_k (fun K2472 hK2473 => ?_)
    refine wp_region_lit ?_
    refine stepp ha 2 (.bool false) KR KR ?_; clear ha a; intro a ha
    refine endl ?_
    refine thenN (hK2473 _ _ ?_); clear hK2473
    refine wp_ret ?_
    refine thenR ?_
    obtain rfl := Option.some.inj h
    exact finv ha _ _ rfl (.tmp (v := .bool false) KR .nil) (.bool false) rfl ⟨rfl, HW.pick [] [] (by decide) (by decide) rfl KR⟩
  · skip
    replace h := ite_neg' h hp2471
    refine condF ha KR KR (t := decide ((a0.f0.length : Int) > 16)) (decide_eq_false hp2471) ?_
    refine wp_skip ?_
    refine thenN (hK2468 _ _ ?_); clear hK2468
    refine wp_seq_k (fun K2474 hK2475 => ?_)
    refine wp_seq_k (fun K2476 hK2477 => ?_)
    refine wp_region_lit ?_
    refine stepp ha 3 (.int .i64 0) KR KR ?_; clear ha a; intro a ha
    refine endl ?_
    refine thenN (hK2477 _ _ ?_); clear hK2477
    refine wp_block ?_
    refine loopk (fun k => fun a W2623 => ∃ (x2622 : Int), headgateref11_Good.l0 K a0 k x2622 = some r ∧ Has 85 [(1, .pointer (some ⟨b2465, 0, none⟩)), (3, .int .i64 x2622)] a ∧ Wd w W2623 [(b2465, .cells #[.slice A0_0 a0.f0.length c0_0, .int .i64 a0.f1.f0, .string a0.f1.f1, .int .u32 a0.f2, .bool a0.f3] 27 (0, 0))] []) K ?_ ?_
    · skip
      exact ⟨0, h, ha.sub (subs_cons KR (subs_cons KR (subs_nil _))), HW.pick [0] [] (by decide) (by decide) KR KR⟩
    · skip
      intro k a W2623 hI
      obtain ⟨x2622, h, ha, HW⟩ := hI
      cases k with
      | zero => exact (none_some (show none = some r from h)).elim
      | succ k2624 =>
        replace h : headgateref11_Good.b0 K a0 (headgateref11_Good.l0 K a0 k2624) x2622 = some r := h
        obtain ⟨again2621, hag2625⟩ : ∃ g_, g_ = headgateref11_Good.l0 K a0 k2624 := ⟨_, rfl⟩
        rw [← hag2625] at h
        unfold headgateref11_Good.b0 at h
        refine wp_seq_k (fun K2626 hK2627 => ?_)
        refine wp_seq_k (fun K2628 hK2629 => ?_)
        refine wp_region_lit ?_
        refine stepp ha 9 (.int .i64 x2622) KR KR ?_; clear ha a; intro a ha
        refine stepp ha 10 (.pointer (some ⟨b2465, 0, none⟩)) KR KR ?_; clear ha a; intro a ha
        refine stepl ha 11 (HW.ca (i := 0) (b := b2465) (C := #[.slice A0_0 a0.f0.length c0_0, .int .i64 a0.f1.f0, .string a0.f1.f1, .int .u32 a0.f2, .bool a0.f3]) (T := 27) (fr := (0, 0)) KR) 22 0 (.tmp 10) (.slice A0_0 a0.f0.length c0_0) rfl KR KR KR ?_; clear ha a; intro a ha
        refine stepp ha 12 (.int .i64 (a0.f0.length : Int)) KR KR ?_; clear ha a; intro a ha
        refine stepp ha 13 (.bool (decide (x2622 < (a0.f0.length : Int)))) KR KR ?_; clear ha a; intro a ha
        refine endl ?_
        refine thenN (hK2629 _ _ ?_); clear hK2629
        by_cases hp2630 : x2622 < (a0.f0.length : Int)
        · skip
          replace h := ite_pos' h hp2630
          refine condT ha KR KR (t := decide (x2622 < (a0.f0.length : Int))) (decide_eq_true hp2630) ?_
          refine wp_skip ?_
          refine thenN (hK2627 _ _ ?_); clear hK2627
          refine wp_seq_k (fun K2631 hK2632 => ?_)
          refine wp_block ?_
          refine wp_seq_k (fun K2633 hK2634 => ?_)
          refine wp_seq_k (fun K2635 hK2636 => ?_)
          refine wp_region_lit ?_
          refine stepp ha 16 (.pointer (some ⟨b2465, 0, none⟩)) KR KR ?_; clear ha a; intro a ha
          refine stepl ha 17 (HW.ca (i := 0) (b := b2465) (C := #[.slice A0_0 a0.f0.length c0_0, .int .i64 a0.f1.f0, .string a0.f1.f1, .int .u32 a0.f2, .bool a0.f3]) (T := 27) (fr := (0, 0)) KR) 22 0 (.tmp 16) (.slice A0_0 a0.f0.length c0_0) rfl KR KR KR ?_; clear ha a; intro a ha
          refine stepp ha 18 (.int .i64 x2622) KR KR ?_; clear ha a; intro a ha
          obtain ⟨hA2637, h_⟩ := asrt_some h; clear h; have h := h_; clear h_
          refine stepie T_api_Reg.enc T_api_Reg.z ha 19 (fun _ => rfl) (v := .slice A0_0 a0.f0.length c0_0) (xs := a0.f0) ((HW.rd0 hr0_0)) 22 44 (.tmp 17) (.tmp 18) .i64 x2622 rfl KR KR KR KR hA2637 (show (x2622 : Int) < ((a0.f0).length : Int) from hp2630) KR ?_; clear ha a; intro b2638 off2639 a hC2640 ha
          refine stepp ha 20 (.pointer (some ⟨b2638, off2639, none⟩)) KR KR ?_; clear ha a; intro a ha
          refine stepl ha 21 hC2640 9 0 (.tmp 20) (.string ((rdL T_api_Reg.z a0.f0 x2622).f0)) rfl KR KR KR ?_; clear ha a; intro a ha
          obtain ⟨t2641, ht2642, h_⟩ := bind_some' h; clear h; have h := h_; clear h_
          refine stepc ha 22 KR KR (headgateref03_Name.calls K ((rdL T_api_Reg.z a0.f0 x2622).f0) t2641 _ ht2642) ?_; clear ha a; rintro e W2643 ⟨rfl, HX2644⟩
          refine ⟨_, rfl, ?_⟩; intro a ha; replace HW := HW.callw HX2644; clear HX2644
          refine stepp ha 23 (.bool (!t2641)) KR KR ?_; clear ha a; intro a ha
          refine stepp ha 24 (.bool (!t2641)) KR KR ?_; clear ha a; intro a ha
          by_cases hp2645 : t2641 = true
          · skip
            replace h := ite_pos' h hp2645
            replace ha := ha.bool 24 KR (not_f (hp2645))
            refine stepp ha 25 (.pointer (some ⟨b2465, 0, none⟩)) KR KR ?_; clear ha a; intro a ha
            refine stepl ha 26 (HW.ca (i := 0) (b := b2465) (C := #[.slice A0_0 a0.f0.length c0_0, .int .i64 a0.f1.f0, .string a0.f1.f1, .int .u32 a0.f2, .bool a0.f3]) (T := 27) (fr := (0, 0)) KR) 22 0 (.tmp 25) (.slice A0_0 a0.f0.length c0_0) rfl KR KR KR ?_; clear ha a; intro a ha
            refine stepp ha 27 (.int .i64 x2622) KR KR ?_; clear ha a; intro a ha
            refine stepie T_api_Reg.enc T_api_Reg.z ha 28 (fun _ => rfl) (v := .slice A0_0 a0.f0.length c0_0) (xs := a0.f0) ((HW.rd0 hr0_0)) 22 44 (.tmp 26) (.tmp 27) .i64 x2622 rfl KR KR KR KR hA2637 (show (x2622 : Int) < ((a0.f0).length : Int) from hp2630) KR ?_; clear ha a; intro b2646 off2647 a hC2648 ha
            refine stepp ha 29 (.pointer (some ⟨b2646, off2647 + 1, none⟩)) KR KR ?_; clear ha a; intro a ha
            refine stepl ha 30 hC2648 42 1 (.tmp 29) (.int .u64 ((rdL T_api_Reg.z a0.f0 x2622).f1)) rfl KR KR KR ?_; clear ha a; intro a ha
            refine stepp ha 31 (.bool (((rdL T_api_Reg.z a0.f0 x2622).f1) == 0)) KR KR ?_; clear ha a; intro a ha
            refine stepp ha 32 (.bool (((rdL T_api_Reg.z a0.f0 x2622).f1) == 0)) KR KR ?_; clear ha a; intro a ha
            refine endl ?_
            refine thenN (hK2636 _ _ ?_); clear hK2636
            by_cases hp2649 : ((rdL T_api_Reg.z a0.f0 x2622).f1) = 0
            · skip
              replace h := ite_pos' h hp2649
              refine condT ha KR KR (t := (((rdL T_api_Reg.z a0.f0 x2622).f1) == 0)) (ieq_t hp2649) ?_
              refine wp_seq_k (fun K2650 hK2651 => ?_)
              refine wp_region_lit ?_
              refine stepp ha 2 (.bool false) KR KR ?_; clear ha a; intro a ha
              refine endl ?_
              refine thenN (hK2651 _ _ ?_); clear hK2651
              refine wp_ret ?_
              refine thenR ?_
              refine blkR ?_
              refine thenR ?_
              refine thenR ?_
              refine blkR ?_
              refine thenR ?_
              obtain rfl := Option.some.inj h
              exact finv ha _ _ rfl (.tmp (v := .bool false) KR .nil) (.bool false) rfl ⟨rfl, HW.pick [] [] (by decide) (by decide) rfl KR⟩
            · skip
              replace h := ite_neg' h hp2649
              refine condF ha KR KR (t := (((rdL T_api_Reg.z a0.f0 x2622).f1) == 0)) (ieq_f hp2649) ?_
              refine wp_skip ?_
              refine thenN (hK2634 _ _ ?_); clear hK2634
              refine wp_seq_k (fun K2654 hK2655 => ?_)
              refine wp_region_lit ?_
              refine stepp ha 4 (.int .i64 0) KR KR ?_; clear ha a; intro a ha
              refine endl ?_
              refine thenN (hK2655 _ _ ?_); clear hK2655
              refine wp_block ?_
              refine loopk (fun k => fun a W2700 => ∃ (x2699 : Int), headgateref11_Good.l1 K a0 again2621 x2622 k x2699 = some r ∧ Has 85 [(1, .pointer (some ⟨b2465, 0, none⟩)), (3, .int .i64 x2622), (4, .int .i64 x2699), (25, .pointer (some ⟨b2465, 0, none⟩)), (26, .slice A0_0 a0.f0.length c0_0), (27, .int .i64 x2622), (30, .int .u64 ((rdL T_api_Reg.z a0.f0 x2622).f1)), (31, .bool (((rdL T_api_Reg.z a0.f0 x2622).f1) == 0))] a ∧ Wd w W2700 [(b2465, .cells #[.slice A0_0 a0.f0.length c0_0, .int .i64 a0.f1.f0, .string a0.f1.f1, .int .u32 a0.f2, .bool a0.f3] 27 (0, 0))] []) K ?_ ?_
              · skip
                exact ⟨0, h, ha.sub (subs_cons KR (subs_cons KR (subs_cons KR (subs_cons KR (subs_cons KR (subs_cons KR (subs_cons KR (subs_cons KR (subs_nil _))))))))), HW.pick [0] [] (by decide) (by decide) KR KR⟩
              · skip
                intro k a W2700 hI
                obtain ⟨x2699, h, ha, HW⟩ := hI
                cases k with
                | zero => exact (none_some (show none = some r from h)).elim
                | succ k2701 =>
                  replace h : headgateref11_Good.b1 K a0 again2621 x2622 (headgateref11_Good.l1 K a0 again2621 x2622 k2701) x2699 = some r := h
                  obtain ⟨again2698, hag2702⟩ : ∃ g_, g_ = headgateref11_Good.l1 K a0 again2621 x2622 k2701 := ⟨_, rfl⟩
                  rw [← hag2702] at h
                  unfold headgateref11_Good.b1 at h
                  refine wp_seq_k (fun K2703 hK2704 => ?_)
                  refine wp_seq_k (fun K2705 hK2706 => ?_)
                  refine wp_region_lit ?_
                  refine stepp ha 33 (.int .i64 x2699) KR KR ?_; clear ha a; intro a ha
                  refine stepp ha 34 (.int .i64 x2622) KR KR ?_; clear ha a; intro a ha
                  refine stepp ha 35 (.bool (decide (x2699 < x2622))) KR KR ?_; clear ha a; intro a ha
                  refine endl ?_
                  refine thenN (hK2706 _ _ ?_); clear hK2706
                  by_cases hp2707 : x2699 < x2622
                  · skip
                    replace h := ite_pos' h hp2707
                    refine condT ha KR KR (t := decide (x2699 < x2622)) (decide_eq_true hp2707) ?_
                    refine wp_skip ?_
                    refine thenN (hK2704 _ _ ?_); clear hK2704
                    refine wp_seq_k (fun K2708 hK2709 => ?_)
                    refine wp_block ?_
                    refine wp_seq_k (fun K2710 hK2711 => ?_)
                    obtain ⟨hA2712, h_⟩ := asrt_some h; clear h; have h := h_; clear h_
                    obtain ⟨hA2713, h_⟩ := asrt_some h; clear h; have h := h_; clear h_
                    obtain ⟨b2715, off2716, hA2717⟩ := Rd.addr ((HW.rd0 hr0_0)) hA2712 (show (x2699 : Int) < ((a0.f0).length : Int) from hA2713)
                    refine regionG 13 KR KR ha HW [.fix (.pointer (some ⟨b2465, 0, none⟩)), .fix (.slice A0_0 a0.f0.length c0_0), .fix (.int .i64 x2699), .fix (.pointer (some ⟨b2715, off2716 + (x2699 : Int).toNat * 2, none⟩)), .fix (.pointer (some ⟨b2715, off2716 + (x2699 : Int).toNat * 2, none⟩)), .fix (.string ((rdL T_api_Reg.z a0.f0 x2699).f0)), .fix (.pointer (some ⟨b2465, 0, none⟩)), .fix (.slice A0_0 a0.f0.length c0_0), .fix (.int .i64 x2622), .fix (.pointer (some ⟨b2715, off2716 + (x2622 : Int).toNat * 2, none⟩)), .fix (.pointer (some ⟨b2715, off2716 + (x2622 : Int).toNat * 2, none⟩)), .fix (.string ((rdL T_api_Reg.z a0.f0 x2622).f0)), .fix (.bool (((rdL T_api_Reg.z a0.f0 x2699).f0).toList == ((rdL T_api_Reg.z a0.f0 x2622).f0).toList))] ?_ ?_
                    · skip
                      refine ⟨?_, ?_, ?_, ?_, ?_, ?_, ?_, ?_, ?_, ?_, ?_, ?_, ?_, trivial⟩
                      · skip
                        intro a wr hn hd HW hs; have ha := hasNil hn hd
                        have ha := ha.add (seeE hs 1 (.pointer (some ⟨b2465, 0, none⟩)) KR KR)
                        refine yStep ha 38 KR ?_; intro l_ ha HK
                        refine stepp ha 38 (.pointer (some ⟨b2465, 0, none⟩)) KR KR ?_; intro ax hax; exact HK _ _ _ hax rfl (Below.refl _ _)
                      · skip
                        intro a wr hn hd HW hs; have ha := hasNil hn hd
                        have ha := ha.add (seeF hs 38 0 (.pointer (some ⟨b2465, 0, none⟩)) KR KR)
                        refine yStep ha 39 KR ?_; intro l_ ha HK
                        refine stepl ha 39 (HW.ca (i := 0) (b := b2465) (C := #[.slice A0_0 a0.f0.length c0_0, .int .i64 a0.f1.f0, .string a0.f1.f1, .int .u32 a0.f2, .bool a0.f3]) (T := 27) (fr := (0, 0)) KR) 22 0 (.tmp 38) (.slice A0_0 a0.f0.length c0_0) rfl KR KR KR ?_; intro ax hax; exact HK _ _ _ hax rfl (Below.refl _ _)
                      · skip
                        intro a wr hn hd HW hs; have ha := hasNil hn hd
                        have ha := ha.add (seeE hs 4 (.int .i64 x2699) KR KR)
                        refine yStep ha 40 KR ?_; intro l_ ha HK
                        refine stepp ha 40 (.int .i64 x2699) KR KR ?_; intro ax hax; exact HK _ _ _ hax rfl (Below.refl _ _)
                      · skip
                        intro a wr hn hd HW hs; have ha := hasNil hn hd
                        have ha := ha.add (seeF hs 39 1 (.slice A0_0 a0.f0.length c0_0) KR KR)
                        have ha := ha.add (seeF hs 40 2 (.int .i64 x2699) KR KR)
                        replace ha := ha.turn 39 (u := .slice A0_0 a0.f0.length c0_0) (v := .slice (some ⟨b2715, off2716, none⟩) a0.f0.length c0_0) KR (by rw [hA2717])
                        refine yStep ha 41 KR ?_; intro l_ ha HK
                        refine stepif ha 41 (sz := 2) (len := a0.f0.length) (b := b2715) (off := off2716) (c := c0_0) 22 44 (.tmp 39) (.tmp 40) .i64 x2699 rfl KR KR KR KR hA2712 (show (x2699 : Int) < ((a0.f0).length : Int) from hA2713) KR ?_; intro ax hax; exact HK _ _ _ hax rfl (Below.refl _ _)
                      · skip
                        intro a wr hn hd HW hs; have ha := hasNil hn hd
                        have ha := ha.add (seeF hs 41 3 (.pointer (some ⟨b2715, off2716 + (x2699 : Int).toNat * 2, none⟩)) KR KR)
                        refine yStep ha 42 KR ?_; intro l_ ha HK
                        refine stepp ha 42 (.pointer (some ⟨b2715, off2716 + (x2699 : Int).toNat * 2, none⟩)) KR KR ?_; intro ax hax; exact HK _ _ _ hax rfl (Below.refl _ _)
                      · skip
                        intro a wr hn hd HW hs; have ha := hasNil hn hd
                        have ha := ha.add (seeF hs 42 4 (.pointer (some ⟨b2715, off2716 + (x2699 : Int).toNat * 2, none⟩)) KR KR)
                        refine yStep ha 43 KR ?_; intro l_ ha HK
                        refine stepl ha 43 (Rd.ca T_api_Reg.enc T_api_Reg.z (fun _ => rfl) (by have h_ := ((HW.rd0 hr0_0)); rw [hA2717] at h_; exact h_) hA2712 (show (x2699 : Int) < ((a0.f0).length : Int) from hA2713)) 9 0 (.tmp 42) (.string ((rdL T_api_Reg.z a0.f0 x2699).f0)) rfl KR KR KR ?_; intro ax hax; exact HK _ _ _ hax rfl (Below.refl _ _)
                      · skip
                        intro a wr hn hd HW hs; have ha := hasNil hn hd
                        have ha := ha.add (seeE hs 1 (.pointer (some ⟨b2465, 0, none⟩)) KR KR)
                        refine yStep ha 44 KR ?_; intro l_ ha HK
                        refine stepp ha 44 (.pointer (some ⟨b2465, 0, none⟩)) KR KR ?_; intro ax hax; exact HK _ _ _ hax rfl (Below.refl _ _)
                      · skip
                        intro a wr hn hd HW hs; have ha := hasNil hn hd
                        have ha := ha.add (seeF hs 44 6 (.pointer (some ⟨b2465, 0, none⟩)) KR KR)
                        refine yStep ha 45 KR ?_; intro l_ ha HK
                        refine stepl ha 45 (HW.ca (i := 0) (b := b2465) (C := #[.slice A0_0 a0.f0.length c0_0, .int .i64 a0.f1.f0, .string a0.f1.f1, .int .u32 a0.f2, .bool a0.f3]) (T := 27) (fr := (0, 0)) KR) 22 0 (.tmp 44) (.slice A0_0 a0.f0.length c0_0) rfl KR KR KR ?_; intro ax hax; exact HK _ _ _ hax rfl (Below.refl _ _)
                      · skip
                        intro a wr hn hd HW hs; have ha := hasNil hn hd
                        have ha := ha.add (seeE hs 3 (.int .i64 x2622) KR KR)
                        refine yStep ha 46 KR ?_; intro l_ ha HK
                        refine stepp ha 46 (.int .i64 x2622) KR KR ?_; intro ax hax; exact HK _ _ _ hax rfl (Below.refl _ _)
                      · skip
                        intro a wr hn hd HW hs; have ha := hasNil hn hd
                        have ha := ha.add (seeF hs 45 7 (.slice A0_0 a0.f0.length c0_0) KR KR)
                        have ha := ha.add (seeF hs 46 8 (.int .i64 x2622) KR KR)
                        replace ha := ha.turn 45 (u := .slice A0_0 a0.f0.length c0_0) (v := .slice (some ⟨b2715, off2716, none⟩) a0.f0.length c0_0) KR (by rw [hA2717])
                        refine yStep ha 47 KR ?_; intro l_ ha HK
                        refine stepif ha 47 (sz := 2) (len := a0.f0.length) (b := b2715) (off := off2716) (c := c0_0) 22 44 (.tmp 45) (.tmp 46) .i64 x2622 rfl KR KR KR KR hA2637 (show (x2622 : Int) < ((a0.f0).length : Int) from hp2630) KR ?_; intro ax hax; exact HK _ _ _ hax rfl (Below.refl _ _)
                      · skip
                        intro a wr hn hd HW hs; have ha := hasNil hn hd
                        have ha := ha.add (seeF hs 47 9 (.pointer (some ⟨b2715, off2716 + (x2622 : Int).toNat * 2, none⟩)) KR KR)
                        refine yStep ha 48 KR ?_; intro l_ ha HK
                        refine stepp ha 48 (.pointer (some ⟨b2715, off2716 + (x2622 : Int).toNat * 2, none⟩)) KR KR ?_; intro ax hax; exact HK _ _ _ hax rfl (Below.refl _ _)
                      · skip
                        intro a wr hn hd HW hs; have ha := hasNil hn hd
                        have ha := ha.add (seeF hs 48 10 (.pointer (some ⟨b2715, off2716 + (x2622 : Int).toNat * 2, none⟩)) KR KR)
                        refine yStep ha 49 KR ?_; intro l_ ha HK
                        refine stepl ha 49 (Rd.ca T_api_Reg.enc T_api_Reg.z (fun _ => rfl) (by have h_ := ((HW.rd0 hr0_0)); rw [hA2717] at h_; exact h_) hA2637 (show (x2622 : Int) < ((a0.f0).length : Int) from hp2630)) 9 0 (.tmp 48) (.string ((rdL T_api_Reg.z a0.f0 x2622).f0)) rfl KR KR KR ?_; intro ax hax; exact HK _ _ _ hax rfl (Below.refl _ _)
                      · skip
                        intro a wr hn hd HW hs; have ha := hasNil hn hd
                        have ha := ha.add (seeF hs 43 5 (.string ((rdL T_api_Reg.z a0.f0 x2699).f0)) KR KR)
                        have ha := ha.add (seeF hs 49 11 (.string ((rdL T_api_Reg.z a0.f0 x2622).f0)) KR KR)
                        refine yStep ha 50 KR ?_; intro l_ ha HK
                        refine stepp ha 50 (.bool (((rdL T_api_Reg.z a0.f0 x2699).f0).toList == ((rdL T_api_Reg.z a0.f0 x2622).f0).toList)) KR KR ?_; intro ax hax; exact HK _ _ _ hax rfl (Below.refl _ _)
                    · skip
                      intro a W2719 ha HW he hf
                      replace ha := ha.add (he 1 (.pointer (some ⟨b2465, 0, none⟩)) KR KR)
                      replace ha := ha.add (he 3 (.int .i64 x2622) KR KR)
                      replace ha := ha.add (he 4 (.int .i64 x2699) KR KR)
                      replace ha := ha.add (he 25 (.pointer (some ⟨b2465, 0, none⟩)) KR KR)
                      replace ha := ha.add (he 26 (.slice A0_0 a0.f0.length c0_0) KR KR)
                      replace ha := ha.add (he 27 (.int .i64 x2622) KR KR)
                      replace ha := ha.add (he 30 (.int .u64 ((rdL T_api_Reg.z a0.f0 x2622).f1)) KR KR)
                      replace ha := ha.add (he 31 (.bool (((rdL T_api_Reg.z a0.f0 x2622).f1) == 0)) KR KR)
                      replace ha := ha.add (gotF (m := 13) (j := 12) (d := 50) (v := .bool (((rdL T_api_Reg.z a0.f0 x2699).f0).toList == ((rdL T_api_Reg.z a0.f0 x2622).f0).toList)) hf KR KR KR)
                      clear he hf
                      refine endl ?_
                      refine thenN (hK2711 _ _ ?_); clear hK2711
                      by_cases hp2720 : ((rdL T_api_Reg.z a0.f0 x2699).f0) = ((rdL T_api_Reg.z a0.f0 x2622).f0)
                      · skip
                        replace h := ite_pos' h hp2720
                        refine condT ha KR KR (t := (((rdL T_api_Reg.z a0.f0 x2699).f0).toList == ((rdL T_api_Reg.z a0.f0 x2622).f0).toList)) (str_eq_t hp2720) ?_
                        refine wp_seq_k (fun K2721 hK2722 => ?_)
                        refine wp_region_lit ?_
                        refine stepp ha 2 (.bool false) KR KR ?_; clear ha a; intro a ha
                        refine endl ?_
                        refine thenN (hK2722 _ _ ?_); clear hK2722
                        refine wp_ret ?_
                        refine blkR ?_
                        refine thenR ?_
                        refine thenR ?_
                        refine blkR ?_
                        refine blkR ?_
                        refine thenR ?_
                        refine thenR ?_
                        refine blkR ?_
                        refine thenR ?_
                        obtain rfl := Option.some.inj h
                        exact finv ha _ _ rfl (.tmp (v := .bool false) KR .nil) (.bool false) rfl ⟨rfl, HW.pick [] [] (by decide) (by decide) rfl KR⟩
                      · skip
                        replace h := ite_neg' h hp2720
                        refine condF ha KR KR (t := (((rdL T_api_Reg.z a0.f0 x2699).f0).toList == ((rdL T_api_Reg.z a0.f0 x2622).f0).toList)) (str_eq_f hp2720) ?_
                        refine wp_skip ?_
                        refine blkN ?_
                        refine thenN (hK2709 _ _ ?_); clear hK2709
                        refine wp_region_lit ?_
                        refine stepp ha 36 (.int .i64 x2699) KR KR ?_; clear ha a; intro a ha
                        refine stepp ha 37 (.int .i64 (IntKind.wrap .i64 (x2699 + 1))) KR KR ?_; clear ha a; intro a ha
                        refine stepp ha 4 (.int .i64 (IntKind.wrap .i64 (x2699 + 1))) KR KR ?_; clear ha a; intro a ha
                        refine endl ?_
                        exact thenN ⟨k2701, Nat.lt_succ_self k2701, IntKind.wrap .i64 (x2699 + 1), (by rw [← hag2702]; exact h), ha.sub (subs_cons KR (subs_cons KR (subs_cons KR (subs_cons KR (subs_cons KR (subs_cons KR (subs_cons KR (subs_cons KR (subs_nil _))))))))), HW.pick [0] [] (by decide) (by decide) KR KR⟩
                  · skip
                    replace h := ite_neg' h hp2707
                    refine condF ha KR KR (t := decide (x2699 < x2622)) (decide_eq_false hp2707) ?_
                    refine wp_exit ?_
                    refine thenE ?_
                    refine thenE ?_
                    refine inBlk ?_
                    refine blkN ?_
                    refine thenN (hK2632 _ _ ?_); clear hK2632
                    refine wp_region_lit ?_
                    refine stepp ha 14 (.int .i64 x2622) KR KR ?_; clear ha a; intro a ha
                    refine stepp ha 15 (.int .i64 (IntKind.wrap .i64 (x2622 + 1))) KR KR ?_; clear ha a; intro a ha
                    refine stepp ha 3 (.int .i64 (IntKind.wrap .i64 (x2622 + 1))) KR KR ?_; clear ha a; intro a ha
                    refine endl ?_
                    exact thenN ⟨k2624, Nat.lt_succ_self k2624, IntKind.wrap .i64 (x2622 + 1), (by rw [← hag2625]; exact h), ha.sub (subs_cons KR (subs_cons KR (subs_nil _))), HW.pick [0] [] (by decide) (by decide) KR KR⟩
          · skip
            replace h := ite_neg' h hp2645
            replace ha := ha.bool 24 KR (not_t (bool_f hp2645))
            refine stepo ha 25 KR ?_; clear ha a; intro a ha
            refine stepo ha 26 KR ?_; clear ha a; intro a ha
            refine stepo ha 27 KR ?_; clear ha a; intro a ha
            refine stepo ha 28 KR ?_; clear ha a; intro a ha
            refine stepo ha 29 KR ?_; clear ha a; intro a ha
            refine stepo ha 30 KR ?_; clear ha a; intro a ha
            refine stepo ha 31 KR ?_; clear ha a; intro a ha
            refine stepp ha 32 (.bool true) KR KR ?_; clear ha a; intro a ha
            refine endl ?_
            refine thenN (hK2636 _ _ ?_); clear hK2636
            refine condT ha KR KR (t := true) (rfl) ?_
            refine wp_seq_k (fun K2652 hK2653 => ?_)
            refine wp_region_lit ?_
            refine stepp ha 2 (.bool false) KR KR ?_; clear ha a; intro a ha
            refine endl ?_
            refine thenN (hK2653 _ _ ?_); clear hK2653
            refine wp_ret ?_
            refine thenR ?_
            refine blkR ?_
            refine thenR ?_
            refine thenR ?_
            refine blkR ?_
            refine thenR ?_
            obtain rfl := Option.some.inj h
            exact finv ha _ _ rfl (.tmp (v := .bool false) KR .nil) (.bool false) rfl ⟨rfl, HW.pick [] [] (by decide) (by decide) rfl KR⟩
        · skip
          replace h := ite_neg' h hp2630
          refine condF ha KR KR (t := decide (x2622 < (a0.f0.length : Int))) (decide_eq_false hp2630) ?_
          refine wp_exit ?_
          refine thenE ?_
          refine thenE ?_
          refine inBlk ?_
          refine thenN (hK2475 _ _ ?_); clear hK2475
          refine wp_seq_k (fun K2723 hK2724 => ?_)
          refine wp_block ?_
          refine wp_seq_k (fun K2725 hK2726 => ?_)
          refine wp_region_lit ?_
          refine stepp ha 52 (.pointer (some ⟨b2465, 1, none⟩)) KR KR ?_; clear ha a; intro a ha
          refine stepp ha 53 (.pointer (some ⟨b2465, 1, none⟩)) KR KR ?_; clear ha a; intro a ha
          refine stepl ha 54 (HW.ca (i := 0) (b := b2465) (C := #[.slice A0_0 a0.f0.length c0_0, .int .i64 a0.f1.f0, .string a0.f1.f1, .int .u32 a0.f2, .bool a0.f3]) (T := 27) (fr := (0, 0)) KR) 3 1 (.tmp 53) (.int .i64 a0.f1.f0) rfl KR KR KR ?_; clear ha a; intro a ha
          refine stepp ha 55 (.bool (a0.f1.f0 == 0)) KR KR ?_; clear ha a; intro a ha
          refine stepp ha 51 (.bool (a0.f1.f0 == 0)) KR KR ?_; clear ha a; intro a ha
          refine endl ?_
          refine thenN (hK2726 _ _ ?_); clear hK2726
          by_cases hp2727 : a0.f1.f0 = 0
          · skip
            replace h := ite_pos' h hp2727
            refine condT ha KR KR (t := (a0.f1.f0 == 0)) (ieq_t hp2727) ?_
            refine wp_seq_k (fun K2728 hK2729 => ?_)
            refine wp_region_lit ?_
            refine stepp ha 56 (.pointer (some ⟨b2465, 1, none⟩)) KR KR ?_; clear ha a; intro a ha
            refine stepp ha 57 (.pointer (some ⟨b2465, 2, none⟩)) KR KR ?_; clear ha a; intro a ha
            refine stepl ha 58 (HW.ca (i := 0) (b := b2465) (C := #[.slice A0_0 a0.f0.length c0_0, .int .i64 a0.f1.f0, .string a0.f1.f1, .int .u32 a0.f2, .bool a0.f3]) (T := 27) (fr := (0, 0)) KR) 9 2 (.tmp 57) (.string a0.f1.f1) rfl KR KR KR ?_; clear ha a; intro a ha
            refine stepp ha 59 (.bool (a0.f1.f1.toList == (⟨#[]⟩ : ByteArray).toList)) KR KR ?_; clear ha a; intro a ha
            refine stepp ha 2 (.bool (a0.f1.f1.toList == (⟨#[]⟩ : ByteArray).toList)) KR KR ?_; clear ha a; intro a ha
            refine endl ?_
            refine thenN (hK2729 _ _ ?_); clear hK2729
            refine wp_ret ?_
            refine blkR ?_
            refine thenR ?_
            obtain rfl := Option.some.inj h
            exact finv ha _ _ rfl (.tmp (v := .bool (a0.f1.f1.toList == (⟨#[]⟩ : ByteArray).toList)) KR .nil) (.bool (a0.f1.f1.toList == (⟨#[]⟩ : ByteArray).toList)) rfl ⟨rfl, HW.pick [] [] (by decide) (by decide) rfl KR⟩
          · skip
            replace h := ite_neg' h hp2727
            refine condF ha KR KR (t := (a0.f1.f0 == 0)) (ieq_f hp2727) ?_
            refine wp_seq_k (fun K2730 hK2731 => ?_)
            refine wp_region_lit ?_
            refine stepp ha 61 (.pointer (some ⟨b2465, 1, none⟩)) KR KR ?_; clear ha a; intro a ha
            refine stepp ha 62 (.pointer (some ⟨b2465, 1, none⟩)) KR KR ?_; clear ha a; intro a ha
            refine stepl ha 63 (HW.ca (i := 0) (b := b2465) (C := #[.slice A0_0 a0.f0.length c0_0, .int .i64 a0.f1.f0, .string a0.f1.f1, .int .u32 a0.f2, .bool a0.f3]) (T := 27) (fr := (0, 0)) KR) 3 1 (.tmp 62) (.int .i64 a0.f1.f0) rfl KR KR KR ?_; clear ha a; intro a ha
            obtain ⟨t2732, ht2733, h_⟩ := bind_some' h; clear h; have h := h_; clear h_
            refine stepc ha 64 KR KR (headgateref11_alone.calls a0.f1.f0 t2732 _ ht2733) ?_; clear ha a; rintro e W2734 ⟨rfl, HX2735⟩
            refine ⟨_, rfl, ?_⟩; intro a ha; replace HW := HW.callw HX2735; clear HX2735
            refine stepp ha 60 (.bool t2732) KR KR ?_; clear ha a; intro a ha
            refine endl ?_
            refine thenN (hK2731 _ _ ?_); clear hK2731
            by_cases hp2736 : t2732 = true
            · skip
              replace h := ite_pos' h hp2736
              refine condT ha KR KR (t := t2732) (hp2736) ?_
              refine wp_seq_k (fun K2737 hK2738 => ?_)
              refine wp_region_lit ?_
              refine stepl ha 65 (HW.ca (i := 0) (b := b2465) (C := #[.slice A0_0 a0.f0.length c0_0, .int .i64 a0.f1.f0, .string a0.f1.f1, .int .u32 a0.f2, .bool a0.f3]) (T := 27) (fr := (0, 0)) KR) 27 0 (.tmp 1) (.agg #[.slice A0_0 a0.f0.length c0_0, .int .i64 a0.f1.f0, .string a0.f1.f1, .int .u32 a0.f2, .bool a0.f3]) rfl KR KR KR ?_; clear ha a; intro a ha
              refine stepp ha 66 (.pointer (some ⟨b2465, 1, none⟩)) KR KR ?_; clear ha a; intro a ha
              refine stepp ha 67 (.pointer (some ⟨b2465, 2, none⟩)) KR KR ?_; clear ha a; intro a ha
              refine stepl ha 68 (HW.ca (i := 0) (b := b2465) (C := #[.slice A0_0 a0.f0.length c0_0, .int .i64 a0.f1.f0, .string a0.f1.f1, .int .u32 a0.f2, .bool a0.f3]) (T := 27) (fr := (0, 0)) KR) 9 2 (.tmp 67) (.string a0.f1.f1) rfl KR KR KR ?_; clear ha a; intro a ha
              obtain ⟨t2739, ht2740, h_⟩ := bind_some' h; clear h; have h := h_; clear h_
              refine stepc ha 69 KR KR (headgateref10_Registered.calls K (⟨a0.f0, (⟨a0.f1.f0, a0.f1.f1⟩ : T_api_Hold), a0.f2, a0.f3⟩ : T_api_Table) a0.f1.f1 A0_0 c0_0 t2739 _ ((HW.rd0 hr0_0)) ht2740) ?_; clear ha a; rintro e W2741 ⟨rfl, HX2742⟩
              refine ⟨_, rfl, ?_⟩; intro a ha; replace HW := HW.callw HX2742; clear HX2742
              refine stepp ha 2 (.bool t2739) KR KR ?_; clear ha a; intro a ha
              refine endl ?_
              refine thenN (hK2738 _ _ ?_); clear hK2738
              refine wp_ret ?_
              refine blkR ?_
              refine thenR ?_
              obtain rfl := Option.some.inj h
              exact finv ha _ _ rfl (.tmp (v := .bool t2739) KR .nil) (.bool t2739) rfl ⟨rfl, HW.pick [] [] (by decide) (by decide) rfl KR⟩
            · skip
              replace h := ite_neg' h hp2736
              refine condF ha KR KR (t := t2732) (bool_f hp2736) ?_
              refine wp_seq_k (fun K2743 hK2744 => ?_)
              refine wp_region_lit ?_
              refine stepp ha 71 (.pointer (some ⟨b2465, 1, none⟩)) KR KR ?_; clear ha a; intro a ha
              refine stepp ha 72 (.pointer (some ⟨b2465, 1, none⟩)) KR KR ?_; clear ha a; intro a ha
              refine stepl ha 73 (HW.ca (i := 0) (b := b2465) (C := #[.slice A0_0 a0.f0.length c0_0, .int .i64 a0.f1.f0, .string a0.f1.f1, .int .u32 a0.f2, .bool a0.f3]) (T := 27) (fr := (0, 0)) KR) 3 1 (.tmp 72) (.int .i64 a0.f1.f0) rfl KR KR KR ?_; clear ha a; intro a ha
              obtain ⟨t2745, ht2746, h_⟩ := bind_some' h; clear h; have h := h_; clear h_
              refine stepc ha 74 KR KR (headgateref10_Type.calls a0.f1.f0 t2745 _ ht2746) ?_; clear ha a; rintro e W2747 ⟨rfl, HX2748⟩
              refine ⟨_, rfl, ?_⟩; intro a ha; replace HW := HW.callw HX2748; clear HX2748
              refine stepp ha 70 (.bool t2745) KR KR ?_; clear ha a; intro a ha
              refine endl ?_
              refine thenN (hK2744 _ _ ?_); clear hK2744
              by_cases hp2749 : t2745 = true
              · skip
                replace h := ite_pos' h hp2749
                refine condT ha KR KR (t := t2745) (hp2749) ?_
                refine wp_seq_k (fun K2750 hK2751 => ?_)
                refine wp_region_lit ?_
                refine stepp ha 75 (.pointer (some ⟨b2465, 1, none⟩)) KR KR ?_; clear ha a; intro a ha
                refine stepp ha 76 (.pointer (some ⟨b2465, 2, none⟩)) KR KR ?_; clear ha a; intro a ha
                refine stepl ha 77 (HW.ca (i := 0) (b := b2465) (C := #[.slice A0_0 a0.f0.length c0_0, .int .i64 a0.f1.f0, .string a0.f1.f1, .int .u32 a0.f2, .bool a0.f3]) (T := 27) (fr := (0, 0)) KR) 9 2 (.tmp 76) (.string a0.f1.f1) rfl KR KR KR ?_; clear ha a; intro a ha
                refine stepp ha 78 (.bool (a0.f1.f1.toList == (⟨#[]⟩ : ByteArray).toList)) KR KR ?_; clear ha a; intro a ha
                refine stepp ha 79 (.bool (a0.f1.f1.toList == (⟨#[]⟩ : ByteArray).toList)) KR KR ?_; clear ha a; intro a ha
                by_cases hp2752 : a0.f1.f1 = (⟨#[]⟩ : ByteArray)
                · skip
                  replace h := ite_pos' h hp2752
                  replace ha := ha.bool 79 KR (str_eq_t hp2752)
                  refine stepp ha 80 (.pointer (some ⟨b2465, 0, none⟩)) KR KR ?_; clear ha a; intro a ha
                  refine stepl ha 81 (HW.ca (i := 0) (b := b2465) (C := #[.slice A0_0 a0.f0.length c0_0, .int .i64 a0.f1.f0, .string a0.f1.f1, .int .u32 a0.f2, .bool a0.f3]) (T := 27) (fr := (0, 0)) KR) 22 0 (.tmp 80) (.slice A0_0 a0.f0.length c0_0) rfl KR KR KR ?_; clear ha a; intro a ha
                  refine stepp ha 82 (.int .i64 (a0.f0.length : Int)) KR KR ?_; clear ha a; intro a ha
                  refine stepp ha 83 (.bool (decide ((a0.f0.length : Int) > 0))) KR KR ?_; clear ha a; intro a ha
                  refine stepp ha 84 (.bool (decide ((a0.f0.length : Int) > 0))) KR KR ?_; clear ha a; intro a ha
                  refine stepp ha 2 (.bool (decide ((a0.f0.length : Int) > 0))) KR KR ?_; clear ha a; intro a ha
                  refine endl ?_
                  refine thenN (hK2751 _ _ ?_); clear hK2751
                  refine wp_ret ?_
                  refine blkR ?_
                  refine thenR ?_
                  obtain rfl := Option.some.inj h
                  exact finv ha _ _ rfl (.tmp (v := .bool (decide ((a0.f0.length : Int) > 0))) KR .nil) (.bool (decide ((a0.f0.length : Int) > 0))) rfl ⟨rfl, HW.pick [] [] (by decide) (by decide) rfl KR⟩
                · skip
                  replace h := ite_neg' h hp2752
                  replace ha := ha.bool 79 KR (str_eq_f hp2752)
                  refine stepo ha 80 KR ?_; clear ha a; intro a ha
                  refine stepo ha 81 KR ?_; clear ha a; intro a ha
                  refine stepo ha 82 KR ?_; clear ha a; intro a ha
                  refine stepo ha 83 KR ?_; clear ha a; intro a ha
                  refine stepp ha 84 (.bool false) KR KR ?_; clear ha a; intro a ha
                  refine stepp ha 2 (.bool false) KR KR ?_; clear ha a; intro a ha
                  refine endl ?_
                  refine thenN (hK2751 _ _ ?_); clear hK2751
                  refine wp_ret ?_
                  refine blkR ?_
                  refine thenR ?_
                  obtain rfl := Option.some.inj h
                  exact finv ha _ _ rfl (.tmp (v := .bool false) KR .nil) (.bool false) rfl ⟨rfl, HW.pick [] [] (by decide) (by decide) rfl KR⟩
              · skip
                replace h := ite_neg' h hp2749
                refine condF ha KR KR (t := t2745) (bool_f hp2749) ?_
                refine wp_skip ?_
                refine blkN ?_
                refine thenN (hK2724 _ _ ?_); clear hK2724
                refine wp_seq_k (fun K2753 hK2754 => ?_)
                refine wp_region_lit ?_
                refine stepp ha 2 (.bool false) KR KR ?_; clear ha a; intro a ha
                refine endl ?_
                refine thenN (hK2754 _ _ ?_); clear hK2754
                refine wp_ret ?_
                obtain rfl := Option.some.inj h
                exact finv ha _ _ rfl (.tmp (v := .bool false) KR .nil) (.bool false) rfl ⟨rfl, HW.pick [] [] (by decide) (by decide) rfl KR⟩
end Go.Proofs.YthjjbkgifelooaaDoor.F
