/- headgate/headgateref15.Parse: plain functions, and that the calls come to what they say. No condition. -/
import Derived.Test.YtpjcipadjegmlaaDoorFT
import Derived.Test.YtpjcipadjegmlaaDoorF21
namespace Go.Proofs.YtpjcipadjegmlaaDoor.F
open Go Go.RowKit Go.Proofs.YtpjcipadjegmlaaDoor.X
set_option linter.unusedVariables false
set_option linter.unusedSimpArgs false
/-! ### headgate/headgateref15.Parse: function 17 -/
def headgateref15_Parse.j5 (K : Nat) (a0 : ByteArray) (x2477 : Int) (x2478 : Int) (x2479 : Bool) (x2480 : Int) (x2481 : Int) : Option (T_headgateref15_Ask × Int) :=
  if (bt a0 0) ≥ 136 then (if (bt a0 0) ≤ 147 then (if x2477 ≥ 2147483648 then (some ((⟨0, 0, 0, false, 0, 0, 0⟩ : T_headgateref15_Ask), 150)) else (if x2478 ≥ 2147483648 then (some ((⟨0, 0, 0, false, 0, 0, 0⟩ : T_headgateref15_Ask), 150)) else (some ((⟨IntKind.wrap .i64 (bt a0 0), x2477, x2478, x2479, x2480, x2481, 0⟩ : T_headgateref15_Ask), 0)))) else (some ((⟨IntKind.wrap .i64 (bt a0 0), x2477, x2478, x2479, x2480, x2481, 0⟩ : T_headgateref15_Ask), 0))) else (some ((⟨IntKind.wrap .i64 (bt a0 0), x2477, x2478, x2479, x2480, x2481, 0⟩ : T_headgateref15_Ask), 0))
def headgateref15_Parse.j0 (K : Nat) (a0 : ByteArray) (x2365 : Int) : Option (T_headgateref15_Ask × Int) :=
  (headgateref15_num.f K a0 3 2).bind fun t2367 => (headgateref15_Parse.j5 K a0 0 0 false x2365 t2367)
def headgateref15_Parse.j3 (K : Nat) (a0 : ByteArray) (t2409 : Int) (t2413 : Int) (x2425 : Bool) : Option (T_headgateref15_Ask × Int) :=
  if (bt a0 0) = 147 then (asrt (1 < (a0.size : Int)) (if (Int.tmod (bt a0 1) 2) = 0 then (some ((⟨0, 0, 0, false, 0, 0, 0⟩ : T_headgateref15_Ask), 150)) else (headgateref15_Parse.j5 K a0 t2409 t2413 x2425 0 0))) else (headgateref15_Parse.j5 K a0 t2409 t2413 x2425 0 0)
def headgateref15_Parse.j4 (K : Nat) (a0 : ByteArray) (x2467 : Bool) : Option (T_headgateref15_Ask × Int) :=
  if x2467 = true then ((headgateref15_reservation.f K a0 (⟨IntKind.wrap .i64 (bt a0 0), 0, 0, false, 0, 0, 0⟩ : T_headgateref15_Ask)).bind fun t2472 => (some ((⟨t2472.1.f0, t2472.1.f1, t2472.1.f2, t2472.1.f3, t2472.1.f4, t2472.1.f5, t2472.1.f6⟩ : T_headgateref15_Ask), t2472.2))) else (headgateref15_Parse.j5 K a0 0 0 false 0 0)
def headgateref15_Parse.j2 (K : Nat) (a0 : ByteArray) (x2404 : Bool) : Option (T_headgateref15_Ask × Int) :=
  if x2404 = true then ((headgateref15_num.f K a0 2 8).bind fun t2409 => ((headgateref15_num.f K a0 10 4).bind fun t2413 => (if (bt a0 0) = 138 then (asrt (1 < (a0.size : Int)) (headgateref15_Parse.j3 K a0 t2409 t2413 ((Int.tmod (IntKind.wrap .u8 (Int.tdiv (bt a0 1) 8)) 2) == 1))) else (headgateref15_Parse.j3 K a0 t2409 t2413 false)))) else (if (bt a0 0) = 137 then ((headgateref15_num.f K a0 2 8).bind fun t2438 => (asrt (13 < (a0.size : Int)) (headgateref15_Parse.j5 K a0 t2438 (IntKind.wrap .i64 (bt a0 13)) false 0 0))) else (if (bt a0 0) = 66 then ((headgateref15_num.f K a0 7 2).bind fun t2449 => (headgateref15_Parse.j5 K a0 0 0 false 0 t2449)) else (if (bt a0 0) = 160 then ((headgateref15_num.f K a0 6 4).bind fun t2457 => (headgateref15_Parse.j5 K a0 0 0 false 0 t2457)) else (if (bt a0 0) = 94 then (headgateref15_Parse.j4 K a0 ((bt a0 0) == 94)) else (headgateref15_Parse.j4 K a0 ((bt a0 0) == 95))))))
def headgateref15_Parse.j1 (K : Nat) (a0 : ByteArray) (x2377 : Bool) : Option (T_headgateref15_Ask × Int) :=
  if x2377 = true then ((headgateref15_num.f K a0 2 4).bind fun t2382 => ((headgateref15_num.f K a0 7 2).bind fun t2386 => (if (bt a0 0) = 42 then (asrt (1 < (a0.size : Int)) (headgateref15_Parse.j5 K a0 t2382 t2386 ((Int.tmod (IntKind.wrap .u8 (Int.tdiv (bt a0 1) 8)) 2) == 1) 0 0)) else (headgateref15_Parse.j5 K a0 t2382 t2386 false 0 0)))) else (if (bt a0 0) = 136 then (headgateref15_Parse.j2 K a0 ((bt a0 0) == 136)) else (if (bt a0 0) = 138 then (headgateref15_Parse.j2 K a0 ((bt a0 0) == 138)) else (headgateref15_Parse.j2 K a0 ((bt a0 0) == 147))))
def headgateref15_Parse.f (K : Nat) (a0 : ByteArray) : Option (T_headgateref15_Ask × Int) :=
  (headgateref15_Length.f K a0).bind fun t2322 => (if t2322 = 0 then (some ((⟨0, 0, 0, false, 0, 0, 0⟩ : T_headgateref15_Ask), 150)) else (if (a0.size : Int) = t2322 then (asrt (0 ≤ (IntKind.wrap .i64 (t2322 - 1))) (asrt ((IntKind.wrap .i64 (t2322 - 1)) < (a0.size : Int)) (if (bt a0 (IntKind.wrap .i64 (t2322 - 1))) = 0 then (asrt (0 < (a0.size : Int)) (if (bt a0 0) = 18 then (asrt (1 < (a0.size : Int)) (if (Int.tmod (bt a0 1) 2) = 1 then (asrt (2 < (a0.size : Int)) (headgateref15_Parse.j0 K a0 (IntKind.wrap .i64 (256 + (IntKind.wrap .i64 (bt a0 2)))))) else (headgateref15_Parse.j0 K a0 0))) else (if (bt a0 0) = 40 then (headgateref15_Parse.j1 K a0 ((bt a0 0) == 40)) else (headgateref15_Parse.j1 K a0 ((bt a0 0) == 42))))) else (some ((⟨0, 0, 0, false, 0, 0, 0⟩ : T_headgateref15_Ask), 150))))) else (some ((⟨0, 0, 0, false, 0, 0, 0⟩ : T_headgateref15_Ask), 150))))
set_option maxRecDepth 100000 in
set_option maxHeartbeats 4000000 in
theorem headgateref15_Parse.calls (K : Nat) (a0 : ByteArray)  (r : T_headgateref15_Ask × Int) (w : World)  (h : headgateref15_Parse.f K a0 = some r) :
    Calls Tryd.prog 17 #[.string a0] w (fun e W' => e = .returned (.tuple #[.agg #[.int .i64 r.1.f0, .int .i64 r.1.f1, .int .i64 r.1.f2, .bool r.1.f3, .int .i64 r.1.f4, .int .i64 r.1.f5, .int .i64 r.1.f6], .int .i64 r.2]) ∧ Wd w W' [] [] ) := by
  refine sxstart (n := 142) (l := [(0, .string a0)]) Tryd.func17 rfl rfl (Nat.le_of_ble_eq_true KR) (subsA_cons rfl (subsA_nil _)) ?_
  intro a ha
  have HW := Wd.refl w
  unfold headgateref15_Parse.f at h
  refine wp_seq_k (fun K2316 hK2317 => ?_)
  refine wp_region_lit ?_
  refine stepnew ha HW 2 #[.int .i64 0, .int .i64 0, .int .i64 0, .bool false, .int .i64 0, .int .i64 0, .int .i64 0] 43 KR KR ?_; clear ha HW a; intro b2318 a W2319 HW ha
  refine stepp ha 3 (.int .i64 0) KR KR ?_; clear ha a; intro a ha
  refine endl ?_
  refine thenN (hK2317 _ _ ?_); clear hK2317
  refine wp_seq_k (fun K2320 hK2321 => ?_)
  refine wp_region_lit ?_
  refine stepp ha 6 (.string a0) KR KR ?_; clear ha a; intro a ha
  obtain ⟨t2322, ht2323, h_⟩ := bind_some' h; clear h; have h := h_; clear h_
  refine stepc ha 7 KR KR (headgateref15_Length.calls K a0 t2322 _ ht2323) ?_; clear ha a; rintro e W2324 ⟨rfl, HX2325⟩
  refine ⟨_, rfl, ?_⟩; intro a ha; replace HW := HW.callw HX2325; clear HX2325
  refine stepp ha 4 (.int .i64 t2322) KR KR ?_; clear ha a; intro a ha
  refine endl ?_
  refine thenN (hK2321 _ _ ?_); clear hK2321
  refine wp_seq_k (fun K2326 hK2327 => ?_)
  refine wp_seq_k (fun K2328 hK2329 => ?_)
  refine wp_region_lit ?_
  refine stepp ha 8 (.int .i64 t2322) KR KR ?_; clear ha a; intro a ha
  refine stepp ha 9 (.bool (t2322 == 0)) KR KR ?_; clear ha a; intro a ha
  refine stepp ha 10 (.bool (t2322 == 0)) KR KR ?_; clear ha a; intro a ha
  by_cases hp2330 : t2322 = 0
  · skip
    replace h := ite_pos' h hp2330
    replace ha := ha.bool 10 KR (ieq_t hp2330)
    refine stepo ha 11 KR ?_; clear ha a; intro a ha
    refine stepo ha 12 KR ?_; clear ha a; intro a ha
    refine stepo ha 13 KR ?_; clear ha a; intro a ha
    refine stepo ha 14 KR ?_; clear ha a; intro a ha
    refine stepp ha 15 (.bool true) KR KR ?_; clear ha a; intro a ha
    refine stepp ha 16 (.bool true) KR KR ?_; clear ha a; intro a ha
    refine stepo ha 17 KR ?_; clear ha a; intro a ha
    refine stepo ha 18 KR ?_; clear ha a; intro a ha
    refine stepo ha 19 KR ?_; clear ha a; intro a ha
    refine stepo ha 20 KR ?_; clear ha a; intro a ha
    refine stepo ha 21 KR ?_; clear ha a; intro a ha
    refine stepp ha 22 (.bool true) KR KR ?_; clear ha a; intro a ha
    refine endl ?_
    refine thenN (hK2329 _ _ ?_); clear hK2329
    refine condT ha KR KR (t := true) (rfl) ?_
    refine wp_seq_k (fun K2334 hK2335 => ?_)
    refine wp_region_lit ?_
    refine stepp ha 23 (.agg #[.int .i64 0, .int .i64 0, .int .i64 0, .bool false, .int .i64 0, .int .i64 0, .int .i64 0]) KR KR ?_; clear ha a; intro a ha
    refine stepst ha HW 0 (b := b2318) (C := #[.int .i64 0, .int .i64 0, .int .i64 0, .bool false, .int .i64 0, .int .i64 0, .int .i64 0]) (T := 43) KR 43 0 (.tmp 2) (.tmp 23) (.agg #[.int .i64 0, .int .i64 0, .int .i64 0, .bool false, .int .i64 0, .int .i64 0, .int .i64 0]) #[.int .i64 0, .int .i64 0, .int .i64 0, .bool false, .int .i64 0, .int .i64 0, .int .i64 0] rfl KR KR KR KR KR KR KR ?_; clear ha HW a; intro a W2336 HW ha
    refine stepp ha 3 (.int .i64 150) KR KR ?_; clear ha a; intro a ha
    refine endl ?_
    refine thenN (hK2335 _ _ ?_); clear hK2335
    refine wp_ret ?_
    refine thenR ?_
    obtain rfl := Option.some.inj h
    exact finv ha _ _ rfl (.cell (ad := ⟨b2318, 0, none⟩) (v := .agg #[.int .i64 0, .int .i64 0, .int .i64 0, .bool false, .int .i64 0, .int .i64 0, .int .i64 0]) KR (run_loadVar_ca0 (HW.ca (i := 0) (b := b2318) (C := #[.int .i64 0, .int .i64 0, .int .i64 0, .bool false, .int .i64 0, .int .i64 0, .int .i64 0]) (T := 43) (fr := (0, 0)) KR) 43 0 (.agg #[.int .i64 0, .int .i64 0, .int .i64 0, .bool false, .int .i64 0, .int .i64 0, .int .i64 0]) KR) (.tmp (v := .int .i64 150) KR .nil)) (.tuple #[.agg #[.int .i64 0, .int .i64 0, .int .i64 0, .bool false, .int .i64 0, .int .i64 0, .int .i64 0], .int .i64 150]) rfl ⟨rfl, HW.pick [] [] (by decide) (by decide) rfl KR⟩
  · skip
    replace h := ite_neg' h hp2330
    replace ha := ha.bool 10 KR (ieq_f hp2330)
    refine stepp ha 11 (.string a0) KR KR ?_; clear ha a; intro a ha
    refine stepp ha 12 (.int .i64 (a0.size : Int)) KR KR ?_; clear ha a; intro a ha
    refine stepp ha 13 (.int .i64 t2322) KR KR ?_; clear ha a; intro a ha
    refine stepp ha 14 (.bool ((a0.size : Int) != t2322)) KR KR ?_; clear ha a; intro a ha
    refine stepp ha 15 (.bool ((a0.size : Int) != t2322)) KR KR ?_; clear ha a; intro a ha
    refine stepp ha 16 (.bool ((a0.size : Int) != t2322)) KR KR ?_; clear ha a; intro a ha
    by_cases hp2331 : (a0.size : Int) = t2322
    · skip
      replace h := ite_pos' h hp2331
      replace ha := ha.bool 16 KR (ineq_f hp2331)
      refine stepp ha 17 (.string a0) KR KR ?_; clear ha a; intro a ha
      refine stepp ha 18 (.int .i64 t2322) KR KR ?_; clear ha a; intro a ha
      refine stepp ha 19 (.int .i64 (IntKind.wrap .i64 (t2322 - 1))) KR KR ?_; clear ha a; intro a ha
      obtain ⟨hA2332, h_⟩ := asrt_some h; clear h; have h := h_; clear h_
      obtain ⟨hA2333, h_⟩ := asrt_some h; clear h; have h := h_; clear h_
      refine stepsi ha 20 9 (.tmp 17) (.tmp 19) a0 .i64 (IntKind.wrap .i64 (t2322 - 1)) rfl KR KR KR hA2332 (show (IntKind.wrap .i64 (t2322 - 1) : Int) < ((a0).size : Int) from hA2333) KR ?_; clear ha a; intro a ha
      refine stepp ha 21 (.bool ((bt a0 (IntKind.wrap .i64 (t2322 - 1))) != 0)) KR KR ?_; clear ha a; intro a ha
      refine stepp ha 22 (.bool ((bt a0 (IntKind.wrap .i64 (t2322 - 1))) != 0)) KR KR ?_; clear ha a; intro a ha
      refine endl ?_
      refine thenN (hK2329 _ _ ?_); clear hK2329
      by_cases hp2337 : (bt a0 (IntKind.wrap .i64 (t2322 - 1))) = 0
      · skip
        replace h := ite_pos' h hp2337
        refine condF ha KR KR (t := ((bt a0 (IntKind.wrap .i64 (t2322 - 1))) != 0)) (ineq_f hp2337) ?_
        refine wp_skip ?_
        refine thenN (hK2327 _ _ ?_); clear hK2327
        refine wp_seq_k (fun K2344 hK2345 => ?_)
        refine wp_region_lit ?_
        refine stepp ha 24 (.string a0) KR KR ?_; clear ha a; intro a ha
        obtain ⟨hA2346, h_⟩ := asrt_some h; clear h; have h := h_; clear h_
        refine stepsi ha 25 9 (.tmp 24) (.const (.int .i64 0)) a0 .i64 0 rfl KR KR KR (by decide) (show (0 : Int) < ((a0).size : Int) from hA2346) KR ?_; clear ha a; intro a ha
        refine stepp ha 26 (.int .i64 (IntKind.wrap .i64 (bt a0 0))) KR KR ?_; clear ha a; intro a ha
        refine stepp ha 27 (.agg #[.int .i64 (IntKind.wrap .i64 (bt a0 0)), .int .i64 0, .int .i64 0, .bool false, .int .i64 0, .int .i64 0, .int .i64 0]) KR KR ?_; clear ha a; intro a ha
        refine stepnew ha HW 5 #[.int .i64 0, .int .i64 0, .int .i64 0, .bool false, .int .i64 0, .int .i64 0, .int .i64 0] 43 KR KR ?_; clear ha HW a; intro b2347 a W2348 HW ha
        refine stepst ha HW 0 (b := b2347) (C := #[.int .i64 0, .int .i64 0, .int .i64 0, .bool false, .int .i64 0, .int .i64 0, .int .i64 0]) (T := 43) KR 43 0 (.tmp 5) (.tmp 27) (.agg #[.int .i64 (IntKind.wrap .i64 (bt a0 0)), .int .i64 0, .int .i64 0, .bool false, .int .i64 0, .int .i64 0, .int .i64 0]) #[.int .i64 (IntKind.wrap .i64 (bt a0 0)), .int .i64 0, .int .i64 0, .bool false, .int .i64 0, .int .i64 0, .int .i64 0] rfl KR KR KR KR KR KR KR ?_; clear ha HW a; intro a W2349 HW ha
        refine endl ?_
        refine thenN (hK2345 _ _ ?_); clear hK2345
        refine wp_seq_k (fun K2350 hK2351 => ?_)
        refine cutn (fun a W2482 => ∃ (x2477 : Int), ∃ (x2478 : Int), ∃ (x2479 : Bool), ∃ (x2480 : Int), ∃ (x2481 : Int), headgateref15_Parse.j5 K a0 x2477 x2478 x2479 x2480 x2481 = some r ∧ Has 142 [(0, .string a0), (2, .pointer (some ⟨b2318, 0, none⟩)), (5, .pointer (some ⟨b2347, 0, none⟩))] a ∧ Wd w W2482 [(b2318, .cells #[.int .i64 0, .int .i64 0, .int .i64 0, .bool false, .int .i64 0, .int .i64 0, .int .i64 0] 43 (0, 0)), (b2347, .cells #[.int .i64 (IntKind.wrap .i64 (bt a0 0)), .int .i64 x2477, .int .i64 x2478, .bool x2479, .int .i64 x2480, .int .i64 x2481, .int .i64 0] 43 (0, 0))] []) ?_ ?_
        · skip
          refine wp_seq_k (fun K2352 hK2353 => ?_)
          refine wp_region_lit ?_
          refine stepp ha 28 (.string a0) KR KR ?_; clear ha a; intro a ha
          refine stepsi ha 29 9 (.tmp 28) (.const (.int .i64 0)) a0 .i64 0 rfl KR KR KR (by decide) (show (0 : Int) < ((a0).size : Int) from hA2346) KR ?_; clear ha a; intro a ha
          refine endl ?_
          refine thenN (hK2353 _ _ ?_); clear hK2353
          refine wp_block ?_
          refine wp_seq_k (fun K2354 hK2355 => ?_)
          refine wp_region_lit ?_
          refine stepp ha 31 (.bool ((bt a0 0) == 18)) KR KR ?_; clear ha a; intro a ha
          refine stepp ha 30 (.bool ((bt a0 0) == 18)) KR KR ?_; clear ha a; intro a ha
          refine endl ?_
          refine thenN (hK2355 _ _ ?_); clear hK2355
          by_cases hp2356 : (bt a0 0) = 18
          · skip
            replace h := ite_pos' h hp2356
            refine condT ha KR KR (t := ((bt a0 0) == 18)) (ieq_t hp2356) ?_
            refine wp_seq_k (fun K2357 hK2358 => ?_)
            refine cutn (fun a W2366 => ∃ (x2365 : Int), headgateref15_Parse.j0 K a0 x2365 = some r ∧ Has 142 [(0, .string a0), (2, .pointer (some ⟨b2318, 0, none⟩)), (5, .pointer (some ⟨b2347, 0, none⟩))] a ∧ Wd w W2366 [(b2318, .cells #[.int .i64 0, .int .i64 0, .int .i64 0, .bool false, .int .i64 0, .int .i64 0, .int .i64 0] 43 (0, 0)), (b2347, .cells #[.int .i64 (IntKind.wrap .i64 (bt a0 0)), .int .i64 0, .int .i64 0, .bool false, .int .i64 x2365, .int .i64 0, .int .i64 0] 43 (0, 0))] []) ?_ ?_
            · skip
              refine wp_seq_k (fun K2359 hK2360 => ?_)
              refine wp_region_lit ?_
              refine stepp ha 32 (.string a0) KR KR ?_; clear ha a; intro a ha
              obtain ⟨hA2361, h_⟩ := asrt_some h; clear h; have h := h_; clear h_
              refine stepsi ha 33 9 (.tmp 32) (.const (.int .i64 1)) a0 .i64 1 rfl KR KR KR (by decide) (show (1 : Int) < ((a0).size : Int) from hA2361) KR ?_; clear ha a; intro a ha
              refine stepp ha 34 (.int .u8 (Int.tmod (bt a0 1) 2)) KR KR ?_; clear ha a; intro a ha
              refine stepp ha 35 (.bool ((Int.tmod (bt a0 1) 2) == 1)) KR KR ?_; clear ha a; intro a ha
              refine endl ?_
              refine thenN (hK2360 _ _ ?_); clear hK2360
              by_cases hp2362 : (Int.tmod (bt a0 1) 2) = 1
              · skip
                replace h := ite_pos' h hp2362
                refine condT ha KR KR (t := ((Int.tmod (bt a0 1) 2) == 1)) (ieq_t hp2362) ?_
                refine wp_region_lit ?_
                refine stepp ha 36 (.string a0) KR KR ?_; clear ha a; intro a ha
                obtain ⟨hA2363, h_⟩ := asrt_some h; clear h; have h := h_; clear h_
                refine stepsi ha 37 9 (.tmp 36) (.const (.int .i64 2)) a0 .i64 2 rfl KR KR KR (by decide) (show (2 : Int) < ((a0).size : Int) from hA2363) KR ?_; clear ha a; intro a ha
                refine stepp ha 38 (.int .i64 (IntKind.wrap .i64 (bt a0 2))) KR KR ?_; clear ha a; intro a ha
                refine stepp ha 39 (.int .i64 (IntKind.wrap .i64 (256 + (IntKind.wrap .i64 (bt a0 2))))) KR KR ?_; clear ha a; intro a ha
                refine stepp ha 40 (.pointer (some ⟨b2347, 4, none⟩)) KR KR ?_; clear ha a; intro a ha
                refine stepst ha HW 0 (b := b2347) (C := #[.int .i64 (IntKind.wrap .i64 (bt a0 0)), .int .i64 0, .int .i64 0, .bool false, .int .i64 0, .int .i64 0, .int .i64 0]) (T := 43) KR 3 4 (.tmp 40) (.tmp 39) (.int .i64 (IntKind.wrap .i64 (256 + (IntKind.wrap .i64 (bt a0 2))))) #[.int .i64 (IntKind.wrap .i64 (bt a0 0)), .int .i64 0, .int .i64 0, .bool false, .int .i64 (IntKind.wrap .i64 (256 + (IntKind.wrap .i64 (bt a0 2)))), .int .i64 0, .int .i64 0] rfl KR KR KR KR KR KR KR ?_; clear ha HW a; intro a W2364 HW ha
                refine endl ?_
                exact thenN ⟨IntKind.wrap .i64 (256 + (IntKind.wrap .i64 (bt a0 2))), h, ha.sub (subs_cons KR (subs_cons KR (subs_cons KR (subs_nil _)))), HW.pick [1, 0] [] (by decide) (by decide) KR KR⟩
              · skip
                replace h := ite_neg' h hp2362
                refine condF ha KR KR (t := ((Int.tmod (bt a0 1) 2) == 1)) (ieq_f hp2362) ?_
                refine wp_skip ?_
                exact thenN ⟨0, h, ha.sub (subs_cons KR (subs_cons KR (subs_cons KR (subs_nil _)))), HW.pick [1, 0] [] (by decide) (by decide) KR KR⟩
            · skip
              intro a W2366 hJ
              obtain ⟨x2365, h, ha, HW⟩ := hJ
              replace h : headgateref15_Parse.j0 K a0 x2365 = some r := h
              unfold headgateref15_Parse.j0 at h
              refine hK2358 _ _ ?_; clear hK2358
              refine wp_region_lit ?_
              refine stepp ha 41 (.string a0) KR KR ?_; clear ha a; intro a ha
              obtain ⟨t2367, ht2368, h_⟩ := bind_some' h; clear h; have h := h_; clear h_
              refine stepc ha 42 KR KR (headgateref15_num.calls K a0 3 2 t2367 _ ht2368) ?_; clear ha a; rintro e W2369 ⟨rfl, HX2370⟩
              refine ⟨_, rfl, ?_⟩; intro a ha; replace HW := HW.callw HX2370; clear HX2370
              refine stepp ha 43 (.pointer (some ⟨b2347, 5, none⟩)) KR KR ?_; clear ha a; intro a ha
              refine stepst ha HW 1 (b := b2347) (C := #[.int .i64 (IntKind.wrap .i64 (bt a0 0)), .int .i64 0, .int .i64 0, .bool false, .int .i64 x2365, .int .i64 0, .int .i64 0]) (T := 43) KR 3 5 (.tmp 43) (.tmp 42) (.int .i64 t2367) #[.int .i64 (IntKind.wrap .i64 (bt a0 0)), .int .i64 0, .int .i64 0, .bool false, .int .i64 x2365, .int .i64 t2367, .int .i64 0] rfl KR KR KR KR KR KR KR ?_; clear ha HW a; intro a W2371 HW ha
              refine endl ?_
              refine blkN ?_
              exact thenN ⟨0, 0, false, x2365, t2367, h, ha.sub (subs_cons KR (subs_cons KR (subs_cons KR (subs_nil _)))), HW.pick [0, 1] [] (by decide) (by decide) KR KR⟩
          · skip
            replace h := ite_neg' h hp2356
            refine condF ha KR KR (t := ((bt a0 0) == 18)) (ieq_f hp2356) ?_
            refine wp_seq_k (fun K2372 hK2373 => ?_)
            refine cutn (fun a W2378 => ∃ (x2377 : Bool), headgateref15_Parse.j1 K a0 x2377 = some r ∧ Has 142 [(0, .string a0), (2, .pointer (some ⟨b2318, 0, none⟩)), (5, .pointer (some ⟨b2347, 0, none⟩)), (29, .int .u8 (bt a0 0)), (44, .bool x2377)] a ∧ Wd w W2378 [(b2318, .cells #[.int .i64 0, .int .i64 0, .int .i64 0, .bool false, .int .i64 0, .int .i64 0, .int .i64 0] 43 (0, 0)), (b2347, .cells #[.int .i64 (IntKind.wrap .i64 (bt a0 0)), .int .i64 0, .int .i64 0, .bool false, .int .i64 0, .int .i64 0, .int .i64 0] 43 (0, 0))] []) ?_ ?_
            · skip
              refine wp_seq_k (fun K2374 hK2375 => ?_)
              refine wp_region_lit ?_
              refine stepp ha 45 (.bool ((bt a0 0) == 40)) KR KR ?_; clear ha a; intro a ha
              refine stepp ha 44 (.bool ((bt a0 0) == 40)) KR KR ?_; clear ha a; intro a ha
              refine endl ?_
              refine thenN (hK2375 _ _ ?_); clear hK2375
              by_cases hp2376 : (bt a0 0) = 40
              · skip
                replace h := ite_pos' h hp2376
                refine condT ha KR KR (t := ((bt a0 0) == 40)) (ieq_t hp2376) ?_
                refine wp_skip ?_
                exact thenN ⟨((bt a0 0) == 40), h, ha.sub (subs_cons KR (subs_cons KR (subs_cons KR (subs_cons KR (subs_cons KR (subs_nil _)))))), HW.pick [1, 0] [] (by decide) (by decide) KR KR⟩
              · skip
                replace h := ite_neg' h hp2376
                refine condF ha KR KR (t := ((bt a0 0) == 40)) (ieq_f hp2376) ?_
                refine wp_region_lit ?_
                refine stepp ha 46 (.bool ((bt a0 0) == 42)) KR KR ?_; clear ha a; intro a ha
                refine stepp ha 44 (.bool ((bt a0 0) == 42)) KR KR ?_; clear ha a; intro a ha
                refine endl ?_
                exact thenN ⟨((bt a0 0) == 42), h, ha.sub (subs_cons KR (subs_cons KR (subs_cons KR (subs_cons KR (subs_cons KR (subs_nil _)))))), HW.pick [1, 0] [] (by decide) (by decide) KR KR⟩
            · skip
              intro a W2378 hJ
              obtain ⟨x2377, h, ha, HW⟩ := hJ
              replace h : headgateref15_Parse.j1 K a0 x2377 = some r := h
              unfold headgateref15_Parse.j1 at h
              refine hK2373 _ _ ?_; clear hK2373
              by_cases hp2379 : x2377 = true
              · skip
                replace h := ite_pos' h hp2379
                refine condT ha KR KR (t := x2377) (hp2379) ?_
                refine wp_seq_k (fun K2380 hK2381 => ?_)
                refine wp_region_lit ?_
                refine stepp ha 47 (.string a0) KR KR ?_; clear ha a; intro a ha
                obtain ⟨t2382, ht2383, h_⟩ := bind_some' h; clear h; have h := h_; clear h_
                refine stepc ha 48 KR KR (headgateref15_num.calls K a0 2 4 t2382 _ ht2383) ?_; clear ha a; rintro e W2384 ⟨rfl, HX2385⟩
                refine ⟨_, rfl, ?_⟩; intro a ha; replace HW := HW.callw HX2385; clear HX2385
                refine stepp ha 49 (.string a0) KR KR ?_; clear ha a; intro a ha
                obtain ⟨t2386, ht2387, h_⟩ := bind_some' h; clear h; have h := h_; clear h_
                refine stepc ha 50 KR KR (headgateref15_num.calls K a0 7 2 t2386 _ ht2387) ?_; clear ha a; rintro e W2388 ⟨rfl, HX2389⟩
                refine ⟨_, rfl, ?_⟩; intro a ha; replace HW := HW.callw HX2389; clear HX2389
                refine stepp ha 51 (.pointer (some ⟨b2347, 1, none⟩)) KR KR ?_; clear ha a; intro a ha
                refine stepst ha HW 1 (b := b2347) (C := #[.int .i64 (IntKind.wrap .i64 (bt a0 0)), .int .i64 0, .int .i64 0, .bool false, .int .i64 0, .int .i64 0, .int .i64 0]) (T := 43) KR 3 1 (.tmp 51) (.tmp 48) (.int .i64 t2382) #[.int .i64 (IntKind.wrap .i64 (bt a0 0)), .int .i64 t2382, .int .i64 0, .bool false, .int .i64 0, .int .i64 0, .int .i64 0] rfl KR KR KR KR KR KR KR ?_; clear ha HW a; intro a W2390 HW ha
                refine stepp ha 52 (.pointer (some ⟨b2347, 2, none⟩)) KR KR ?_; clear ha a; intro a ha
                refine stepst ha HW 1 (b := b2347) (C := #[.int .i64 (IntKind.wrap .i64 (bt a0 0)), .int .i64 t2382, .int .i64 0, .bool false, .int .i64 0, .int .i64 0, .int .i64 0]) (T := 43) KR 3 2 (.tmp 52) (.tmp 50) (.int .i64 t2386) #[.int .i64 (IntKind.wrap .i64 (bt a0 0)), .int .i64 t2382, .int .i64 t2386, .bool false, .int .i64 0, .int .i64 0, .int .i64 0] rfl KR KR KR KR KR KR KR ?_; clear ha HW a; intro a W2391 HW ha
                refine endl ?_
                refine thenN (hK2381 _ _ ?_); clear hK2381
                refine wp_region_lit ?_
                refine stepp ha 53 (.string a0) KR KR ?_; clear ha a; intro a ha
                refine stepsi ha 54 9 (.tmp 53) (.const (.int .i64 0)) a0 .i64 0 rfl KR KR KR (by decide) (show (0 : Int) < ((a0).size : Int) from hA2346) KR ?_; clear ha a; intro a ha
                refine stepp ha 55 (.bool ((bt a0 0) == 42)) KR KR ?_; clear ha a; intro a ha
                refine stepp ha 56 (.bool ((bt a0 0) == 42)) KR KR ?_; clear ha a; intro a ha
                by_cases hp2392 : (bt a0 0) = 42
                · skip
                  replace h := ite_pos' h hp2392
                  replace ha := ha.bool 56 KR (ieq_t hp2392)
                  refine stepp ha 57 (.string a0) KR KR ?_; clear ha a; intro a ha
                  obtain ⟨hA2393, h_⟩ := asrt_some h; clear h; have h := h_; clear h_
                  refine stepsi ha 58 9 (.tmp 57) (.const (.int .i64 1)) a0 .i64 1 rfl KR KR KR (by decide) (show (1 : Int) < ((a0).size : Int) from hA2393) KR ?_; clear ha a; intro a ha
                  refine stepp ha 59 (.int .u8 (IntKind.wrap .u8 (Int.tdiv (bt a0 1) 8))) KR KR ?_; clear ha a; intro a ha
                  refine stepp ha 60 (.int .u8 (Int.tmod (IntKind.wrap .u8 (Int.tdiv (bt a0 1) 8)) 2)) KR KR ?_; clear ha a; intro a ha
                  refine stepp ha 61 (.bool ((Int.tmod (IntKind.wrap .u8 (Int.tdiv (bt a0 1) 8)) 2) == 1)) KR KR ?_; clear ha a; intro a ha
                  refine stepp ha 62 (.bool ((Int.tmod (IntKind.wrap .u8 (Int.tdiv (bt a0 1) 8)) 2) == 1)) KR KR ?_; clear ha a; intro a ha
                  refine stepp ha 63 (.pointer (some ⟨b2347, 3, none⟩)) KR KR ?_; clear ha a; intro a ha
                  refine stepst ha HW 1 (b := b2347) (C := #[.int .i64 (IntKind.wrap .i64 (bt a0 0)), .int .i64 t2382, .int .i64 t2386, .bool false, .int .i64 0, .int .i64 0, .int .i64 0]) (T := 43) KR 4 3 (.tmp 63) (.tmp 62) (.bool ((Int.tmod (IntKind.wrap .u8 (Int.tdiv (bt a0 1) 8)) 2) == 1)) #[.int .i64 (IntKind.wrap .i64 (bt a0 0)), .int .i64 t2382, .int .i64 t2386, .bool ((Int.tmod (IntKind.wrap .u8 (Int.tdiv (bt a0 1) 8)) 2) == 1), .int .i64 0, .int .i64 0, .int .i64 0] rfl KR KR KR KR KR KR KR ?_; clear ha HW a; intro a W2394 HW ha
                  refine endl ?_
                  refine blkN ?_
                  exact thenN ⟨t2382, t2386, ((Int.tmod (IntKind.wrap .u8 (Int.tdiv (bt a0 1) 8)) 2) == 1), 0, 0, h, ha.sub (subs_cons KR (subs_cons KR (subs_cons KR (subs_nil _)))), HW.pick [0, 1] [] (by decide) (by decide) KR KR⟩
                · skip
                  replace h := ite_neg' h hp2392
                  replace ha := ha.bool 56 KR (ieq_f hp2392)
                  refine stepo ha 57 KR ?_; clear ha a; intro a ha
                  refine stepo ha 58 KR ?_; clear ha a; intro a ha
                  refine stepo ha 59 KR ?_; clear ha a; intro a ha
                  refine stepo ha 60 KR ?_; clear ha a; intro a ha
                  refine stepo ha 61 KR ?_; clear ha a; intro a ha
                  refine stepp ha 62 (.bool false) KR KR ?_; clear ha a; intro a ha
                  refine stepp ha 63 (.pointer (some ⟨b2347, 3, none⟩)) KR KR ?_; clear ha a; intro a ha
                  refine stepst ha HW 1 (b := b2347) (C := #[.int .i64 (IntKind.wrap .i64 (bt a0 0)), .int .i64 t2382, .int .i64 t2386, .bool false, .int .i64 0, .int .i64 0, .int .i64 0]) (T := 43) KR 4 3 (.tmp 63) (.tmp 62) (.bool false) #[.int .i64 (IntKind.wrap .i64 (bt a0 0)), .int .i64 t2382, .int .i64 t2386, .bool false, .int .i64 0, .int .i64 0, .int .i64 0] rfl KR KR KR KR KR KR KR ?_; clear ha HW a; intro a W2395 HW ha
                  refine endl ?_
                  refine blkN ?_
                  exact thenN ⟨t2382, t2386, false, 0, 0, h, ha.sub (subs_cons KR (subs_cons KR (subs_cons KR (subs_nil _)))), HW.pick [0, 1] [] (by decide) (by decide) KR KR⟩
              · skip
                replace h := ite_neg' h hp2379
                refine condF ha KR KR (t := x2377) (bool_f hp2379) ?_
                refine wp_seq_k (fun K2396 hK2397 => ?_)
                refine cutn (fun a W2405 => ∃ (x2404 : Bool), headgateref15_Parse.j2 K a0 x2404 = some r ∧ Has 142 [(0, .string a0), (2, .pointer (some ⟨b2318, 0, none⟩)), (5, .pointer (some ⟨b2347, 0, none⟩)), (29, .int .u8 (bt a0 0)), (64, .bool x2404)] a ∧ Wd w W2405 [(b2318, .cells #[.int .i64 0, .int .i64 0, .int .i64 0, .bool false, .int .i64 0, .int .i64 0, .int .i64 0] 43 (0, 0)), (b2347, .cells #[.int .i64 (IntKind.wrap .i64 (bt a0 0)), .int .i64 0, .int .i64 0, .bool false, .int .i64 0, .int .i64 0, .int .i64 0] 43 (0, 0))] []) ?_ ?_
                · skip
                  refine wp_seq_k (fun K2398 hK2399 => ?_)
                  refine wp_region_lit ?_
                  refine stepp ha 65 (.bool ((bt a0 0) == 136)) KR KR ?_; clear ha a; intro a ha
                  refine stepp ha 64 (.bool ((bt a0 0) == 136)) KR KR ?_; clear ha a; intro a ha
                  refine endl ?_
                  refine thenN (hK2399 _ _ ?_); clear hK2399
                  by_cases hp2400 : (bt a0 0) = 136
                  · skip
                    replace h := ite_pos' h hp2400
                    refine condT ha KR KR (t := ((bt a0 0) == 136)) (ieq_t hp2400) ?_
                    refine wp_skip ?_
                    exact thenN ⟨((bt a0 0) == 136), h, ha.sub (subs_cons KR (subs_cons KR (subs_cons KR (subs_cons KR (subs_cons KR (subs_nil _)))))), HW.pick [0, 1] [] (by decide) (by decide) KR KR⟩
                  · skip
                    replace h := ite_neg' h hp2400
                    refine condF ha KR KR (t := ((bt a0 0) == 136)) (ieq_f hp2400) ?_
                    refine wp_seq_k (fun K2401 hK2402 => ?_)
                    refine wp_region_lit ?_
                    refine stepp ha 66 (.bool ((bt a0 0) == 138)) KR KR ?_; clear ha a; intro a ha
                    refine stepp ha 64 (.bool ((bt a0 0) == 138)) KR KR ?_; clear ha a; intro a ha
                    refine endl ?_
                    refine thenN (hK2402 _ _ ?_); clear hK2402
                    by_cases hp2403 : (bt a0 0) = 138
                    · skip
                      replace h := ite_pos' h hp2403
                      refine condT ha KR KR (t := ((bt a0 0) == 138)) (ieq_t hp2403) ?_
                      refine wp_skip ?_
                      exact thenN ⟨((bt a0 0) == 138), h, ha.sub (subs_cons KR (subs_cons KR (subs_cons KR (subs_cons KR (subs_cons KR (subs_nil _)))))), HW.pick [0, 1] [] (by decide) (by decide) KR KR⟩
                    · skip
                      replace h := ite_neg' h hp2403
                      refine condF ha KR KR (t := ((bt a0 0) == 138)) (ieq_f hp2403) ?_
                      refine wp_region_lit ?_
                      refine stepp ha 67 (.bool ((bt a0 0) == 147)) KR KR ?_; clear ha a; intro a ha
                      refine stepp ha 64 (.bool ((bt a0 0) == 147)) KR KR ?_; clear ha a; intro a ha
                      refine endl ?_
                      exact thenN ⟨((bt a0 0) == 147), h, ha.sub (subs_cons KR (subs_cons KR (subs_cons KR (subs_cons KR (subs_cons KR (subs_nil _)))))), HW.pick [0, 1] [] (by decide) (by decide) KR KR⟩
                · skip
                  intro a W2405 hJ
                  obtain ⟨x2404, h, ha, HW⟩ := hJ
                  replace h : headgateref15_Parse.j2 K a0 x2404 = some r := h
                  unfold headgateref15_Parse.j2 at h
                  refine hK2397 _ _ ?_; clear hK2397
                  by_cases hp2406 : x2404 = true
                  · skip
                    replace h := ite_pos' h hp2406
                    refine condT ha KR KR (t := x2404) (hp2406) ?_
                    refine wp_seq_k (fun K2407 hK2408 => ?_)
                    refine wp_region_lit ?_
                    refine stepp ha 68 (.string a0) KR KR ?_; clear ha a; intro a ha
                    obtain ⟨t2409, ht2410, h_⟩ := bind_some' h; clear h; have h := h_; clear h_
                    refine stepc ha 69 KR KR (headgateref15_num.calls K a0 2 8 t2409 _ ht2410) ?_; clear ha a; rintro e W2411 ⟨rfl, HX2412⟩
                    refine ⟨_, rfl, ?_⟩; intro a ha; replace HW := HW.callw HX2412; clear HX2412
                    refine stepp ha 70 (.string a0) KR KR ?_; clear ha a; intro a ha
                    obtain ⟨t2413, ht2414, h_⟩ := bind_some' h; clear h; have h := h_; clear h_
                    refine stepc ha 71 KR KR (headgateref15_num.calls K a0 10 4 t2413 _ ht2414) ?_; clear ha a; rintro e W2415 ⟨rfl, HX2416⟩
                    refine ⟨_, rfl, ?_⟩; intro a ha; replace HW := HW.callw HX2416; clear HX2416
                    refine stepp ha 72 (.pointer (some ⟨b2347, 1, none⟩)) KR KR ?_; clear ha a; intro a ha
                    refine stepst ha HW 1 (b := b2347) (C := #[.int .i64 (IntKind.wrap .i64 (bt a0 0)), .int .i64 0, .int .i64 0, .bool false, .int .i64 0, .int .i64 0, .int .i64 0]) (T := 43) KR 3 1 (.tmp 72) (.tmp 69) (.int .i64 t2409) #[.int .i64 (IntKind.wrap .i64 (bt a0 0)), .int .i64 t2409, .int .i64 0, .bool false, .int .i64 0, .int .i64 0, .int .i64 0] rfl KR KR KR KR KR KR KR ?_; clear ha HW a; intro a W2417 HW ha
                    refine stepp ha 73 (.pointer (some ⟨b2347, 2, none⟩)) KR KR ?_; clear ha a; intro a ha
                    refine stepst ha HW 1 (b := b2347) (C := #[.int .i64 (IntKind.wrap .i64 (bt a0 0)), .int .i64 t2409, .int .i64 0, .bool false, .int .i64 0, .int .i64 0, .int .i64 0]) (T := 43) KR 3 2 (.tmp 73) (.tmp 71) (.int .i64 t2413) #[.int .i64 (IntKind.wrap .i64 (bt a0 0)), .int .i64 t2409, .int .i64 t2413, .bool false, .int .i64 0, .int .i64 0, .int .i64 0] rfl KR KR KR KR KR KR KR ?_; clear ha HW a; intro a W2418 HW ha
                    refine endl ?_
                    refine thenN (hK2408 _ _ ?_); clear hK2408
                    refine wp_seq_k (fun K2419 hK2420 => ?_)
                    refine cutn (fun a W2426 => ∃ (x2425 : Bool), headgateref15_Parse.j3 K a0 t2409 t2413 x2425 = some r ∧ Has 142 [(0, .string a0), (2, .pointer (some ⟨b2318, 0, none⟩)), (5, .pointer (some ⟨b2347, 0, none⟩))] a ∧ Wd w W2426 [(b2318, .cells #[.int .i64 0, .int .i64 0, .int .i64 0, .bool false, .int .i64 0, .int .i64 0, .int .i64 0] 43 (0, 0)), (b2347, .cells #[.int .i64 (IntKind.wrap .i64 (bt a0 0)), .int .i64 t2409, .int .i64 t2413, .bool x2425, .int .i64 0, .int .i64 0, .int .i64 0] 43 (0, 0))] []) ?_ ?_
                    · skip
                      refine wp_region_lit ?_
                      refine stepp ha 74 (.string a0) KR KR ?_; clear ha a; intro a ha
                      refine stepsi ha 75 9 (.tmp 74) (.const (.int .i64 0)) a0 .i64 0 rfl KR KR KR (by decide) (show (0 : Int) < ((a0).size : Int) from hA2346) KR ?_; clear ha a; intro a ha
                      refine stepp ha 76 (.bool ((bt a0 0) == 138)) KR KR ?_; clear ha a; intro a ha
                      refine stepp ha 77 (.bool ((bt a0 0) == 138)) KR KR ?_; clear ha a; intro a ha
                      by_cases hp2421 : (bt a0 0) = 138
                      · skip
                        replace h := ite_pos' h hp2421
                        replace ha := ha.bool 77 KR (ieq_t hp2421)
                        refine stepp ha 78 (.string a0) KR KR ?_; clear ha a; intro a ha
                        obtain ⟨hA2422, h_⟩ := asrt_some h; clear h; have h := h_; clear h_
                        refine stepsi ha 79 9 (.tmp 78) (.const (.int .i64 1)) a0 .i64 1 rfl KR KR KR (by decide) (show (1 : Int) < ((a0).size : Int) from hA2422) KR ?_; clear ha a; intro a ha
                        refine stepp ha 80 (.int .u8 (IntKind.wrap .u8 (Int.tdiv (bt a0 1) 8))) KR KR ?_; clear ha a; intro a ha
                        refine stepp ha 81 (.int .u8 (Int.tmod (IntKind.wrap .u8 (Int.tdiv (bt a0 1) 8)) 2)) KR KR ?_; clear ha a; intro a ha
                        refine stepp ha 82 (.bool ((Int.tmod (IntKind.wrap .u8 (Int.tdiv (bt a0 1) 8)) 2) == 1)) KR KR ?_; clear ha a; intro a ha
                        refine stepp ha 83 (.bool ((Int.tmod (IntKind.wrap .u8 (Int.tdiv (bt a0 1) 8)) 2) == 1)) KR KR ?_; clear ha a; intro a ha
                        refine stepp ha 84 (.pointer (some ⟨b2347, 3, none⟩)) KR KR ?_; clear ha a; intro a ha
                        refine stepst ha HW 1 (b := b2347) (C := #[.int .i64 (IntKind.wrap .i64 (bt a0 0)), .int .i64 t2409, .int .i64 t2413, .bool false, .int .i64 0, .int .i64 0, .int .i64 0]) (T := 43) KR 4 3 (.tmp 84) (.tmp 83) (.bool ((Int.tmod (IntKind.wrap .u8 (Int.tdiv (bt a0 1) 8)) 2) == 1)) #[.int .i64 (IntKind.wrap .i64 (bt a0 0)), .int .i64 t2409, .int .i64 t2413, .bool ((Int.tmod (IntKind.wrap .u8 (Int.tdiv (bt a0 1) 8)) 2) == 1), .int .i64 0, .int .i64 0, .int .i64 0] rfl KR KR KR KR KR KR KR ?_; clear ha HW a; intro a W2423 HW ha
                        refine endl ?_
                        exact thenN ⟨((Int.tmod (IntKind.wrap .u8 (Int.tdiv (bt a0 1) 8)) 2) == 1), h, ha.sub (subs_cons KR (subs_cons KR (subs_cons KR (subs_nil _)))), HW.pick [0, 1] [] (by decide) (by decide) KR KR⟩
                      · skip
                        replace h := ite_neg' h hp2421
                        replace ha := ha.bool 77 KR (ieq_f hp2421)
                        refine stepo ha 78 KR ?_; clear ha a; intro a ha
                        refine stepo ha 79 KR ?_; clear ha a; intro a ha
                        refine stepo ha 80 KR ?_; clear ha a; intro a ha
                        refine stepo ha 81 KR ?_; clear ha a; intro a ha
                        refine stepo ha 82 KR ?_; clear ha a; intro a ha
                        refine stepp ha 83 (.bool false) KR KR ?_; clear ha a; intro a ha
                        refine stepp ha 84 (.pointer (some ⟨b2347, 3, none⟩)) KR KR ?_; clear ha a; intro a ha
                        refine stepst ha HW 1 (b := b2347) (C := #[.int .i64 (IntKind.wrap .i64 (bt a0 0)), .int .i64 t2409, .int .i64 t2413, .bool false, .int .i64 0, .int .i64 0, .int .i64 0]) (T := 43) KR 4 3 (.tmp 84) (.tmp 83) (.bool false) #[.int .i64 (IntKind.wrap .i64 (bt a0 0)), .int .i64 t2409, .int .i64 t2413, .bool false, .int .i64 0, .int .i64 0, .int .i64 0] rfl KR KR KR KR KR KR KR ?_; clear ha HW a; intro a W2424 HW ha
                        refine endl ?_
                        exact thenN ⟨false, h, ha.sub (subs_cons KR (subs_cons KR (subs_cons KR (subs_nil _)))), HW.pick [0, 1] [] (by decide) (by decide) KR KR⟩
                    · skip
                      intro a W2426 hJ
                      obtain ⟨x2425, h, ha, HW⟩ := hJ
                      replace h : headgateref15_Parse.j3 K a0 t2409 t2413 x2425 = some r := h
                      unfold headgateref15_Parse.j3 at h
                      refine hK2420 _ _ ?_; clear hK2420
                      refine wp_seq_k (fun K2427 hK2428 => ?_)
                      refine wp_region_lit ?_
                      refine stepp ha 85 (.string a0) KR KR ?_; clear ha a; intro a ha
                      refine stepsi ha 86 9 (.tmp 85) (.const (.int .i64 0)) a0 .i64 0 rfl KR KR KR (by decide) (show (0 : Int) < ((a0).size : Int) from hA2346) KR ?_; clear ha a; intro a ha
                      refine stepp ha 87 (.bool ((bt a0 0) == 147)) KR KR ?_; clear ha a; intro a ha
                      refine stepp ha 88 (.bool ((bt a0 0) == 147)) KR KR ?_; clear ha a; intro a ha
                      by_cases hp2429 : (bt a0 0) = 147
                      · skip
                        replace h := ite_pos' h hp2429
                        replace ha := ha.bool 88 KR (ieq_t hp2429)
                        refine stepp ha 89 (.string a0) KR KR ?_; clear ha a; intro a ha
                        obtain ⟨hA2430, h_⟩ := asrt_some h; clear h; have h := h_; clear h_
                        refine stepsi ha 90 9 (.tmp 89) (.const (.int .i64 1)) a0 .i64 1 rfl KR KR KR (by decide) (show (1 : Int) < ((a0).size : Int) from hA2430) KR ?_; clear ha a; intro a ha
                        refine stepp ha 91 (.int .u8 (Int.tmod (bt a0 1) 2)) KR KR ?_; clear ha a; intro a ha
                        refine stepp ha 92 (.bool ((Int.tmod (bt a0 1) 2) == 0)) KR KR ?_; clear ha a; intro a ha
                        refine stepp ha 93 (.bool ((Int.tmod (bt a0 1) 2) == 0)) KR KR ?_; clear ha a; intro a ha
                        refine endl ?_
                        refine thenN (hK2428 _ _ ?_); clear hK2428
                        by_cases hp2431 : (Int.tmod (bt a0 1) 2) = 0
                        · skip
                          replace h := ite_pos' h hp2431
                          refine condT ha KR KR (t := ((Int.tmod (bt a0 1) 2) == 0)) (ieq_t hp2431) ?_
                          refine wp_seq_k (fun K2432 hK2433 => ?_)
                          refine wp_region_lit ?_
                          refine stepp ha 94 (.agg #[.int .i64 0, .int .i64 0, .int .i64 0, .bool false, .int .i64 0, .int .i64 0, .int .i64 0]) KR KR ?_; clear ha a; intro a ha
                          refine stepst ha HW 0 (b := b2318) (C := #[.int .i64 0, .int .i64 0, .int .i64 0, .bool false, .int .i64 0, .int .i64 0, .int .i64 0]) (T := 43) KR 43 0 (.tmp 2) (.tmp 94) (.agg #[.int .i64 0, .int .i64 0, .int .i64 0, .bool false, .int .i64 0, .int .i64 0, .int .i64 0]) #[.int .i64 0, .int .i64 0, .int .i64 0, .bool false, .int .i64 0, .int .i64 0, .int .i64 0] rfl KR KR KR KR KR KR KR ?_; clear ha HW a; intro a W2434 HW ha
                          refine stepp ha 3 (.int .i64 150) KR KR ?_; clear ha a; intro a ha
                          refine endl ?_
                          refine thenN (hK2433 _ _ ?_); clear hK2433
                          refine wp_ret ?_
                          refine blkR ?_
                          refine thenR ?_
                          obtain rfl := Option.some.inj h
                          exact finv ha _ _ rfl (.cell (ad := ⟨b2318, 0, none⟩) (v := .agg #[.int .i64 0, .int .i64 0, .int .i64 0, .bool false, .int .i64 0, .int .i64 0, .int .i64 0]) KR (run_loadVar_ca0 (HW.ca (i := 0) (b := b2318) (C := #[.int .i64 0, .int .i64 0, .int .i64 0, .bool false, .int .i64 0, .int .i64 0, .int .i64 0]) (T := 43) (fr := (0, 0)) KR) 43 0 (.agg #[.int .i64 0, .int .i64 0, .int .i64 0, .bool false, .int .i64 0, .int .i64 0, .int .i64 0]) KR) (.tmp (v := .int .i64 150) KR .nil)) (.tuple #[.agg #[.int .i64 0, .int .i64 0, .int .i64 0, .bool false, .int .i64 0, .int .i64 0, .int .i64 0], .int .i64 150]) rfl ⟨rfl, HW.pick [] [] (by decide) (by decide) rfl KR⟩
                        · skip
                          replace h := ite_neg' h hp2431
                          refine condF ha KR KR (t := ((Int.tmod (bt a0 1) 2) == 0)) (ieq_f hp2431) ?_
                          refine wp_skip ?_
                          refine blkN ?_
                          exact thenN ⟨t2409, t2413, x2425, 0, 0, h, ha.sub (subs_cons KR (subs_cons KR (subs_cons KR (subs_nil _)))), HW.pick [0, 1] [] (by decide) (by decide) KR KR⟩
                      · skip
                        replace h := ite_neg' h hp2429
                        replace ha := ha.bool 88 KR (ieq_f hp2429)
                        refine stepo ha 89 KR ?_; clear ha a; intro a ha
                        refine stepo ha 90 KR ?_; clear ha a; intro a ha
                        refine stepo ha 91 KR ?_; clear ha a; intro a ha
                        refine stepo ha 92 KR ?_; clear ha a; intro a ha
                        refine stepp ha 93 (.bool false) KR KR ?_; clear ha a; intro a ha
                        refine endl ?_
                        refine thenN (hK2428 _ _ ?_); clear hK2428
                        refine condF ha KR KR (t := false) (rfl) ?_
                        refine wp_skip ?_
                        refine blkN ?_
                        exact thenN ⟨t2409, t2413, x2425, 0, 0, h, ha.sub (subs_cons KR (subs_cons KR (subs_cons KR (subs_nil _)))), HW.pick [0, 1] [] (by decide) (by decide) KR KR⟩
                  · skip
                    replace h := ite_neg' h hp2406
                    refine condF ha KR KR (t := x2404) (bool_f hp2406) ?_
                    refine wp_seq_k (fun K2435 hK2436 => ?_)
                    refine wp_region_lit ?_
                    refine stepp ha 96 (.bool ((bt a0 0) == 137)) KR KR ?_; clear ha a; intro a ha
                    refine stepp ha 95 (.bool ((bt a0 0) == 137)) KR KR ?_; clear ha a; intro a ha
                    refine endl ?_
                    refine thenN (hK2436 _ _ ?_); clear hK2436
                    by_cases hp2437 : (bt a0 0) = 137
                    · skip
                      replace h := ite_pos' h hp2437
                      refine condT ha KR KR (t := ((bt a0 0) == 137)) (ieq_t hp2437) ?_
                      obtain ⟨t2438, ht2439, h_⟩ := bind_some' h; clear h; have h := h_; clear h_
                      obtain ⟨hA2442, h_⟩ := asrt_some h; clear h; have h := h_; clear h_
                      refine regionL 7 KR ([(b2318, .cells #[.int .i64 0, .int .i64 0, .int .i64 0, .bool false, .int .i64 0, .int .i64 0, .int .i64 0] 43 (0, 0))], []) ([(b2318, .cells #[.int .i64 0, .int .i64 0, .int .i64 0, .bool false, .int .i64 0, .int .i64 0, .int .i64 0] 43 (0, 0)), (b2347, .cells #[.int .i64 (IntKind.wrap .i64 (bt a0 0)), .int .i64 0, .int .i64 0, .bool false, .int .i64 0, .int .i64 0, .int .i64 0] 43 (0, 0))], []) [none, none, none, none, none, none, some ([(b2318, .cells #[.int .i64 0, .int .i64 0, .int .i64 0, .bool false, .int .i64 0, .int .i64 0, .int .i64 0] 43 (0, 0)), (b2347, .cells #[.int .i64 (IntKind.wrap .i64 (bt a0 0)), .int .i64 t2438, .int .i64 0, .bool false, .int .i64 0, .int .i64 0, .int .i64 0] 43 (0, 0))], [])] [.fix (.string a0), .fix (.int .i64 t2438), .fix (.string a0), .fix (.int .u8 (bt a0 13)), .fix (.int .i64 (IntKind.wrap .i64 (bt a0 13))), .fix (.pointer (some ⟨b2347, 1, none⟩)), .any] KR ha HW ⟨(fun w_ h_ => h_.pick [0] [] (by decide) (by decide) KR KR), (fun w_ h_ => h_.pick [0] [] (by decide) (by decide) KR KR)⟩ ?_ ?_
                      · skip
                        refine ⟨?_, ?_, ?_, ?_, ?_, ?_, ?_, trivial⟩
                        · skip
                          intro a wr hn hd HW hs; have ha := hasNil hn hd
                          have ha := ha.add (seeE hs 0 (.string a0) KR KR)
                          refine yStep ha 97 KR ?_; intro l_ ha HK
                          refine stepp ha 97 (.string a0) KR KR ?_; intro ax hax; exact HK _ _ _ hax rfl (Below.refl _ _)
                        · skip
                          intro a wr hn hd HW hs; have ha := hasNil hn hd
                          have ha := ha.add (seeF hs 97 0 (.string a0) KR KR)
                          refine yStep ha 98 KR ?_; intro l_ ha HK
                          refine stepc ha 98 KR KR (headgateref15_num.calls K a0 2 8 t2438 _ ht2439) ?_; rintro e W2440 ⟨rfl, HX2441⟩
                          refine ⟨_, rfl, ?_⟩; intro ax hax; exact HK _ _ _ hax rfl HX2441.below
                        · skip
                          intro a wr hn hd HW hs; have ha := hasNil hn hd
                          have ha := ha.add (seeE hs 0 (.string a0) KR KR)
                          refine yStep ha 99 KR ?_; intro l_ ha HK
                          refine stepp ha 99 (.string a0) KR KR ?_; intro ax hax; exact HK _ _ _ hax rfl (Below.refl _ _)
                        · skip
                          intro a wr hn hd HW hs; have ha := hasNil hn hd
                          have ha := ha.add (seeF hs 99 2 (.string a0) KR KR)
                          refine yStep ha 100 KR ?_; intro l_ ha HK
                          refine stepsi ha 100 9 (.tmp 99) (.const (.int .i64 13)) a0 .i64 13 rfl KR KR KR (by decide) (show (13 : Int) < ((a0).size : Int) from hA2442) KR ?_; intro ax hax; exact HK _ _ _ hax rfl (Below.refl _ _)
                        · skip
                          intro a wr hn hd HW hs; have ha := hasNil hn hd
                          have ha := ha.add (seeF hs 100 3 (.int .u8 (bt a0 13)) KR KR)
                          refine yStep ha 101 KR ?_; intro l_ ha HK
                          refine stepp ha 101 (.int .i64 (IntKind.wrap .i64 (bt a0 13))) KR KR ?_; intro ax hax; exact HK _ _ _ hax rfl (Below.refl _ _)
                        · skip
                          intro a wr hn hd HW hs; have ha := hasNil hn hd
                          have ha := ha.add (seeE hs 5 (.pointer (some ⟨b2347, 0, none⟩)) KR KR)
                          refine yStep ha 102 KR ?_; intro l_ ha HK
                          refine stepp ha 102 (.pointer (some ⟨b2347, 1, none⟩)) KR KR ?_; intro ax hax; exact HK _ _ _ hax rfl (Below.refl _ _)
                        · skip
                          intro a wr hn hd HW hs; have ha := hasNil hn hd
                          have ha := ha.add (seeF hs 98 1 (.int .i64 t2438) KR KR)
                          have ha := ha.add (seeF hs 102 5 (.pointer (some ⟨b2347, 1, none⟩)) KR KR)
                          refine yStepS ha KR ?_; intro l_ ha HK
                          refine stepst ha HW 1 (b := b2347) (C := #[.int .i64 (IntKind.wrap .i64 (bt a0 0)), .int .i64 0, .int .i64 0, .bool false, .int .i64 0, .int .i64 0, .int .i64 0]) (T := 43) KR 3 1 (.tmp 102) (.tmp 98) (.int .i64 t2438) #[.int .i64 (IntKind.wrap .i64 (bt a0 0)), .int .i64 t2438, .int .i64 0, .bool false, .int .i64 0, .int .i64 0, .int .i64 0] rfl KR KR KR KR KR KR KR ?_; intro ax wx HV hax; exact HK _ _ hax HV
                      · skip
                        intro a W2444 ha HW he hf
                        replace HW : Wd w W2444 [(b2318, .cells #[.int .i64 0, .int .i64 0, .int .i64 0, .bool false, .int .i64 0, .int .i64 0, .int .i64 0] 43 (0, 0)), (b2347, .cells #[.int .i64 (IntKind.wrap .i64 (bt a0 0)), .int .i64 t2438, .int .i64 0, .bool false, .int .i64 0, .int .i64 0, .int .i64 0] 43 (0, 0))] [] := HW
                        replace ha := ha.add (he 0 (.string a0) KR KR)
                        replace ha := ha.add (he 2 (.pointer (some ⟨b2318, 0, none⟩)) KR KR)
                        replace ha := ha.add (he 5 (.pointer (some ⟨b2347, 0, none⟩)) KR KR)
                        replace ha := ha.add (gotF (m := 7) (j := 4) (d := 101) (v := .int .i64 (IntKind.wrap .i64 (bt a0 13))) hf KR KR KR)
                        clear he hf
                        refine stepp ha 103 (.pointer (some ⟨b2347, 2, none⟩)) KR KR ?_; clear ha a; intro a ha
                        refine stepst ha HW 1 (b := b2347) (C := #[.int .i64 (IntKind.wrap .i64 (bt a0 0)), .int .i64 t2438, .int .i64 0, .bool false, .int .i64 0, .int .i64 0, .int .i64 0]) (T := 43) KR 3 2 (.tmp 103) (.tmp 101) (.int .i64 (IntKind.wrap .i64 (bt a0 13))) #[.int .i64 (IntKind.wrap .i64 (bt a0 0)), .int .i64 t2438, .int .i64 (IntKind.wrap .i64 (bt a0 13)), .bool false, .int .i64 0, .int .i64 0, .int .i64 0] rfl KR KR KR KR KR KR KR ?_; clear ha HW a; intro a W2445 HW ha
                        refine endl ?_
                        refine blkN ?_
                        exact thenN ⟨t2438, IntKind.wrap .i64 (bt a0 13), false, 0, 0, h, ha.sub (subs_cons KR (subs_cons KR (subs_cons KR (subs_nil _)))), HW.pick [0, 1] [] (by decide) (by decide) KR KR⟩
                    · skip
                      replace h := ite_neg' h hp2437
                      refine condF ha KR KR (t := ((bt a0 0) == 137)) (ieq_f hp2437) ?_
                      refine wp_seq_k (fun K2446 hK2447 => ?_)
                      refine wp_region_lit ?_
                      refine stepp ha 105 (.bool ((bt a0 0) == 66)) KR KR ?_; clear ha a; intro a ha
                      refine stepp ha 104 (.bool ((bt a0 0) == 66)) KR KR ?_; clear ha a; intro a ha
                      refine endl ?_
                      refine thenN (hK2447 _ _ ?_); clear hK2447
                      by_cases hp2448 : (bt a0 0) = 66
                      · skip
                        replace h := ite_pos' h hp2448
                        refine condT ha KR KR (t := ((bt a0 0) == 66)) (ieq_t hp2448) ?_
                        refine wp_region_lit ?_
                        refine stepp ha 106 (.string a0) KR KR ?_; clear ha a; intro a ha
                        obtain ⟨t2449, ht2450, h_⟩ := bind_some' h; clear h; have h := h_; clear h_
                        refine stepc ha 107 KR KR (headgateref15_num.calls K a0 7 2 t2449 _ ht2450) ?_; clear ha a; rintro e W2451 ⟨rfl, HX2452⟩
                        refine ⟨_, rfl, ?_⟩; intro a ha; replace HW := HW.callw HX2452; clear HX2452
                        refine stepp ha 108 (.pointer (some ⟨b2347, 5, none⟩)) KR KR ?_; clear ha a; intro a ha
                        refine stepst ha HW 1 (b := b2347) (C := #[.int .i64 (IntKind.wrap .i64 (bt a0 0)), .int .i64 0, .int .i64 0, .bool false, .int .i64 0, .int .i64 0, .int .i64 0]) (T := 43) KR 3 5 (.tmp 108) (.tmp 107) (.int .i64 t2449) #[.int .i64 (IntKind.wrap .i64 (bt a0 0)), .int .i64 0, .int .i64 0, .bool false, .int .i64 0, .int .i64 t2449, .int .i64 0] rfl KR KR KR KR KR KR KR ?_; clear ha HW a; intro a W2453 HW ha
                        refine endl ?_
                        refine blkN ?_
                        exact thenN ⟨0, 0, false, 0, t2449, h, ha.sub (subs_cons KR (subs_cons KR (subs_cons KR (subs_nil _)))), HW.pick [0, 1] [] (by decide) (by decide) KR KR⟩
                      · skip
                        replace h := ite_neg' h hp2448
                        refine condF ha KR KR (t := ((bt a0 0) == 66)) (ieq_f hp2448) ?_
                        refine wp_seq_k (fun K2454 hK2455 => ?_)
                        refine wp_region_lit ?_
                        refine stepp ha 110 (.bool ((bt a0 0) == 160)) KR KR ?_; clear ha a; intro a ha
                        refine stepp ha 109 (.bool ((bt a0 0) == 160)) KR KR ?_; clear ha a; intro a ha
                        refine endl ?_
                        refine thenN (hK2455 _ _ ?_); clear hK2455
                        by_cases hp2456 : (bt a0 0) = 160
                        · skip
                          replace h := ite_pos' h hp2456
                          refine condT ha KR KR (t := ((bt a0 0) == 160)) (ieq_t hp2456) ?_
                          refine wp_region_lit ?_
                          refine stepp ha 111 (.string a0) KR KR ?_; clear ha a; intro a ha
                          obtain ⟨t2457, ht2458, h_⟩ := bind_some' h; clear h; have h := h_; clear h_
                          refine stepc ha 112 KR KR (headgateref15_num.calls K a0 6 4 t2457 _ ht2458) ?_; clear ha a; rintro e W2459 ⟨rfl, HX2460⟩
                          refine ⟨_, rfl, ?_⟩; intro a ha; replace HW := HW.callw HX2460; clear HX2460
                          refine stepp ha 113 (.pointer (some ⟨b2347, 5, none⟩)) KR KR ?_; clear ha a; intro a ha
                          refine stepst ha HW 1 (b := b2347) (C := #[.int .i64 (IntKind.wrap .i64 (bt a0 0)), .int .i64 0, .int .i64 0, .bool false, .int .i64 0, .int .i64 0, .int .i64 0]) (T := 43) KR 3 5 (.tmp 113) (.tmp 112) (.int .i64 t2457) #[.int .i64 (IntKind.wrap .i64 (bt a0 0)), .int .i64 0, .int .i64 0, .bool false, .int .i64 0, .int .i64 t2457, .int .i64 0] rfl KR KR KR KR KR KR KR ?_; clear ha HW a; intro a W2461 HW ha
                          refine endl ?_
                          refine blkN ?_
                          exact thenN ⟨0, 0, false, 0, t2457, h, ha.sub (subs_cons KR (subs_cons KR (subs_cons KR (subs_nil _)))), HW.pick [0, 1] [] (by decide) (by decide) KR KR⟩
                        · skip
                          replace h := ite_neg' h hp2456
                          refine condF ha KR KR (t := ((bt a0 0) == 160)) (ieq_f hp2456) ?_
                          refine wp_seq_k (fun K2462 hK2463 => ?_)
                          refine cutn (fun a W2468 => ∃ (x2467 : Bool), headgateref15_Parse.j4 K a0 x2467 = some r ∧ Has 142 [(0, .string a0), (2, .pointer (some ⟨b2318, 0, none⟩)), (5, .pointer (some ⟨b2347, 0, none⟩)), (114, .bool x2467)] a ∧ Wd w W2468 [(b2318, .cells #[.int .i64 0, .int .i64 0, .int .i64 0, .bool false, .int .i64 0, .int .i64 0, .int .i64 0] 43 (0, 0)), (b2347, .cells #[.int .i64 (IntKind.wrap .i64 (bt a0 0)), .int .i64 0, .int .i64 0, .bool false, .int .i64 0, .int .i64 0, .int .i64 0] 43 (0, 0))] []) ?_ ?_
                          · skip
                            refine wp_seq_k (fun K2464 hK2465 => ?_)
                            refine wp_region_lit ?_
                            refine stepp ha 115 (.bool ((bt a0 0) == 94)) KR KR ?_; clear ha a; intro a ha
                            refine stepp ha 114 (.bool ((bt a0 0) == 94)) KR KR ?_; clear ha a; intro a ha
                            refine endl ?_
                            refine thenN (hK2465 _ _ ?_); clear hK2465
                            by_cases hp2466 : (bt a0 0) = 94
                            · skip
                              replace h := ite_pos' h hp2466
                              refine condT ha KR KR (t := ((bt a0 0) == 94)) (ieq_t hp2466) ?_
                              refine wp_skip ?_
                              exact thenN ⟨((bt a0 0) == 94), h, ha.sub (subs_cons KR (subs_cons KR (subs_cons KR (subs_cons KR (subs_nil _))))), HW.pick [0, 1] [] (by decide) (by decide) KR KR⟩
                            · skip
                              replace h := ite_neg' h hp2466
                              refine condF ha KR KR (t := ((bt a0 0) == 94)) (ieq_f hp2466) ?_
                              refine wp_region_lit ?_
                              refine stepp ha 116 (.bool ((bt a0 0) == 95)) KR KR ?_; clear ha a; intro a ha
                              refine stepp ha 114 (.bool ((bt a0 0) == 95)) KR KR ?_; clear ha a; intro a ha
                              refine endl ?_
                              exact thenN ⟨((bt a0 0) == 95), h, ha.sub (subs_cons KR (subs_cons KR (subs_cons KR (subs_cons KR (subs_nil _))))), HW.pick [0, 1] [] (by decide) (by decide) KR KR⟩
                          · skip
                            intro a W2468 hJ
                            obtain ⟨x2467, h, ha, HW⟩ := hJ
                            replace h : headgateref15_Parse.j4 K a0 x2467 = some r := h
                            unfold headgateref15_Parse.j4 at h
                            refine hK2463 _ _ ?_; clear hK2463
                            by_cases hp2469 : x2467 = true
                            · skip
                              replace h := ite_pos' h hp2469
                              refine condT ha KR KR (t := x2467) (hp2469) ?_
                              refine wp_seq_k (fun K2470 hK2471 => ?_)
                              refine wp_region_lit ?_
                              refine stepp ha 117 (.string a0) KR KR ?_; clear ha a; intro a ha
                              refine stepl ha 118 (HW.ca (i := 1) (b := b2347) (C := #[.int .i64 (IntKind.wrap .i64 (bt a0 0)), .int .i64 0, .int .i64 0, .bool false, .int .i64 0, .int .i64 0, .int .i64 0]) (T := 43) (fr := (0, 0)) KR) 43 0 (.tmp 5) (.agg #[.int .i64 (IntKind.wrap .i64 (bt a0 0)), .int .i64 0, .int .i64 0, .bool false, .int .i64 0, .int .i64 0, .int .i64 0]) rfl KR KR KR ?_; clear ha a; intro a ha
                              obtain ⟨t2472, ht2473, h_⟩ := bind_some' h; clear h; have h := h_; clear h_
                              refine stepc ha 119 KR KR (headgateref15_reservation.calls K a0 (⟨IntKind.wrap .i64 (bt a0 0), 0, 0, false, 0, 0, 0⟩ : T_headgateref15_Ask) t2472 _ ht2473) ?_; clear ha a; rintro e W2474 ⟨rfl, HX2475⟩
                              refine ⟨_, rfl, ?_⟩; intro a ha; replace HW := HW.callw HX2475; clear HX2475
                              refine stepp ha 120 (.agg #[.int .i64 t2472.1.f0, .int .i64 t2472.1.f1, .int .i64 t2472.1.f2, .bool t2472.1.f3, .int .i64 t2472.1.f4, .int .i64 t2472.1.f5, .int .i64 t2472.1.f6]) KR KR ?_; clear ha a; intro a ha
                              refine stepp ha 121 (.int .i64 t2472.2) KR KR ?_; clear ha a; intro a ha
                              refine stepst ha HW 0 (b := b2318) (C := #[.int .i64 0, .int .i64 0, .int .i64 0, .bool false, .int .i64 0, .int .i64 0, .int .i64 0]) (T := 43) KR 43 0 (.tmp 2) (.tmp 120) (.agg #[.int .i64 t2472.1.f0, .int .i64 t2472.1.f1, .int .i64 t2472.1.f2, .bool t2472.1.f3, .int .i64 t2472.1.f4, .int .i64 t2472.1.f5, .int .i64 t2472.1.f6]) #[.int .i64 t2472.1.f0, .int .i64 t2472.1.f1, .int .i64 t2472.1.f2, .bool t2472.1.f3, .int .i64 t2472.1.f4, .int .i64 t2472.1.f5, .int .i64 t2472.1.f6] rfl KR KR KR KR KR KR KR ?_; clear ha HW a; intro a W2476 HW ha
                              refine stepp ha 3 (.int .i64 t2472.2) KR KR ?_; clear ha a; intro a ha
                              refine endl ?_
                              refine thenN (hK2471 _ _ ?_); clear hK2471
                              refine wp_ret ?_
                              refine blkR ?_
                              refine thenR ?_
                              obtain rfl := Option.some.inj h
                              exact finv ha _ _ rfl (.cell (ad := ⟨b2318, 0, none⟩) (v := .agg #[.int .i64 t2472.1.f0, .int .i64 t2472.1.f1, .int .i64 t2472.1.f2, .bool t2472.1.f3, .int .i64 t2472.1.f4, .int .i64 t2472.1.f5, .int .i64 t2472.1.f6]) KR (run_loadVar_ca0 (HW.ca (i := 0) (b := b2318) (C := #[.int .i64 t2472.1.f0, .int .i64 t2472.1.f1, .int .i64 t2472.1.f2, .bool t2472.1.f3, .int .i64 t2472.1.f4, .int .i64 t2472.1.f5, .int .i64 t2472.1.f6]) (T := 43) (fr := (0, 0)) KR) 43 0 (.agg #[.int .i64 t2472.1.f0, .int .i64 t2472.1.f1, .int .i64 t2472.1.f2, .bool t2472.1.f3, .int .i64 t2472.1.f4, .int .i64 t2472.1.f5, .int .i64 t2472.1.f6]) KR) (.tmp (v := .int .i64 t2472.2) KR .nil)) (.tuple #[.agg #[.int .i64 t2472.1.f0, .int .i64 t2472.1.f1, .int .i64 t2472.1.f2, .bool t2472.1.f3, .int .i64 t2472.1.f4, .int .i64 t2472.1.f5, .int .i64 t2472.1.f6], .int .i64 t2472.2]) rfl ⟨rfl, HW.pick [] [] (by decide) (by decide) rfl KR⟩
                            · skip
                              replace h := ite_neg' h hp2469
                              refine condF ha KR KR (t := x2467) (bool_f hp2469) ?_
                              refine wp_skip ?_
                              refine blkN ?_
                              exact thenN ⟨0, 0, false, 0, 0, h, ha.sub (subs_cons KR (subs_cons KR (subs_cons KR (subs_nil _)))), HW.pick [0, 1] [] (by decide) (by decide) KR KR⟩
        · skip
          intro a W2482 hJ
          obtain ⟨x2477, x2478, x2479, x2480, x2481, h, ha, HW⟩ := hJ
          replace h : headgateref15_Parse.j5 K a0 x2477 x2478 x2479 x2480 x2481 = some r := h
          unfold headgateref15_Parse.j5 at h
          refine hK2351 _ _ ?_; clear hK2351
          refine wp_seq_k (fun K2483 hK2484 => ?_)
          refine wp_seq_k (fun K2485 hK2486 => ?_)
          refine wp_region_lit ?_
          refine stepp ha 122 (.string a0) KR KR ?_; clear ha a; intro a ha
          refine stepsi ha 123 9 (.tmp 122) (.const (.int .i64 0)) a0 .i64 0 rfl KR KR KR (by decide) (show (0 : Int) < ((a0).size : Int) from hA2346) KR ?_; clear ha a; intro a ha
          refine stepp ha 124 (.bool (decide ((bt a0 0) ≥ 136))) KR KR ?_; clear ha a; intro a ha
          refine stepp ha 125 (.bool (decide ((bt a0 0) ≥ 136))) KR KR ?_; clear ha a; intro a ha
          by_cases hp2487 : (bt a0 0) ≥ 136
          · skip
            replace h := ite_pos' h hp2487
            replace ha := ha.bool 125 KR (decide_eq_true hp2487)
            refine stepp ha 126 (.string a0) KR KR ?_; clear ha a; intro a ha
            refine stepsi ha 127 9 (.tmp 126) (.const (.int .i64 0)) a0 .i64 0 rfl KR KR KR (by decide) (show (0 : Int) < ((a0).size : Int) from hA2346) KR ?_; clear ha a; intro a ha
            refine stepp ha 128 (.bool (decide ((bt a0 0) ≤ 147))) KR KR ?_; clear ha a; intro a ha
            refine stepp ha 129 (.bool (decide ((bt a0 0) ≤ 147))) KR KR ?_; clear ha a; intro a ha
            refine stepp ha 130 (.bool (decide ((bt a0 0) ≤ 147))) KR KR ?_; clear ha a; intro a ha
            by_cases hp2488 : (bt a0 0) ≤ 147
            · skip
              replace h := ite_pos' h hp2488
              replace ha := ha.bool 130 KR (decide_eq_true hp2488)
              refine stepp ha 131 (.pointer (some ⟨b2347, 1, none⟩)) KR KR ?_; clear ha a; intro a ha
              refine stepl ha 132 (HW.ca (i := 1) (b := b2347) (C := #[.int .i64 (IntKind.wrap .i64 (bt a0 0)), .int .i64 x2477, .int .i64 x2478, .bool x2479, .int .i64 x2480, .int .i64 x2481, .int .i64 0]) (T := 43) (fr := (0, 0)) KR) 3 1 (.tmp 131) (.int .i64 x2477) rfl KR KR KR ?_; clear ha a; intro a ha
              refine stepp ha 133 (.bool (decide (x2477 ≥ 2147483648))) KR KR ?_; clear ha a; intro a ha
              refine stepp ha 134 (.bool (decide (x2477 ≥ 2147483648))) KR KR ?_; clear ha a; intro a ha
              by_cases hp2489 : x2477 ≥ 2147483648
              · skip
                replace h := ite_pos' h hp2489
                replace ha := ha.bool 134 KR (decide_eq_true hp2489)
                refine stepo ha 135 KR ?_; clear ha a; intro a ha
                refine stepo ha 136 KR ?_; clear ha a; intro a ha
                refine stepo ha 137 KR ?_; clear ha a; intro a ha
                refine stepp ha 138 (.bool true) KR KR ?_; clear ha a; intro a ha
                refine stepp ha 139 (.bool true) KR KR ?_; clear ha a; intro a ha
                refine endl ?_
                refine thenN (hK2486 _ _ ?_); clear hK2486
                refine condT ha KR KR (t := true) (rfl) ?_
                refine wp_seq_k (fun K2490 hK2491 => ?_)
                refine wp_region_lit ?_
                refine stepp ha 140 (.agg #[.int .i64 0, .int .i64 0, .int .i64 0, .bool false, .int .i64 0, .int .i64 0, .int .i64 0]) KR KR ?_; clear ha a; intro a ha
                refine stepst ha HW 0 (b := b2318) (C := #[.int .i64 0, .int .i64 0, .int .i64 0, .bool false, .int .i64 0, .int .i64 0, .int .i64 0]) (T := 43) KR 43 0 (.tmp 2) (.tmp 140) (.agg #[.int .i64 0, .int .i64 0, .int .i64 0, .bool false, .int .i64 0, .int .i64 0, .int .i64 0]) #[.int .i64 0, .int .i64 0, .int .i64 0, .bool false, .int .i64 0, .int .i64 0, .int .i64 0] rfl KR KR KR KR KR KR KR ?_; clear ha HW a; intro a W2492 HW ha
                refine stepp ha 3 (.int .i64 150) KR KR ?_; clear ha a; intro a ha
                refine endl ?_
                refine thenN (hK2491 _ _ ?_); clear hK2491
                refine wp_ret ?_
                refine thenR ?_
                obtain rfl := Option.some.inj h
                exact finv ha _ _ rfl (.cell (ad := ⟨b2318, 0, none⟩) (v := .agg #[.int .i64 0, .int .i64 0, .int .i64 0, .bool false, .int .i64 0, .int .i64 0, .int .i64 0]) KR (run_loadVar_ca0 (HW.ca (i := 0) (b := b2318) (C := #[.int .i64 0, .int .i64 0, .int .i64 0, .bool false, .int .i64 0, .int .i64 0, .int .i64 0]) (T := 43) (fr := (0, 0)) KR) 43 0 (.agg #[.int .i64 0, .int .i64 0, .int .i64 0, .bool false, .int .i64 0, .int .i64 0, .int .i64 0]) KR) (.tmp (v := .int .i64 150) KR .nil)) (.tuple #[.agg #[.int .i64 0, .int .i64 0, .int .i64 0, .bool false, .int .i64 0, .int .i64 0, .int .i64 0], .int .i64 150]) rfl ⟨rfl, HW.pick [] [] (by decide) (by decide) rfl KR⟩
              · skip
                replace h := ite_neg' h hp2489
                replace ha := ha.bool 134 KR (decide_eq_false hp2489)
                refine stepp ha 135 (.pointer (some ⟨b2347, 2, none⟩)) KR KR ?_; clear ha a; intro a ha
                refine stepl ha 136 (HW.ca (i := 1) (b := b2347) (C := #[.int .i64 (IntKind.wrap .i64 (bt a0 0)), .int .i64 x2477, .int .i64 x2478, .bool x2479, .int .i64 x2480, .int .i64 x2481, .int .i64 0]) (T := 43) (fr := (0, 0)) KR) 3 2 (.tmp 135) (.int .i64 x2478) rfl KR KR KR ?_; clear ha a; intro a ha
                refine stepp ha 137 (.bool (decide (x2478 ≥ 2147483648))) KR KR ?_; clear ha a; intro a ha
                refine stepp ha 138 (.bool (decide (x2478 ≥ 2147483648))) KR KR ?_; clear ha a; intro a ha
                refine stepp ha 139 (.bool (decide (x2478 ≥ 2147483648))) KR KR ?_; clear ha a; intro a ha
                refine endl ?_
                refine thenN (hK2486 _ _ ?_); clear hK2486
                by_cases hp2493 : x2478 ≥ 2147483648
                · skip
                  replace h := ite_pos' h hp2493
                  refine condT ha KR KR (t := decide (x2478 ≥ 2147483648)) (decide_eq_true hp2493) ?_
                  refine wp_seq_k (fun K2494 hK2495 => ?_)
                  refine wp_region_lit ?_
                  refine stepp ha 140 (.agg #[.int .i64 0, .int .i64 0, .int .i64 0, .bool false, .int .i64 0, .int .i64 0, .int .i64 0]) KR KR ?_; clear ha a; intro a ha
                  refine stepst ha HW 0 (b := b2318) (C := #[.int .i64 0, .int .i64 0, .int .i64 0, .bool false, .int .i64 0, .int .i64 0, .int .i64 0]) (T := 43) KR 43 0 (.tmp 2) (.tmp 140) (.agg #[.int .i64 0, .int .i64 0, .int .i64 0, .bool false, .int .i64 0, .int .i64 0, .int .i64 0]) #[.int .i64 0, .int .i64 0, .int .i64 0, .bool false, .int .i64 0, .int .i64 0, .int .i64 0] rfl KR KR KR KR KR KR KR ?_; clear ha HW a; intro a W2496 HW ha
                  refine stepp ha 3 (.int .i64 150) KR KR ?_; clear ha a; intro a ha
                  refine endl ?_
                  refine thenN (hK2495 _ _ ?_); clear hK2495
                  refine wp_ret ?_
                  refine thenR ?_
                  obtain rfl := Option.some.inj h
                  exact finv ha _ _ rfl (.cell (ad := ⟨b2318, 0, none⟩) (v := .agg #[.int .i64 0, .int .i64 0, .int .i64 0, .bool false, .int .i64 0, .int .i64 0, .int .i64 0]) KR (run_loadVar_ca0 (HW.ca (i := 0) (b := b2318) (C := #[.int .i64 0, .int .i64 0, .int .i64 0, .bool false, .int .i64 0, .int .i64 0, .int .i64 0]) (T := 43) (fr := (0, 0)) KR) 43 0 (.agg #[.int .i64 0, .int .i64 0, .int .i64 0, .bool false, .int .i64 0, .int .i64 0, .int .i64 0]) KR) (.tmp (v := .int .i64 150) KR .nil)) (.tuple #[.agg #[.int .i64 0, .int .i64 0, .int .i64 0, .bool false, .int .i64 0, .int .i64 0, .int .i64 0], .int .i64 150]) rfl ⟨rfl, HW.pick [] [] (by decide) (by decide) rfl KR⟩
                · skip
                  replace h := ite_neg' h hp2493
                  refine condF ha KR KR (t := decide (x2478 ≥ 2147483648)) (decide_eq_false hp2493) ?_
                  refine wp_skip ?_
                  refine thenN (hK2484 _ _ ?_); clear hK2484
                  refine wp_seq_k (fun K2497 hK2498 => ?_)
                  refine wp_region_lit ?_
                  refine stepl ha 141 (HW.ca (i := 1) (b := b2347) (C := #[.int .i64 (IntKind.wrap .i64 (bt a0 0)), .int .i64 x2477, .int .i64 x2478, .bool x2479, .int .i64 x2480, .int .i64 x2481, .int .i64 0]) (T := 43) (fr := (0, 0)) KR) 43 0 (.tmp 5) (.agg #[.int .i64 (IntKind.wrap .i64 (bt a0 0)), .int .i64 x2477, .int .i64 x2478, .bool x2479, .int .i64 x2480, .int .i64 x2481, .int .i64 0]) rfl KR KR KR ?_; clear ha a; intro a ha
                  refine stepst ha HW 0 (b := b2318) (C := #[.int .i64 0, .int .i64 0, .int .i64 0, .bool false, .int .i64 0, .int .i64 0, .int .i64 0]) (T := 43) KR 43 0 (.tmp 2) (.tmp 141) (.agg #[.int .i64 (IntKind.wrap .i64 (bt a0 0)), .int .i64 x2477, .int .i64 x2478, .bool x2479, .int .i64 x2480, .int .i64 x2481, .int .i64 0]) #[.int .i64 (IntKind.wrap .i64 (bt a0 0)), .int .i64 x2477, .int .i64 x2478, .bool x2479, .int .i64 x2480, .int .i64 x2481, .int .i64 0] rfl KR KR KR KR KR KR KR ?_; clear ha HW a; intro a W2499 HW ha
                  refine stepp ha 3 (.int .i64 0) KR KR ?_; clear ha a; intro a ha
                  refine endl ?_
                  refine thenN (hK2498 _ _ ?_); clear hK2498
                  refine wp_ret ?_
                  obtain rfl := Option.some.inj h
                  exact finv ha _ _ rfl (.cell (ad := ⟨b2318, 0, none⟩) (v := .agg #[.int .i64 (IntKind.wrap .i64 (bt a0 0)), .int .i64 x2477, .int .i64 x2478, .bool x2479, .int .i64 x2480, .int .i64 x2481, .int .i64 0]) KR (run_loadVar_ca0 (HW.ca (i := 0) (b := b2318) (C := #[.int .i64 (IntKind.wrap .i64 (bt a0 0)), .int .i64 x2477, .int .i64 x2478, .bool x2479, .int .i64 x2480, .int .i64 x2481, .int .i64 0]) (T := 43) (fr := (0, 0)) KR) 43 0 (.agg #[.int .i64 (IntKind.wrap .i64 (bt a0 0)), .int .i64 x2477, .int .i64 x2478, .bool x2479, .int .i64 x2480, .int .i64 x2481, .int .i64 0]) KR) (.tmp (v := .int .i64 0) KR .nil)) (.tuple #[.agg #[.int .i64 (IntKind.wrap .i64 (bt a0 0)), .int .i64 x2477, .int .i64 x2478, .bool x2479, .int .i64 x2480, .int .i64 x2481, .int .i64 0], .int .i64 0]) rfl ⟨rfl, HW.pick [] [] (by decide) (by decide) rfl KR⟩
            · skip
              replace h := ite_neg' h hp2488
              replace ha := ha.bool 130 KR (decide_eq_false hp2488)
              refine stepo ha 131 KR ?_; clear ha a; intro a ha
              refine stepo ha 132 KR ?_; clear ha a; intro a ha
              refine stepo ha 133 KR ?_; clear ha a; intro a ha
              refine stepo ha 134 KR ?_; clear ha a; intro a ha
              refine stepo ha 135 KR ?_; clear ha a; intro a ha
              refine stepo ha 136 KR ?_; clear ha a; intro a ha
              refine stepo ha 137 KR ?_; clear ha a; intro a ha
              refine stepo ha 138 KR ?_; clear ha a; intro a ha
              refine stepp ha 139 (.bool false) KR KR ?_; clear ha a; intro a ha
              refine endl ?_
              refine thenN (hK2486 _ _ ?_); clear hK2486
              refine condF ha KR KR (t := false) (rfl) ?_
              refine wp_skip ?_
              refine thenN (hK2484 _ _ ?_); clear hK2484
              refine wp_seq_k (fun K2500 hK2501 => ?_)
              refine wp_region_lit ?_
              refine stepl ha 141 (HW.ca (i := 1) (b := b2347) (C := #[.int .i64 (IntKind.wrap .i64 (bt a0 0)), .int .i64 x2477, .int .i64 x2478, .bool x2479, .int .i64 x2480, .int .i64 x2481, .int .i64 0]) (T := 43) (fr := (0, 0)) KR) 43 0 (.tmp 5) (.agg #[.int .i64 (IntKind.wrap .i64 (bt a0 0)), .int .i64 x2477, .int .i64 x2478, .bool x2479, .int .i64 x2480, .int .i64 x2481, .int .i64 0]) rfl KR KR KR ?_; clear ha a; intro a ha
              refine stepst ha HW 0 (b := b2318) (C := #[.int .i64 0, .int .i64 0, .int .i64 0, .bool false, .int .i64 0, .int .i64 0, .int .i64 0]) (T := 43) KR 43 0 (.tmp 2) (.tmp 141) (.agg #[.int .i64 (IntKind.wrap .i64 (bt a0 0)), .int .i64 x2477, .int .i64 x2478, .bool x2479, .int .i64 x2480, .int .i64 x2481, .int .i64 0]) #[.int .i64 (IntKind.wrap .i64 (bt a0 0)), .int .i64 x2477, .int .i64 x2478, .bool x2479, .int .i64 x2480, .int .i64 x2481, .int .i64 0] rfl KR KR KR KR KR KR KR ?_; clear ha HW a; intro a W2502 HW ha
              refine stepp ha 3 (.int .i64 0) KR KR ?_; clear ha a; intro a ha
              refine endl ?_
              refine thenN (hK2501 _ _ ?_); clear hK2501
              refine wp_ret ?_
              obtain rfl := Option.some.inj h
              exact finv ha _ _ rfl (.cell (ad := ⟨b2318, 0, none⟩) (v := .agg #[.int .i64 (IntKind.wrap .i64 (bt a0 0)), .int .i64 x2477, .int .i64 x2478, .bool x2479, .int .i64 x2480, .int .i64 x2481, .int .i64 0]) KR (run_loadVar_ca0 (HW.ca (i := 0) (b := b2318) (C := #[.int .i64 (IntKind.wrap .i64 (bt a0 0)), .int .i64 x2477, .int .i64 x2478, .bool x2479, .int .i64 x2480, .int .i64 x2481, .int .i64 0]) (T := 43) (fr := (0, 0)) KR) 43 0 (.agg #[.int .i64 (IntKind.wrap .i64 (bt a0 0)), .int .i64 x2477, .int .i64 x2478, .bool x2479, .int .i64 x2480, .int .i64 x2481, .int .i64 0]) KR) (.tmp (v := .int .i64 0) KR .nil)) (.tuple #[.agg #[.int .i64 (IntKind.wrap .i64 (bt a0 0)), .int .i64 x2477, .int .i64 x2478, .bool x2479, .int .i64 x2480, .int .i64 x2481, .int .i64 0], .int .i64 0]) rfl ⟨rfl, HW.pick [] [] (by decide) (by decide) rfl KR⟩
          · skip
            replace h := ite_neg' h hp2487
            replace ha := ha.bool 125 KR (decide_eq_false hp2487)
            refine stepo ha 126 KR ?_; clear ha a; intro a ha
            refine stepo ha 127 KR ?_; clear ha a; intro a ha
            refine stepo ha 128 KR ?_; clear ha a; intro a ha
            refine stepp ha 129 (.bool false) KR KR ?_; clear ha a; intro a ha
            refine stepp ha 130 (.bool false) KR KR ?_; clear ha a; intro a ha
            refine stepo ha 131 KR ?_; clear ha a; intro a ha
            refine stepo ha 132 KR ?_; clear ha a; intro a ha
            refine stepo ha 133 KR ?_; clear ha a; intro a ha
            refine stepo ha 134 KR ?_; clear ha a; intro a ha
            refine stepo ha 135 KR ?_; clear ha a; intro a ha
            refine stepo ha 136 KR ?_; clear ha a; intro a ha
            refine stepo ha 137 KR ?_; clear ha a; intro a ha
            refine stepo ha 138 KR ?_; clear ha a; intro a ha
            refine stepp ha 139 (.bool false) KR KR ?_; clear ha a; intro a ha
            refine endl ?_
            refine thenN (hK2486 _ _ ?_); clear hK2486
            refine condF ha KR KR (t := false) (rfl) ?_
            refine wp_skip ?_
            refine thenN (hK2484 _ _ ?_); clear hK2484
            refine wp_seq_k (fun K2503 hK2504 => ?_)
            refine wp_region_lit ?_
            refine stepl ha 141 (HW.ca (i := 1) (b := b2347) (C := #[.int .i64 (IntKind.wrap .i64 (bt a0 0)), .int .i64 x2477, .int .i64 x2478, .bool x2479, .int .i64 x2480, .int .i64 x2481, .int .i64 0]) (T := 43) (fr := (0, 0)) KR) 43 0 (.tmp 5) (.agg #[.int .i64 (IntKind.wrap .i64 (bt a0 0)), .int .i64 x2477, .int .i64 x2478, .bool x2479, .int .i64 x2480, .int .i64 x2481, .int .i64 0]) rfl KR KR KR ?_; clear ha a; intro a ha
            refine stepst ha HW 0 (b := b2318) (C := #[.int .i64 0, .int .i64 0, .int .i64 0, .bool false, .int .i64 0, .int .i64 0, .int .i64 0]) (T := 43) KR 43 0 (.tmp 2) (.tmp 141) (.agg #[.int .i64 (IntKind.wrap .i64 (bt a0 0)), .int .i64 x2477, .int .i64 x2478, .bool x2479, .int .i64 x2480, .int .i64 x2481, .int .i64 0]) #[.int .i64 (IntKind.wrap .i64 (bt a0 0)), .int .i64 x2477, .int .i64 x2478, .bool x2479, .int .i64 x2480, .int .i64 x2481, .int .i64 0] rfl KR KR KR KR KR KR KR ?_; clear ha HW a; intro a W2505 HW ha
            refine stepp ha 3 (.int .i64 0) KR KR ?_; clear ha a; intro a ha
            refine endl ?_
            refine thenN (hK2504 _ _ ?_); clear hK2504
            refine wp_ret ?_
            obtain rfl := Option.some.inj h
            exact finv ha _ _ rfl (.cell (ad := ⟨b2318, 0, none⟩) (v := .agg #[.int .i64 (IntKind.wrap .i64 (bt a0 0)), .int .i64 x2477, .int .i64 x2478, .bool x2479, .int .i64 x2480, .int .i64 x2481, .int .i64 0]) KR (run_loadVar_ca0 (HW.ca (i := 0) (b := b2318) (C := #[.int .i64 (IntKind.wrap .i64 (bt a0 0)), .int .i64 x2477, .int .i64 x2478, .bool x2479, .int .i64 x2480, .int .i64 x2481, .int .i64 0]) (T := 43) (fr := (0, 0)) KR) 43 0 (.agg #[.int .i64 (IntKind.wrap .i64 (bt a0 0)), .int .i64 x2477, .int .i64 x2478, .bool x2479, .int .i64 x2480, .int .i64 x2481, .int .i64 0]) KR) (.tmp (v := .int .i64 0) KR .nil)) (.tuple #[.agg #[.int .i64 (IntKind.wrap .i64 (bt a0 0)), .int .i64 x2477, .int .i64 x2478, .bool x2479, .int .i64 x2480, .int .i64 x2481, .int .i64 0], .int .i64 0]) rfl ⟨rfl, HW.pick [] [] (by decide) (by decide) rfl KR⟩
      · skip
        replace h := ite_neg' h hp2337
        refine condT ha KR KR (t := ((bt a0 (IntKind.wrap .i64 (t2322 - 1))) != 0)) (ineq_t hp2337) ?_
        refine wp_seq_k (fun K2338 hK2339 => ?_)
        refine wp_region_lit ?_
        refine stepp ha 23 (.agg #[.int .i64 0, .int .i64 0, .int .i64 0, .bool false, .int .i64 0, .int .i64 0, .int .i64 0]) KR KR ?_; clear ha a; intro a ha
        refine stepst ha HW 0 (b := b2318) (C := #[.int .i64 0, .int .i64 0, .int .i64 0, .bool false, .int .i64 0, .int .i64 0, .int .i64 0]) (T := 43) KR 43 0 (.tmp 2) (.tmp 23) (.agg #[.int .i64 0, .int .i64 0, .int .i64 0, .bool false, .int .i64 0, .int .i64 0, .int .i64 0]) #[.int .i64 0, .int .i64 0, .int .i64 0, .bool false, .int .i64 0, .int .i64 0, .int .i64 0] rfl KR KR KR KR KR KR KR ?_; clear ha HW a; intro a W2340 HW ha
        refine stepp ha 3 (.int .i64 150) KR KR ?_; clear ha a; intro a ha
        refine endl ?_
        refine thenN (hK2339 _ _ ?_); clear hK2339
        refine wp_ret ?_
        refine thenR ?_
        obtain rfl := Option.some.inj h
        exact finv ha _ _ rfl (.cell (ad := ⟨b2318, 0, none⟩) (v := .agg #[.int .i64 0, .int .i64 0, .int .i64 0, .bool false, .int .i64 0, .int .i64 0, .int .i64 0]) KR (run_loadVar_ca0 (HW.ca (i := 0) (b := b2318) (C := #[.int .i64 0, .int .i64 0, .int .i64 0, .bool false, .int .i64 0, .int .i64 0, .int .i64 0]) (T := 43) (fr := (0, 0)) KR) 43 0 (.agg #[.int .i64 0, .int .i64 0, .int .i64 0, .bool false, .int .i64 0, .int .i64 0, .int .i64 0]) KR) (.tmp (v := .int .i64 150) KR .nil)) (.tuple #[.agg #[.int .i64 0, .int .i64 0, .int .i64 0, .bool false, .int .i64 0, .int .i64 0, .int .i64 0], .int .i64 150]) rfl ⟨rfl, HW.pick [] [] (by decide) (by decide) rfl KR⟩
    · skip
      replace h := ite_neg' h hp2331
      replace ha := ha.bool 16 KR (ineq_t hp2331)
      refine stepo ha 17 KR ?_; clear ha a; intro a ha
      refine stepo ha 18 KR ?_; clear ha a; intro a ha
      refine stepo ha 19 KR ?_; clear ha a; intro a ha
      refine stepo ha 20 KR ?_; clear ha a; intro a ha
      refine stepo ha 21 KR ?_; clear ha a; intro a ha
      refine stepp ha 22 (.bool true) KR KR ?_; clear ha a; intro a ha
      refine endl ?_
      refine thenN (hK2329 _ _ ?_); clear hK2329
      refine condT ha KR KR (t := true) (rfl) ?_
      refine wp_seq_k (fun K2341 hK2342 => ?_)
      refine wp_region_lit ?_
      refine stepp ha 23 (.agg #[.int .i64 0, .int .i64 0, .int .i64 0, .bool false, .int .i64 0, .int .i64 0, .int .i64 0]) KR KR ?_; clear ha a; intro a ha
      refine stepst ha HW 0 (b := b2318) (C := #[.int .i64 0, .int .i64 0, .int .i64 0, .bool false, .int .i64 0, .int .i64 0, .int .i64 0]) (T := 43) KR 43 0 (.tmp 2) (.tmp 23) (.agg #[.int .i64 0, .int .i64 0, .int .i64 0, .bool false, .int .i64 0, .int .i64 0, .int .i64 0]) #[.int .i64 0, .int .i64 0, .int .i64 0, .bool false, .int .i64 0, .int .i64 0, .int .i64 0] rfl KR KR KR KR KR KR KR ?_; clear ha HW a; intro a W2343 HW ha
      refine stepp ha 3 (.int .i64 150) KR KR ?_; clear ha a; intro a ha
      refine endl ?_
      refine thenN (hK2342 _ _ ?_); clear hK2342
      refine wp_ret ?_
      refine thenR ?_
      obtain rfl := Option.some.inj h
      exact finv ha _ _ rfl (.cell (ad := ⟨b2318, 0, none⟩) (v := .agg #[.int .i64 0, .int .i64 0, .int .i64 0, .bool false, .int .i64 0, .int .i64 0, .int .i64 0]) KR (run_loadVar_ca0 (HW.ca (i := 0) (b := b2318) (C := #[.int .i64 0, .int .i64 0, .int .i64 0, .bool false, .int .i64 0, .int .i64 0, .int .i64 0]) (T := 43) (fr := (0, 0)) KR) 43 0 (.agg #[.int .i64 0, .int .i64 0, .int .i64 0, .bool false, .int .i64 0, .int .i64 0, .int .i64 0]) KR) (.tmp (v := .int .i64 150) KR .nil)) (.tuple #[.agg #[.int .i64 0, .int .i64 0, .int .i64 0, .bool false, .int .i64 0, .int .i64 0, .int .i64 0], .int .i64 150]) rfl ⟨rfl, HW.pick [] [] (by decide) (by decide) rfl KR⟩
end Go.Proofs.YtpjcipadjegmlaaDoor.F
