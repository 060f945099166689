/- headgate/headgatelaw17.InquiryBack: plain functions, and that the calls come to what they say. No condition. -/
import Derived.Test.YtccmdlbdpapigaaFT
import Derived.Test.YtccmdlbdpapigaaF15
import Derived.Test.YtccmdlbdpapigaaF22
namespace Go.Proofs.Ytccmdlbdpapigaa.F
open Go Go.RowKit Go.Proofs.Ytccmdlbdpapigaa.X
set_option linter.unusedVariables false
set_option linter.unusedSimpArgs false
/-! ### headgate/headgatelaw17.InquiryBack: function 7 -/
def headgatelaw17_InquiryBack.j1 (K : Nat) (a1 : ByteArray) : Option Bool :=
  (inquiry_Ranges.f K a1).bind fun t2378 => (if t2378.2 = 0 then ((inquiry_Unmap.f K t2378.1).bind fun t2400 => (if t2400.2 = 0 then (if t2400.1 = a1 then ((headgatelaw17_wakes.f K).bind fun t2408 => (some t2408)) else (some false)) else (some false))) else (if t2378.2 = 180 then (if (t2378.1.length : Int) = 0 then ((headgatelaw17_wakes.f K).bind fun t2394 => (some t2394)) else (some false)) else (some false)))
def headgatelaw17_InquiryBack.j0 (K : Nat) (a0 : List T_api_Range) (a1 : ByteArray) (x2327 : Bool) : Option Bool :=
  if x2327 = true then ((headgatelaw17_wakes.f K).bind fun t2332 => (some t2332)) else ((headgatekeep_CopyRanges.f a0).bind fun t2338 => ((inquiry_Unmap.f K t2338).bind fun t2345 => (if t2345.2 = 0 then ((inquiry_Ranges.f K t2345.1).bind fun t2356 => (if t2356.2 = 0 then ((headgatekeep_Ranges.f K t2356.1 a0).bind fun t2366 => (if t2366 = true then (headgatelaw17_InquiryBack.j1 K a1) else (some false))) else (some false))) else (headgatelaw17_InquiryBack.j1 K a1))))
def headgatelaw17_InquiryBack.f (K : Nat) (a0 : List T_api_Range) (a1 : ByteArray) : Option Bool :=
  if (a0.length : Int) > 200 then (headgatelaw17_InquiryBack.j0 K a0 a1 true) else (headgatelaw17_InquiryBack.j0 K a0 a1 (decide ((a1.size : Int) > 5000)))
set_option maxRecDepth 100000 in
set_option maxHeartbeats 4000000 in
theorem headgatelaw17_InquiryBack.calls (K : Nat) (a0 : List T_api_Range) (a1 : ByteArray) (A0_0 : Option Addr) (c0_0 : Nat) (r : Bool) (w : World) (hr0_0 : Rd 2 w (.slice A0_0 a0.length c0_0) a0.length (encs T_api_Range.enc a0)) (h : headgatelaw17_InquiryBack.f K a0 a1 = some r) :
    Calls Try.prog 7 #[.slice A0_0 a0.length c0_0, .string a1] w (fun e W' => e = .returned (.bool r) ∧ Wd w W' [] [] ) := by
  refine sxstart (n := 75) (l := [(0, .slice A0_0 a0.length c0_0), (1, .string a1)]) Try.func7 rfl rfl (Nat.le_of_ble_eq_true KR) (subsA_cons rfl (subsA_cons rfl (subsA_nil _))) ?_
  intro a ha
  have HW := Wd.refl w
  unfold headgatelaw17_InquiryBack.f at h
  refine wp_seq_k (fun K2320 hK2321 => ?_)
  refine wp_region_lit ?_
  refine stepp ha 4 (.bool false) KR KR ?_; clear ha a; intro a ha
  refine endl ?_
  refine thenN (hK2321 _ _ ?_); clear hK2321
  refine wp_seq_k (fun K2322 hK2323 => ?_)
  refine wp_seq_k (fun K2324 hK2325 => ?_)
  refine cutn (fun a W2328 => ∃ (x2327 : Bool), headgatelaw17_InquiryBack.j0 K a0 a1 x2327 = some r ∧ Has 75 [(0, .slice A0_0 a0.length c0_0), (1, .string a1), (20, .bool x2327)] a ∧ Wd w W2328 [] []) ?_ ?_
  · skip
    refine wp_region_lit ?_
    refine stepp ha 13 (.slice A0_0 a0.length c0_0) KR KR ?_; clear ha a; intro a ha
    refine stepp ha 14 (.int .i64 (a0.length : Int)) KR KR ?_; clear ha a; intro a ha
    refine stepp ha 15 (.bool (decide ((a0.length : Int) > 200))) KR KR ?_; clear ha a; intro a ha
    refine stepp ha 16 (.bool (decide ((a0.length : Int) > 200))) KR KR ?_; clear ha a; intro a ha
    by_cases hp2326 : (a0.length : Int) > 200
    · skip
      replace h := ite_pos' h hp2326
      replace ha := ha.bool 16 KR (decide_eq_true hp2326)
      refine stepo ha 17 KR ?_; clear ha a; intro a ha
      refine stepo ha 18 KR ?_; clear ha a; intro a ha
      refine stepo ha 19 KR ?_; clear ha a; intro a ha
      refine stepp ha 20 (.bool true) KR KR ?_; clear ha a; intro a ha
      refine endl ?_
      exact thenN ⟨true, h, ha.sub (subs_cons KR (subs_cons KR (subs_cons KR (subs_nil _)))), HW.pick [] [] (by decide) (by decide) KR KR⟩
    · skip
      replace h := ite_neg' h hp2326
      replace ha := ha.bool 16 KR (decide_eq_false hp2326)
      refine stepp ha 17 (.string a1) KR KR ?_; clear ha a; intro a ha
      refine stepp ha 18 (.int .i64 (a1.size : Int)) KR KR ?_; clear ha a; intro a ha
      refine stepp ha 19 (.bool (decide ((a1.size : Int) > 5000))) KR KR ?_; clear ha a; intro a ha
      refine stepp ha 20 (.bool (decide ((a1.size : Int) > 5000))) KR KR ?_; clear ha a; intro a ha
      refine endl ?_
      exact thenN ⟨decide ((a1.size : Int) > 5000), h, ha.sub (subs_cons KR (subs_cons KR (subs_cons KR (subs_nil _)))), HW.pick [] [] (by decide) (by decide) KR KR⟩
  · skip
    intro a W2328 hJ
    obtain ⟨x2327, h, ha, HW⟩ := hJ
    replace h : headgatelaw17_InquiryBack.j0 K a0 a1 x2327 = some r := h
    unfold headgatelaw17_InquiryBack.j0 at h
    refine hK2325 _ _ ?_; clear hK2325
    by_cases hp2329 : x2327 = true
    · skip
      replace h := ite_pos' h hp2329
      refine condT ha KR KR (t := x2327) (hp2329) ?_
      refine wp_seq_k (fun K2330 hK2331 => ?_)
      refine wp_region_lit ?_
      obtain ⟨t2332, ht2333, h_⟩ := bind_some' h; clear h; have h := h_; clear h_
      refine stepc ha 21 KR KR (headgatelaw17_wakes.calls K t2332 _ ht2333) ?_; clear ha a; rintro e W2334 ⟨rfl, HX2335⟩
      refine ⟨_, rfl, ?_⟩; intro a ha; replace HW := HW.callw HX2335; clear HX2335
      refine stepp ha 4 (.bool t2332) KR KR ?_; clear ha a; intro a ha
      refine endl ?_
      refine thenN (hK2331 _ _ ?_); clear hK2331
      refine wp_ret ?_
      refine thenR ?_
      obtain rfl := Option.some.inj h
      exact finv ha _ _ rfl (.tmp (v := .bool t2332) KR .nil) (.bool t2332) rfl ⟨rfl, HW.pick [] [] (by decide) (by decide) rfl KR⟩
    · skip
      replace h := ite_neg' h hp2329
      refine condF ha KR KR (t := x2327) (bool_f hp2329) ?_
      refine wp_skip ?_
      refine thenN (hK2323 _ _ ?_); clear hK2323
      refine wp_seq_k (fun K2336 hK2337 => ?_)
      refine wp_region_lit ?_
      refine stepp ha 23 (.slice A0_0 a0.length c0_0) KR KR ?_; clear ha a; intro a ha
      obtain ⟨t2338, ht2339, h_⟩ := bind_some' h; clear h; have h := h_; clear h_
      refine stepc ha 24 KR KR (headgatekeep_CopyRanges.calls a0 A0_0 c0_0 t2338 _ ((HW.rd0 hr0_0)) ht2339) ?_; clear ha a; rintro e W2343 ⟨A2340, c2341, rfl, HX2344⟩
      refine ⟨_, rfl, ?_⟩; intro a ha; replace HW := HW.callw HX2344; clear HX2344
      obtain ⟨t2345, ht2346, h_⟩ := bind_some' h; clear h; have h := h_; clear h_
      refine stepc ha 25 KR KR (inquiry_Unmap.calls K t2338 A2340 c2341 t2345 _ (HW.rdo (i := 0) (q := ⟨53, 2, .slice A2340 t2338.length c2341, t2338.length, encs T_api_Range.enc t2338⟩) KR) ht2346) ?_; clear ha a; rintro e W2347 ⟨rfl, HX2348⟩
      refine ⟨_, rfl, ?_⟩; intro a ha; replace HW := HW.callw HX2348; clear HX2348
      refine stepp ha 22 (.tuple #[.string t2345.1, .int .i64 t2345.2]) KR KR ?_; clear ha a; intro a ha
      refine stepp ha 26 (.string t2345.1) KR KR ?_; clear ha a; intro a ha
      refine stepp ha 27 (.int .i64 t2345.2) KR KR ?_; clear ha a; intro a ha
      refine stepp ha 5 (.string t2345.1) KR KR ?_; clear ha a; intro a ha
      refine stepp ha 6 (.int .i64 t2345.2) KR KR ?_; clear ha a; intro a ha
      refine endl ?_
      refine thenN (hK2337 _ _ ?_); clear hK2337
      refine wp_seq_k (fun K2349 hK2350 => ?_)
      refine cutn (fun a W2375 => headgatelaw17_InquiryBack.j1 K a1 = some r ∧ Has 75 [(1, .string a1)] a ∧ Wd w W2375 [] []) ?_ ?_
      · skip
        refine wp_seq_k (fun K2351 hK2352 => ?_)
        refine wp_region_lit ?_
        refine stepp ha 28 (.int .i64 t2345.2) KR KR ?_; clear ha a; intro a ha
        refine stepp ha 29 (.bool (t2345.2 == 0)) KR KR ?_; clear ha a; intro a ha
        refine endl ?_
        refine thenN (hK2352 _ _ ?_); clear hK2352
        by_cases hp2353 : t2345.2 = 0
        · skip
          replace h := ite_pos' h hp2353
          refine condT ha KR KR (t := (t2345.2 == 0)) (ieq_t hp2353) ?_
          refine wp_seq_k (fun K2354 hK2355 => ?_)
          refine wp_region_lit ?_
          refine stepp ha 31 (.string t2345.1) KR KR ?_; clear ha a; intro a ha
          obtain ⟨t2356, ht2357, h_⟩ := bind_some' h; clear h; have h := h_; clear h_
          refine stepc ha 32 KR KR (inquiry_Ranges.calls K t2345.1 t2356 _ ht2357) ?_; clear ha a; rintro e W2361 ⟨A2358, c2359, rfl, HX2362⟩
          refine ⟨_, rfl, ?_⟩; intro a ha; replace HW := HW.callw HX2362; clear HX2362
          refine stepp ha 30 (.tuple #[.slice A2358 t2356.1.length c2359, .int .i64 t2356.2]) KR KR ?_; clear ha a; intro a ha
          refine stepp ha 33 (.slice A2358 t2356.1.length c2359) KR KR ?_; clear ha a; intro a ha
          refine stepp ha 34 (.int .i64 t2356.2) KR KR ?_; clear ha a; intro a ha
          refine stepp ha 7 (.slice A2358 t2356.1.length c2359) KR KR ?_; clear ha a; intro a ha
          refine stepp ha 8 (.int .i64 t2356.2) KR KR ?_; clear ha a; intro a ha
          refine endl ?_
          refine thenN (hK2355 _ _ ?_); clear hK2355
          refine wp_seq_k (fun K2363 hK2364 => ?_)
          refine wp_region_lit ?_
          refine stepp ha 35 (.int .i64 t2356.2) KR KR ?_; clear ha a; intro a ha
          refine stepp ha 36 (.bool (t2356.2 != 0)) KR KR ?_; clear ha a; intro a ha
          refine stepp ha 37 (.bool (t2356.2 != 0)) KR KR ?_; clear ha a; intro a ha
          by_cases hp2365 : t2356.2 = 0
          · skip
            replace h := ite_pos' h hp2365
            replace ha := ha.bool 37 KR (ineq_f hp2365)
            refine stepp ha 38 (.slice A2358 t2356.1.length c2359) KR KR ?_; clear ha a; intro a ha
            refine stepp ha 39 (.slice A0_0 a0.length c0_0) KR KR ?_; clear ha a; intro a ha
            obtain ⟨t2366, ht2367, h_⟩ := bind_some' h; clear h; have h := h_; clear h_
            refine stepc ha 40 KR KR (headgatekeep_Ranges.calls K t2356.1 a0 A2358 c2359 A0_0 c0_0 t2366 _ (HW.rdo (i := 0) (q := ⟨53, 2, .slice A2358 t2356.1.length c2359, t2356.1.length, encs T_api_Range.enc t2356.1⟩) KR) ((HW.rd0 hr0_0)) ht2367) ?_; clear ha a; rintro e W2368 ⟨rfl, HX2369⟩
            refine ⟨_, rfl, ?_⟩; intro a ha; replace HW := HW.callw HX2369; clear HX2369
            refine stepp ha 41 (.bool (!t2366)) KR KR ?_; clear ha a; intro a ha
            refine stepp ha 42 (.bool (!t2366)) KR KR ?_; clear ha a; intro a ha
            refine endl ?_
            refine thenN (hK2364 _ _ ?_); clear hK2364
            by_cases hp2370 : t2366 = true
            · skip
              replace h := ite_pos' h hp2370
              refine condF ha KR KR (t := (!t2366)) (not_f (hp2370)) ?_
              refine wp_skip ?_
              exact thenN ⟨h, ha.sub (subs_cons KR (subs_nil _)), HW.pick [] [] (by decide) (by decide) KR KR⟩
            · skip
              replace h := ite_neg' h hp2370
              refine condT ha KR KR (t := (!t2366)) (not_t (bool_f hp2370)) ?_
              refine wp_seq_k (fun K2371 hK2372 => ?_)
              refine wp_region_lit ?_
              refine stepp ha 4 (.bool false) KR KR ?_; clear ha a; intro a ha
              refine endl ?_
              refine thenN (hK2372 _ _ ?_); clear hK2372
              refine wp_ret ?_
              refine thenR ?_
              obtain rfl := Option.some.inj h
              exact finv ha _ _ rfl (.tmp (v := .bool false) KR .nil) (.bool false) rfl ⟨rfl, HW.pick [] [] (by decide) (by decide) rfl KR⟩
          · skip
            replace h := ite_neg' h hp2365
            replace ha := ha.bool 37 KR (ineq_t hp2365)
            refine stepo ha 38 KR ?_; clear ha a; intro a ha
            refine stepo ha 39 KR ?_; clear ha a; intro a ha
            refine stepo ha 40 KR ?_; clear ha a; intro a ha
            refine stepo ha 41 KR ?_; clear ha a; intro a ha
            refine stepp ha 42 (.bool true) KR KR ?_; clear ha a; intro a ha
            refine endl ?_
            refine thenN (hK2364 _ _ ?_); clear hK2364
            refine condT ha KR KR (t := true) (rfl) ?_
            refine wp_seq_k (fun K2373 hK2374 => ?_)
            refine wp_region_lit ?_
            refine stepp ha 4 (.bool false) KR KR ?_; clear ha a; intro a ha
            refine endl ?_
            refine thenN (hK2374 _ _ ?_); clear hK2374
            refine wp_ret ?_
            refine thenR ?_
            obtain rfl := Option.some.inj h
            exact finv ha _ _ rfl (.tmp (v := .bool false) KR .nil) (.bool false) rfl ⟨rfl, HW.pick [] [] (by decide) (by decide) rfl KR⟩
        · skip
          replace h := ite_neg' h hp2353
          refine condF ha KR KR (t := (t2345.2 == 0)) (ieq_f hp2353) ?_
          refine wp_skip ?_
          exact thenN ⟨h, ha.sub (subs_cons KR (subs_nil _)), HW.pick [] [] (by decide) (by decide) KR KR⟩
      · skip
        intro a W2375 hJ
        obtain ⟨h, ha, HW⟩ := hJ
        replace h : headgatelaw17_InquiryBack.j1 K a1 = some r := h
        unfold headgatelaw17_InquiryBack.j1 at h
        refine hK2350 _ _ ?_; clear hK2350
        refine wp_seq_k (fun K2376 hK2377 => ?_)
        refine wp_region_lit ?_
        refine stepp ha 44 (.string a1) KR KR ?_; clear ha a; intro a ha
        obtain ⟨t2378, ht2379, h_⟩ := bind_some' h; clear h; have h := h_; clear h_
        refine stepc ha 45 KR KR (inquiry_Ranges.calls K a1 t2378 _ ht2379) ?_; clear ha a; rintro e W2383 ⟨A2380, c2381, rfl, HX2384⟩
        refine ⟨_, rfl, ?_⟩; intro a ha; replace HW := HW.callw HX2384; clear HX2384
        refine stepp ha 43 (.tuple #[.slice A2380 t2378.1.length c2381, .int .i64 t2378.2]) KR KR ?_; clear ha a; intro a ha
        refine stepp ha 46 (.slice A2380 t2378.1.length c2381) KR KR ?_; clear ha a; intro a ha
        refine stepp ha 47 (.int .i64 t2378.2) KR KR ?_; clear ha a; intro a ha
        refine stepp ha 9 (.slice A2380 t2378.1.length c2381) KR KR ?_; clear ha a; intro a ha
        refine stepp ha 10 (.int .i64 t2378.2) KR KR ?_; clear ha a; intro a ha
        refine endl ?_
        refine thenN (hK2377 _ _ ?_); clear hK2377
        refine wp_seq_k (fun K2385 hK2386 => ?_)
        refine wp_seq_k (fun K2387 hK2388 => ?_)
        refine wp_region_lit ?_
        refine stepp ha 48 (.int .i64 t2378.2) KR KR ?_; clear ha a; intro a ha
        refine stepp ha 49 (.bool (t2378.2 != 0)) KR KR ?_; clear ha a; intro a ha
        refine endl ?_
        refine thenN (hK2388 _ _ ?_); clear hK2388
        by_cases hp2389 : t2378.2 = 0
        · skip
          replace h := ite_pos' h hp2389
          refine condF ha KR KR (t := (t2378.2 != 0)) (ineq_f hp2389) ?_
          refine wp_skip ?_
          refine thenN (hK2386 _ _ ?_); clear hK2386
          refine wp_seq_k (fun K2398 hK2399 => ?_)
          refine wp_region_lit ?_
          refine stepp ha 61 (.slice A2380 t2378.1.length c2381) KR KR ?_; clear ha a; intro a ha
          obtain ⟨t2400, ht2401, h_⟩ := bind_some' h; clear h; have h := h_; clear h_
          refine stepc ha 62 KR KR (inquiry_Unmap.calls K t2378.1 A2380 c2381 t2400 _ (HW.rdo (i := 0) (q := ⟨53, 2, .slice A2380 t2378.1.length c2381, t2378.1.length, encs T_api_Range.enc t2378.1⟩) KR) ht2401) ?_; clear ha a; rintro e W2402 ⟨rfl, HX2403⟩
          refine ⟨_, rfl, ?_⟩; intro a ha; replace HW := HW.callw HX2403; clear HX2403
          refine stepp ha 60 (.tuple #[.string t2400.1, .int .i64 t2400.2]) KR KR ?_; clear ha a; intro a ha
          refine stepp ha 63 (.string t2400.1) KR KR ?_; clear ha a; intro a ha
          refine stepp ha 64 (.int .i64 t2400.2) KR KR ?_; clear ha a; intro a ha
          refine stepp ha 11 (.string t2400.1) KR KR ?_; clear ha a; intro a ha
          refine stepp ha 12 (.int .i64 t2400.2) KR KR ?_; clear ha a; intro a ha
          refine endl ?_
          refine thenN (hK2399 _ _ ?_); clear hK2399
          refine wp_seq_k (fun K2404 hK2405 => ?_)
          refine wp_region_lit ?_
          refine stepp ha 65 (.int .i64 t2400.2) KR KR ?_; clear ha a; intro a ha
          refine stepp ha 66 (.bool (t2400.2 == 0)) KR KR ?_; clear ha a; intro a ha
          refine stepp ha 67 (.bool (t2400.2 == 0)) KR KR ?_; clear ha a; intro a ha
          by_cases hp2406 : t2400.2 = 0
          · skip
            replace h := ite_pos' h hp2406
            replace ha := ha.bool 67 KR (ieq_t hp2406)
            refine stepp ha 68 (.string t2400.1) KR KR ?_; clear ha a; intro a ha
            refine stepp ha 69 (.string a1) KR KR ?_; clear ha a; intro a ha
            refine stepp ha 70 (.bool (t2400.1.toList == a1.toList)) KR KR ?_; clear ha a; intro a ha
            refine stepp ha 71 (.bool (t2400.1.toList == a1.toList)) KR KR ?_; clear ha a; intro a ha
            refine stepp ha 72 (.bool (t2400.1.toList == a1.toList)) KR KR ?_; clear ha a; intro a ha
            by_cases hp2407 : t2400.1 = a1
            · skip
              replace h := ite_pos' h hp2407
              replace ha := ha.bool 72 KR (str_eq_t hp2407)
              obtain ⟨t2408, ht2409, h_⟩ := bind_some' h; clear h; have h := h_; clear h_
              refine stepc ha 73 KR KR (headgatelaw17_wakes.calls K t2408 _ ht2409) ?_; clear ha a; rintro e W2410 ⟨rfl, HX2411⟩
              refine ⟨_, rfl, ?_⟩; intro a ha; replace HW := HW.callw HX2411; clear HX2411
              refine stepp ha 74 (.bool t2408) KR KR ?_; clear ha a; intro a ha
              refine stepp ha 4 (.bool t2408) KR KR ?_; clear ha a; intro a ha
              refine endl ?_
              refine thenN (hK2405 _ _ ?_); clear hK2405
              refine wp_ret ?_
              obtain rfl := Option.some.inj h
              exact finv ha _ _ rfl (.tmp (v := .bool t2408) KR .nil) (.bool t2408) rfl ⟨rfl, HW.pick [] [] (by decide) (by decide) rfl KR⟩
            · skip
              replace h := ite_neg' h hp2407
              replace ha := ha.bool 72 KR (str_eq_f hp2407)
              refine stepo ha 73 KR ?_; clear ha a; intro a ha
              refine stepp ha 74 (.bool false) KR KR ?_; clear ha a; intro a ha
              refine stepp ha 4 (.bool false) KR KR ?_; clear ha a; intro a ha
              refine endl ?_
              refine thenN (hK2405 _ _ ?_); clear hK2405
              refine wp_ret ?_
              obtain rfl := Option.some.inj h
              exact finv ha _ _ rfl (.tmp (v := .bool false) KR .nil) (.bool false) rfl ⟨rfl, HW.pick [] [] (by decide) (by decide) rfl KR⟩
          · skip
            replace h := ite_neg' h hp2406
            replace ha := ha.bool 67 KR (ieq_f hp2406)
            refine stepo ha 68 KR ?_; clear ha a; intro a ha
            refine stepo ha 69 KR ?_; clear ha a; intro a ha
            refine stepo ha 70 KR ?_; clear ha a; intro a ha
            refine stepp ha 71 (.bool false) KR KR ?_; clear ha a; intro a ha
            refine stepp ha 72 (.bool false) KR KR ?_; clear ha a; intro a ha
            refine stepo ha 73 KR ?_; clear ha a; intro a ha
            refine stepp ha 74 (.bool false) KR KR ?_; clear ha a; intro a ha
            refine stepp ha 4 (.bool false) KR KR ?_; clear ha a; intro a ha
            refine endl ?_
            refine thenN (hK2405 _ _ ?_); clear hK2405
            refine wp_ret ?_
            obtain rfl := Option.some.inj h
            exact finv ha _ _ rfl (.tmp (v := .bool false) KR .nil) (.bool false) rfl ⟨rfl, HW.pick [] [] (by decide) (by decide) rfl KR⟩
        · skip
          replace h := ite_neg' h hp2389
          refine condT ha KR KR (t := (t2378.2 != 0)) (ineq_t hp2389) ?_
          refine wp_seq_k (fun K2390 hK2391 => ?_)
          refine wp_region_lit ?_
          refine stepp ha 50 (.int .i64 t2378.2) KR KR ?_; clear ha a; intro a ha
          refine stepp ha 51 (.bool (t2378.2 == 180)) KR KR ?_; clear ha a; intro a ha
          refine stepp ha 52 (.bool (t2378.2 == 180)) KR KR ?_; clear ha a; intro a ha
          by_cases hp2392 : t2378.2 = 180
          · skip
            replace h := ite_pos' h hp2392
            replace ha := ha.bool 52 KR (ieq_t hp2392)
            refine stepp ha 53 (.slice A2380 t2378.1.length c2381) KR KR ?_; clear ha a; intro a ha
            refine stepp ha 54 (.int .i64 (t2378.1.length : Int)) KR KR ?_; clear ha a; intro a ha
            refine stepp ha 55 (.bool ((t2378.1.length : Int) == 0)) KR KR ?_; clear ha a; intro a ha
            refine stepp ha 56 (.bool ((t2378.1.length : Int) == 0)) KR KR ?_; clear ha a; intro a ha
            refine stepp ha 57 (.bool ((t2378.1.length : Int) == 0)) KR KR ?_; clear ha a; intro a ha
            by_cases hp2393 : (t2378.1.length : Int) = 0
            · skip
              replace h := ite_pos' h hp2393
              replace ha := ha.bool 57 KR (ieq_t hp2393)
              obtain ⟨t2394, ht2395, h_⟩ := bind_some' h; clear h; have h := h_; clear h_
              refine stepc ha 58 KR KR (headgatelaw17_wakes.calls K t2394 _ ht2395) ?_; clear ha a; rintro e W2396 ⟨rfl, HX2397⟩
              refine ⟨_, rfl, ?_⟩; intro a ha; replace HW := HW.callw HX2397; clear HX2397
              refine stepp ha 59 (.bool t2394) KR KR ?_; clear ha a; intro a ha
              refine stepp ha 4 (.bool t2394) KR KR ?_; clear ha a; intro a ha
              refine endl ?_
              refine thenN (hK2391 _ _ ?_); clear hK2391
              refine wp_ret ?_
              refine thenR ?_
              obtain rfl := Option.some.inj h
              exact finv ha _ _ rfl (.tmp (v := .bool t2394) KR .nil) (.bool t2394) rfl ⟨rfl, HW.pick [] [] (by decide) (by decide) rfl KR⟩
            · skip
              replace h := ite_neg' h hp2393
              replace ha := ha.bool 57 KR (ieq_f hp2393)
              refine stepo ha 58 KR ?_; clear ha a; intro a ha
              refine stepp ha 59 (.bool false) KR KR ?_; clear ha a; intro a ha
              refine stepp ha 4 (.bool false) KR KR ?_; clear ha a; intro a ha
              refine endl ?_
              refine thenN (hK2391 _ _ ?_); clear hK2391
              refine wp_ret ?_
              refine thenR ?_
              obtain rfl := Option.some.inj h
              exact finv ha _ _ rfl (.tmp (v := .bool false) KR .nil) (.bool false) rfl ⟨rfl, HW.pick [] [] (by decide) (by decide) rfl KR⟩
          · skip
            replace h := ite_neg' h hp2392
            replace ha := ha.bool 52 KR (ieq_f hp2392)
            refine stepo ha 53 KR ?_; clear ha a; intro a ha
            refine stepo ha 54 KR ?_; clear ha a; intro a ha
            refine stepo ha 55 KR ?_; clear ha a; intro a ha
            refine stepp ha 56 (.bool false) KR KR ?_; clear ha a; intro a ha
            refine stepp ha 57 (.bool false) KR KR ?_; clear ha a; intro a ha
            refine stepo ha 58 KR ?_; clear ha a; intro a ha
            refine stepp ha 59 (.bool false) KR KR ?_; clear ha a; intro a ha
            refine stepp ha 4 (.bool false) KR KR ?_; clear ha a; intro a ha
            refine endl ?_
            refine thenN (hK2391 _ _ ?_); clear hK2391
            refine wp_ret ?_
            refine thenR ?_
            obtain rfl := Option.some.inj h
            exact finv ha _ _ rfl (.tmp (v := .bool false) KR .nil) (.bool false) rfl ⟨rfl, HW.pick [] [] (by decide) (by decide) rfl KR⟩
end Go.Proofs.Ytccmdlbdpapigaa.F
