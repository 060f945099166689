/- headgate/headgatelaw13.wakes, headgate/headgatelaw13.UnitsApart: plain functions, and that the calls come to what they say. No condition. -/
import Derived.Test.YtdcojinnjpihaaaFT
import Derived.Test.YtdcojinnjpihaaaXObj
import Derived.Test.YtdcojinnjpihaaaXUnits
import Derived.Test.YtdcojinnjpihaaaF7
namespace Go.Proofs.Ytdcojinnjpihaaa.F
open Go Go.RowKit Go.Proofs.Ytdcojinnjpihaaa.X
set_option linter.unusedVariables false
set_option linter.unusedSimpArgs false
/-! ### headgate/headgatelaw13.wakes: function 9 -/
def headgatelaw13_wakes.f (K : Nat)  : Option Bool :=
  (units_New.f).bind fun t416 => ((units_Units_Add.f K t416 0 (⟨#[97]⟩ : ByteArray) 2).bind fun t429 => (if t429.1 = true then ((units_Units_Add.f K t429.2 0 (⟨#[97]⟩ : ByteArray) 3).bind fun t437 => (if t437.1 = true then ((units_Units_Add.f K t437.2 0 (⟨#[97]⟩ : ByteArray) 3).bind fun t445 => (if t445.1 = true then (some false) else ((units_Units_Take.f t445.2 0 (⟨#[97]⟩ : ByteArray)).bind fun t461 => ((units_Units_Take.f t461.2.2 0 (⟨#[97]⟩ : ByteArray)).bind fun t470 => ((units_Units_Take.f t470.2.2 0 (⟨#[97]⟩ : ByteArray)).bind fun t479 => (if t461.2.1 = true then (if t470.2.1 = true then (if t479.2.1 = true then (some false) else (if t461.1 = 2 then (some (t470.1 == 3)) else (some false))) else (some false)) else (some false))))))) else (some false))) else (some false)))
set_option maxRecDepth 100000 in
set_option maxHeartbeats 4000000 in
theorem headgatelaw13_wakes.calls (K : Nat)   (r : Bool) (w : World)  (h : headgatelaw13_wakes.f K  = some r) :
    Calls Try.prog 9 #[] w (fun e W' => e = .returned (.bool r) ∧ Wd w W' [] [] ) := by
  refine sxstart (n := 56) (l := []) Try.func9 rfl rfl (Nat.le_of_ble_eq_true KR) (subsA_nil _) ?_
  intro a ha
  have HW : Wd w w (([] : Blks) ++ ([] : Blks)) (([] : List OwnA)) := Wd.refl w
  unfold headgatelaw13_wakes.f at h
  refine wp_seq_k (fun K412 hK413 => ?_)
  refine wp_region_lit ?_
  refine stepp ha 0 (.bool false) KR KR ?_; clear ha a; intro a ha
  refine endl ?_
  refine thenN (hK413 _ _ ?_); clear hK413
  refine wp_seq_k (fun K414 hK415 => ?_)
  refine wp_region_lit ?_
  obtain ⟨t416, ht417, h_⟩ := bind_some' h; clear h; have h := h_; clear h_
  refine stepc ha 8 KR KR (units_New.calls t416 _ _ ([] : Blks) ([] : Blks) (([] : List OwnA)) (Wd.segs (ss := [([] : Blks)]) (bt := ([] : Blks)) (m := []) (ot := ([] : List OwnA)) [([] : Blks)] [] HW [0] [] [] KR KR (by decide) KR) ht417) ?_; clear ha a; rintro e W421 ⟨b418, U419, rfl, hU420n, HX422⟩
  refine ⟨_, rfl, ?_⟩; intro a ha; clear HW
  have hU420 := hU420n; clear hU420n
  have HW : Wd w W421 (U419 ++ (([] : Blks) ++ ([] : Blks))) (([] : List OwnA)) := Wd.segs (ss := [U419, ([] : Blks)]) (bt := ([] : Blks)) (m := []) (ot := ([] : List OwnA)) [U419, ([] : Blks)] [] HX422 [0, 1] [] [] KR KR (by decide) KR; clear HX422
  refine stepp ha 1 (.pointer (some ⟨b418, 0, none⟩)) KR KR ?_; clear ha a; intro a ha
  refine endl ?_
  refine thenN (hK415 _ _ ?_); clear hK415
  refine wp_seq_k (fun K425 hK426 => ?_)
  refine wp_seq_k (fun K427 hK428 => ?_)
  refine wp_region_lit ?_
  refine stepp ha 9 (.pointer (some ⟨b418, 0, none⟩)) KR KR ?_; clear ha a; intro a ha
  refine stepp ha 10 (.bool false) KR KR ?_; clear ha a; intro a ha
  refine stepp ha 11 (.bool false) KR KR ?_; clear ha a; intro a ha
  refine stepp ha 12 (.pointer (some ⟨b418, 0, none⟩)) KR KR ?_; clear ha a; intro a ha
  obtain ⟨t429, ht430, h_⟩ := bind_some' h; clear h; have h := h_; clear h_
  refine stepc ha 13 KR KR (units_Units_Add.calls K t416 0 (⟨#[97]⟩ : ByteArray) 2 b418 U419 t429 _ _ ([] : Blks) ([] : Blks) (([] : List OwnA)) hU420 (Wd.segs (ss := [U419, ([] : Blks)]) (bt := ([] : Blks)) (m := []) (ot := ([] : List OwnA)) [U419, ([] : Blks)] [] HW [0, 1] [] [] KR KR (by decide) KR) ht430) ?_; clear ha a; rintro e W432 ⟨U431, F434, rfl, hs435, hU420n, HX433⟩
  refine ⟨_, rfl, ?_⟩; intro a ha; clear HW
  clear hU420; have hU420 := hU420n; clear hU420n
  have HW : Wd w W432 (U431 ++ (F434 ++ ([] : Blks))) (([] : List OwnA)) := Wd.segs (ss := [U431, F434]) (bt := ([] : Blks)) (m := []) (ot := ([] : List OwnA)) [U431, F434] [] HX433 [0, 1] [] [] KR KR (by decide) KR; clear HX433
  refine stepp ha 14 (.bool (!t429.1)) KR KR ?_; clear ha a; intro a ha
  refine stepp ha 15 (.bool (!t429.1)) KR KR ?_; clear ha a; intro a ha
  refine stepp ha 16 (.bool (!t429.1)) KR KR ?_; clear ha a; intro a ha
  by_cases hp436 : t429.1 = true
  · skip
    replace h := ite_pos' h hp436
    replace ha := ha.bool 16 KR (not_f (hp436))
    refine stepp ha 17 (.pointer (some ⟨b418, 0, none⟩)) KR KR ?_; clear ha a; intro a ha
    obtain ⟨t437, ht438, h_⟩ := bind_some' h; clear h; have h := h_; clear h_
    refine stepc ha 18 KR KR (units_Units_Add.calls K t429.2 0 (⟨#[97]⟩ : ByteArray) 3 b418 U431 t437 _ _ F434 ([] : Blks) (([] : List OwnA)) hU420 (Wd.segs (ss := [U431, F434]) (bt := ([] : Blks)) (m := []) (ot := ([] : List OwnA)) [U431, F434] [] HW [0, 1] [] [] KR KR (by decide) KR) ht438) ?_; clear ha a; rintro e W440 ⟨U439, F442, rfl, hs443, hU420n, HX441⟩
    refine ⟨_, rfl, ?_⟩; intro a ha; clear HW
    clear hU420; have hU420 := hU420n; clear hU420n
    have HW : Wd w W440 (U439 ++ (F442 ++ ([] : Blks))) (([] : List OwnA)) := Wd.segs (ss := [U439, F442]) (bt := ([] : Blks)) (m := []) (ot := ([] : List OwnA)) [U439, F442] [] HX441 [0, 1] [] [] KR KR (by decide) KR; clear HX441
    refine stepp ha 19 (.bool (!t437.1)) KR KR ?_; clear ha a; intro a ha
    refine stepp ha 20 (.bool (!t437.1)) KR KR ?_; clear ha a; intro a ha
    refine stepp ha 21 (.bool (!t437.1)) KR KR ?_; clear ha a; intro a ha
    by_cases hp444 : t437.1 = true
    · skip
      replace h := ite_pos' h hp444
      replace ha := ha.bool 21 KR (not_f (hp444))
      refine stepp ha 22 (.pointer (some ⟨b418, 0, none⟩)) KR KR ?_; clear ha a; intro a ha
      obtain ⟨t445, ht446, h_⟩ := bind_some' h; clear h; have h := h_; clear h_
      refine stepc ha 23 KR KR (units_Units_Add.calls K t437.2 0 (⟨#[97]⟩ : ByteArray) 3 b418 U439 t445 _ _ F442 ([] : Blks) (([] : List OwnA)) hU420 (Wd.segs (ss := [U439, F442]) (bt := ([] : Blks)) (m := []) (ot := ([] : List OwnA)) [U439, F442] [] HW [0, 1] [] [] KR KR (by decide) KR) ht446) ?_; clear ha a; rintro e W448 ⟨U447, F450, rfl, hs451, hU420n, HX449⟩
      refine ⟨_, rfl, ?_⟩; intro a ha; clear HW
      clear hU420; have hU420 := hU420n; clear hU420n
      have HW : Wd w W448 (U447 ++ (F450 ++ ([] : Blks))) (([] : List OwnA)) := Wd.segs (ss := [U447, F450]) (bt := ([] : Blks)) (m := []) (ot := ([] : List OwnA)) [U447, F450] [] HX449 [0, 1] [] [] KR KR (by decide) KR; clear HX449
      refine stepp ha 24 (.bool t445.1) KR KR ?_; clear ha a; intro a ha
      refine endl ?_
      refine thenN (hK428 _ _ ?_); clear hK428
      by_cases hp452 : t445.1 = true
      · skip
        replace h := ite_pos' h hp452
        refine condT ha KR KR (t := t445.1) (hp452) ?_
        refine wp_seq_k (fun K453 hK454 => ?_)
        refine wp_region_lit ?_
        refine stepp ha 0 (.bool false) KR KR ?_; clear ha a; intro a ha
        refine endl ?_
        refine thenN (hK454 _ _ ?_); clear hK454
        refine wp_ret ?_
        refine thenR ?_
        obtain rfl := Option.some.inj h
        exact finv ha _ _ rfl (.tmp (v := .bool false) KR .nil) (.bool false) rfl ⟨rfl, HW.pick [] [] (by decide) (by decide) rfl KR⟩
      · skip
        replace h := ite_neg' h hp452
        refine condF ha KR KR (t := t445.1) (bool_f hp452) ?_
        refine wp_skip ?_
        refine thenN (hK426 _ _ ?_); clear hK426
        refine wp_seq_k (fun K459 hK460 => ?_)
        refine wp_region_lit ?_
        refine stepp ha 26 (.pointer (some ⟨b418, 0, none⟩)) KR KR ?_; clear ha a; intro a ha
        obtain ⟨t461, ht462, h_⟩ := bind_some' h; clear h; have h := h_; clear h_
        refine stepc ha 27 KR KR (units_Units_Take.calls t445.2 0 (⟨#[97]⟩ : ByteArray) b418 U447 t461 _ _ F450 ([] : Blks) (([] : List OwnA)) hU420 (Wd.segs (ss := [U447, F450]) (bt := ([] : Blks)) (m := []) (ot := ([] : List OwnA)) [U447, F450] [] HW [0, 1] [] [] KR KR (by decide) KR) ht462) ?_; clear ha a; rintro e W464 ⟨U463, rfl, hU420n, HX465⟩
        refine ⟨_, rfl, ?_⟩; intro a ha; clear HW
        clear hU420; have hU420 := hU420n; clear hU420n
        have HW : Wd w W464 (U463 ++ (F450 ++ ([] : Blks))) (([] : List OwnA)) := Wd.segs (ss := [U463, F450]) (bt := ([] : Blks)) (m := []) (ot := ([] : List OwnA)) [U463, F450] [] HX465 [0, 1] [] [] KR KR (by decide) KR; clear HX465
        refine stepp ha 25 (.tuple #[.int .i64 t461.1, .bool t461.2.1]) KR KR ?_; clear ha a; intro a ha
        refine stepp ha 28 (.int .i64 t461.1) KR KR ?_; clear ha a; intro a ha
        refine stepp ha 29 (.bool t461.2.1) KR KR ?_; clear ha a; intro a ha
        refine stepp ha 2 (.int .i64 t461.1) KR KR ?_; clear ha a; intro a ha
        refine stepp ha 3 (.bool t461.2.1) KR KR ?_; clear ha a; intro a ha
        refine endl ?_
        refine thenN (hK460 _ _ ?_); clear hK460
        refine wp_seq_k (fun K468 hK469 => ?_)
        refine wp_region_lit ?_
        refine stepp ha 31 (.pointer (some ⟨b418, 0, none⟩)) KR KR ?_; clear ha a; intro a ha
        obtain ⟨t470, ht471, h_⟩ := bind_some' h; clear h; have h := h_; clear h_
        refine stepc ha 32 KR KR (units_Units_Take.calls t461.2.2 0 (⟨#[97]⟩ : ByteArray) b418 U463 t470 _ _ F450 ([] : Blks) (([] : List OwnA)) hU420 (Wd.segs (ss := [U463, F450]) (bt := ([] : Blks)) (m := []) (ot := ([] : List OwnA)) [U463, F450] [] HW [0, 1] [] [] KR KR (by decide) KR) ht471) ?_; clear ha a; rintro e W473 ⟨U472, rfl, hU420n, HX474⟩
        refine ⟨_, rfl, ?_⟩; intro a ha; clear HW
        clear hU420; have hU420 := hU420n; clear hU420n
        have HW : Wd w W473 (U472 ++ (F450 ++ ([] : Blks))) (([] : List OwnA)) := Wd.segs (ss := [U472, F450]) (bt := ([] : Blks)) (m := []) (ot := ([] : List OwnA)) [U472, F450] [] HX474 [0, 1] [] [] KR KR (by decide) KR; clear HX474
        refine stepp ha 30 (.tuple #[.int .i64 t470.1, .bool t470.2.1]) KR KR ?_; clear ha a; intro a ha
        refine stepp ha 33 (.int .i64 t470.1) KR KR ?_; clear ha a; intro a ha
        refine stepp ha 34 (.bool t470.2.1) KR KR ?_; clear ha a; intro a ha
        refine stepp ha 4 (.int .i64 t470.1) KR KR ?_; clear ha a; intro a ha
        refine stepp ha 5 (.bool t470.2.1) KR KR ?_; clear ha a; intro a ha
        refine endl ?_
        refine thenN (hK469 _ _ ?_); clear hK469
        refine wp_seq_k (fun K477 hK478 => ?_)
        refine wp_region_lit ?_
        refine stepp ha 36 (.pointer (some ⟨b418, 0, none⟩)) KR KR ?_; clear ha a; intro a ha
        obtain ⟨t479, ht480, h_⟩ := bind_some' h; clear h; have h := h_; clear h_
        refine stepc ha 37 KR KR (units_Units_Take.calls t470.2.2 0 (⟨#[97]⟩ : ByteArray) b418 U472 t479 _ _ F450 ([] : Blks) (([] : List OwnA)) hU420 (Wd.segs (ss := [U472, F450]) (bt := ([] : Blks)) (m := []) (ot := ([] : List OwnA)) [U472, F450] [] HW [0, 1] [] [] KR KR (by decide) KR) ht480) ?_; clear ha a; rintro e W482 ⟨U481, rfl, hU420n, HX483⟩
        refine ⟨_, rfl, ?_⟩; intro a ha; clear HW
        clear hU420; have hU420 := hU420n; clear hU420n
        have HW : Wd w W482 (U481 ++ (F450 ++ ([] : Blks))) (([] : List OwnA)) := Wd.segs (ss := [U481, F450]) (bt := ([] : Blks)) (m := []) (ot := ([] : List OwnA)) [U481, F450] [] HX483 [0, 1] [] [] KR KR (by decide) KR; clear HX483
        refine stepp ha 35 (.tuple #[.int .i64 t479.1, .bool t479.2.1]) KR KR ?_; clear ha a; intro a ha
        refine stepp ha 38 (.int .i64 t479.1) KR KR ?_; clear ha a; intro a ha
        refine stepp ha 39 (.bool t479.2.1) KR KR ?_; clear ha a; intro a ha
        refine stepp ha 6 (.int .i64 t479.1) KR KR ?_; clear ha a; intro a ha
        refine stepp ha 7 (.bool t479.2.1) KR KR ?_; clear ha a; intro a ha
        refine endl ?_
        refine thenN (hK478 _ _ ?_); clear hK478
        refine wp_seq_k (fun K486 hK487 => ?_)
        refine wp_region_lit ?_
        refine stepp ha 40 (.bool t461.2.1) KR KR ?_; clear ha a; intro a ha
        refine stepp ha 41 (.bool t461.2.1) KR KR ?_; clear ha a; intro a ha
        by_cases hp488 : t461.2.1 = true
        · skip
          replace h := ite_pos' h hp488
          replace ha := ha.bool 41 KR (hp488)
          refine stepp ha 42 (.bool t470.2.1) KR KR ?_; clear ha a; intro a ha
          refine stepp ha 43 (.bool t470.2.1) KR KR ?_; clear ha a; intro a ha
          refine stepp ha 44 (.bool t470.2.1) KR KR ?_; clear ha a; intro a ha
          by_cases hp489 : t470.2.1 = true
          · skip
            replace h := ite_pos' h hp489
            replace ha := ha.bool 44 KR (hp489)
            refine stepp ha 45 (.bool t479.2.1) KR KR ?_; clear ha a; intro a ha
            refine stepp ha 46 (.bool (!t479.2.1)) KR KR ?_; clear ha a; intro a ha
            refine stepp ha 47 (.bool (!t479.2.1)) KR KR ?_; clear ha a; intro a ha
            refine stepp ha 48 (.bool (!t479.2.1)) KR KR ?_; clear ha a; intro a ha
            by_cases hp490 : t479.2.1 = true
            · skip
              replace h := ite_pos' h hp490
              replace ha := ha.bool 48 KR (not_f (hp490))
              refine stepo ha 49 KR ?_; clear ha a; intro a ha
              refine stepo ha 50 KR ?_; clear ha a; intro a ha
              refine stepp ha 51 (.bool false) KR KR ?_; clear ha a; intro a ha
              refine stepp ha 52 (.bool false) KR KR ?_; clear ha a; intro a ha
              refine stepo ha 53 KR ?_; clear ha a; intro a ha
              refine stepo ha 54 KR ?_; clear ha a; intro a ha
              refine stepp ha 55 (.bool false) KR KR ?_; clear ha a; intro a ha
              refine stepp ha 0 (.bool false) KR KR ?_; clear ha a; intro a ha
              refine endl ?_
              refine thenN (hK487 _ _ ?_); clear hK487
              refine wp_ret ?_
              obtain rfl := Option.some.inj h
              exact finv ha _ _ rfl (.tmp (v := .bool false) KR .nil) (.bool false) rfl ⟨rfl, HW.pick [] [] (by decide) (by decide) rfl KR⟩
            · skip
              replace h := ite_neg' h hp490
              replace ha := ha.bool 48 KR (not_t (bool_f hp490))
              refine stepp ha 49 (.int .i64 t461.1) KR KR ?_; clear ha a; intro a ha
              refine stepp ha 50 (.bool (t461.1 == 2)) KR KR ?_; clear ha a; intro a ha
              refine stepp ha 51 (.bool (t461.1 == 2)) KR KR ?_; clear ha a; intro a ha
              refine stepp ha 52 (.bool (t461.1 == 2)) KR KR ?_; clear ha a; intro a ha
              by_cases hp491 : t461.1 = 2
              · skip
                replace h := ite_pos' h hp491
                replace ha := ha.bool 52 KR (ieq_t hp491)
                refine stepp ha 53 (.int .i64 t470.1) KR KR ?_; clear ha a; intro a ha
                refine stepp ha 54 (.bool (t470.1 == 3)) KR KR ?_; clear ha a; intro a ha
                refine stepp ha 55 (.bool (t470.1 == 3)) KR KR ?_; clear ha a; intro a ha
                refine stepp ha 0 (.bool (t470.1 == 3)) KR KR ?_; clear ha a; intro a ha
                refine endl ?_
                refine thenN (hK487 _ _ ?_); clear hK487
                refine wp_ret ?_
                obtain rfl := Option.some.inj h
                exact finv ha _ _ rfl (.tmp (v := .bool (t470.1 == 3)) KR .nil) (.bool (t470.1 == 3)) rfl ⟨rfl, HW.pick [] [] (by decide) (by decide) rfl KR⟩
              · skip
                replace h := ite_neg' h hp491
                replace ha := ha.bool 52 KR (ieq_f hp491)
                refine stepo ha 53 KR ?_; clear ha a; intro a ha
                refine stepo ha 54 KR ?_; clear ha a; intro a ha
                refine stepp ha 55 (.bool false) KR KR ?_; clear ha a; intro a ha
                refine stepp ha 0 (.bool false) KR KR ?_; clear ha a; intro a ha
                refine endl ?_
                refine thenN (hK487 _ _ ?_); clear hK487
                refine wp_ret ?_
                obtain rfl := Option.some.inj h
                exact finv ha _ _ rfl (.tmp (v := .bool false) KR .nil) (.bool false) rfl ⟨rfl, HW.pick [] [] (by decide) (by decide) rfl KR⟩
          · skip
            replace h := ite_neg' h hp489
            replace ha := ha.bool 44 KR (bool_f hp489)
            refine stepo ha 45 KR ?_; clear ha a; intro a ha
            refine stepo ha 46 KR ?_; clear ha a; intro a ha
            refine stepp ha 47 (.bool false) KR KR ?_; clear ha a; intro a ha
            refine stepp ha 48 (.bool false) KR KR ?_; clear ha a; intro a ha
            refine stepo ha 49 KR ?_; clear ha a; intro a ha
            refine stepo ha 50 KR ?_; clear ha a; intro a ha
            refine stepp ha 51 (.bool false) KR KR ?_; clear ha a; intro a ha
            refine stepp ha 52 (.bool false) KR KR ?_; clear ha a; intro a ha
            refine stepo ha 53 KR ?_; clear ha a; intro a ha
            refine stepo ha 54 KR ?_; clear ha a; intro a ha
            refine stepp ha 55 (.bool false) KR KR ?_; clear ha a; intro a ha
            refine stepp ha 0 (.bool false) KR KR ?_; clear ha a; intro a ha
            refine endl ?_
            refine thenN (hK487 _ _ ?_); clear hK487
            refine wp_ret ?_
            obtain rfl := Option.some.inj h
            exact finv ha _ _ rfl (.tmp (v := .bool false) KR .nil) (.bool false) rfl ⟨rfl, HW.pick [] [] (by decide) (by decide) rfl KR⟩
        · skip
          replace h := ite_neg' h hp488
          replace ha := ha.bool 41 KR (bool_f hp488)
          refine stepo ha 42 KR ?_; clear ha a; intro a ha
          refine stepp ha 43 (.bool false) KR KR ?_; clear ha a; intro a ha
          refine stepp ha 44 (.bool false) KR KR ?_; clear ha a; intro a ha
          refine stepo ha 45 KR ?_; clear ha a; intro a ha
          refine stepo ha 46 KR ?_; clear ha a; intro a ha
          refine stepp ha 47 (.bool false) KR KR ?_; clear ha a; intro a ha
          refine stepp ha 48 (.bool false) KR KR ?_; clear ha a; intro a ha
          refine stepo ha 49 KR ?_; clear ha a; intro a ha
          refine stepo ha 50 KR ?_; clear ha a; intro a ha
          refine stepp ha 51 (.bool false) KR KR ?_; clear ha a; intro a ha
          refine stepp ha 52 (.bool false) KR KR ?_; clear ha a; intro a ha
          refine stepo ha 53 KR ?_; clear ha a; intro a ha
          refine stepo ha 54 KR ?_; clear ha a; intro a ha
          refine stepp ha 55 (.bool false) KR KR ?_; clear ha a; intro a ha
          refine stepp ha 0 (.bool false) KR KR ?_; clear ha a; intro a ha
          refine endl ?_
          refine thenN (hK487 _ _ ?_); clear hK487
          refine wp_ret ?_
          obtain rfl := Option.some.inj h
          exact finv ha _ _ rfl (.tmp (v := .bool false) KR .nil) (.bool false) rfl ⟨rfl, HW.pick [] [] (by decide) (by decide) rfl KR⟩
    · skip
      replace h := ite_neg' h hp444
      replace ha := ha.bool 21 KR (not_t (bool_f hp444))
      refine stepo ha 22 KR ?_; clear ha a; intro a ha
      refine stepo ha 23 KR ?_; clear ha a; intro a ha
      refine stepp ha 24 (.bool true) KR KR ?_; clear ha a; intro a ha
      refine endl ?_
      refine thenN (hK428 _ _ ?_); clear hK428
      refine condT ha KR KR (t := true) (rfl) ?_
      refine wp_seq_k (fun K455 hK456 => ?_)
      refine wp_region_lit ?_
      refine stepp ha 0 (.bool false) KR KR ?_; clear ha a; intro a ha
      refine endl ?_
      refine thenN (hK456 _ _ ?_); clear hK456
      refine wp_ret ?_
      refine thenR ?_
      obtain rfl := Option.some.inj h
      exact finv ha _ _ rfl (.tmp (v := .bool false) KR .nil) (.bool false) rfl ⟨rfl, HW.pick [] [] (by decide) (by decide) rfl KR⟩
  · skip
    replace h := ite_neg' h hp436
    replace ha := ha.bool 16 KR (not_t (bool_f hp436))
    refine stepo ha 17 KR ?_; clear ha a; intro a ha
    refine stepo ha 18 KR ?_; clear ha a; intro a ha
    refine stepo ha 19 KR ?_; clear ha a; intro a ha
    refine stepp ha 20 (.bool true) KR KR ?_; clear ha a; intro a ha
    refine stepp ha 21 (.bool true) KR KR ?_; clear ha a; intro a ha
    refine stepo ha 22 KR ?_; clear ha a; intro a ha
    refine stepo ha 23 KR ?_; clear ha a; intro a ha
    refine stepp ha 24 (.bool true) KR KR ?_; clear ha a; intro a ha
    refine endl ?_
    refine thenN (hK428 _ _ ?_); clear hK428
    refine condT ha KR KR (t := true) (rfl) ?_
    refine wp_seq_k (fun K457 hK458 => ?_)
    refine wp_region_lit ?_
    refine stepp ha 0 (.bool false) KR KR ?_; clear ha a; intro a ha
    refine endl ?_
    refine thenN (hK458 _ _ ?_); clear hK458
    refine wp_ret ?_
    refine thenR ?_
    obtain rfl := Option.some.inj h
    exact finv ha _ _ rfl (.tmp (v := .bool false) KR .nil) (.bool false) rfl ⟨rfl, HW.pick [] [] (by decide) (by decide) rfl KR⟩
/-! ### headgate/headgatelaw13.UnitsApart: function 3 -/
def headgatelaw13_UnitsApart.j1 (K : Nat) (a0 : T_headgatelaw13_Step) (x850 : UMap) : Option Bool :=
  (units_Units_Take.f x850 a0.f1 a0.f2).bind fun t856 => (if t856.2.1 = true then (if t856.1 = a0.f3 then ((units_Units_Wait.f t856.2.2 a0.f1 a0.f2).bind fun t867 => (if t867.1 = 0 then ((headgatelaw13_wakes.f K).bind fun t875 => (some t875)) else (some false))) else (some false)) else (some false))
def headgatelaw13_UnitsApart.b0 (K : Nat) (a0 : T_headgatelaw13_Step) (a1 : List T_headgatelaw13_Step) (again759 : Int → UMap → Option Bool) (x761 : Int) (x762 : UMap) : Option Bool :=
  if x761 < (a1.length : Int) then (if x761 < 60 then (asrt (0 ≤ x761) (if (((rdL T_headgatelaw13_Step.z a1 x761).f2).size : Int) > 1000 then (again759 (IntKind.wrap .i64 (x761 + 1)) x762) else (if ((rdL T_headgatelaw13_Step.z a1 x761).f2) = a0.f2 then (if ((rdL T_headgatelaw13_Step.z a1 x761).f1) = a0.f1 then (again759 (IntKind.wrap .i64 (x761 + 1)) x762) else (if ((rdL T_headgatelaw13_Step.z a1 x761).f0) = 2 then (again759 (IntKind.wrap .i64 (x761 + 1)) x762) else (if ((rdL T_headgatelaw13_Step.z a1 x761).f0) = 0 then ((units_Units_Add.f K x762 ((rdL T_headgatelaw13_Step.z a1 x761).f1) ((rdL T_headgatelaw13_Step.z a1 x761).f2) ((rdL T_headgatelaw13_Step.z a1 x761).f3)).bind fun t798 => (again759 (IntKind.wrap .i64 (x761 + 1)) t798.2)) else (if ((rdL T_headgatelaw13_Step.z a1 x761).f0) = 1 then ((units_Units_Take.f x762 ((rdL T_headgatelaw13_Step.z a1 x761).f1) ((rdL T_headgatelaw13_Step.z a1 x761).f2)).bind fun t808 => (again759 (IntKind.wrap .i64 (x761 + 1)) t808.2.2)) else (again759 (IntKind.wrap .i64 (x761 + 1)) x762))))) else (if ((rdL T_headgatelaw13_Step.z a1 x761).f0) = 0 then ((units_Units_Add.f K x762 ((rdL T_headgatelaw13_Step.z a1 x761).f1) ((rdL T_headgatelaw13_Step.z a1 x761).f2) ((rdL T_headgatelaw13_Step.z a1 x761).f3)).bind fun t822 => (again759 (IntKind.wrap .i64 (x761 + 1)) t822.2)) else (if ((rdL T_headgatelaw13_Step.z a1 x761).f0) = 1 then ((units_Units_Take.f x762 ((rdL T_headgatelaw13_Step.z a1 x761).f1) ((rdL T_headgatelaw13_Step.z a1 x761).f2)).bind fun t832 => (again759 (IntKind.wrap .i64 (x761 + 1)) t832.2.2)) else (if ((rdL T_headgatelaw13_Step.z a1 x761).f0) = 2 then ((units_Units_Forget.f K x762 ((rdL T_headgatelaw13_Step.z a1 x761).f2)).bind fun t842 => (again759 (IntKind.wrap .i64 (x761 + 1)) t842)) else (again759 (IntKind.wrap .i64 (x761 + 1)) x762))))))) else (headgatelaw13_UnitsApart.j1 K a0 x762)) else (headgatelaw13_UnitsApart.j1 K a0 x762)
def headgatelaw13_UnitsApart.l0 (K : Nat) (a0 : T_headgatelaw13_Step) (a1 : List T_headgatelaw13_Step) : Nat → Int → UMap → Option Bool
  | 0, _, _ => none
  | k_ + 1, x761, x762 => headgatelaw13_UnitsApart.b0 K a0 a1 (headgatelaw13_UnitsApart.l0 K a0 a1 k_) x761 x762
def headgatelaw13_UnitsApart.j0 (K : Nat) (a0 : T_headgatelaw13_Step) (a1 : List T_headgatelaw13_Step) (x575 : Bool) (x576 : UMap) : Option Bool :=
  if x575 = true then ((headgatelaw13_wakes.f K).bind fun t583 => (some t583)) else (headgatelaw13_UnitsApart.l0 K a0 a1 K 0 x576)
def headgatelaw13_UnitsApart.f (K : Nat) (a0 : T_headgatelaw13_Step) (a1 : List T_headgatelaw13_Step) : Option Bool :=
  (units_New.f).bind fun t553 => (if (a0.f2.size : Int) > 1000 then (headgatelaw13_UnitsApart.j0 K a0 a1 true t553) else ((units_Units_Add.f K t553 a0.f1 a0.f2 a0.f3).bind fun t567 => (headgatelaw13_UnitsApart.j0 K a0 a1 (!t567.1) t567.2)))
set_option maxRecDepth 100000 in
set_option maxHeartbeats 4000000 in
theorem headgatelaw13_UnitsApart.calls (K : Nat) (a0 : T_headgatelaw13_Step) (a1 : List T_headgatelaw13_Step) (A1_0 : Option Addr) (c1_0 : Nat) (r : Bool) (w : World) (hr1_0 : Rd 4 w (.slice A1_0 a1.length c1_0) a1.length (encs T_headgatelaw13_Step.enc a1)) (h : headgatelaw13_UnitsApart.f K a0 a1 = some r) :
    Calls Try.prog 3 #[.agg #[.int .i64 a0.f0, .int .i64 a0.f1, .string a0.f2, .int .i64 a0.f3], .slice A1_0 a1.length c1_0] w (fun e W' => e = .returned (.bool r) ∧ Wd w W' [] [] ) := by
  refine sxstart (n := 126) (l := [(0, .agg #[.int .i64 a0.f0, .int .i64 a0.f1, .string a0.f2, .int .i64 a0.f3]), (1, .slice A1_0 a1.length c1_0)]) Try.func3 rfl rfl (Nat.le_of_ble_eq_true KR) (subsA_cons rfl (subsA_cons rfl (subsA_nil _))) ?_
  intro a ha
  have HW : Wd w w (([] : Blks) ++ ([] : Blks)) (([] : List OwnA)) := Wd.refl w
  unfold headgatelaw13_UnitsApart.f at h
  refine wp_seq_k (fun K547 hK548 => ?_)
  refine wp_region_lit ?_
  refine stepnew ha HW 2 #[.int .i64 a0.f0, .int .i64 a0.f1, .string a0.f2, .int .i64 a0.f3] 23 KR KR ?_; clear ha HW a; intro b549 a W550 HW ha
  refine stepp ha 4 (.bool false) KR KR ?_; clear ha a; intro a ha
  refine endl ?_
  refine thenN (hK548 _ _ ?_); clear hK548
  refine wp_seq_k (fun K551 hK552 => ?_)
  refine wp_region_lit ?_
  obtain ⟨t553, ht554, h_⟩ := bind_some' h; clear h; have h := h_; clear h_
  refine stepc ha 10 KR KR (units_New.calls t553 _ _ ([] : Blks) ([(b549, .cells #[.int .i64 a0.f0, .int .i64 a0.f1, .string a0.f2, .int .i64 a0.f3] 23 (0, 0))] ++ (([] : Blks))) (([] : List OwnA)) (Wd.segs (ss := [[(b549, .cells #[.int .i64 a0.f0, .int .i64 a0.f1, .string a0.f2, .int .i64 a0.f3] 23 (0, 0))], ([] : Blks)]) (bt := ([] : Blks)) (m := []) (ot := ([] : List OwnA)) [([] : Blks), [(b549, .cells #[.int .i64 a0.f0, .int .i64 a0.f1, .string a0.f2, .int .i64 a0.f3] 23 (0, 0))]] [] HW [1, 0] [] [] KR KR (by decide) KR) ht554) ?_; clear ha a; rintro e W558 ⟨b555, U556, rfl, hU557n, HX559⟩
  refine ⟨_, rfl, ?_⟩; intro a ha; clear HW
  have hU557 := hU557n; clear hU557n
  have HW : Wd w W558 ((b549, .cells #[.int .i64 a0.f0, .int .i64 a0.f1, .string a0.f2, .int .i64 a0.f3] 23 (0, 0)) :: U556 ++ (([] : Blks) ++ ([] : Blks))) (([] : List OwnA)) := Wd.segs (ss := [U556, ([] : Blks), [(b549, .cells #[.int .i64 a0.f0, .int .i64 a0.f1, .string a0.f2, .int .i64 a0.f3] 23 (0, 0))]]) (bt := ([] : Blks)) (m := []) (ot := ([] : List OwnA)) [[(b549, .cells #[.int .i64 a0.f0, .int .i64 a0.f1, .string a0.f2, .int .i64 a0.f3] 23 (0, 0))], U556, ([] : Blks)] [] HX559 [2, 0, 1] [] [] KR KR (by decide) KR; clear HX559
  refine stepp ha 5 (.pointer (some ⟨b555, 0, none⟩)) KR KR ?_; clear ha a; intro a ha
  refine endl ?_
  refine thenN (hK552 _ _ ?_); clear hK552
  refine wp_seq_k (fun K562 hK563 => ?_)
  refine wp_seq_k (fun K564 hK565 => ?_)
  refine cutn (fun a W579 => ∃ (F574 : Blks), ∃ (x575 : Bool), ∃ (x576 : UMap), ∃ (U577 : Blks), headgatelaw13_UnitsApart.j0 K a0 a1 x575 x576 = some r ∧ Has 126 [(1, .slice A1_0 a1.length c1_0), (2, .pointer (some ⟨b549, 0, none⟩)), (5, .pointer (some ⟨b555, 0, none⟩)), (29, .bool x575)] a ∧ Wd w W579 ((b549, .cells #[.int .i64 a0.f0, .int .i64 a0.f1, .string a0.f2, .int .i64 a0.f3] 23 (0, 0)) :: U577 ++ (F574 ++ ([] : Blks))) (([] : List OwnA)) ∧ UAt w F574 b555 x576 U577) ?_ ?_
  · skip
    refine wp_region_lit ?_
    refine stepp ha 11 (.pointer (some ⟨b555, 0, none⟩)) KR KR ?_; clear ha a; intro a ha
    refine stepp ha 12 (.bool false) KR KR ?_; clear ha a; intro a ha
    refine stepp ha 13 (.bool false) KR KR ?_; clear ha a; intro a ha
    refine stepp ha 14 (.pointer (some ⟨b549, 2, none⟩)) KR KR ?_; clear ha a; intro a ha
    refine stepl ha 15 (HW.ca (i := 0) (b := b549) (C := #[.int .i64 a0.f0, .int .i64 a0.f1, .string a0.f2, .int .i64 a0.f3]) (T := 23) (fr := (0, 0)) KR) 9 2 (.tmp 14) (.string a0.f2) rfl KR KR KR ?_; clear ha a; intro a ha
    refine stepp ha 16 (.int .i64 (a0.f2.size : Int)) KR KR ?_; clear ha a; intro a ha
    refine stepp ha 17 (.bool (decide ((a0.f2.size : Int) > 1000))) KR KR ?_; clear ha a; intro a ha
    refine stepp ha 18 (.bool (decide ((a0.f2.size : Int) > 1000))) KR KR ?_; clear ha a; intro a ha
    refine stepp ha 19 (.bool (decide ((a0.f2.size : Int) > 1000))) KR KR ?_; clear ha a; intro a ha
    by_cases hp566 : (a0.f2.size : Int) > 1000
    · skip
      replace h := ite_pos' h hp566
      replace ha := ha.bool 19 KR (decide_eq_true hp566)
      refine stepo ha 20 KR ?_; clear ha a; intro a ha
      refine stepo ha 21 KR ?_; clear ha a; intro a ha
      refine stepo ha 22 KR ?_; clear ha a; intro a ha
      refine stepo ha 23 KR ?_; clear ha a; intro a ha
      refine stepo ha 24 KR ?_; clear ha a; intro a ha
      refine stepo ha 25 KR ?_; clear ha a; intro a ha
      refine stepo ha 26 KR ?_; clear ha a; intro a ha
      refine stepo ha 27 KR ?_; clear ha a; intro a ha
      refine stepo ha 28 KR ?_; clear ha a; intro a ha
      refine stepp ha 29 (.bool true) KR KR ?_; clear ha a; intro a ha
      refine endl ?_
      exact thenN ⟨([] : Blks), true, t553, U556, h, ha.sub (subs_cons KR (subs_cons KR (subs_cons KR (subs_cons KR (subs_nil _))))), (Wd.segs (ss := [[(b549, .cells #[.int .i64 a0.f0, .int .i64 a0.f1, .string a0.f2, .int .i64 a0.f3] 23 (0, 0))], U556, ([] : Blks)]) (bt := ([] : Blks)) (m := []) (ot := ([] : List OwnA)) [[(b549, .cells #[.int .i64 a0.f0, .int .i64 a0.f1, .string a0.f2, .int .i64 a0.f3] 23 (0, 0))], U556, ([] : Blks)] [] HW [0, 1, 2] [] [] KR KR (by decide) KR), hU557⟩
    · skip
      replace h := ite_neg' h hp566
      replace ha := ha.bool 19 KR (decide_eq_false hp566)
      refine stepp ha 20 (.pointer (some ⟨b555, 0, none⟩)) KR KR ?_; clear ha a; intro a ha
      refine stepp ha 21 (.pointer (some ⟨b549, 1, none⟩)) KR KR ?_; clear ha a; intro a ha
      refine stepl ha 22 (HW.ca (i := 0) (b := b549) (C := #[.int .i64 a0.f0, .int .i64 a0.f1, .string a0.f2, .int .i64 a0.f3]) (T := 23) (fr := (0, 0)) KR) 3 1 (.tmp 21) (.int .i64 a0.f1) rfl KR KR KR ?_; clear ha a; intro a ha
      refine stepp ha 23 (.pointer (some ⟨b549, 2, none⟩)) KR KR ?_; clear ha a; intro a ha
      refine stepl ha 24 (HW.ca (i := 0) (b := b549) (C := #[.int .i64 a0.f0, .int .i64 a0.f1, .string a0.f2, .int .i64 a0.f3]) (T := 23) (fr := (0, 0)) KR) 9 2 (.tmp 23) (.string a0.f2) rfl KR KR KR ?_; clear ha a; intro a ha
      refine stepp ha 25 (.pointer (some ⟨b549, 3, none⟩)) KR KR ?_; clear ha a; intro a ha
      refine stepl ha 26 (HW.ca (i := 0) (b := b549) (C := #[.int .i64 a0.f0, .int .i64 a0.f1, .string a0.f2, .int .i64 a0.f3]) (T := 23) (fr := (0, 0)) KR) 3 3 (.tmp 25) (.int .i64 a0.f3) rfl KR KR KR ?_; clear ha a; intro a ha
      obtain ⟨t567, ht568, h_⟩ := bind_some' h; clear h; have h := h_; clear h_
      refine stepc ha 27 KR KR (units_Units_Add.calls K t553 a0.f1 a0.f2 a0.f3 b555 U556 t567 _ _ ([] : Blks) ([(b549, .cells #[.int .i64 a0.f0, .int .i64 a0.f1, .string a0.f2, .int .i64 a0.f3] 23 (0, 0))] ++ (([] : Blks))) (([] : List OwnA)) hU557 (Wd.segs (ss := [[(b549, .cells #[.int .i64 a0.f0, .int .i64 a0.f1, .string a0.f2, .int .i64 a0.f3] 23 (0, 0))], U556, ([] : Blks)]) (bt := ([] : Blks)) (m := []) (ot := ([] : List OwnA)) [U556, ([] : Blks), [(b549, .cells #[.int .i64 a0.f0, .int .i64 a0.f1, .string a0.f2, .int .i64 a0.f3] 23 (0, 0))]] [] HW [1, 2, 0] [] [] KR KR (by decide) KR) ht568) ?_; clear ha a; rintro e W570 ⟨U569, F572, rfl, hs573, hU557n, HX571⟩
      refine ⟨_, rfl, ?_⟩; intro a ha; clear HW
      clear hU557; have hU557 := hU557n; clear hU557n
      have HW : Wd w W570 ((b549, .cells #[.int .i64 a0.f0, .int .i64 a0.f1, .string a0.f2, .int .i64 a0.f3] 23 (0, 0)) :: U569 ++ (F572 ++ ([] : Blks))) (([] : List OwnA)) := Wd.segs (ss := [U569, F572, [(b549, .cells #[.int .i64 a0.f0, .int .i64 a0.f1, .string a0.f2, .int .i64 a0.f3] 23 (0, 0))]]) (bt := ([] : Blks)) (m := []) (ot := ([] : List OwnA)) [[(b549, .cells #[.int .i64 a0.f0, .int .i64 a0.f1, .string a0.f2, .int .i64 a0.f3] 23 (0, 0))], U569, F572] [] HX571 [2, 0, 1] [] [] KR KR (by decide) KR; clear HX571
      refine stepp ha 28 (.bool (!t567.1)) KR KR ?_; clear ha a; intro a ha
      refine stepp ha 29 (.bool (!t567.1)) KR KR ?_; clear ha a; intro a ha
      refine endl ?_
      exact thenN ⟨F572, (!t567.1), t567.2, U569, h, ha.sub (subs_cons KR (subs_cons KR (subs_cons KR (subs_cons KR (subs_nil _))))), (Wd.segs (ss := [[(b549, .cells #[.int .i64 a0.f0, .int .i64 a0.f1, .string a0.f2, .int .i64 a0.f3] 23 (0, 0))], U569, F572]) (bt := ([] : Blks)) (m := []) (ot := ([] : List OwnA)) [[(b549, .cells #[.int .i64 a0.f0, .int .i64 a0.f1, .string a0.f2, .int .i64 a0.f3] 23 (0, 0))], U569, F572] [] HW [0, 1, 2] [] [] KR KR (by decide) KR), hU557⟩
  · skip
    intro a W579 hJ
    obtain ⟨F574, x575, x576, U577, h, ha, HW, hU578⟩ := hJ
    replace h : headgatelaw13_UnitsApart.j0 K a0 a1 x575 x576 = some r := h
    unfold headgatelaw13_UnitsApart.j0 at h
    refine hK565 _ _ ?_; clear hK565
    by_cases hp580 : x575 = true
    · skip
      replace h := ite_pos' h hp580
      refine condT ha KR KR (t := x575) (hp580) ?_
      refine wp_seq_k (fun K581 hK582 => ?_)
      refine wp_region_lit ?_
      refine stepp ha 30 (.pointer (some ⟨b555, 0, none⟩)) KR KR ?_; clear ha a; intro a ha
      refine stepp ha 31 (.bool true) KR KR ?_; clear ha a; intro a ha
      refine stepp ha 32 (.bool true) KR KR ?_; clear ha a; intro a ha
      obtain ⟨t583, ht584, h_⟩ := bind_some' h; clear h; have h := h_; clear h_
      refine stepc ha 33 KR KR (headgatelaw13_wakes.calls K t583 _ ht584) ?_; clear ha a; rintro e W585 ⟨rfl, HX586⟩
      refine ⟨_, rfl, ?_⟩; intro a ha; replace HW := HW.callw HX586; clear HX586
      refine stepp ha 34 (.bool t583) KR KR ?_; clear ha a; intro a ha
      refine stepp ha 4 (.bool t583) KR KR ?_; clear ha a; intro a ha
      refine endl ?_
      refine thenN (hK582 _ _ ?_); clear hK582
      refine wp_ret ?_
      refine thenR ?_
      obtain rfl := Option.some.inj h
      exact finv ha _ _ rfl (.tmp (v := .bool t583) KR .nil) (.bool t583) rfl ⟨rfl, HW.pick [] [] (by decide) (by decide) rfl KR⟩
    · skip
      replace h := ite_neg' h hp580
      refine condF ha KR KR (t := x575) (bool_f hp580) ?_
      refine wp_skip ?_
      refine thenN (hK563 _ _ ?_); clear hK563
      refine wp_seq_k (fun K587 hK588 => ?_)
      refine cutn (fun a W853 => ∃ (F849 : Blks), ∃ (x850 : UMap), ∃ (U851 : Blks), headgatelaw13_UnitsApart.j1 K a0 x850 = some r ∧ Has 126 [(2, .pointer (some ⟨b549, 0, none⟩)), (5, .pointer (some ⟨b555, 0, none⟩))] a ∧ Wd w W853 ((b549, .cells #[.int .i64 a0.f0, .int .i64 a0.f1, .string a0.f2, .int .i64 a0.f3] 23 (0, 0)) :: U851 ++ (F849 ++ ([] : Blks))) (([] : List OwnA)) ∧ UAt w F849 b555 x850 U851) ?_ ?_
      · skip
        refine wp_seq_k (fun K589 hK590 => ?_)
        refine wp_region_lit ?_
        refine stepp ha 6 (.int .i64 0) KR KR ?_; clear ha a; intro a ha
        refine endl ?_
        refine thenN (hK590 _ _ ?_); clear hK590
        refine wp_block ?_
        refine loopk (fun k => fun a W765 => ∃ (F760 : Blks), ∃ (x761 : Int), ∃ (x762 : UMap), ∃ (U763 : Blks), headgatelaw13_UnitsApart.l0 K a0 a1 k x761 x762 = some r ∧ Has 126 [(1, .slice A1_0 a1.length c1_0), (2, .pointer (some ⟨b549, 0, none⟩)), (5, .pointer (some ⟨b555, 0, none⟩)), (6, .int .i64 x761)] a ∧ Wd w W765 ((b549, .cells #[.int .i64 a0.f0, .int .i64 a0.f1, .string a0.f2, .int .i64 a0.f3] 23 (0, 0)) :: U763 ++ (F760 ++ ([] : Blks))) (([] : List OwnA)) ∧ UAt w F760 b555 x762 U763) K ?_ ?_
        · skip
          exact ⟨F574, 0, x576, U577, h, ha.sub (subs_cons KR (subs_cons KR (subs_cons KR (subs_cons KR (subs_nil _))))), (Wd.segs (ss := [[(b549, .cells #[.int .i64 a0.f0, .int .i64 a0.f1, .string a0.f2, .int .i64 a0.f3] 23 (0, 0))], U577, F574]) (bt := ([] : Blks)) (m := []) (ot := ([] : List OwnA)) [[(b549, .cells #[.int .i64 a0.f0, .int .i64 a0.f1, .string a0.f2, .int .i64 a0.f3] 23 (0, 0))], U577, F574] [] HW [0, 1, 2] [] [] KR KR (by decide) KR), hU578⟩
        · skip
          intro k a W765 hI
          obtain ⟨F760, x761, x762, U763, h, ha, HW, hU764⟩ := hI
          cases k with
          | zero => exact (none_some (show none = some r from h)).elim
          | succ k766 =>
            replace h : headgatelaw13_UnitsApart.b0 K a0 a1 (headgatelaw13_UnitsApart.l0 K a0 a1 k766) x761 x762 = some r := h
            obtain ⟨again759, hag767⟩ : ∃ g_, g_ = headgatelaw13_UnitsApart.l0 K a0 a1 k766 := ⟨_, rfl⟩
            rw [← hag767] at h
            unfold headgatelaw13_UnitsApart.b0 at h
            refine wp_seq_k (fun K768 hK769 => ?_)
            refine wp_seq_k (fun K770 hK771 => ?_)
            refine wp_region_lit ?_
            refine stepp ha 35 (.int .i64 x761) KR KR ?_; clear ha a; intro a ha
            refine stepp ha 36 (.slice A1_0 a1.length c1_0) KR KR ?_; clear ha a; intro a ha
            refine stepp ha 37 (.int .i64 (a1.length : Int)) KR KR ?_; clear ha a; intro a ha
            refine stepp ha 38 (.bool (decide (x761 < (a1.length : Int)))) KR KR ?_; clear ha a; intro a ha
            refine stepp ha 39 (.bool (decide (x761 < (a1.length : Int)))) KR KR ?_; clear ha a; intro a ha
            by_cases hp772 : x761 < (a1.length : Int)
            · skip
              replace h := ite_pos' h hp772
              replace ha := ha.bool 39 KR (decide_eq_true hp772)
              refine stepp ha 40 (.int .i64 x761) KR KR ?_; clear ha a; intro a ha
              refine stepp ha 41 (.bool (decide (x761 < 60))) KR KR ?_; clear ha a; intro a ha
              refine stepp ha 42 (.bool (decide (x761 < 60))) KR KR ?_; clear ha a; intro a ha
              refine endl ?_
              refine thenN (hK771 _ _ ?_); clear hK771
              by_cases hp773 : x761 < 60
              · skip
                replace h := ite_pos' h hp773
                refine condT ha KR KR (t := decide (x761 < 60)) (decide_eq_true hp773) ?_
                refine wp_skip ?_
                refine thenN (hK769 _ _ ?_); clear hK769
                refine wp_seq_k (fun K774 hK775 => ?_)
                refine wp_block ?_
                refine wp_seq_k (fun K776 hK777 => ?_)
                refine wp_region_lit ?_
                refine stepp ha 45 (.slice A1_0 a1.length c1_0) KR KR ?_; clear ha a; intro a ha
                refine stepp ha 46 (.int .i64 x761) KR KR ?_; clear ha a; intro a ha
                obtain ⟨hA778, h_⟩ := asrt_some h; clear h; have h := h_; clear h_
                refine stepie T_headgatelaw13_Step.enc T_headgatelaw13_Step.z ha 47 (fun _ => rfl) (v := .slice A1_0 a1.length c1_0) (xs := a1) ((HW.rd0 hr1_0)) 24 23 (.tmp 45) (.tmp 46) .i64 x761 rfl KR KR KR KR hA778 (show (x761 : Int) < ((a1).length : Int) from hp772) KR ?_; clear ha a; intro b779 off780 a hC781 ha
                refine stepl ha 48 hC781 23 0 (.tmp 47) (.agg #[.int .i64 ((rdL T_headgatelaw13_Step.z a1 x761).f0), .int .i64 ((rdL T_headgatelaw13_Step.z a1 x761).f1), .string ((rdL T_headgatelaw13_Step.z a1 x761).f2), .int .i64 ((rdL T_headgatelaw13_Step.z a1 x761).f3)]) rfl KR KR KR ?_; clear ha a; intro a ha
                refine stepnew ha HW 7 #[.int .i64 0, .int .i64 0, .string (⟨#[]⟩ : ByteArray), .int .i64 0] 23 KR KR ?_; clear ha HW a; intro b782 a W783 HW ha
                refine stepst ha HW 0 (b := b782) (C := #[.int .i64 0, .int .i64 0, .string (⟨#[]⟩ : ByteArray), .int .i64 0]) (T := 23) KR 23 0 (.tmp 7) (.tmp 48) (.agg #[.int .i64 ((rdL T_headgatelaw13_Step.z a1 x761).f0), .int .i64 ((rdL T_headgatelaw13_Step.z a1 x761).f1), .string ((rdL T_headgatelaw13_Step.z a1 x761).f2), .int .i64 ((rdL T_headgatelaw13_Step.z a1 x761).f3)]) #[.int .i64 ((rdL T_headgatelaw13_Step.z a1 x761).f0), .int .i64 ((rdL T_headgatelaw13_Step.z a1 x761).f1), .string ((rdL T_headgatelaw13_Step.z a1 x761).f2), .int .i64 ((rdL T_headgatelaw13_Step.z a1 x761).f3)] rfl KR KR KR KR KR KR KR ?_; clear ha HW a; intro a W784 HW ha
                refine endl ?_
                refine thenN (hK777 _ _ ?_); clear hK777
                refine wp_seq_k (fun K785 hK786 => ?_)
                refine wp_seq_k (fun K787 hK788 => ?_)
                refine wp_region_lit ?_
                refine stepp ha 49 (.pointer (some ⟨b782, 2, none⟩)) KR KR ?_; clear ha a; intro a ha
                refine stepl ha 50 (HW.ca (i := 0) (b := b782) (C := #[.int .i64 ((rdL T_headgatelaw13_Step.z a1 x761).f0), .int .i64 ((rdL T_headgatelaw13_Step.z a1 x761).f1), .string ((rdL T_headgatelaw13_Step.z a1 x761).f2), .int .i64 ((rdL T_headgatelaw13_Step.z a1 x761).f3)]) (T := 23) (fr := (0, 0)) KR) 9 2 (.tmp 49) (.string ((rdL T_headgatelaw13_Step.z a1 x761).f2)) rfl KR KR KR ?_; clear ha a; intro a ha
                refine stepp ha 51 (.int .i64 (((rdL T_headgatelaw13_Step.z a1 x761).f2).size : Int)) KR KR ?_; clear ha a; intro a ha
                refine stepp ha 52 (.bool (decide ((((rdL T_headgatelaw13_Step.z a1 x761).f2).size : Int) > 1000))) KR KR ?_; clear ha a; intro a ha
                refine stepp ha 53 (.bool (decide ((((rdL T_headgatelaw13_Step.z a1 x761).f2).size : Int) > 1000))) KR KR ?_; clear ha a; intro a ha
                by_cases hp789 : (((rdL T_headgatelaw13_Step.z a1 x761).f2).size : Int) > 1000
                · skip
                  replace h := ite_pos' h hp789
                  replace ha := ha.bool 53 KR (decide_eq_true hp789)
                  refine stepo ha 54 KR ?_; clear ha a; intro a ha
                  refine stepo ha 55 KR ?_; clear ha a; intro a ha
                  refine stepo ha 56 KR ?_; clear ha a; intro a ha
                  refine stepo ha 57 KR ?_; clear ha a; intro a ha
                  refine stepo ha 58 KR ?_; clear ha a; intro a ha
                  refine stepo ha 59 KR ?_; clear ha a; intro a ha
                  refine stepo ha 60 KR ?_; clear ha a; intro a ha
                  refine stepo ha 61 KR ?_; clear ha a; intro a ha
                  refine stepo ha 62 KR ?_; clear ha a; intro a ha
                  refine stepo ha 63 KR ?_; clear ha a; intro a ha
                  refine stepo ha 64 KR ?_; clear ha a; intro a ha
                  refine stepo ha 65 KR ?_; clear ha a; intro a ha
                  refine stepo ha 66 KR ?_; clear ha a; intro a ha
                  refine stepo ha 67 KR ?_; clear ha a; intro a ha
                  refine stepo ha 68 KR ?_; clear ha a; intro a ha
                  refine stepo ha 69 KR ?_; clear ha a; intro a ha
                  refine stepo ha 70 KR ?_; clear ha a; intro a ha
                  refine stepp ha 71 (.bool true) KR KR ?_; clear ha a; intro a ha
                  refine endl ?_
                  refine thenN (hK788 _ _ ?_); clear hK788
                  refine condT ha KR KR (t := true) (rfl) ?_
                  refine wp_exit ?_
                  refine thenE ?_
                  refine inBlk ?_
                  refine thenN (hK775 _ _ ?_); clear hK775
                  refine wp_region_lit ?_
                  refine stepp ha 43 (.int .i64 x761) KR KR ?_; clear ha a; intro a ha
                  refine stepp ha 44 (.int .i64 (IntKind.wrap .i64 (x761 + 1))) KR KR ?_; clear ha a; intro a ha
                  refine stepp ha 6 (.int .i64 (IntKind.wrap .i64 (x761 + 1))) KR KR ?_; clear ha a; intro a ha
                  refine endl ?_
                  exact thenN ⟨k766, Nat.lt_succ_self k766, F760, IntKind.wrap .i64 (x761 + 1), x762, U763, (by rw [← hag767]; exact h), ha.sub (subs_cons KR (subs_cons KR (subs_cons KR (subs_cons KR (subs_nil _))))), (Wd.segs (ss := [[(b782, .cells #[.int .i64 ((rdL T_headgatelaw13_Step.z a1 x761).f0), .int .i64 ((rdL T_headgatelaw13_Step.z a1 x761).f1), .string ((rdL T_headgatelaw13_Step.z a1 x761).f2), .int .i64 ((rdL T_headgatelaw13_Step.z a1 x761).f3)] 23 (0, 0))], [(b549, .cells #[.int .i64 a0.f0, .int .i64 a0.f1, .string a0.f2, .int .i64 a0.f3] 23 (0, 0))], U763, F760]) (bt := ([] : Blks)) (m := []) (ot := ([] : List OwnA)) [[(b549, .cells #[.int .i64 a0.f0, .int .i64 a0.f1, .string a0.f2, .int .i64 a0.f3] 23 (0, 0))], U763, F760] [] HW [1, 2, 3] [0] [] KR KR (by decide) KR), hU764⟩
                · skip
                  replace h := ite_neg' h hp789
                  replace ha := ha.bool 53 KR (decide_eq_false hp789)
                  refine stepp ha 54 (.pointer (some ⟨b782, 2, none⟩)) KR KR ?_; clear ha a; intro a ha
                  refine stepl ha 55 (HW.ca (i := 0) (b := b782) (C := #[.int .i64 ((rdL T_headgatelaw13_Step.z a1 x761).f0), .int .i64 ((rdL T_headgatelaw13_Step.z a1 x761).f1), .string ((rdL T_headgatelaw13_Step.z a1 x761).f2), .int .i64 ((rdL T_headgatelaw13_Step.z a1 x761).f3)]) (T := 23) (fr := (0, 0)) KR) 9 2 (.tmp 54) (.string ((rdL T_headgatelaw13_Step.z a1 x761).f2)) rfl KR KR KR ?_; clear ha a; intro a ha
                  refine stepp ha 56 (.pointer (some ⟨b549, 2, none⟩)) KR KR ?_; clear ha a; intro a ha
                  refine stepl ha 57 (HW.ca (i := 1) (b := b549) (C := #[.int .i64 a0.f0, .int .i64 a0.f1, .string a0.f2, .int .i64 a0.f3]) (T := 23) (fr := (0, 0)) KR) 9 2 (.tmp 56) (.string a0.f2) rfl KR KR KR ?_; clear ha a; intro a ha
                  refine stepp ha 58 (.bool (((rdL T_headgatelaw13_Step.z a1 x761).f2).toList == a0.f2.toList)) KR KR ?_; clear ha a; intro a ha
                  refine stepp ha 59 (.bool (((rdL T_headgatelaw13_Step.z a1 x761).f2).toList == a0.f2.toList)) KR KR ?_; clear ha a; intro a ha
                  by_cases hp790 : ((rdL T_headgatelaw13_Step.z a1 x761).f2) = a0.f2
                  · skip
                    replace h := ite_pos' h hp790
                    replace ha := ha.bool 59 KR (str_eq_t hp790)
                    refine stepp ha 60 (.pointer (some ⟨b782, 1, none⟩)) KR KR ?_; clear ha a; intro a ha
                    refine stepl ha 61 (HW.ca (i := 0) (b := b782) (C := #[.int .i64 ((rdL T_headgatelaw13_Step.z a1 x761).f0), .int .i64 ((rdL T_headgatelaw13_Step.z a1 x761).f1), .string ((rdL T_headgatelaw13_Step.z a1 x761).f2), .int .i64 ((rdL T_headgatelaw13_Step.z a1 x761).f3)]) (T := 23) (fr := (0, 0)) KR) 3 1 (.tmp 60) (.int .i64 ((rdL T_headgatelaw13_Step.z a1 x761).f1)) rfl KR KR KR ?_; clear ha a; intro a ha
                    refine stepp ha 62 (.pointer (some ⟨b549, 1, none⟩)) KR KR ?_; clear ha a; intro a ha
                    refine stepl ha 63 (HW.ca (i := 1) (b := b549) (C := #[.int .i64 a0.f0, .int .i64 a0.f1, .string a0.f2, .int .i64 a0.f3]) (T := 23) (fr := (0, 0)) KR) 3 1 (.tmp 62) (.int .i64 a0.f1) rfl KR KR KR ?_; clear ha a; intro a ha
                    refine stepp ha 64 (.bool (((rdL T_headgatelaw13_Step.z a1 x761).f1) == a0.f1)) KR KR ?_; clear ha a; intro a ha
                    refine stepp ha 65 (.bool (((rdL T_headgatelaw13_Step.z a1 x761).f1) == a0.f1)) KR KR ?_; clear ha a; intro a ha
                    by_cases hp791 : ((rdL T_headgatelaw13_Step.z a1 x761).f1) = a0.f1
                    · skip
                      replace h := ite_pos' h hp791
                      replace ha := ha.bool 65 KR (ieq_t hp791)
                      refine stepo ha 66 KR ?_; clear ha a; intro a ha
                      refine stepo ha 67 KR ?_; clear ha a; intro a ha
                      refine stepo ha 68 KR ?_; clear ha a; intro a ha
                      refine stepp ha 69 (.bool true) KR KR ?_; clear ha a; intro a ha
                      refine stepp ha 70 (.bool true) KR KR ?_; clear ha a; intro a ha
                      refine stepp ha 71 (.bool true) KR KR ?_; clear ha a; intro a ha
                      refine endl ?_
                      refine thenN (hK788 _ _ ?_); clear hK788
                      refine condT ha KR KR (t := true) (rfl) ?_
                      refine wp_exit ?_
                      refine thenE ?_
                      refine inBlk ?_
                      refine thenN (hK775 _ _ ?_); clear hK775
                      refine wp_region_lit ?_
                      refine stepp ha 43 (.int .i64 x761) KR KR ?_; clear ha a; intro a ha
                      refine stepp ha 44 (.int .i64 (IntKind.wrap .i64 (x761 + 1))) KR KR ?_; clear ha a; intro a ha
                      refine stepp ha 6 (.int .i64 (IntKind.wrap .i64 (x761 + 1))) KR KR ?_; clear ha a; intro a ha
                      refine endl ?_
                      exact thenN ⟨k766, Nat.lt_succ_self k766, F760, IntKind.wrap .i64 (x761 + 1), x762, U763, (by rw [← hag767]; exact h), ha.sub (subs_cons KR (subs_cons KR (subs_cons KR (subs_cons KR (subs_nil _))))), (Wd.segs (ss := [[(b782, .cells #[.int .i64 ((rdL T_headgatelaw13_Step.z a1 x761).f0), .int .i64 ((rdL T_headgatelaw13_Step.z a1 x761).f1), .string ((rdL T_headgatelaw13_Step.z a1 x761).f2), .int .i64 ((rdL T_headgatelaw13_Step.z a1 x761).f3)] 23 (0, 0))], [(b549, .cells #[.int .i64 a0.f0, .int .i64 a0.f1, .string a0.f2, .int .i64 a0.f3] 23 (0, 0))], U763, F760]) (bt := ([] : Blks)) (m := []) (ot := ([] : List OwnA)) [[(b549, .cells #[.int .i64 a0.f0, .int .i64 a0.f1, .string a0.f2, .int .i64 a0.f3] 23 (0, 0))], U763, F760] [] HW [1, 2, 3] [0] [] KR KR (by decide) KR), hU764⟩
                    · skip
                      replace h := ite_neg' h hp791
                      replace ha := ha.bool 65 KR (ieq_f hp791)
                      refine stepp ha 66 (.pointer (some ⟨b782, 0, none⟩)) KR KR ?_; clear ha a; intro a ha
                      refine stepl ha 67 (HW.ca (i := 0) (b := b782) (C := #[.int .i64 ((rdL T_headgatelaw13_Step.z a1 x761).f0), .int .i64 ((rdL T_headgatelaw13_Step.z a1 x761).f1), .string ((rdL T_headgatelaw13_Step.z a1 x761).f2), .int .i64 ((rdL T_headgatelaw13_Step.z a1 x761).f3)]) (T := 23) (fr := (0, 0)) KR) 3 0 (.tmp 66) (.int .i64 ((rdL T_headgatelaw13_Step.z a1 x761).f0)) rfl KR KR KR ?_; clear ha a; intro a ha
                      refine stepp ha 68 (.bool (((rdL T_headgatelaw13_Step.z a1 x761).f0) == 2)) KR KR ?_; clear ha a; intro a ha
                      refine stepp ha 69 (.bool (((rdL T_headgatelaw13_Step.z a1 x761).f0) == 2)) KR KR ?_; clear ha a; intro a ha
                      refine stepp ha 70 (.bool (((rdL T_headgatelaw13_Step.z a1 x761).f0) == 2)) KR KR ?_; clear ha a; intro a ha
                      refine stepp ha 71 (.bool (((rdL T_headgatelaw13_Step.z a1 x761).f0) == 2)) KR KR ?_; clear ha a; intro a ha
                      refine endl ?_
                      refine thenN (hK788 _ _ ?_); clear hK788
                      by_cases hp792 : ((rdL T_headgatelaw13_Step.z a1 x761).f0) = 2
                      · skip
                        replace h := ite_pos' h hp792
                        refine condT ha KR KR (t := (((rdL T_headgatelaw13_Step.z a1 x761).f0) == 2)) (ieq_t hp792) ?_
                        refine wp_exit ?_
                        refine thenE ?_
                        refine inBlk ?_
                        refine thenN (hK775 _ _ ?_); clear hK775
                        refine wp_region_lit ?_
                        refine stepp ha 43 (.int .i64 x761) KR KR ?_; clear ha a; intro a ha
                        refine stepp ha 44 (.int .i64 (IntKind.wrap .i64 (x761 + 1))) KR KR ?_; clear ha a; intro a ha
                        refine stepp ha 6 (.int .i64 (IntKind.wrap .i64 (x761 + 1))) KR KR ?_; clear ha a; intro a ha
                        refine endl ?_
                        exact thenN ⟨k766, Nat.lt_succ_self k766, F760, IntKind.wrap .i64 (x761 + 1), x762, U763, (by rw [← hag767]; exact h), ha.sub (subs_cons KR (subs_cons KR (subs_cons KR (subs_cons KR (subs_nil _))))), (Wd.segs (ss := [[(b782, .cells #[.int .i64 ((rdL T_headgatelaw13_Step.z a1 x761).f0), .int .i64 ((rdL T_headgatelaw13_Step.z a1 x761).f1), .string ((rdL T_headgatelaw13_Step.z a1 x761).f2), .int .i64 ((rdL T_headgatelaw13_Step.z a1 x761).f3)] 23 (0, 0))], [(b549, .cells #[.int .i64 a0.f0, .int .i64 a0.f1, .string a0.f2, .int .i64 a0.f3] 23 (0, 0))], U763, F760]) (bt := ([] : Blks)) (m := []) (ot := ([] : List OwnA)) [[(b549, .cells #[.int .i64 a0.f0, .int .i64 a0.f1, .string a0.f2, .int .i64 a0.f3] 23 (0, 0))], U763, F760] [] HW [1, 2, 3] [0] [] KR KR (by decide) KR), hU764⟩
                      · skip
                        replace h := ite_neg' h hp792
                        refine condF ha KR KR (t := (((rdL T_headgatelaw13_Step.z a1 x761).f0) == 2)) (ieq_f hp792) ?_
                        refine wp_skip ?_
                        refine thenN (hK786 _ _ ?_); clear hK786
                        refine wp_seq_k (fun K793 hK794 => ?_)
                        refine wp_region_lit ?_
                        refine stepp ha 72 (.pointer (some ⟨b782, 0, none⟩)) KR KR ?_; clear ha a; intro a ha
                        refine stepl ha 73 (HW.ca (i := 0) (b := b782) (C := #[.int .i64 ((rdL T_headgatelaw13_Step.z a1 x761).f0), .int .i64 ((rdL T_headgatelaw13_Step.z a1 x761).f1), .string ((rdL T_headgatelaw13_Step.z a1 x761).f2), .int .i64 ((rdL T_headgatelaw13_Step.z a1 x761).f3)]) (T := 23) (fr := (0, 0)) KR) 3 0 (.tmp 72) (.int .i64 ((rdL T_headgatelaw13_Step.z a1 x761).f0)) rfl KR KR KR ?_; clear ha a; intro a ha
                        refine endl ?_
                        refine thenN (hK794 _ _ ?_); clear hK794
                        refine wp_block ?_
                        refine wp_seq_k (fun K795 hK796 => ?_)
                        refine wp_region_lit ?_
                        refine stepp ha 75 (.bool (((rdL T_headgatelaw13_Step.z a1 x761).f0) == 0)) KR KR ?_; clear ha a; intro a ha
                        refine stepp ha 74 (.bool (((rdL T_headgatelaw13_Step.z a1 x761).f0) == 0)) KR KR ?_; clear ha a; intro a ha
                        refine endl ?_
                        refine thenN (hK796 _ _ ?_); clear hK796
                        by_cases hp797 : ((rdL T_headgatelaw13_Step.z a1 x761).f0) = 0
                        · skip
                          replace h := ite_pos' h hp797
                          refine condT ha KR KR (t := (((rdL T_headgatelaw13_Step.z a1 x761).f0) == 0)) (ieq_t hp797) ?_
                          refine wp_region_lit ?_
                          refine stepp ha 76 (.pointer (some ⟨b555, 0, none⟩)) KR KR ?_; clear ha a; intro a ha
                          refine stepp ha 77 (.pointer (some ⟨b782, 1, none⟩)) KR KR ?_; clear ha a; intro a ha
                          refine stepl ha 78 (HW.ca (i := 0) (b := b782) (C := #[.int .i64 ((rdL T_headgatelaw13_Step.z a1 x761).f0), .int .i64 ((rdL T_headgatelaw13_Step.z a1 x761).f1), .string ((rdL T_headgatelaw13_Step.z a1 x761).f2), .int .i64 ((rdL T_headgatelaw13_Step.z a1 x761).f3)]) (T := 23) (fr := (0, 0)) KR) 3 1 (.tmp 77) (.int .i64 ((rdL T_headgatelaw13_Step.z a1 x761).f1)) rfl KR KR KR ?_; clear ha a; intro a ha
                          refine stepp ha 79 (.pointer (some ⟨b782, 2, none⟩)) KR KR ?_; clear ha a; intro a ha
                          refine stepl ha 80 (HW.ca (i := 0) (b := b782) (C := #[.int .i64 ((rdL T_headgatelaw13_Step.z a1 x761).f0), .int .i64 ((rdL T_headgatelaw13_Step.z a1 x761).f1), .string ((rdL T_headgatelaw13_Step.z a1 x761).f2), .int .i64 ((rdL T_headgatelaw13_Step.z a1 x761).f3)]) (T := 23) (fr := (0, 0)) KR) 9 2 (.tmp 79) (.string ((rdL T_headgatelaw13_Step.z a1 x761).f2)) rfl KR KR KR ?_; clear ha a; intro a ha
                          refine stepp ha 81 (.pointer (some ⟨b782, 3, none⟩)) KR KR ?_; clear ha a; intro a ha
                          refine stepl ha 82 (HW.ca (i := 0) (b := b782) (C := #[.int .i64 ((rdL T_headgatelaw13_Step.z a1 x761).f0), .int .i64 ((rdL T_headgatelaw13_Step.z a1 x761).f1), .string ((rdL T_headgatelaw13_Step.z a1 x761).f2), .int .i64 ((rdL T_headgatelaw13_Step.z a1 x761).f3)]) (T := 23) (fr := (0, 0)) KR) 3 3 (.tmp 81) (.int .i64 ((rdL T_headgatelaw13_Step.z a1 x761).f3)) rfl KR KR KR ?_; clear ha a; intro a ha
                          obtain ⟨t798, ht799, h_⟩ := bind_some' h; clear h; have h := h_; clear h_
                          refine stepc ha 83 KR KR (units_Units_Add.calls K x762 ((rdL T_headgatelaw13_Step.z a1 x761).f1) ((rdL T_headgatelaw13_Step.z a1 x761).f2) ((rdL T_headgatelaw13_Step.z a1 x761).f3) b555 U763 t798 _ _ F760 ([(b782, .cells #[.int .i64 ((rdL T_headgatelaw13_Step.z a1 x761).f0), .int .i64 ((rdL T_headgatelaw13_Step.z a1 x761).f1), .string ((rdL T_headgatelaw13_Step.z a1 x761).f2), .int .i64 ((rdL T_headgatelaw13_Step.z a1 x761).f3)] 23 (0, 0))] ++ ([(b549, .cells #[.int .i64 a0.f0, .int .i64 a0.f1, .string a0.f2, .int .i64 a0.f3] 23 (0, 0))] ++ (([] : Blks)))) (([] : List OwnA)) hU764 (Wd.segs (ss := [[(b782, .cells #[.int .i64 ((rdL T_headgatelaw13_Step.z a1 x761).f0), .int .i64 ((rdL T_headgatelaw13_Step.z a1 x761).f1), .string ((rdL T_headgatelaw13_Step.z a1 x761).f2), .int .i64 ((rdL T_headgatelaw13_Step.z a1 x761).f3)] 23 (0, 0))], [(b549, .cells #[.int .i64 a0.f0, .int .i64 a0.f1, .string a0.f2, .int .i64 a0.f3] 23 (0, 0))], U763, F760]) (bt := ([] : Blks)) (m := []) (ot := ([] : List OwnA)) [U763, F760, [(b782, .cells #[.int .i64 ((rdL T_headgatelaw13_Step.z a1 x761).f0), .int .i64 ((rdL T_headgatelaw13_Step.z a1 x761).f1), .string ((rdL T_headgatelaw13_Step.z a1 x761).f2), .int .i64 ((rdL T_headgatelaw13_Step.z a1 x761).f3)] 23 (0, 0))], [(b549, .cells #[.int .i64 a0.f0, .int .i64 a0.f1, .string a0.f2, .int .i64 a0.f3] 23 (0, 0))]] [] HW [2, 3, 0, 1] [] [] KR KR (by decide) KR) ht799) ?_; clear ha a; rintro e W801 ⟨U800, F803, rfl, hs804, hU764n, HX802⟩
                          refine ⟨_, rfl, ?_⟩; intro a ha; clear HW
                          clear hU764; have hU764 := hU764n; clear hU764n
                          have HW : Wd w W801 ((b782, .cells #[.int .i64 ((rdL T_headgatelaw13_Step.z a1 x761).f0), .int .i64 ((rdL T_headgatelaw13_Step.z a1 x761).f1), .string ((rdL T_headgatelaw13_Step.z a1 x761).f2), .int .i64 ((rdL T_headgatelaw13_Step.z a1 x761).f3)] 23 (0, 0)) :: (b549, .cells #[.int .i64 a0.f0, .int .i64 a0.f1, .string a0.f2, .int .i64 a0.f3] 23 (0, 0)) :: U800 ++ (F803 ++ ([] : Blks))) (([] : List OwnA)) := Wd.segs (ss := [U800, F803, [(b782, .cells #[.int .i64 ((rdL T_headgatelaw13_Step.z a1 x761).f0), .int .i64 ((rdL T_headgatelaw13_Step.z a1 x761).f1), .string ((rdL T_headgatelaw13_Step.z a1 x761).f2), .int .i64 ((rdL T_headgatelaw13_Step.z a1 x761).f3)] 23 (0, 0))], [(b549, .cells #[.int .i64 a0.f0, .int .i64 a0.f1, .string a0.f2, .int .i64 a0.f3] 23 (0, 0))]]) (bt := ([] : Blks)) (m := []) (ot := ([] : List OwnA)) [[(b782, .cells #[.int .i64 ((rdL T_headgatelaw13_Step.z a1 x761).f0), .int .i64 ((rdL T_headgatelaw13_Step.z a1 x761).f1), .string ((rdL T_headgatelaw13_Step.z a1 x761).f2), .int .i64 ((rdL T_headgatelaw13_Step.z a1 x761).f3)] 23 (0, 0))], [(b549, .cells #[.int .i64 a0.f0, .int .i64 a0.f1, .string a0.f2, .int .i64 a0.f3] 23 (0, 0))], U800, F803] [] HX802 [2, 3, 0, 1] [] [] KR KR (by decide) KR; clear HX802
                          refine endl ?_
                          refine blkN ?_
                          refine blkN ?_
                          refine thenN (hK775 _ _ ?_); clear hK775
                          refine wp_region_lit ?_
                          refine stepp ha 43 (.int .i64 x761) KR KR ?_; clear ha a; intro a ha
                          refine stepp ha 44 (.int .i64 (IntKind.wrap .i64 (x761 + 1))) KR KR ?_; clear ha a; intro a ha
                          refine stepp ha 6 (.int .i64 (IntKind.wrap .i64 (x761 + 1))) KR KR ?_; clear ha a; intro a ha
                          refine endl ?_
                          exact thenN ⟨k766, Nat.lt_succ_self k766, F803, IntKind.wrap .i64 (x761 + 1), t798.2, U800, (by rw [← hag767]; exact h), ha.sub (subs_cons KR (subs_cons KR (subs_cons KR (subs_cons KR (subs_nil _))))), (Wd.segs (ss := [[(b782, .cells #[.int .i64 ((rdL T_headgatelaw13_Step.z a1 x761).f0), .int .i64 ((rdL T_headgatelaw13_Step.z a1 x761).f1), .string ((rdL T_headgatelaw13_Step.z a1 x761).f2), .int .i64 ((rdL T_headgatelaw13_Step.z a1 x761).f3)] 23 (0, 0))], [(b549, .cells #[.int .i64 a0.f0, .int .i64 a0.f1, .string a0.f2, .int .i64 a0.f3] 23 (0, 0))], U800, F803]) (bt := ([] : Blks)) (m := []) (ot := ([] : List OwnA)) [[(b549, .cells #[.int .i64 a0.f0, .int .i64 a0.f1, .string a0.f2, .int .i64 a0.f3] 23 (0, 0))], U800, F803] [] HW [1, 2, 3] [0] [] KR KR (by decide) KR), hU764⟩
                        · skip
                          replace h := ite_neg' h hp797
                          refine condF ha KR KR (t := (((rdL T_headgatelaw13_Step.z a1 x761).f0) == 0)) (ieq_f hp797) ?_
                          refine wp_seq_k (fun K805 hK806 => ?_)
                          refine wp_region_lit ?_
                          refine stepp ha 85 (.bool (((rdL T_headgatelaw13_Step.z a1 x761).f0) == 1)) KR KR ?_; clear ha a; intro a ha
                          refine stepp ha 84 (.bool (((rdL T_headgatelaw13_Step.z a1 x761).f0) == 1)) KR KR ?_; clear ha a; intro a ha
                          refine endl ?_
                          refine thenN (hK806 _ _ ?_); clear hK806
                          by_cases hp807 : ((rdL T_headgatelaw13_Step.z a1 x761).f0) = 1
                          · skip
                            replace h := ite_pos' h hp807
                            refine condT ha KR KR (t := (((rdL T_headgatelaw13_Step.z a1 x761).f0) == 1)) (ieq_t hp807) ?_
                            refine wp_region_lit ?_
                            refine stepp ha 86 (.pointer (some ⟨b555, 0, none⟩)) KR KR ?_; clear ha a; intro a ha
                            refine stepp ha 87 (.pointer (some ⟨b782, 1, none⟩)) KR KR ?_; clear ha a; intro a ha
                            refine stepl ha 88 (HW.ca (i := 0) (b := b782) (C := #[.int .i64 ((rdL T_headgatelaw13_Step.z a1 x761).f0), .int .i64 ((rdL T_headgatelaw13_Step.z a1 x761).f1), .string ((rdL T_headgatelaw13_Step.z a1 x761).f2), .int .i64 ((rdL T_headgatelaw13_Step.z a1 x761).f3)]) (T := 23) (fr := (0, 0)) KR) 3 1 (.tmp 87) (.int .i64 ((rdL T_headgatelaw13_Step.z a1 x761).f1)) rfl KR KR KR ?_; clear ha a; intro a ha
                            refine stepp ha 89 (.pointer (some ⟨b782, 2, none⟩)) KR KR ?_; clear ha a; intro a ha
                            refine stepl ha 90 (HW.ca (i := 0) (b := b782) (C := #[.int .i64 ((rdL T_headgatelaw13_Step.z a1 x761).f0), .int .i64 ((rdL T_headgatelaw13_Step.z a1 x761).f1), .string ((rdL T_headgatelaw13_Step.z a1 x761).f2), .int .i64 ((rdL T_headgatelaw13_Step.z a1 x761).f3)]) (T := 23) (fr := (0, 0)) KR) 9 2 (.tmp 89) (.string ((rdL T_headgatelaw13_Step.z a1 x761).f2)) rfl KR KR KR ?_; clear ha a; intro a ha
                            obtain ⟨t808, ht809, h_⟩ := bind_some' h; clear h; have h := h_; clear h_
                            refine stepc ha 91 KR KR (units_Units_Take.calls x762 ((rdL T_headgatelaw13_Step.z a1 x761).f1) ((rdL T_headgatelaw13_Step.z a1 x761).f2) b555 U763 t808 _ _ F760 ([(b782, .cells #[.int .i64 ((rdL T_headgatelaw13_Step.z a1 x761).f0), .int .i64 ((rdL T_headgatelaw13_Step.z a1 x761).f1), .string ((rdL T_headgatelaw13_Step.z a1 x761).f2), .int .i64 ((rdL T_headgatelaw13_Step.z a1 x761).f3)] 23 (0, 0))] ++ ([(b549, .cells #[.int .i64 a0.f0, .int .i64 a0.f1, .string a0.f2, .int .i64 a0.f3] 23 (0, 0))] ++ (([] : Blks)))) (([] : List OwnA)) hU764 (Wd.segs (ss := [[(b782, .cells #[.int .i64 ((rdL T_headgatelaw13_Step.z a1 x761).f0), .int .i64 ((rdL T_headgatelaw13_Step.z a1 x761).f1), .string ((rdL T_headgatelaw13_Step.z a1 x761).f2), .int .i64 ((rdL T_headgatelaw13_Step.z a1 x761).f3)] 23 (0, 0))], [(b549, .cells #[.int .i64 a0.f0, .int .i64 a0.f1, .string a0.f2, .int .i64 a0.f3] 23 (0, 0))], U763, F760]) (bt := ([] : Blks)) (m := []) (ot := ([] : List OwnA)) [U763, F760, [(b782, .cells #[.int .i64 ((rdL T_headgatelaw13_Step.z a1 x761).f0), .int .i64 ((rdL T_headgatelaw13_Step.z a1 x761).f1), .string ((rdL T_headgatelaw13_Step.z a1 x761).f2), .int .i64 ((rdL T_headgatelaw13_Step.z a1 x761).f3)] 23 (0, 0))], [(b549, .cells #[.int .i64 a0.f0, .int .i64 a0.f1, .string a0.f2, .int .i64 a0.f3] 23 (0, 0))]] [] HW [2, 3, 0, 1] [] [] KR KR (by decide) KR) ht809) ?_; clear ha a; rintro e W811 ⟨U810, rfl, hU764n, HX812⟩
                            refine ⟨_, rfl, ?_⟩; intro a ha; clear HW
                            clear hU764; have hU764 := hU764n; clear hU764n
                            have HW : Wd w W811 ((b782, .cells #[.int .i64 ((rdL T_headgatelaw13_Step.z a1 x761).f0), .int .i64 ((rdL T_headgatelaw13_Step.z a1 x761).f1), .string ((rdL T_headgatelaw13_Step.z a1 x761).f2), .int .i64 ((rdL T_headgatelaw13_Step.z a1 x761).f3)] 23 (0, 0)) :: (b549, .cells #[.int .i64 a0.f0, .int .i64 a0.f1, .string a0.f2, .int .i64 a0.f3] 23 (0, 0)) :: U810 ++ (F760 ++ ([] : Blks))) (([] : List OwnA)) := Wd.segs (ss := [U810, F760, [(b782, .cells #[.int .i64 ((rdL T_headgatelaw13_Step.z a1 x761).f0), .int .i64 ((rdL T_headgatelaw13_Step.z a1 x761).f1), .string ((rdL T_headgatelaw13_Step.z a1 x761).f2), .int .i64 ((rdL T_headgatelaw13_Step.z a1 x761).f3)] 23 (0, 0))], [(b549, .cells #[.int .i64 a0.f0, .int .i64 a0.f1, .string a0.f2, .int .i64 a0.f3] 23 (0, 0))]]) (bt := ([] : Blks)) (m := []) (ot := ([] : List OwnA)) [[(b782, .cells #[.int .i64 ((rdL T_headgatelaw13_Step.z a1 x761).f0), .int .i64 ((rdL T_headgatelaw13_Step.z a1 x761).f1), .string ((rdL T_headgatelaw13_Step.z a1 x761).f2), .int .i64 ((rdL T_headgatelaw13_Step.z a1 x761).f3)] 23 (0, 0))], [(b549, .cells #[.int .i64 a0.f0, .int .i64 a0.f1, .string a0.f2, .int .i64 a0.f3] 23 (0, 0))], U810, F760] [] HX812 [2, 3, 0, 1] [] [] KR KR (by decide) KR; clear HX812
                            refine endl ?_
                            refine blkN ?_
                            refine blkN ?_
                            refine thenN (hK775 _ _ ?_); clear hK775
                            refine wp_region_lit ?_
                            refine stepp ha 43 (.int .i64 x761) KR KR ?_; clear ha a; intro a ha
                            refine stepp ha 44 (.int .i64 (IntKind.wrap .i64 (x761 + 1))) KR KR ?_; clear ha a; intro a ha
                            refine stepp ha 6 (.int .i64 (IntKind.wrap .i64 (x761 + 1))) KR KR ?_; clear ha a; intro a ha
                            refine endl ?_
                            exact thenN ⟨k766, Nat.lt_succ_self k766, F760, IntKind.wrap .i64 (x761 + 1), t808.2.2, U810, (by rw [← hag767]; exact h), ha.sub (subs_cons KR (subs_cons KR (subs_cons KR (subs_cons KR (subs_nil _))))), (Wd.segs (ss := [[(b782, .cells #[.int .i64 ((rdL T_headgatelaw13_Step.z a1 x761).f0), .int .i64 ((rdL T_headgatelaw13_Step.z a1 x761).f1), .string ((rdL T_headgatelaw13_Step.z a1 x761).f2), .int .i64 ((rdL T_headgatelaw13_Step.z a1 x761).f3)] 23 (0, 0))], [(b549, .cells #[.int .i64 a0.f0, .int .i64 a0.f1, .string a0.f2, .int .i64 a0.f3] 23 (0, 0))], U810, F760]) (bt := ([] : Blks)) (m := []) (ot := ([] : List OwnA)) [[(b549, .cells #[.int .i64 a0.f0, .int .i64 a0.f1, .string a0.f2, .int .i64 a0.f3] 23 (0, 0))], U810, F760] [] HW [1, 2, 3] [0] [] KR KR (by decide) KR), hU764⟩
                          · skip
                            replace h := ite_neg' h hp807
                            refine condF ha KR KR (t := (((rdL T_headgatelaw13_Step.z a1 x761).f0) == 1)) (ieq_f hp807) ?_
                            refine wp_seq_k (fun K815 hK816 => ?_)
                            refine wp_region_lit ?_
                            refine stepp ha 93 (.bool (((rdL T_headgatelaw13_Step.z a1 x761).f0) == 2)) KR KR ?_; clear ha a; intro a ha
                            refine stepp ha 92 (.bool (((rdL T_headgatelaw13_Step.z a1 x761).f0) == 2)) KR KR ?_; clear ha a; intro a ha
                            refine endl ?_
                            refine thenN (hK816 _ _ ?_); clear hK816
                            refine condF ha KR KR (t := (((rdL T_headgatelaw13_Step.z a1 x761).f0) == 2)) (ieq_f hp792) ?_
                            refine wp_skip ?_
                            refine blkN ?_
                            refine blkN ?_
                            refine thenN (hK775 _ _ ?_); clear hK775
                            refine wp_region_lit ?_
                            refine stepp ha 43 (.int .i64 x761) KR KR ?_; clear ha a; intro a ha
                            refine stepp ha 44 (.int .i64 (IntKind.wrap .i64 (x761 + 1))) KR KR ?_; clear ha a; intro a ha
                            refine stepp ha 6 (.int .i64 (IntKind.wrap .i64 (x761 + 1))) KR KR ?_; clear ha a; intro a ha
                            refine endl ?_
                            exact thenN ⟨k766, Nat.lt_succ_self k766, F760, IntKind.wrap .i64 (x761 + 1), x762, U763, (by rw [← hag767]; exact h), ha.sub (subs_cons KR (subs_cons KR (subs_cons KR (subs_cons KR (subs_nil _))))), (Wd.segs (ss := [[(b782, .cells #[.int .i64 ((rdL T_headgatelaw13_Step.z a1 x761).f0), .int .i64 ((rdL T_headgatelaw13_Step.z a1 x761).f1), .string ((rdL T_headgatelaw13_Step.z a1 x761).f2), .int .i64 ((rdL T_headgatelaw13_Step.z a1 x761).f3)] 23 (0, 0))], [(b549, .cells #[.int .i64 a0.f0, .int .i64 a0.f1, .string a0.f2, .int .i64 a0.f3] 23 (0, 0))], U763, F760]) (bt := ([] : Blks)) (m := []) (ot := ([] : List OwnA)) [[(b549, .cells #[.int .i64 a0.f0, .int .i64 a0.f1, .string a0.f2, .int .i64 a0.f3] 23 (0, 0))], U763, F760] [] HW [1, 2, 3] [0] [] KR KR (by decide) KR), hU764⟩
                  · skip
                    replace h := ite_neg' h hp790
                    replace ha := ha.bool 59 KR (str_eq_f hp790)
                    refine stepo ha 60 KR ?_; clear ha a; intro a ha
                    refine stepo ha 61 KR ?_; clear ha a; intro a ha
                    refine stepo ha 62 KR ?_; clear ha a; intro a ha
                    refine stepo ha 63 KR ?_; clear ha a; intro a ha
                    refine stepo ha 64 KR ?_; clear ha a; intro a ha
                    refine stepo ha 65 KR ?_; clear ha a; intro a ha
                    refine stepo ha 66 KR ?_; clear ha a; intro a ha
                    refine stepo ha 67 KR ?_; clear ha a; intro a ha
                    refine stepo ha 68 KR ?_; clear ha a; intro a ha
                    refine stepo ha 69 KR ?_; clear ha a; intro a ha
                    refine stepp ha 70 (.bool false) KR KR ?_; clear ha a; intro a ha
                    refine stepp ha 71 (.bool false) KR KR ?_; clear ha a; intro a ha
                    refine endl ?_
                    refine thenN (hK788 _ _ ?_); clear hK788
                    refine condF ha KR KR (t := false) (rfl) ?_
                    refine wp_skip ?_
                    refine thenN (hK786 _ _ ?_); clear hK786
                    refine wp_seq_k (fun K817 hK818 => ?_)
                    refine wp_region_lit ?_
                    refine stepp ha 72 (.pointer (some ⟨b782, 0, none⟩)) KR KR ?_; clear ha a; intro a ha
                    refine stepl ha 73 (HW.ca (i := 0) (b := b782) (C := #[.int .i64 ((rdL T_headgatelaw13_Step.z a1 x761).f0), .int .i64 ((rdL T_headgatelaw13_Step.z a1 x761).f1), .string ((rdL T_headgatelaw13_Step.z a1 x761).f2), .int .i64 ((rdL T_headgatelaw13_Step.z a1 x761).f3)]) (T := 23) (fr := (0, 0)) KR) 3 0 (.tmp 72) (.int .i64 ((rdL T_headgatelaw13_Step.z a1 x761).f0)) rfl KR KR KR ?_; clear ha a; intro a ha
                    refine endl ?_
                    refine thenN (hK818 _ _ ?_); clear hK818
                    refine wp_block ?_
                    refine wp_seq_k (fun K819 hK820 => ?_)
                    refine wp_region_lit ?_
                    refine stepp ha 75 (.bool (((rdL T_headgatelaw13_Step.z a1 x761).f0) == 0)) KR KR ?_; clear ha a; intro a ha
                    refine stepp ha 74 (.bool (((rdL T_headgatelaw13_Step.z a1 x761).f0) == 0)) KR KR ?_; clear ha a; intro a ha
                    refine endl ?_
                    refine thenN (hK820 _ _ ?_); clear hK820
                    by_cases hp821 : ((rdL T_headgatelaw13_Step.z a1 x761).f0) = 0
                    · skip
                      replace h := ite_pos' h hp821
                      refine condT ha KR KR (t := (((rdL T_headgatelaw13_Step.z a1 x761).f0) == 0)) (ieq_t hp821) ?_
                      refine wp_region_lit ?_
                      refine stepp ha 76 (.pointer (some ⟨b555, 0, none⟩)) KR KR ?_; clear ha a; intro a ha
                      refine stepp ha 77 (.pointer (some ⟨b782, 1, none⟩)) KR KR ?_; clear ha a; intro a ha
                      refine stepl ha 78 (HW.ca (i := 0) (b := b782) (C := #[.int .i64 ((rdL T_headgatelaw13_Step.z a1 x761).f0), .int .i64 ((rdL T_headgatelaw13_Step.z a1 x761).f1), .string ((rdL T_headgatelaw13_Step.z a1 x761).f2), .int .i64 ((rdL T_headgatelaw13_Step.z a1 x761).f3)]) (T := 23) (fr := (0, 0)) KR) 3 1 (.tmp 77) (.int .i64 ((rdL T_headgatelaw13_Step.z a1 x761).f1)) rfl KR KR KR ?_; clear ha a; intro a ha
                      refine stepp ha 79 (.pointer (some ⟨b782, 2, none⟩)) KR KR ?_; clear ha a; intro a ha
                      refine stepl ha 80 (HW.ca (i := 0) (b := b782) (C := #[.int .i64 ((rdL T_headgatelaw13_Step.z a1 x761).f0), .int .i64 ((rdL T_headgatelaw13_Step.z a1 x761).f1), .string ((rdL T_headgatelaw13_Step.z a1 x761).f2), .int .i64 ((rdL T_headgatelaw13_Step.z a1 x761).f3)]) (T := 23) (fr := (0, 0)) KR) 9 2 (.tmp 79) (.string ((rdL T_headgatelaw13_Step.z a1 x761).f2)) rfl KR KR KR ?_; clear ha a; intro a ha
                      refine stepp ha 81 (.pointer (some ⟨b782, 3, none⟩)) KR KR ?_; clear ha a; intro a ha
                      refine stepl ha 82 (HW.ca (i := 0) (b := b782) (C := #[.int .i64 ((rdL T_headgatelaw13_Step.z a1 x761).f0), .int .i64 ((rdL T_headgatelaw13_Step.z a1 x761).f1), .string ((rdL T_headgatelaw13_Step.z a1 x761).f2), .int .i64 ((rdL T_headgatelaw13_Step.z a1 x761).f3)]) (T := 23) (fr := (0, 0)) KR) 3 3 (.tmp 81) (.int .i64 ((rdL T_headgatelaw13_Step.z a1 x761).f3)) rfl KR KR KR ?_; clear ha a; intro a ha
                      obtain ⟨t822, ht823, h_⟩ := bind_some' h; clear h; have h := h_; clear h_
                      refine stepc ha 83 KR KR (units_Units_Add.calls K x762 ((rdL T_headgatelaw13_Step.z a1 x761).f1) ((rdL T_headgatelaw13_Step.z a1 x761).f2) ((rdL T_headgatelaw13_Step.z a1 x761).f3) b555 U763 t822 _ _ F760 ([(b782, .cells #[.int .i64 ((rdL T_headgatelaw13_Step.z a1 x761).f0), .int .i64 ((rdL T_headgatelaw13_Step.z a1 x761).f1), .string ((rdL T_headgatelaw13_Step.z a1 x761).f2), .int .i64 ((rdL T_headgatelaw13_Step.z a1 x761).f3)] 23 (0, 0))] ++ ([(b549, .cells #[.int .i64 a0.f0, .int .i64 a0.f1, .string a0.f2, .int .i64 a0.f3] 23 (0, 0))] ++ (([] : Blks)))) (([] : List OwnA)) hU764 (Wd.segs (ss := [[(b782, .cells #[.int .i64 ((rdL T_headgatelaw13_Step.z a1 x761).f0), .int .i64 ((rdL T_headgatelaw13_Step.z a1 x761).f1), .string ((rdL T_headgatelaw13_Step.z a1 x761).f2), .int .i64 ((rdL T_headgatelaw13_Step.z a1 x761).f3)] 23 (0, 0))], [(b549, .cells #[.int .i64 a0.f0, .int .i64 a0.f1, .string a0.f2, .int .i64 a0.f3] 23 (0, 0))], U763, F760]) (bt := ([] : Blks)) (m := []) (ot := ([] : List OwnA)) [U763, F760, [(b782, .cells #[.int .i64 ((rdL T_headgatelaw13_Step.z a1 x761).f0), .int .i64 ((rdL T_headgatelaw13_Step.z a1 x761).f1), .string ((rdL T_headgatelaw13_Step.z a1 x761).f2), .int .i64 ((rdL T_headgatelaw13_Step.z a1 x761).f3)] 23 (0, 0))], [(b549, .cells #[.int .i64 a0.f0, .int .i64 a0.f1, .string a0.f2, .int .i64 a0.f3] 23 (0, 0))]] [] HW [2, 3, 0, 1] [] [] KR KR (by decide) KR) ht823) ?_; clear ha a; rintro e W825 ⟨U824, F827, rfl, hs828, hU764n, HX826⟩
                      refine ⟨_, rfl, ?_⟩; intro a ha; clear HW
                      clear hU764; have hU764 := hU764n; clear hU764n
                      have HW : Wd w W825 ((b782, .cells #[.int .i64 ((rdL T_headgatelaw13_Step.z a1 x761).f0), .int .i64 ((rdL T_headgatelaw13_Step.z a1 x761).f1), .string ((rdL T_headgatelaw13_Step.z a1 x761).f2), .int .i64 ((rdL T_headgatelaw13_Step.z a1 x761).f3)] 23 (0, 0)) :: (b549, .cells #[.int .i64 a0.f0, .int .i64 a0.f1, .string a0.f2, .int .i64 a0.f3] 23 (0, 0)) :: U824 ++ (F827 ++ ([] : Blks))) (([] : List OwnA)) := Wd.segs (ss := [U824, F827, [(b782, .cells #[.int .i64 ((rdL T_headgatelaw13_Step.z a1 x761).f0), .int .i64 ((rdL T_headgatelaw13_Step.z a1 x761).f1), .string ((rdL T_headgatelaw13_Step.z a1 x761).f2), .int .i64 ((rdL T_headgatelaw13_Step.z a1 x761).f3)] 23 (0, 0))], [(b549, .cells #[.int .i64 a0.f0, .int .i64 a0.f1, .string a0.f2, .int .i64 a0.f3] 23 (0, 0))]]) (bt := ([] : Blks)) (m := []) (ot := ([] : List OwnA)) [[(b782, .cells #[.int .i64 ((rdL T_headgatelaw13_Step.z a1 x761).f0), .int .i64 ((rdL T_headgatelaw13_Step.z a1 x761).f1), .string ((rdL T_headgatelaw13_Step.z a1 x761).f2), .int .i64 ((rdL T_headgatelaw13_Step.z a1 x761).f3)] 23 (0, 0))], [(b549, .cells #[.int .i64 a0.f0, .int .i64 a0.f1, .string a0.f2, .int .i64 a0.f3] 23 (0, 0))], U824, F827] [] HX826 [2, 3, 0, 1] [] [] KR KR (by decide) KR; clear HX826
                      refine endl ?_
                      refine blkN ?_
                      refine blkN ?_
                      refine thenN (hK775 _ _ ?_); clear hK775
                      refine wp_region_lit ?_
                      refine stepp ha 43 (.int .i64 x761) KR KR ?_; clear ha a; intro a ha
                      refine stepp ha 44 (.int .i64 (IntKind.wrap .i64 (x761 + 1))) KR KR ?_; clear ha a; intro a ha
                      refine stepp ha 6 (.int .i64 (IntKind.wrap .i64 (x761 + 1))) KR KR ?_; clear ha a; intro a ha
                      refine endl ?_
                      exact thenN ⟨k766, Nat.lt_succ_self k766, F827, IntKind.wrap .i64 (x761 + 1), t822.2, U824, (by rw [← hag767]; exact h), ha.sub (subs_cons KR (subs_cons KR (subs_cons KR (subs_cons KR (subs_nil _))))), (Wd.segs (ss := [[(b782, .cells #[.int .i64 ((rdL T_headgatelaw13_Step.z a1 x761).f0), .int .i64 ((rdL T_headgatelaw13_Step.z a1 x761).f1), .string ((rdL T_headgatelaw13_Step.z a1 x761).f2), .int .i64 ((rdL T_headgatelaw13_Step.z a1 x761).f3)] 23 (0, 0))], [(b549, .cells #[.int .i64 a0.f0, .int .i64 a0.f1, .string a0.f2, .int .i64 a0.f3] 23 (0, 0))], U824, F827]) (bt := ([] : Blks)) (m := []) (ot := ([] : List OwnA)) [[(b549, .cells #[.int .i64 a0.f0, .int .i64 a0.f1, .string a0.f2, .int .i64 a0.f3] 23 (0, 0))], U824, F827] [] HW [1, 2, 3] [0] [] KR KR (by decide) KR), hU764⟩
                    · skip
                      replace h := ite_neg' h hp821
                      refine condF ha KR KR (t := (((rdL T_headgatelaw13_Step.z a1 x761).f0) == 0)) (ieq_f hp821) ?_
                      refine wp_seq_k (fun K829 hK830 => ?_)
                      refine wp_region_lit ?_
                      refine stepp ha 85 (.bool (((rdL T_headgatelaw13_Step.z a1 x761).f0) == 1)) KR KR ?_; clear ha a; intro a ha
                      refine stepp ha 84 (.bool (((rdL T_headgatelaw13_Step.z a1 x761).f0) == 1)) KR KR ?_; clear ha a; intro a ha
                      refine endl ?_
                      refine thenN (hK830 _ _ ?_); clear hK830
                      by_cases hp831 : ((rdL T_headgatelaw13_Step.z a1 x761).f0) = 1
                      · skip
                        replace h := ite_pos' h hp831
                        refine condT ha KR KR (t := (((rdL T_headgatelaw13_Step.z a1 x761).f0) == 1)) (ieq_t hp831) ?_
                        refine wp_region_lit ?_
                        refine stepp ha 86 (.pointer (some ⟨b555, 0, none⟩)) KR KR ?_; clear ha a; intro a ha
                        refine stepp ha 87 (.pointer (some ⟨b782, 1, none⟩)) KR KR ?_; clear ha a; intro a ha
                        refine stepl ha 88 (HW.ca (i := 0) (b := b782) (C := #[.int .i64 ((rdL T_headgatelaw13_Step.z a1 x761).f0), .int .i64 ((rdL T_headgatelaw13_Step.z a1 x761).f1), .string ((rdL T_headgatelaw13_Step.z a1 x761).f2), .int .i64 ((rdL T_headgatelaw13_Step.z a1 x761).f3)]) (T := 23) (fr := (0, 0)) KR) 3 1 (.tmp 87) (.int .i64 ((rdL T_headgatelaw13_Step.z a1 x761).f1)) rfl KR KR KR ?_; clear ha a; intro a ha
                        refine stepp ha 89 (.pointer (some ⟨b782, 2, none⟩)) KR KR ?_; clear ha a; intro a ha
                        refine stepl ha 90 (HW.ca (i := 0) (b := b782) (C := #[.int .i64 ((rdL T_headgatelaw13_Step.z a1 x761).f0), .int .i64 ((rdL T_headgatelaw13_Step.z a1 x761).f1), .string ((rdL T_headgatelaw13_Step.z a1 x761).f2), .int .i64 ((rdL T_headgatelaw13_Step.z a1 x761).f3)]) (T := 23) (fr := (0, 0)) KR) 9 2 (.tmp 89) (.string ((rdL T_headgatelaw13_Step.z a1 x761).f2)) rfl KR KR KR ?_; clear ha a; intro a ha
                        obtain ⟨t832, ht833, h_⟩ := bind_some' h; clear h; have h := h_; clear h_
                        refine stepc ha 91 KR KR (units_Units_Take.calls x762 ((rdL T_headgatelaw13_Step.z a1 x761).f1) ((rdL T_headgatelaw13_Step.z a1 x761).f2) b555 U763 t832 _ _ F760 ([(b782, .cells #[.int .i64 ((rdL T_headgatelaw13_Step.z a1 x761).f0), .int .i64 ((rdL T_headgatelaw13_Step.z a1 x761).f1), .string ((rdL T_headgatelaw13_Step.z a1 x761).f2), .int .i64 ((rdL T_headgatelaw13_Step.z a1 x761).f3)] 23 (0, 0))] ++ ([(b549, .cells #[.int .i64 a0.f0, .int .i64 a0.f1, .string a0.f2, .int .i64 a0.f3] 23 (0, 0))] ++ (([] : Blks)))) (([] : List OwnA)) hU764 (Wd.segs (ss := [[(b782, .cells #[.int .i64 ((rdL T_headgatelaw13_Step.z a1 x761).f0), .int .i64 ((rdL T_headgatelaw13_Step.z a1 x761).f1), .string ((rdL T_headgatelaw13_Step.z a1 x761).f2), .int .i64 ((rdL T_headgatelaw13_Step.z a1 x761).f3)] 23 (0, 0))], [(b549, .cells #[.int .i64 a0.f0, .int .i64 a0.f1, .string a0.f2, .int .i64 a0.f3] 23 (0, 0))], U763, F760]) (bt := ([] : Blks)) (m := []) (ot := ([] : List OwnA)) [U763, F760, [(b782, .cells #[.int .i64 ((rdL T_headgatelaw13_Step.z a1 x761).f0), .int .i64 ((rdL T_headgatelaw13_Step.z a1 x761).f1), .string ((rdL T_headgatelaw13_Step.z a1 x761).f2), .int .i64 ((rdL T_headgatelaw13_Step.z a1 x761).f3)] 23 (0, 0))], [(b549, .cells #[.int .i64 a0.f0, .int .i64 a0.f1, .string a0.f2, .int .i64 a0.f3] 23 (0, 0))]] [] HW [2, 3, 0, 1] [] [] KR KR (by decide) KR) ht833) ?_; clear ha a; rintro e W835 ⟨U834, rfl, hU764n, HX836⟩
                        refine ⟨_, rfl, ?_⟩; intro a ha; clear HW
                        clear hU764; have hU764 := hU764n; clear hU764n
                        have HW : Wd w W835 ((b782, .cells #[.int .i64 ((rdL T_headgatelaw13_Step.z a1 x761).f0), .int .i64 ((rdL T_headgatelaw13_Step.z a1 x761).f1), .string ((rdL T_headgatelaw13_Step.z a1 x761).f2), .int .i64 ((rdL T_headgatelaw13_Step.z a1 x761).f3)] 23 (0, 0)) :: (b549, .cells #[.int .i64 a0.f0, .int .i64 a0.f1, .string a0.f2, .int .i64 a0.f3] 23 (0, 0)) :: U834 ++ (F760 ++ ([] : Blks))) (([] : List OwnA)) := Wd.segs (ss := [U834, F760, [(b782, .cells #[.int .i64 ((rdL T_headgatelaw13_Step.z a1 x761).f0), .int .i64 ((rdL T_headgatelaw13_Step.z a1 x761).f1), .string ((rdL T_headgatelaw13_Step.z a1 x761).f2), .int .i64 ((rdL T_headgatelaw13_Step.z a1 x761).f3)] 23 (0, 0))], [(b549, .cells #[.int .i64 a0.f0, .int .i64 a0.f1, .string a0.f2, .int .i64 a0.f3] 23 (0, 0))]]) (bt := ([] : Blks)) (m := []) (ot := ([] : List OwnA)) [[(b782, .cells #[.int .i64 ((rdL T_headgatelaw13_Step.z a1 x761).f0), .int .i64 ((rdL T_headgatelaw13_Step.z a1 x761).f1), .string ((rdL T_headgatelaw13_Step.z a1 x761).f2), .int .i64 ((rdL T_headgatelaw13_Step.z a1 x761).f3)] 23 (0, 0))], [(b549, .cells #[.int .i64 a0.f0, .int .i64 a0.f1, .string a0.f2, .int .i64 a0.f3] 23 (0, 0))], U834, F760] [] HX836 [2, 3, 0, 1] [] [] KR KR (by decide) KR; clear HX836
                        refine endl ?_
                        refine blkN ?_
                        refine blkN ?_
                        refine thenN (hK775 _ _ ?_); clear hK775
                        refine wp_region_lit ?_
                        refine stepp ha 43 (.int .i64 x761) KR KR ?_; clear ha a; intro a ha
                        refine stepp ha 44 (.int .i64 (IntKind.wrap .i64 (x761 + 1))) KR KR ?_; clear ha a; intro a ha
                        refine stepp ha 6 (.int .i64 (IntKind.wrap .i64 (x761 + 1))) KR KR ?_; clear ha a; intro a ha
                        refine endl ?_
                        exact thenN ⟨k766, Nat.lt_succ_self k766, F760, IntKind.wrap .i64 (x761 + 1), t832.2.2, U834, (by rw [← hag767]; exact h), ha.sub (subs_cons KR (subs_cons KR (subs_cons KR (subs_cons KR (subs_nil _))))), (Wd.segs (ss := [[(b782, .cells #[.int .i64 ((rdL T_headgatelaw13_Step.z a1 x761).f0), .int .i64 ((rdL T_headgatelaw13_Step.z a1 x761).f1), .string ((rdL T_headgatelaw13_Step.z a1 x761).f2), .int .i64 ((rdL T_headgatelaw13_Step.z a1 x761).f3)] 23 (0, 0))], [(b549, .cells #[.int .i64 a0.f0, .int .i64 a0.f1, .string a0.f2, .int .i64 a0.f3] 23 (0, 0))], U834, F760]) (bt := ([] : Blks)) (m := []) (ot := ([] : List OwnA)) [[(b549, .cells #[.int .i64 a0.f0, .int .i64 a0.f1, .string a0.f2, .int .i64 a0.f3] 23 (0, 0))], U834, F760] [] HW [1, 2, 3] [0] [] KR KR (by decide) KR), hU764⟩
                      · skip
                        replace h := ite_neg' h hp831
                        refine condF ha KR KR (t := (((rdL T_headgatelaw13_Step.z a1 x761).f0) == 1)) (ieq_f hp831) ?_
                        refine wp_seq_k (fun K839 hK840 => ?_)
                        refine wp_region_lit ?_
                        refine stepp ha 93 (.bool (((rdL T_headgatelaw13_Step.z a1 x761).f0) == 2)) KR KR ?_; clear ha a; intro a ha
                        refine stepp ha 92 (.bool (((rdL T_headgatelaw13_Step.z a1 x761).f0) == 2)) KR KR ?_; clear ha a; intro a ha
                        refine endl ?_
                        refine thenN (hK840 _ _ ?_); clear hK840
                        by_cases hp841 : ((rdL T_headgatelaw13_Step.z a1 x761).f0) = 2
                        · skip
                          replace h := ite_pos' h hp841
                          refine condT ha KR KR (t := (((rdL T_headgatelaw13_Step.z a1 x761).f0) == 2)) (ieq_t hp841) ?_
                          refine wp_region_lit ?_
                          refine stepp ha 94 (.pointer (some ⟨b555, 0, none⟩)) KR KR ?_; clear ha a; intro a ha
                          refine stepp ha 95 (.pointer (some ⟨b782, 2, none⟩)) KR KR ?_; clear ha a; intro a ha
                          refine stepl ha 96 (HW.ca (i := 0) (b := b782) (C := #[.int .i64 ((rdL T_headgatelaw13_Step.z a1 x761).f0), .int .i64 ((rdL T_headgatelaw13_Step.z a1 x761).f1), .string ((rdL T_headgatelaw13_Step.z a1 x761).f2), .int .i64 ((rdL T_headgatelaw13_Step.z a1 x761).f3)]) (T := 23) (fr := (0, 0)) KR) 9 2 (.tmp 95) (.string ((rdL T_headgatelaw13_Step.z a1 x761).f2)) rfl KR KR KR ?_; clear ha a; intro a ha
                          obtain ⟨t842, ht843, h_⟩ := bind_some' h; clear h; have h := h_; clear h_
                          refine stepc ha 97 KR KR (units_Units_Forget.calls K x762 ((rdL T_headgatelaw13_Step.z a1 x761).f2) b555 U763 t842 _ _ F760 ([(b782, .cells #[.int .i64 ((rdL T_headgatelaw13_Step.z a1 x761).f0), .int .i64 ((rdL T_headgatelaw13_Step.z a1 x761).f1), .string ((rdL T_headgatelaw13_Step.z a1 x761).f2), .int .i64 ((rdL T_headgatelaw13_Step.z a1 x761).f3)] 23 (0, 0))] ++ ([(b549, .cells #[.int .i64 a0.f0, .int .i64 a0.f1, .string a0.f2, .int .i64 a0.f3] 23 (0, 0))] ++ (([] : Blks)))) (([] : List OwnA)) hU764 (Wd.segs (ss := [[(b782, .cells #[.int .i64 ((rdL T_headgatelaw13_Step.z a1 x761).f0), .int .i64 ((rdL T_headgatelaw13_Step.z a1 x761).f1), .string ((rdL T_headgatelaw13_Step.z a1 x761).f2), .int .i64 ((rdL T_headgatelaw13_Step.z a1 x761).f3)] 23 (0, 0))], [(b549, .cells #[.int .i64 a0.f0, .int .i64 a0.f1, .string a0.f2, .int .i64 a0.f3] 23 (0, 0))], U763, F760]) (bt := ([] : Blks)) (m := []) (ot := ([] : List OwnA)) [U763, F760, [(b782, .cells #[.int .i64 ((rdL T_headgatelaw13_Step.z a1 x761).f0), .int .i64 ((rdL T_headgatelaw13_Step.z a1 x761).f1), .string ((rdL T_headgatelaw13_Step.z a1 x761).f2), .int .i64 ((rdL T_headgatelaw13_Step.z a1 x761).f3)] 23 (0, 0))], [(b549, .cells #[.int .i64 a0.f0, .int .i64 a0.f1, .string a0.f2, .int .i64 a0.f3] 23 (0, 0))]] [] HW [2, 3, 0, 1] [] [] KR KR (by decide) KR) ht843) ?_; clear ha a; rintro e W845 ⟨U844, rfl, hU764n, HX846⟩
                          refine ⟨_, rfl, ?_⟩; intro a ha; clear HW
                          clear hU764; have hU764 := hU764n; clear hU764n
                          have HW : Wd w W845 ((b782, .cells #[.int .i64 ((rdL T_headgatelaw13_Step.z a1 x761).f0), .int .i64 ((rdL T_headgatelaw13_Step.z a1 x761).f1), .string ((rdL T_headgatelaw13_Step.z a1 x761).f2), .int .i64 ((rdL T_headgatelaw13_Step.z a1 x761).f3)] 23 (0, 0)) :: (b549, .cells #[.int .i64 a0.f0, .int .i64 a0.f1, .string a0.f2, .int .i64 a0.f3] 23 (0, 0)) :: U844 ++ (F760 ++ ([] : Blks))) (([] : List OwnA)) := Wd.segs (ss := [U844, F760, [(b782, .cells #[.int .i64 ((rdL T_headgatelaw13_Step.z a1 x761).f0), .int .i64 ((rdL T_headgatelaw13_Step.z a1 x761).f1), .string ((rdL T_headgatelaw13_Step.z a1 x761).f2), .int .i64 ((rdL T_headgatelaw13_Step.z a1 x761).f3)] 23 (0, 0))], [(b549, .cells #[.int .i64 a0.f0, .int .i64 a0.f1, .string a0.f2, .int .i64 a0.f3] 23 (0, 0))]]) (bt := ([] : Blks)) (m := []) (ot := ([] : List OwnA)) [[(b782, .cells #[.int .i64 ((rdL T_headgatelaw13_Step.z a1 x761).f0), .int .i64 ((rdL T_headgatelaw13_Step.z a1 x761).f1), .string ((rdL T_headgatelaw13_Step.z a1 x761).f2), .int .i64 ((rdL T_headgatelaw13_Step.z a1 x761).f3)] 23 (0, 0))], [(b549, .cells #[.int .i64 a0.f0, .int .i64 a0.f1, .string a0.f2, .int .i64 a0.f3] 23 (0, 0))], U844, F760] [] HX846 [2, 3, 0, 1] [] [] KR KR (by decide) KR; clear HX846
                          refine endl ?_
                          refine blkN ?_
                          refine blkN ?_
                          refine thenN (hK775 _ _ ?_); clear hK775
                          refine wp_region_lit ?_
                          refine stepp ha 43 (.int .i64 x761) KR KR ?_; clear ha a; intro a ha
                          refine stepp ha 44 (.int .i64 (IntKind.wrap .i64 (x761 + 1))) KR KR ?_; clear ha a; intro a ha
                          refine stepp ha 6 (.int .i64 (IntKind.wrap .i64 (x761 + 1))) KR KR ?_; clear ha a; intro a ha
                          refine endl ?_
                          exact thenN ⟨k766, Nat.lt_succ_self k766, F760, IntKind.wrap .i64 (x761 + 1), t842, U844, (by rw [← hag767]; exact h), ha.sub (subs_cons KR (subs_cons KR (subs_cons KR (subs_cons KR (subs_nil _))))), (Wd.segs (ss := [[(b782, .cells #[.int .i64 ((rdL T_headgatelaw13_Step.z a1 x761).f0), .int .i64 ((rdL T_headgatelaw13_Step.z a1 x761).f1), .string ((rdL T_headgatelaw13_Step.z a1 x761).f2), .int .i64 ((rdL T_headgatelaw13_Step.z a1 x761).f3)] 23 (0, 0))], [(b549, .cells #[.int .i64 a0.f0, .int .i64 a0.f1, .string a0.f2, .int .i64 a0.f3] 23 (0, 0))], U844, F760]) (bt := ([] : Blks)) (m := []) (ot := ([] : List OwnA)) [[(b549, .cells #[.int .i64 a0.f0, .int .i64 a0.f1, .string a0.f2, .int .i64 a0.f3] 23 (0, 0))], U844, F760] [] HW [1, 2, 3] [0] [] KR KR (by decide) KR), hU764⟩
                        · skip
                          replace h := ite_neg' h hp841
                          refine condF ha KR KR (t := (((rdL T_headgatelaw13_Step.z a1 x761).f0) == 2)) (ieq_f hp841) ?_
                          refine wp_skip ?_
                          refine blkN ?_
                          refine blkN ?_
                          refine thenN (hK775 _ _ ?_); clear hK775
                          refine wp_region_lit ?_
                          refine stepp ha 43 (.int .i64 x761) KR KR ?_; clear ha a; intro a ha
                          refine stepp ha 44 (.int .i64 (IntKind.wrap .i64 (x761 + 1))) KR KR ?_; clear ha a; intro a ha
                          refine stepp ha 6 (.int .i64 (IntKind.wrap .i64 (x761 + 1))) KR KR ?_; clear ha a; intro a ha
                          refine endl ?_
                          exact thenN ⟨k766, Nat.lt_succ_self k766, F760, IntKind.wrap .i64 (x761 + 1), x762, U763, (by rw [← hag767]; exact h), ha.sub (subs_cons KR (subs_cons KR (subs_cons KR (subs_cons KR (subs_nil _))))), (Wd.segs (ss := [[(b782, .cells #[.int .i64 ((rdL T_headgatelaw13_Step.z a1 x761).f0), .int .i64 ((rdL T_headgatelaw13_Step.z a1 x761).f1), .string ((rdL T_headgatelaw13_Step.z a1 x761).f2), .int .i64 ((rdL T_headgatelaw13_Step.z a1 x761).f3)] 23 (0, 0))], [(b549, .cells #[.int .i64 a0.f0, .int .i64 a0.f1, .string a0.f2, .int .i64 a0.f3] 23 (0, 0))], U763, F760]) (bt := ([] : Blks)) (m := []) (ot := ([] : List OwnA)) [[(b549, .cells #[.int .i64 a0.f0, .int .i64 a0.f1, .string a0.f2, .int .i64 a0.f3] 23 (0, 0))], U763, F760] [] HW [1, 2, 3] [0] [] KR KR (by decide) KR), hU764⟩
              · skip
                replace h := ite_neg' h hp773
                refine condF ha KR KR (t := decide (x761 < 60)) (decide_eq_false hp773) ?_
                refine wp_exit ?_
                refine thenE ?_
                refine thenE ?_
                refine inBlk ?_
                exact thenN ⟨F760, x762, U763, h, ha.sub (subs_cons KR (subs_cons KR (subs_nil _))), (Wd.segs (ss := [[(b549, .cells #[.int .i64 a0.f0, .int .i64 a0.f1, .string a0.f2, .int .i64 a0.f3] 23 (0, 0))], U763, F760]) (bt := ([] : Blks)) (m := []) (ot := ([] : List OwnA)) [[(b549, .cells #[.int .i64 a0.f0, .int .i64 a0.f1, .string a0.f2, .int .i64 a0.f3] 23 (0, 0))], U763, F760] [] HW [0, 1, 2] [] [] KR KR (by decide) KR), hU764⟩
            · skip
              replace h := ite_neg' h hp772
              replace ha := ha.bool 39 KR (decide_eq_false hp772)
              refine stepo ha 40 KR ?_; clear ha a; intro a ha
              refine stepo ha 41 KR ?_; clear ha a; intro a ha
              refine stepp ha 42 (.bool false) KR KR ?_; clear ha a; intro a ha
              refine endl ?_
              refine thenN (hK771 _ _ ?_); clear hK771
              refine condF ha KR KR (t := false) (rfl) ?_
              refine wp_exit ?_
              refine thenE ?_
              refine thenE ?_
              refine inBlk ?_
              exact thenN ⟨F760, x762, U763, h, ha.sub (subs_cons KR (subs_cons KR (subs_nil _))), (Wd.segs (ss := [[(b549, .cells #[.int .i64 a0.f0, .int .i64 a0.f1, .string a0.f2, .int .i64 a0.f3] 23 (0, 0))], U763, F760]) (bt := ([] : Blks)) (m := []) (ot := ([] : List OwnA)) [[(b549, .cells #[.int .i64 a0.f0, .int .i64 a0.f1, .string a0.f2, .int .i64 a0.f3] 23 (0, 0))], U763, F760] [] HW [0, 1, 2] [] [] KR KR (by decide) KR), hU764⟩
      · skip
        intro a W853 hJ
        obtain ⟨F849, x850, U851, h, ha, HW, hU852⟩ := hJ
        replace h : headgatelaw13_UnitsApart.j1 K a0 x850 = some r := h
        unfold headgatelaw13_UnitsApart.j1 at h
        refine hK588 _ _ ?_; clear hK588
        refine wp_seq_k (fun K854 hK855 => ?_)
        refine wp_region_lit ?_
        refine stepp ha 99 (.pointer (some ⟨b555, 0, none⟩)) KR KR ?_; clear ha a; intro a ha
        refine stepp ha 100 (.pointer (some ⟨b549, 1, none⟩)) KR KR ?_; clear ha a; intro a ha
        refine stepl ha 101 (HW.ca (i := 0) (b := b549) (C := #[.int .i64 a0.f0, .int .i64 a0.f1, .string a0.f2, .int .i64 a0.f3]) (T := 23) (fr := (0, 0)) KR) 3 1 (.tmp 100) (.int .i64 a0.f1) rfl KR KR KR ?_; clear ha a; intro a ha
        refine stepp ha 102 (.pointer (some ⟨b549, 2, none⟩)) KR KR ?_; clear ha a; intro a ha
        refine stepl ha 103 (HW.ca (i := 0) (b := b549) (C := #[.int .i64 a0.f0, .int .i64 a0.f1, .string a0.f2, .int .i64 a0.f3]) (T := 23) (fr := (0, 0)) KR) 9 2 (.tmp 102) (.string a0.f2) rfl KR KR KR ?_; clear ha a; intro a ha
        obtain ⟨t856, ht857, h_⟩ := bind_some' h; clear h; have h := h_; clear h_
        refine stepc ha 104 KR KR (units_Units_Take.calls x850 a0.f1 a0.f2 b555 U851 t856 _ _ F849 ([(b549, .cells #[.int .i64 a0.f0, .int .i64 a0.f1, .string a0.f2, .int .i64 a0.f3] 23 (0, 0))] ++ (([] : Blks))) (([] : List OwnA)) hU852 (Wd.segs (ss := [[(b549, .cells #[.int .i64 a0.f0, .int .i64 a0.f1, .string a0.f2, .int .i64 a0.f3] 23 (0, 0))], U851, F849]) (bt := ([] : Blks)) (m := []) (ot := ([] : List OwnA)) [U851, F849, [(b549, .cells #[.int .i64 a0.f0, .int .i64 a0.f1, .string a0.f2, .int .i64 a0.f3] 23 (0, 0))]] [] HW [1, 2, 0] [] [] KR KR (by decide) KR) ht857) ?_; clear ha a; rintro e W859 ⟨U858, rfl, hU852n, HX860⟩
        refine ⟨_, rfl, ?_⟩; intro a ha; clear HW
        clear hU852; have hU852 := hU852n; clear hU852n
        have HW : Wd w W859 ((b549, .cells #[.int .i64 a0.f0, .int .i64 a0.f1, .string a0.f2, .int .i64 a0.f3] 23 (0, 0)) :: U858 ++ (F849 ++ ([] : Blks))) (([] : List OwnA)) := Wd.segs (ss := [U858, F849, [(b549, .cells #[.int .i64 a0.f0, .int .i64 a0.f1, .string a0.f2, .int .i64 a0.f3] 23 (0, 0))]]) (bt := ([] : Blks)) (m := []) (ot := ([] : List OwnA)) [[(b549, .cells #[.int .i64 a0.f0, .int .i64 a0.f1, .string a0.f2, .int .i64 a0.f3] 23 (0, 0))], U858, F849] [] HX860 [2, 0, 1] [] [] KR KR (by decide) KR; clear HX860
        refine stepp ha 98 (.tuple #[.int .i64 t856.1, .bool t856.2.1]) KR KR ?_; clear ha a; intro a ha
        refine stepp ha 105 (.int .i64 t856.1) KR KR ?_; clear ha a; intro a ha
        refine stepp ha 106 (.bool t856.2.1) KR KR ?_; clear ha a; intro a ha
        refine stepp ha 8 (.int .i64 t856.1) KR KR ?_; clear ha a; intro a ha
        refine stepp ha 9 (.bool t856.2.1) KR KR ?_; clear ha a; intro a ha
        refine endl ?_
        refine thenN (hK855 _ _ ?_); clear hK855
        refine wp_seq_k (fun K863 hK864 => ?_)
        refine wp_region_lit ?_
        refine stepp ha 107 (.bool t856.2.1) KR KR ?_; clear ha a; intro a ha
        refine stepp ha 108 (.bool t856.2.1) KR KR ?_; clear ha a; intro a ha
        by_cases hp865 : t856.2.1 = true
        · skip
          replace h := ite_pos' h hp865
          replace ha := ha.bool 108 KR (hp865)
          refine stepp ha 109 (.int .i64 t856.1) KR KR ?_; clear ha a; intro a ha
          refine stepp ha 110 (.pointer (some ⟨b549, 3, none⟩)) KR KR ?_; clear ha a; intro a ha
          refine stepl ha 111 (HW.ca (i := 0) (b := b549) (C := #[.int .i64 a0.f0, .int .i64 a0.f1, .string a0.f2, .int .i64 a0.f3]) (T := 23) (fr := (0, 0)) KR) 3 3 (.tmp 110) (.int .i64 a0.f3) rfl KR KR KR ?_; clear ha a; intro a ha
          refine stepp ha 112 (.bool (t856.1 == a0.f3)) KR KR ?_; clear ha a; intro a ha
          refine stepp ha 113 (.bool (t856.1 == a0.f3)) KR KR ?_; clear ha a; intro a ha
          refine stepp ha 114 (.bool (t856.1 == a0.f3)) KR KR ?_; clear ha a; intro a ha
          by_cases hp866 : t856.1 = a0.f3
          · skip
            replace h := ite_pos' h hp866
            replace ha := ha.bool 114 KR (ieq_t hp866)
            refine stepp ha 115 (.pointer (some ⟨b555, 0, none⟩)) KR KR ?_; clear ha a; intro a ha
            refine stepp ha 116 (.pointer (some ⟨b549, 1, none⟩)) KR KR ?_; clear ha a; intro a ha
            refine stepl ha 117 (HW.ca (i := 0) (b := b549) (C := #[.int .i64 a0.f0, .int .i64 a0.f1, .string a0.f2, .int .i64 a0.f3]) (T := 23) (fr := (0, 0)) KR) 3 1 (.tmp 116) (.int .i64 a0.f1) rfl KR KR KR ?_; clear ha a; intro a ha
            refine stepp ha 118 (.pointer (some ⟨b549, 2, none⟩)) KR KR ?_; clear ha a; intro a ha
            refine stepl ha 119 (HW.ca (i := 0) (b := b549) (C := #[.int .i64 a0.f0, .int .i64 a0.f1, .string a0.f2, .int .i64 a0.f3]) (T := 23) (fr := (0, 0)) KR) 9 2 (.tmp 118) (.string a0.f2) rfl KR KR KR ?_; clear ha a; intro a ha
            obtain ⟨t867, ht868, h_⟩ := bind_some' h; clear h; have h := h_; clear h_
            refine stepc ha 120 KR KR (units_Units_Wait.calls t856.2.2 a0.f1 a0.f2 b555 U858 t867 _ _ F849 ([(b549, .cells #[.int .i64 a0.f0, .int .i64 a0.f1, .string a0.f2, .int .i64 a0.f3] 23 (0, 0))] ++ (([] : Blks))) (([] : List OwnA)) hU852 (Wd.segs (ss := [[(b549, .cells #[.int .i64 a0.f0, .int .i64 a0.f1, .string a0.f2, .int .i64 a0.f3] 23 (0, 0))], U858, F849]) (bt := ([] : Blks)) (m := []) (ot := ([] : List OwnA)) [U858, F849, [(b549, .cells #[.int .i64 a0.f0, .int .i64 a0.f1, .string a0.f2, .int .i64 a0.f3] 23 (0, 0))]] [] HW [1, 2, 0] [] [] KR KR (by decide) KR) ht868) ?_; clear ha a; rintro e W870 ⟨U869, rfl, hU852n, HX871⟩
            refine ⟨_, rfl, ?_⟩; intro a ha; clear HW
            clear hU852; have hU852 := hU852n; clear hU852n
            have HW : Wd w W870 ((b549, .cells #[.int .i64 a0.f0, .int .i64 a0.f1, .string a0.f2, .int .i64 a0.f3] 23 (0, 0)) :: U869 ++ (F849 ++ ([] : Blks))) (([] : List OwnA)) := Wd.segs (ss := [U869, F849, [(b549, .cells #[.int .i64 a0.f0, .int .i64 a0.f1, .string a0.f2, .int .i64 a0.f3] 23 (0, 0))]]) (bt := ([] : Blks)) (m := []) (ot := ([] : List OwnA)) [[(b549, .cells #[.int .i64 a0.f0, .int .i64 a0.f1, .string a0.f2, .int .i64 a0.f3] 23 (0, 0))], U869, F849] [] HX871 [2, 0, 1] [] [] KR KR (by decide) KR; clear HX871
            refine stepp ha 121 (.bool (t867.1 == 0)) KR KR ?_; clear ha a; intro a ha
            refine stepp ha 122 (.bool (t867.1 == 0)) KR KR ?_; clear ha a; intro a ha
            refine stepp ha 123 (.bool (t867.1 == 0)) KR KR ?_; clear ha a; intro a ha
            by_cases hp874 : t867.1 = 0
            · skip
              replace h := ite_pos' h hp874
              replace ha := ha.bool 123 KR (ieq_t hp874)
              obtain ⟨t875, ht876, h_⟩ := bind_some' h; clear h; have h := h_; clear h_
              refine stepc ha 124 KR KR (headgatelaw13_wakes.calls K t875 _ ht876) ?_; clear ha a; rintro e W877 ⟨rfl, HX878⟩
              refine ⟨_, rfl, ?_⟩; intro a ha; replace HW := HW.callw HX878; clear HX878
              refine stepp ha 125 (.bool t875) KR KR ?_; clear ha a; intro a ha
              refine stepp ha 4 (.bool t875) KR KR ?_; clear ha a; intro a ha
              refine endl ?_
              refine thenN (hK864 _ _ ?_); clear hK864
              refine wp_ret ?_
              obtain rfl := Option.some.inj h
              exact finv ha _ _ rfl (.tmp (v := .bool t875) KR .nil) (.bool t875) rfl ⟨rfl, HW.pick [] [] (by decide) (by decide) rfl KR⟩
            · skip
              replace h := ite_neg' h hp874
              replace ha := ha.bool 123 KR (ieq_f hp874)
              refine stepo ha 124 KR ?_; clear ha a; intro a ha
              refine stepp ha 125 (.bool false) KR KR ?_; clear ha a; intro a ha
              refine stepp ha 4 (.bool false) KR KR ?_; clear ha a; intro a ha
              refine endl ?_
              refine thenN (hK864 _ _ ?_); clear hK864
              refine wp_ret ?_
              obtain rfl := Option.some.inj h
              exact finv ha _ _ rfl (.tmp (v := .bool false) KR .nil) (.bool false) rfl ⟨rfl, HW.pick [] [] (by decide) (by decide) rfl KR⟩
          · skip
            replace h := ite_neg' h hp866
            replace ha := ha.bool 114 KR (ieq_f hp866)
            refine stepo ha 115 KR ?_; clear ha a; intro a ha
            refine stepo ha 116 KR ?_; clear ha a; intro a ha
            refine stepo ha 117 KR ?_; clear ha a; intro a ha
            refine stepo ha 118 KR ?_; clear ha a; intro a ha
            refine stepo ha 119 KR ?_; clear ha a; intro a ha
            refine stepo ha 120 KR ?_; clear ha a; intro a ha
            refine stepo ha 121 KR ?_; clear ha a; intro a ha
            refine stepp ha 122 (.bool false) KR KR ?_; clear ha a; intro a ha
            refine stepp ha 123 (.bool false) KR KR ?_; clear ha a; intro a ha
            refine stepo ha 124 KR ?_; clear ha a; intro a ha
            refine stepp ha 125 (.bool false) KR KR ?_; clear ha a; intro a ha
            refine stepp ha 4 (.bool false) KR KR ?_; clear ha a; intro a ha
            refine endl ?_
            refine thenN (hK864 _ _ ?_); clear hK864
            refine wp_ret ?_
            obtain rfl := Option.some.inj h
            exact finv ha _ _ rfl (.tmp (v := .bool false) KR .nil) (.bool false) rfl ⟨rfl, HW.pick [] [] (by decide) (by decide) rfl KR⟩
        · skip
          replace h := ite_neg' h hp865
          replace ha := ha.bool 108 KR (bool_f hp865)
          refine stepo ha 109 KR ?_; clear ha a; intro a ha
          refine stepo ha 110 KR ?_; clear ha a; intro a ha
          refine stepo ha 111 KR ?_; clear ha a; intro a ha
          refine stepo ha 112 KR ?_; clear ha a; intro a ha
          refine stepp ha 113 (.bool false) KR KR ?_; clear ha a; intro a ha
          refine stepp ha 114 (.bool false) KR KR ?_; clear ha a; intro a ha
          refine stepo ha 115 KR ?_; clear ha a; intro a ha
          refine stepo ha 116 KR ?_; clear ha a; intro a ha
          refine stepo ha 117 KR ?_; clear ha a; intro a ha
          refine stepo ha 118 KR ?_; clear ha a; intro a ha
          refine stepo ha 119 KR ?_; clear ha a; intro a ha
          refine stepo ha 120 KR ?_; clear ha a; intro a ha
          refine stepo ha 121 KR ?_; clear ha a; intro a ha
          refine stepp ha 122 (.bool false) KR KR ?_; clear ha a; intro a ha
          refine stepp ha 123 (.bool false) KR KR ?_; clear ha a; intro a ha
          refine stepo ha 124 KR ?_; clear ha a; intro a ha
          refine stepp ha 125 (.bool false) KR KR ?_; clear ha a; intro a ha
          refine stepp ha 4 (.bool false) KR KR ?_; clear ha a; intro a ha
          refine endl ?_
          refine thenN (hK864 _ _ ?_); clear hK864
          refine wp_ret ?_
          obtain rfl := Option.some.inj h
          exact finv ha _ _ rfl (.tmp (v := .bool false) KR .nil) (.bool false) rfl ⟨rfl, HW.pick [] [] (by decide) (by decide) rfl KR⟩
end Go.Proofs.Ytdcojinnjpihaaa.F
