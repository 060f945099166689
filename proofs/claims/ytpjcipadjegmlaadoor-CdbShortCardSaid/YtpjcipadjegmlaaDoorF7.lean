/- headgate/headgatelaw15.CdbShort: plain functions, and that the calls come to what they say. No condition. -/
import Derived.Test.YtpjcipadjegmlaaDoorFT
import Derived.Test.YtpjcipadjegmlaaDoorF15
import Derived.Test.YtpjcipadjegmlaaDoorF16
import Derived.Test.YtpjcipadjegmlaaDoorF22
namespace Go.Proofs.YtpjcipadjegmlaaDoor.F
open Go Go.RowKit Go.Proofs.YtpjcipadjegmlaaDoor.X
set_option linter.unusedVariables false
set_option linter.unusedSimpArgs false
/-! ### headgate/headgatelaw15.CdbShort: function 7 -/
def headgatelaw15_CdbShort.f (K : Nat) (a0 : T_cdb_Ask) (a1 : Int) (a2 : Int) : Option Bool :=
  (cdb_Build.f K a0).bind fun t3413 => (if t3413.2 = 0 then (if t3413.1 = (⟨#[]⟩ : ByteArray) then (some false) else (asrt (¬ (IntKind.wrap .u64 (t3413.1.size : Int)) = 0) (asrt (0 ≤ (IntKind.wrap .i64 (Int.tmod (IntKind.wrap .u64 a1) (IntKind.wrap .u64 (t3413.1.size : Int))))) (asrt ((IntKind.wrap .i64 (Int.tmod (IntKind.wrap .u64 a1) (IntKind.wrap .u64 (t3413.1.size : Int)))) ≤ (t3413.1.size : Int)) ((cdb_Parse.f K (t3413.1.extract 0 (IntKind.wrap .i64 (Int.tmod (IntKind.wrap .u64 a1) (IntKind.wrap .u64 (t3413.1.size : Int))) : Int).toNat)).bind fun t3443 => (asrt (t3413.1.size + (strOfNums ([a2] : List Int)).size ≤ 9223372036854775807) ((cdb_Parse.f K (t3413.1 ++ (strOfNums ([a2] : List Int)))).bind fun t3456 => (asrt (0 ≤ (IntKind.wrap .i64 ((t3413.1.size : Int) - 1))) (asrt ((IntKind.wrap .i64 ((t3413.1.size : Int) - 1)) ≤ (t3413.1.size : Int)) (asrt ((t3413.1.extract 0 (IntKind.wrap .i64 ((t3413.1.size : Int) - 1) : Int).toNat).size + (strOfNums ([a2] : List Int)).size ≤ 9223372036854775807) ((cdb_Parse.f K ((t3413.1.extract 0 (IntKind.wrap .i64 ((t3413.1.size : Int) - 1) : Int).toNat) ++ (strOfNums ([a2] : List Int)))).bind fun t3472 => (if t3443.2 = 150 then (if t3456.2 = 150 then (if (t3472.2 == 0) = (a2 == 0) then ((headgatelaw15_wakes.f K).bind fun t3484 => (some t3484)) else (some false)) else (some false)) else (some false))))))))))))) else (if t3413.1 = (⟨#[]⟩ : ByteArray) then ((headgatelaw15_wakes.f K).bind fun t3425 => (some t3425)) else (some false)))
set_option maxRecDepth 100000 in
set_option maxHeartbeats 4000000 in
theorem headgatelaw15_CdbShort.calls (K : Nat) (a0 : T_cdb_Ask) (a1 : Int) (a2 : Int)  (r : Bool) (w : World) (hG0 : CA w 0 0 (encs (encI .i64) G_cdb_numbers).toArray) (hG1 : CA w 1 0 (encs T_cdb_form.enc G_cdb_forms).toArray) (h : headgatelaw15_CdbShort.f K a0 a1 a2 = some r) :
    Calls Tryd.prog 7 #[.agg #[.int .i64 a0.f0, .int .i64 a0.f1, .int .i64 a0.f2, .bool a0.f3, .int .i64 a0.f4, .int .i64 a0.f5, .int .i64 a0.f6], .int .i64 a1, .int .u8 a2] w (fun e W' => e = .returned (.bool r) ∧ Wd w W' [] [] ) := by
  refine sxstart (n := 82) (l := [(0, .agg #[.int .i64 a0.f0, .int .i64 a0.f1, .int .i64 a0.f2, .bool a0.f3, .int .i64 a0.f4, .int .i64 a0.f5, .int .i64 a0.f6]), (1, .int .i64 a1), (2, .int .u8 a2)]) Tryd.func7 rfl rfl (Nat.le_of_ble_eq_true KR) (subsA_cons rfl (subsA_cons rfl (subsA_cons rfl (subsA_nil _)))) ?_
  intro a ha
  have HW := Wd.refl w
  unfold headgatelaw15_CdbShort.f at h
  refine wp_seq_k (fun K3407 hK3408 => ?_)
  refine wp_region_lit ?_
  refine stepnew ha HW 3 #[.int .i64 a0.f0, .int .i64 a0.f1, .int .i64 a0.f2, .bool a0.f3, .int .i64 a0.f4, .int .i64 a0.f5, .int .i64 a0.f6] 39 KR KR ?_; clear ha HW a; intro b3409 a W3410 HW ha
  refine stepp ha 6 (.bool false) KR KR ?_; clear ha a; intro a ha
  refine endl ?_
  refine thenN (hK3408 _ _ ?_); clear hK3408
  refine wp_seq_k (fun K3411 hK3412 => ?_)
  refine wp_region_lit ?_
  refine stepl ha 17 (HW.ca (i := 0) (b := b3409) (C := #[.int .i64 a0.f0, .int .i64 a0.f1, .int .i64 a0.f2, .bool a0.f3, .int .i64 a0.f4, .int .i64 a0.f5, .int .i64 a0.f6]) (T := 39) (fr := (0, 0)) KR) 39 0 (.tmp 3) (.agg #[.int .i64 a0.f0, .int .i64 a0.f1, .int .i64 a0.f2, .bool a0.f3, .int .i64 a0.f4, .int .i64 a0.f5, .int .i64 a0.f6]) rfl KR KR KR ?_; clear ha a; intro a ha
  obtain ⟨t3413, ht3414, h_⟩ := bind_some' h; clear h; have h := h_; clear h_
  refine stepc ha 18 KR KR (cdb_Build.calls K a0 t3413 _ (HW.ca0 hG0) (HW.ca0 hG1) ht3414) ?_; clear ha a; rintro e W3415 ⟨rfl, HX3416⟩
  refine ⟨_, rfl, ?_⟩; intro a ha; replace HW := HW.callw HX3416; clear HX3416
  refine stepp ha 16 (.tuple #[.string t3413.1, .int .i64 t3413.2]) KR KR ?_; clear ha a; intro a ha
  refine stepp ha 19 (.string t3413.1) KR KR ?_; clear ha a; intro a ha
  refine stepp ha 20 (.int .i64 t3413.2) KR KR ?_; clear ha a; intro a ha
  refine stepp ha 7 (.string t3413.1) KR KR ?_; clear ha a; intro a ha
  refine stepp ha 8 (.int .i64 t3413.2) KR KR ?_; clear ha a; intro a ha
  refine endl ?_
  refine thenN (hK3412 _ _ ?_); clear hK3412
  refine wp_seq_k (fun K3417 hK3418 => ?_)
  refine wp_seq_k (fun K3419 hK3420 => ?_)
  refine wp_region_lit ?_
  refine stepp ha 21 (.int .i64 t3413.2) KR KR ?_; clear ha a; intro a ha
  refine stepp ha 22 (.bool (t3413.2 != 0)) KR KR ?_; clear ha a; intro a ha
  refine endl ?_
  refine thenN (hK3420 _ _ ?_); clear hK3420
  by_cases hp3421 : t3413.2 = 0
  · skip
    replace h := ite_pos' h hp3421
    refine condF ha KR KR (t := (t3413.2 != 0)) (ineq_f hp3421) ?_
    refine wp_skip ?_
    refine thenN (hK3418 _ _ ?_); clear hK3418
    refine wp_seq_k (fun K3429 hK3430 => ?_)
    refine wp_seq_k (fun K3431 hK3432 => ?_)
    refine wp_region_lit ?_
    refine stepp ha 28 (.string t3413.1) KR KR ?_; clear ha a; intro a ha
    refine stepp ha 29 (.bool (t3413.1.toList == (⟨#[]⟩ : ByteArray).toList)) KR KR ?_; clear ha a; intro a ha
    refine endl ?_
    refine thenN (hK3432 _ _ ?_); clear hK3432
    by_cases hp3433 : t3413.1 = (⟨#[]⟩ : ByteArray)
    · skip
      replace h := ite_pos' h hp3433
      refine condT ha KR KR (t := (t3413.1.toList == (⟨#[]⟩ : ByteArray).toList)) (str_eq_t hp3433) ?_
      refine wp_seq_k (fun K3434 hK3435 => ?_)
      refine wp_region_lit ?_
      refine stepp ha 6 (.bool false) KR KR ?_; clear ha a; intro a ha
      refine endl ?_
      refine thenN (hK3435 _ _ ?_); clear hK3435
      refine wp_ret ?_
      refine thenR ?_
      obtain rfl := Option.some.inj h
      exact finv ha _ _ rfl (.tmp (v := .bool false) KR .nil) (.bool false) rfl ⟨rfl, HW.pick [] [] (by decide) (by decide) rfl KR⟩
    · skip
      replace h := ite_neg' h hp3433
      refine condF ha KR KR (t := (t3413.1.toList == (⟨#[]⟩ : ByteArray).toList)) (str_eq_f hp3433) ?_
      refine wp_skip ?_
      refine thenN (hK3430 _ _ ?_); clear hK3430
      refine wp_seq_k (fun K3436 hK3437 => ?_)
      refine wp_region_lit ?_
      refine stepp ha 30 (.int .i64 a1) KR KR ?_; clear ha a; intro a ha
      refine stepp ha 31 (.int .u64 (IntKind.wrap .u64 a1)) KR KR ?_; clear ha a; intro a ha
      refine stepp ha 32 (.string t3413.1) KR KR ?_; clear ha a; intro a ha
      refine stepp ha 33 (.int .i64 (t3413.1.size : Int)) KR KR ?_; clear ha a; intro a ha
      refine stepp ha 34 (.int .u64 (IntKind.wrap .u64 (t3413.1.size : Int))) KR KR ?_; clear ha a; intro a ha
      obtain ⟨hA3438, h_⟩ := asrt_some h; clear h; have h := h_; clear h_
      refine steprem ha 35 33 33 (.tmp 31) (.tmp 34) .u64 (IntKind.wrap .u64 a1) (IntKind.wrap .u64 (t3413.1.size : Int)) rfl KR KR hA3438 KR ?_; clear ha a; intro a ha
      refine stepp ha 36 (.int .i64 (IntKind.wrap .i64 (Int.tmod (IntKind.wrap .u64 a1) (IntKind.wrap .u64 (t3413.1.size : Int))))) KR KR ?_; clear ha a; intro a ha
      refine stepp ha 9 (.int .i64 (IntKind.wrap .i64 (Int.tmod (IntKind.wrap .u64 a1) (IntKind.wrap .u64 (t3413.1.size : Int))))) KR KR ?_; clear ha a; intro a ha
      refine endl ?_
      refine thenN (hK3437 _ _ ?_); clear hK3437
      refine wp_seq_k (fun K3439 hK3440 => ?_)
      refine wp_region_lit ?_
      refine stepp ha 38 (.string t3413.1) KR KR ?_; clear ha a; intro a ha
      refine stepp ha 39 (.int .i64 (IntKind.wrap .i64 (Int.tmod (IntKind.wrap .u64 a1) (IntKind.wrap .u64 (t3413.1.size : Int))))) KR KR ?_; clear ha a; intro a ha
      obtain ⟨hA3441, h_⟩ := asrt_some h; clear h; have h := h_; clear h_
      obtain ⟨hA3442, h_⟩ := asrt_some h; clear h; have h := h_; clear h_
      refine stepssh ha 40 9 (.tmp 38) (.tmp 39) t3413.1 .i64 (IntKind.wrap .i64 (Int.tmod (IntKind.wrap .u64 a1) (IntKind.wrap .u64 (t3413.1.size : Int)))) rfl KR KR KR hA3441 (show (IntKind.wrap .i64 (Int.tmod (IntKind.wrap .u64 a1) (IntKind.wrap .u64 (t3413.1.size : Int))) : Int) ≤ ((t3413.1).size : Int) from hA3442) KR ?_; clear ha a; intro a ha
      obtain ⟨t3443, ht3444, h_⟩ := bind_some' h; clear h; have h := h_; clear h_
      refine stepc ha 41 KR KR (cdb_Parse.calls K (t3413.1.extract 0 (IntKind.wrap .i64 (Int.tmod (IntKind.wrap .u64 a1) (IntKind.wrap .u64 (t3413.1.size : Int))) : Int).toNat) t3443 _ (HW.ca0 hG0) (HW.ca0 hG1) ht3444) ?_; clear ha a; rintro e W3445 ⟨rfl, HX3446⟩
      refine ⟨_, rfl, ?_⟩; intro a ha; replace HW := HW.callw HX3446; clear HX3446
      refine stepp ha 37 (.tuple #[.agg #[.int .i64 t3443.1.f0, .int .i64 t3443.1.f1, .int .i64 t3443.1.f2, .bool t3443.1.f3, .int .i64 t3443.1.f4, .int .i64 t3443.1.f5, .int .i64 t3443.1.f6], .int .i64 t3443.2]) KR KR ?_; clear ha a; intro a ha
      refine stepp ha 42 (.agg #[.int .i64 t3443.1.f0, .int .i64 t3443.1.f1, .int .i64 t3443.1.f2, .bool t3443.1.f3, .int .i64 t3443.1.f4, .int .i64 t3443.1.f5, .int .i64 t3443.1.f6]) KR KR ?_; clear ha a; intro a ha
      refine stepp ha 43 (.int .i64 t3443.2) KR KR ?_; clear ha a; intro a ha
      refine stepnew ha HW 10 #[.int .i64 0, .int .i64 0, .int .i64 0, .bool false, .int .i64 0, .int .i64 0, .int .i64 0] 39 KR KR ?_; clear ha HW a; intro b3447 a W3448 HW ha
      refine stepst ha HW 0 (b := b3447) (C := #[.int .i64 0, .int .i64 0, .int .i64 0, .bool false, .int .i64 0, .int .i64 0, .int .i64 0]) (T := 39) KR 39 0 (.tmp 10) (.tmp 42) (.agg #[.int .i64 t3443.1.f0, .int .i64 t3443.1.f1, .int .i64 t3443.1.f2, .bool t3443.1.f3, .int .i64 t3443.1.f4, .int .i64 t3443.1.f5, .int .i64 t3443.1.f6]) #[.int .i64 t3443.1.f0, .int .i64 t3443.1.f1, .int .i64 t3443.1.f2, .bool t3443.1.f3, .int .i64 t3443.1.f4, .int .i64 t3443.1.f5, .int .i64 t3443.1.f6] rfl KR KR KR KR KR KR KR ?_; clear ha HW a; intro a W3449 HW ha
      refine stepp ha 11 (.int .i64 t3443.2) KR KR ?_; clear ha a; intro a ha
      refine endl ?_
      refine thenN (hK3440 _ _ ?_); clear hK3440
      refine wp_seq_k (fun K3450 hK3451 => ?_)
      refine wp_region_lit ?_
      refine stepp ha 45 (.string t3413.1) KR KR ?_; clear ha a; intro a ha
      refine stepp ha 46 (.int .u8 a2) KR KR ?_; clear ha a; intro a ha
      refine stepbs ha HW 47 5 1 1 #[.int .u8 a2] [.int .u8 a2] (by decide) KR KR KR KR ?_; clear ha HW a; intro b3452 a W3453 HW ha
      replace HW : Wd w W3453 [(b3447, .cells #[.int .i64 t3443.1.f0, .int .i64 t3443.1.f1, .int .i64 t3443.1.f2, .bool t3443.1.f3, .int .i64 t3443.1.f4, .int .i64 t3443.1.f5, .int .i64 t3443.1.f6] 39 (0, 0)), (b3409, .cells #[.int .i64 a0.f0, .int .i64 a0.f1, .int .i64 a0.f2, .bool a0.f3, .int .i64 a0.f4, .int .i64 a0.f5, .int .i64 a0.f6] 39 (0, 0))] [⟨5, 1, .slice (some ⟨b3452, 0, none⟩) ([a2] : List Int).length 1, ([a2] : List Int).length, encs (encI .u8) ([a2] : List Int)⟩] := HW
      replace ha := ha.turn 47 (v := .slice (some ⟨b3452, 0, none⟩) ([a2] : List Int).length 1) KR rfl
      refine stepbt ha 48 56 9 5 (.tmp 47) (v := .slice (some ⟨b3452, 0, none⟩) ([a2] : List Int).length 1) (xs := ([a2] : List Int)) (HW.rdo (i := 0) (q := ⟨5, 1, .slice (some ⟨b3452, 0, none⟩) ([a2] : List Int).length 1, ([a2] : List Int).length, encs (encI .u8) ([a2] : List Int)⟩) KR) rfl KR KR KR KR KR ?_; clear ha a; intro a ha
      obtain ⟨hA3455, h_⟩ := asrt_some h; clear h; have h := h_; clear h_
      refine stepsa ha 49 9 9 (.tmp 45) (.tmp 48) t3413.1 (strOfNums ([a2] : List Int)) rfl KR KR (show (t3413.1).size + (strOfNums ([a2] : List Int)).size ≤ 9223372036854775807 from hA3455) KR ?_; clear ha a; intro a ha
      obtain ⟨t3456, ht3457, h_⟩ := bind_some' h; clear h; have h := h_; clear h_
      refine stepc ha 50 KR KR (cdb_Parse.calls K (t3413.1 ++ (strOfNums ([a2] : List Int))) t3456 _ (HW.ca0 hG0) (HW.ca0 hG1) ht3457) ?_; clear ha a; rintro e W3458 ⟨rfl, HX3459⟩
      refine ⟨_, rfl, ?_⟩; intro a ha; replace HW := HW.callw HX3459; clear HX3459
      refine stepp ha 44 (.tuple #[.agg #[.int .i64 t3456.1.f0, .int .i64 t3456.1.f1, .int .i64 t3456.1.f2, .bool t3456.1.f3, .int .i64 t3456.1.f4, .int .i64 t3456.1.f5, .int .i64 t3456.1.f6], .int .i64 t3456.2]) KR KR ?_; clear ha a; intro a ha
      refine stepp ha 51 (.agg #[.int .i64 t3456.1.f0, .int .i64 t3456.1.f1, .int .i64 t3456.1.f2, .bool t3456.1.f3, .int .i64 t3456.1.f4, .int .i64 t3456.1.f5, .int .i64 t3456.1.f6]) KR KR ?_; clear ha a; intro a ha
      refine stepp ha 52 (.int .i64 t3456.2) KR KR ?_; clear ha a; intro a ha
      refine stepnew ha HW 12 #[.int .i64 0, .int .i64 0, .int .i64 0, .bool false, .int .i64 0, .int .i64 0, .int .i64 0] 39 KR KR ?_; clear ha HW a; intro b3460 a W3461 HW ha
      refine stepst ha HW 0 (b := b3460) (C := #[.int .i64 0, .int .i64 0, .int .i64 0, .bool false, .int .i64 0, .int .i64 0, .int .i64 0]) (T := 39) KR 39 0 (.tmp 12) (.tmp 51) (.agg #[.int .i64 t3456.1.f0, .int .i64 t3456.1.f1, .int .i64 t3456.1.f2, .bool t3456.1.f3, .int .i64 t3456.1.f4, .int .i64 t3456.1.f5, .int .i64 t3456.1.f6]) #[.int .i64 t3456.1.f0, .int .i64 t3456.1.f1, .int .i64 t3456.1.f2, .bool t3456.1.f3, .int .i64 t3456.1.f4, .int .i64 t3456.1.f5, .int .i64 t3456.1.f6] rfl KR KR KR KR KR KR KR ?_; clear ha HW a; intro a W3462 HW ha
      refine stepp ha 13 (.int .i64 t3456.2) KR KR ?_; clear ha a; intro a ha
      refine endl ?_
      refine thenN (hK3451 _ _ ?_); clear hK3451
      refine wp_seq_k (fun K3463 hK3464 => ?_)
      obtain ⟨hA3465, h_⟩ := asrt_some h; clear h; have h := h_; clear h_
      obtain ⟨hA3466, h_⟩ := asrt_some h; clear h; have h := h_; clear h_
      obtain ⟨hA3471, h_⟩ := asrt_some h; clear h; have h := h_; clear h_
      obtain ⟨t3472, ht3473, h_⟩ := bind_some' h; clear h; have h := h_; clear h_
      refine regionT 15 KR KR ha HW [.fix (.string t3413.1), .fix (.string t3413.1), .fix (.int .i64 (t3413.1.size : Int)), .fix (.int .i64 (IntKind.wrap .i64 ((t3413.1.size : Int) - 1))), .fix (.string (t3413.1.extract 0 (IntKind.wrap .i64 ((t3413.1.size : Int) - 1) : Int).toNat)), .fix (.int .u8 a2), .lit 5 ([a2] : List Int).length #[.int .u8 a2], .fix (.string (strOfNums ([a2] : List Int))), .fix (.string ((t3413.1.extract 0 (IntKind.wrap .i64 ((t3413.1.size : Int) - 1) : Int).toNat) ++ (strOfNums ([a2] : List Int)))), .fix (.tuple #[.agg #[.int .i64 t3472.1.f0, .int .i64 t3472.1.f1, .int .i64 t3472.1.f2, .bool t3472.1.f3, .int .i64 t3472.1.f4, .int .i64 t3472.1.f5, .int .i64 t3472.1.f6], .int .i64 t3472.2]), .fix (.tuple #[.agg #[.int .i64 t3472.1.f0, .int .i64 t3472.1.f1, .int .i64 t3472.1.f2, .bool t3472.1.f3, .int .i64 t3472.1.f4, .int .i64 t3472.1.f5, .int .i64 t3472.1.f6], .int .i64 t3472.2]), .fix (.agg #[.int .i64 t3472.1.f0, .int .i64 t3472.1.f1, .int .i64 t3472.1.f2, .bool t3472.1.f3, .int .i64 t3472.1.f4, .int .i64 t3472.1.f5, .int .i64 t3472.1.f6]), .fix (.int .i64 t3472.2), .new 39 7, .any] ?_ ?_
      · skip
        have hG0 := HW.ca0 hG0
        have hG1 := HW.ca0 hG1
        refine ⟨?_, ?_, ?_, ?_, ?_, ?_, ?_, ?_, ?_, ?_, ?_, ?_, ?_, ?_, ?_, trivial⟩
        · skip
          intro a wr hn hd HW hs; have ha := hasNil hn hd
          have ha := ha.add (seeET hs 7 (.string t3413.1) KR KR)
          refine yStep ha 54 KR ?_; intro l_ ha HK
          refine stepp ha 54 (.string t3413.1) KR KR ?_; intro ax hax; exact HK _ _ _ hax rfl (Below.refl _ _)
        · skip
          intro a wr hn hd HW hs; have ha := hasNil hn hd
          have ha := ha.add (seeET hs 7 (.string t3413.1) KR KR)
          refine yStep ha 55 KR ?_; intro l_ ha HK
          refine stepp ha 55 (.string t3413.1) KR KR ?_; intro ax hax; exact HK _ _ _ hax rfl (Below.refl _ _)
        · skip
          intro a wr hn hd HW hs; have ha := hasNil hn hd
          have ha := ha.add (seeFT hs 55 1 (.string t3413.1) KR KR)
          refine yStep ha 56 KR ?_; intro l_ ha HK
          refine stepp ha 56 (.int .i64 (t3413.1.size : Int)) KR KR ?_; intro ax hax; exact HK _ _ _ hax rfl (Below.refl _ _)
        · skip
          intro a wr hn hd HW hs; have ha := hasNil hn hd
          have ha := ha.add (seeFT hs 56 2 (.int .i64 (t3413.1.size : Int)) KR KR)
          refine yStep ha 57 KR ?_; intro l_ ha HK
          refine stepp ha 57 (.int .i64 (IntKind.wrap .i64 ((t3413.1.size : Int) - 1))) KR KR ?_; intro ax hax; exact HK _ _ _ hax rfl (Below.refl _ _)
        · skip
          intro a wr hn hd HW hs; have ha := hasNil hn hd
          have ha := ha.add (seeFT hs 54 0 (.string t3413.1) KR KR)
          have ha := ha.add (seeFT hs 57 3 (.int .i64 (IntKind.wrap .i64 ((t3413.1.size : Int) - 1))) KR KR)
          refine yStep ha 58 KR ?_; intro l_ ha HK
          refine stepssh ha 58 9 (.tmp 54) (.tmp 57) t3413.1 .i64 (IntKind.wrap .i64 ((t3413.1.size : Int) - 1)) rfl KR KR KR hA3465 (show (IntKind.wrap .i64 ((t3413.1.size : Int) - 1) : Int) ≤ ((t3413.1).size : Int) from hA3466) KR ?_; intro ax hax; exact HK _ _ _ hax rfl (Below.refl _ _)
        · skip
          intro a wr hn hd HW hs; have ha := hasNil hn hd
          have ha := ha.add (seeET hs 2 (.int .u8 a2) KR KR)
          refine yStep ha 59 KR ?_; intro l_ ha HK
          refine stepp ha 59 (.int .u8 a2) KR KR ?_; intro ax hax; exact HK _ _ _ hax rfl (Below.refl _ _)
        · skip
          intro a wr hn hd HW hs; have ha := hasNil hn hd
          have ha := ha.add (seeFT hs 59 5 (.int .u8 a2) KR KR)
          refine yStep ha 60 KR ?_; intro l_ ha HK
          refine stepbk ha (Wd.refl wr) 60 5 1 #[.int .u8 a2] KR KR ?_; intro b3467 ax W3468 HV hax
          exact HK _ _ _ hax ⟨b3467, rfl, HW.callw HV⟩ HV.below
        · skip
          intro a wr hn hd HW hs; have ha := hasNil hn hd
          obtain ⟨b3467, he_, hR3470⟩ := seeLT (enc := (encI .u8)) hs 60 6 1 5 #[.int .u8 a2] ([a2] : List Int) KR KR (fun _ => rfl) rfl; have ha := ha.add he_
          refine yStep ha 61 KR ?_; intro l_ ha HK
          refine stepbt ha 61 56 9 5 (.tmp 60) (v := .slice (some ⟨b3467, 0, none⟩) ([a2] : List Int).length (([a2] : List Int).length)) (xs := ([a2] : List Int)) hR3470 rfl KR KR KR KR KR ?_; intro ax hax; exact HK _ _ _ hax rfl (Below.refl _ _)
        · skip
          intro a wr hn hd HW hs; have ha := hasNil hn hd
          have ha := ha.add (seeFT hs 58 4 (.string (t3413.1.extract 0 (IntKind.wrap .i64 ((t3413.1.size : Int) - 1) : Int).toNat)) KR KR)
          have ha := ha.add (seeFT hs 61 7 (.string (strOfNums ([a2] : List Int))) KR KR)
          refine yStep ha 62 KR ?_; intro l_ ha HK
          refine stepsa ha 62 9 9 (.tmp 58) (.tmp 61) (t3413.1.extract 0 (IntKind.wrap .i64 ((t3413.1.size : Int) - 1) : Int).toNat) (strOfNums ([a2] : List Int)) rfl KR KR (show (t3413.1.extract 0 (IntKind.wrap .i64 ((t3413.1.size : Int) - 1) : Int).toNat).size + (strOfNums ([a2] : List Int)).size ≤ 9223372036854775807 from hA3471) KR ?_; intro ax hax; exact HK _ _ _ hax rfl (Below.refl _ _)
        · skip
          intro a wr hn hd HW hs; have ha := hasNil hn hd
          have ha := ha.add (seeFT hs 62 8 (.string ((t3413.1.extract 0 (IntKind.wrap .i64 ((t3413.1.size : Int) - 1) : Int).toNat) ++ (strOfNums ([a2] : List Int)))) KR KR)
          refine yStep ha 63 KR ?_; intro l_ ha HK
          refine stepc ha 63 KR KR (cdb_Parse.calls K ((t3413.1.extract 0 (IntKind.wrap .i64 ((t3413.1.size : Int) - 1) : Int).toNat) ++ (strOfNums ([a2] : List Int))) t3472 _ (HW.ca0 hG0) (HW.ca0 hG1) ht3473) ?_; rintro e W3474 ⟨rfl, HX3475⟩
          refine ⟨_, rfl, ?_⟩; intro ax hax; exact HK _ _ _ hax rfl HX3475.below
        · skip
          intro a wr hn hd HW hs; have ha := hasNil hn hd
          have ha := ha.add (seeFT hs 63 9 (.tuple #[.agg #[.int .i64 t3472.1.f0, .int .i64 t3472.1.f1, .int .i64 t3472.1.f2, .bool t3472.1.f3, .int .i64 t3472.1.f4, .int .i64 t3472.1.f5, .int .i64 t3472.1.f6], .int .i64 t3472.2]) KR KR)
          refine yStep ha 53 KR ?_; intro l_ ha HK
          refine stepp ha 53 (.tuple #[.agg #[.int .i64 t3472.1.f0, .int .i64 t3472.1.f1, .int .i64 t3472.1.f2, .bool t3472.1.f3, .int .i64 t3472.1.f4, .int .i64 t3472.1.f5, .int .i64 t3472.1.f6], .int .i64 t3472.2]) KR KR ?_; intro ax hax; exact HK _ _ _ hax rfl (Below.refl _ _)
        · skip
          intro a wr hn hd HW hs; have ha := hasNil hn hd
          have ha := ha.add (seeFT hs 53 10 (.tuple #[.agg #[.int .i64 t3472.1.f0, .int .i64 t3472.1.f1, .int .i64 t3472.1.f2, .bool t3472.1.f3, .int .i64 t3472.1.f4, .int .i64 t3472.1.f5, .int .i64 t3472.1.f6], .int .i64 t3472.2]) KR KR)
          refine yStep ha 64 KR ?_; intro l_ ha HK
          refine stepp ha 64 (.agg #[.int .i64 t3472.1.f0, .int .i64 t3472.1.f1, .int .i64 t3472.1.f2, .bool t3472.1.f3, .int .i64 t3472.1.f4, .int .i64 t3472.1.f5, .int .i64 t3472.1.f6]) KR KR ?_; intro ax hax; exact HK _ _ _ hax rfl (Below.refl _ _)
        · skip
          intro a wr hn hd HW hs; have ha := hasNil hn hd
          have ha := ha.add (seeFT hs 53 10 (.tuple #[.agg #[.int .i64 t3472.1.f0, .int .i64 t3472.1.f1, .int .i64 t3472.1.f2, .bool t3472.1.f3, .int .i64 t3472.1.f4, .int .i64 t3472.1.f5, .int .i64 t3472.1.f6], .int .i64 t3472.2]) KR KR)
          refine yStep ha 65 KR ?_; intro l_ ha HK
          refine stepp ha 65 (.int .i64 t3472.2) KR KR ?_; intro ax hax; exact HK _ _ _ hax rfl (Below.refl _ _)
        · skip
          intro a wr hn hd HW hs; have ha := hasNil hn hd
          refine yStep ha 14 KR ?_; intro l_ ha HK
          refine stepnew ha (Wd.refl wr) 14 #[.int .i64 0, .int .i64 0, .int .i64 0, .bool false, .int .i64 0, .int .i64 0, .int .i64 0] 39 KR KR ?_; intro b3476 ax W3477 HV hax
          exact HK _ _ _ hax ⟨b3476, _, rfl, rfl, HW.callw HV⟩ HV.below
        · skip
          refine ⟨trivial, ?_⟩
          intro a wr hn hd HW hs; have ha := hasNil hn hd
          obtain ⟨b_, C_, he_, hz_, hw_⟩ := seeNT hs 14 13 39 7 KR KR; have ha := ha.add he_
          have ha := ha.add (seeFT hs 64 11 (.agg #[.int .i64 t3472.1.f0, .int .i64 t3472.1.f1, .int .i64 t3472.1.f2, .bool t3472.1.f3, .int .i64 t3472.1.f4, .int .i64 t3472.1.f5, .int .i64 t3472.1.f6]) KR KR)
          exact storeT ha hw_ 39 (.tmp 14) (.tmp 64) (.agg #[.int .i64 t3472.1.f0, .int .i64 t3472.1.f1, .int .i64 t3472.1.f2, .bool t3472.1.f3, .int .i64 t3472.1.f4, .int .i64 t3472.1.f5, .int .i64 t3472.1.f6]) rfl KR (fun _ => KR) (fun _ => KR) KR (Eq.trans (show _ = 7 from KR) hz_.symm) KR KR KR (fun _ => KR)
      · skip
        intro a W3478 ha HW he hf
        replace ha := ha.add (he 2 (.int .u8 a2) KR KR)
        replace ha := ha.add (he 11 (.int .i64 t3443.2) KR KR)
        replace ha := ha.add (he 13 (.int .i64 t3456.2) KR KR)
        replace ha := ha.add (gotFT (m := 15) (j := 12) (d := 65) (v := .int .i64 t3472.2) hf KR KR KR)
        clear he hf
        refine stepp ha 15 (.int .i64 t3472.2) KR KR ?_; clear ha a; intro a ha
        refine endl ?_
        refine thenN (hK3464 _ _ ?_); clear hK3464
        refine wp_seq_k (fun K3479 hK3480 => ?_)
        refine wp_region_lit ?_
        refine stepp ha 66 (.int .i64 t3443.2) KR KR ?_; clear ha a; intro a ha
        refine stepp ha 67 (.bool (t3443.2 == 150)) KR KR ?_; clear ha a; intro a ha
        refine stepp ha 68 (.bool (t3443.2 == 150)) KR KR ?_; clear ha a; intro a ha
        by_cases hp3481 : t3443.2 = 150
        · skip
          replace h := ite_pos' h hp3481
          replace ha := ha.bool 68 KR (ieq_t hp3481)
          refine stepp ha 69 (.int .i64 t3456.2) KR KR ?_; clear ha a; intro a ha
          refine stepp ha 70 (.bool (t3456.2 == 150)) KR KR ?_; clear ha a; intro a ha
          refine stepp ha 71 (.bool (t3456.2 == 150)) KR KR ?_; clear ha a; intro a ha
          refine stepp ha 72 (.bool (t3456.2 == 150)) KR KR ?_; clear ha a; intro a ha
          by_cases hp3482 : t3456.2 = 150
          · skip
            replace h := ite_pos' h hp3482
            replace ha := ha.bool 72 KR (ieq_t hp3482)
            refine stepp ha 73 (.int .i64 t3472.2) KR KR ?_; clear ha a; intro a ha
            refine stepp ha 74 (.bool (t3472.2 == 0)) KR KR ?_; clear ha a; intro a ha
            refine stepp ha 75 (.int .u8 a2) KR KR ?_; clear ha a; intro a ha
            refine stepp ha 76 (.bool (a2 == 0)) KR KR ?_; clear ha a; intro a ha
            refine stepp ha 77 (.bool ((t3472.2 == 0) == (a2 == 0))) KR KR ?_; clear ha a; intro a ha
            refine stepp ha 78 (.bool ((t3472.2 == 0) == (a2 == 0))) KR KR ?_; clear ha a; intro a ha
            refine stepp ha 79 (.bool ((t3472.2 == 0) == (a2 == 0))) KR KR ?_; clear ha a; intro a ha
            by_cases hp3483 : (t3472.2 == 0) = (a2 == 0)
            · skip
              replace h := ite_pos' h hp3483
              replace ha := ha.bool 79 KR (beq_t hp3483)
              obtain ⟨t3484, ht3485, h_⟩ := bind_some' h; clear h; have h := h_; clear h_
              refine stepc ha 80 KR KR (headgatelaw15_wakes.calls K t3484 _ (HW.ca0 hG0) (HW.ca0 hG1) ht3485) ?_; clear ha a; rintro e W3486 ⟨rfl, HX3487⟩
              refine ⟨_, rfl, ?_⟩; intro a ha; replace HW := HW.callw HX3487; clear HX3487
              refine stepp ha 81 (.bool t3484) KR KR ?_; clear ha a; intro a ha
              refine stepp ha 6 (.bool t3484) KR KR ?_; clear ha a; intro a ha
              refine endl ?_
              refine thenN (hK3480 _ _ ?_); clear hK3480
              refine wp_ret ?_
              obtain rfl := Option.some.inj h
              exact finv ha _ _ rfl (.tmp (v := .bool t3484) KR .nil) (.bool t3484) rfl ⟨rfl, HW.pick [] [] (by decide) (by decide) rfl KR⟩
            · skip
              replace h := ite_neg' h hp3483
              replace ha := ha.bool 79 KR (beq_f hp3483)
              refine stepo ha 80 KR ?_; clear ha a; intro a ha
              refine stepp ha 81 (.bool false) KR KR ?_; clear ha a; intro a ha
              refine stepp ha 6 (.bool false) KR KR ?_; clear ha a; intro a ha
              refine endl ?_
              refine thenN (hK3480 _ _ ?_); clear hK3480
              refine wp_ret ?_
              obtain rfl := Option.some.inj h
              exact finv ha _ _ rfl (.tmp (v := .bool false) KR .nil) (.bool false) rfl ⟨rfl, HW.pick [] [] (by decide) (by decide) rfl KR⟩
          · skip
            replace h := ite_neg' h hp3482
            replace ha := ha.bool 72 KR (ieq_f hp3482)
            refine stepo ha 73 KR ?_; clear ha a; intro a ha
            refine stepo ha 74 KR ?_; clear ha a; intro a ha
            refine stepo ha 75 KR ?_; clear ha a; intro a ha
            refine stepo ha 76 KR ?_; clear ha a; intro a ha
            refine stepo ha 77 KR ?_; clear ha a; intro a ha
            refine stepp ha 78 (.bool false) KR KR ?_; clear ha a; intro a ha
            refine stepp ha 79 (.bool false) KR KR ?_; clear ha a; intro a ha
            refine stepo ha 80 KR ?_; clear ha a; intro a ha
            refine stepp ha 81 (.bool false) KR KR ?_; clear ha a; intro a ha
            refine stepp ha 6 (.bool false) KR KR ?_; clear ha a; intro a ha
            refine endl ?_
            refine thenN (hK3480 _ _ ?_); clear hK3480
            refine wp_ret ?_
            obtain rfl := Option.some.inj h
            exact finv ha _ _ rfl (.tmp (v := .bool false) KR .nil) (.bool false) rfl ⟨rfl, HW.pick [] [] (by decide) (by decide) rfl KR⟩
        · skip
          replace h := ite_neg' h hp3481
          replace ha := ha.bool 68 KR (ieq_f hp3481)
          refine stepo ha 69 KR ?_; clear ha a; intro a ha
          refine stepo ha 70 KR ?_; clear ha a; intro a ha
          refine stepp ha 71 (.bool false) KR KR ?_; clear ha a; intro a ha
          refine stepp ha 72 (.bool false) KR KR ?_; clear ha a; intro a ha
          refine stepo ha 73 KR ?_; clear ha a; intro a ha
          refine stepo ha 74 KR ?_; clear ha a; intro a ha
          refine stepo ha 75 KR ?_; clear ha a; intro a ha
          refine stepo ha 76 KR ?_; clear ha a; intro a ha
          refine stepo ha 77 KR ?_; clear ha a; intro a ha
          refine stepp ha 78 (.bool false) KR KR ?_; clear ha a; intro a ha
          refine stepp ha 79 (.bool false) KR KR ?_; clear ha a; intro a ha
          refine stepo ha 80 KR ?_; clear ha a; intro a ha
          refine stepp ha 81 (.bool false) KR KR ?_; clear ha a; intro a ha
          refine stepp ha 6 (.bool false) KR KR ?_; clear ha a; intro a ha
          refine endl ?_
          refine thenN (hK3480 _ _ ?_); clear hK3480
          refine wp_ret ?_
          obtain rfl := Option.some.inj h
          exact finv ha _ _ rfl (.tmp (v := .bool false) KR .nil) (.bool false) rfl ⟨rfl, HW.pick [] [] (by decide) (by decide) rfl KR⟩
  · skip
    replace h := ite_neg' h hp3421
    refine condT ha KR KR (t := (t3413.2 != 0)) (ineq_t hp3421) ?_
    refine wp_seq_k (fun K3422 hK3423 => ?_)
    refine wp_region_lit ?_
    refine stepp ha 23 (.string t3413.1) KR KR ?_; clear ha a; intro a ha
    refine stepp ha 24 (.bool (t3413.1.toList == (⟨#[]⟩ : ByteArray).toList)) KR KR ?_; clear ha a; intro a ha
    refine stepp ha 25 (.bool (t3413.1.toList == (⟨#[]⟩ : ByteArray).toList)) KR KR ?_; clear ha a; intro a ha
    by_cases hp3424 : t3413.1 = (⟨#[]⟩ : ByteArray)
    · skip
      replace h := ite_pos' h hp3424
      replace ha := ha.bool 25 KR (str_eq_t hp3424)
      obtain ⟨t3425, ht3426, h_⟩ := bind_some' h; clear h; have h := h_; clear h_
      refine stepc ha 26 KR KR (headgatelaw15_wakes.calls K t3425 _ (HW.ca0 hG0) (HW.ca0 hG1) ht3426) ?_; clear ha a; rintro e W3427 ⟨rfl, HX3428⟩
      refine ⟨_, rfl, ?_⟩; intro a ha; replace HW := HW.callw HX3428; clear HX3428
      refine stepp ha 27 (.bool t3425) KR KR ?_; clear ha a; intro a ha
      refine stepp ha 6 (.bool t3425) KR KR ?_; clear ha a; intro a ha
      refine endl ?_
      refine thenN (hK3423 _ _ ?_); clear hK3423
      refine wp_ret ?_
      refine thenR ?_
      obtain rfl := Option.some.inj h
      exact finv ha _ _ rfl (.tmp (v := .bool t3425) KR .nil) (.bool t3425) rfl ⟨rfl, HW.pick [] [] (by decide) (by decide) rfl KR⟩
    · skip
      replace h := ite_neg' h hp3424
      replace ha := ha.bool 25 KR (str_eq_f hp3424)
      refine stepo ha 26 KR ?_; clear ha a; intro a ha
      refine stepp ha 27 (.bool false) KR KR ?_; clear ha a; intro a ha
      refine stepp ha 6 (.bool false) KR KR ?_; clear ha a; intro a ha
      refine endl ?_
      refine thenN (hK3423 _ _ ?_); clear hK3423
      refine wp_ret ?_
      refine thenR ?_
      obtain rfl := Option.some.inj h
      exact finv ha _ _ rfl (.tmp (v := .bool false) KR .nil) (.bool false) rfl ⟨rfl, HW.pick [] [] (by decide) (by decide) rfl KR⟩
end Go.Proofs.YtpjcipadjegmlaaDoor.F
