/- headgate/headgateref25.Get: a plain function, and that the call comes to what it says. No condition. -/
import Derived.Test.YtceagilmillgfaaDoorFT
import Derived.Test.YtceagilmillgfaaDoorF14
import Derived.Test.YtceagilmillgfaaDoorF54
namespace Go.Proofs.YtceagilmillgfaaDoor.F
open Go Go.RowKit Go.Proofs.YtceagilmillgfaaDoor.X
set_option linter.unusedVariables false
set_option linter.unusedSimpArgs false
/-! ### headgate/headgateref25.Get: function 25 -/
def headgateref25_Get.b0 (K : Nat) (a0 : ByteArray) (t2492 : Int) (t2496 : Int) (t2500 : Int) (again2562 : Int → Int → Int → Int → Int → Int → Int → Option (T_headgateref25_Got × Int)) (x2563 : Int) (x2564 : Int) (x2565 : Int) (x2566 : Int) (x2567 : Int) (x2568 : Int) (x2569 : Int) : Option (T_headgateref25_Got × Int) :=
  if x2563 < 6 then ((headgateref25_num.f K a0 (IntKind.wrap .i64 (40 + (IntKind.wrap .i64 (4 * x2563)))) 4).bind fun t2580 => (asrt (0 ≤ x2563) (again2562 (IntKind.wrap .i64 (x2563 + 1)) (rdL 0 (([x2564, x2565, x2566, x2567, x2568, x2569] : List Int).set (x2563 : Int).toNat (IntKind.wrap .u32 t2580)) 0) (rdL 0 (([x2564, x2565, x2566, x2567, x2568, x2569] : List Int).set (x2563 : Int).toNat (IntKind.wrap .u32 t2580)) 1) (rdL 0 (([x2564, x2565, x2566, x2567, x2568, x2569] : List Int).set (x2563 : Int).toNat (IntKind.wrap .u32 t2580)) 2) (rdL 0 (([x2564, x2565, x2566, x2567, x2568, x2569] : List Int).set (x2563 : Int).toNat (IntKind.wrap .u32 t2580)) 3) (rdL 0 (([x2564, x2565, x2566, x2567, x2568, x2569] : List Int).set (x2563 : Int).toNat (IntKind.wrap .u32 t2580)) 4) (rdL 0 (([x2564, x2565, x2566, x2567, x2568, x2569] : List Int).set (x2563 : Int).toNat (IntKind.wrap .u32 t2580)) 5)))) else ((headgateref25_Put.f K (⟨IntKind.wrap .i64 (bt a0 0), IntKind.wrap .i64 (Int.tmod (bt a0 1) 4), t2492, IntKind.wrap .u32 t2496, t2500, (⟨x2564, x2565, x2566, x2567, x2568, x2569⟩ : T_arr6_22)⟩ : T_api_Sqe) ((bt a0 39) == 1)).bind fun t2588 => (if t2588.2 = 0 then (if t2588.1 = a0 then (some ((⟨(⟨IntKind.wrap .i64 (bt a0 0), IntKind.wrap .i64 (Int.tmod (bt a0 1) 4), t2492, IntKind.wrap .u32 t2496, t2500, (⟨x2564, x2565, x2566, x2567, x2568, x2569⟩ : T_arr6_22)⟩ : T_api_Sqe), ((bt a0 39) == 1)⟩ : T_headgateref25_Got), 0)) else (some ((⟨(⟨0, 0, 0, 0, 0, (⟨0, 0, 0, 0, 0, 0⟩ : T_arr6_22)⟩ : T_api_Sqe), false⟩ : T_headgateref25_Got), 250))) else (some ((⟨(⟨0, 0, 0, 0, 0, (⟨0, 0, 0, 0, 0, 0⟩ : T_arr6_22)⟩ : T_api_Sqe), false⟩ : T_headgateref25_Got), 250))))
def headgateref25_Get.l0 (K : Nat) (a0 : ByteArray) (t2492 : Int) (t2496 : Int) (t2500 : Int) : Nat → Int → Int → Int → Int → Int → Int → Int → Option (T_headgateref25_Got × Int)
  | 0, _, _, _, _, _, _, _ => none
  | k_ + 1, x2563, x2564, x2565, x2566, x2567, x2568, x2569 => headgateref25_Get.b0 K a0 t2492 t2496 t2500 (headgateref25_Get.l0 K a0 t2492 t2496 t2500 k_) x2563 x2564 x2565 x2566 x2567 x2568 x2569
def headgateref25_Get.f (K : Nat) (a0 : ByteArray) : Option (T_headgateref25_Got × Int) :=
  if (a0.size : Int) = 64 then (asrt (0 < (a0.size : Int)) (asrt (1 < (a0.size : Int)) ((headgateref25_num.f K a0 2 2).bind fun t2492 => ((headgateref25_num.f K a0 4 4).bind fun t2496 => ((headgateref25_num.f K a0 32 4).bind fun t2500 => (asrt (39 < (a0.size : Int)) (headgateref25_Get.l0 K a0 t2492 t2496 t2500 K 0 0 0 0 0 0 0))))))) else (some ((⟨(⟨0, 0, 0, 0, 0, (⟨0, 0, 0, 0, 0, 0⟩ : T_arr6_22)⟩ : T_api_Sqe), false⟩ : T_headgateref25_Got), 250))
set_option maxRecDepth 100000 in
set_option maxHeartbeats 4000000 in
theorem headgateref25_Get.calls (K : Nat) (a0 : ByteArray)  (r : T_headgateref25_Got × Int) (w : World)  (h : headgateref25_Get.f K a0 = some r) :
    Calls Tryd.prog 25 #[.string a0] w (fun e W' => e = .returned (.tuple #[.agg #[.int .i64 r.1.f0.f0, .int .i64 r.1.f0.f1, .int .i64 r.1.f0.f2, .int .u32 r.1.f0.f3, .int .i64 r.1.f0.f4, .int .u32 r.1.f0.f5.f0, .int .u32 r.1.f0.f5.f1, .int .u32 r.1.f0.f5.f2, .int .u32 r.1.f0.f5.f3, .int .u32 r.1.f0.f5.f4, .int .u32 r.1.f0.f5.f5, .bool r.1.f1], .int .i64 r.2]) ∧ Wd w W' [] [] ) := by
  refine sxstart (n := 62) (l := [(0, .string a0)]) Tryd.func25 rfl rfl (Nat.le_of_ble_eq_true (by kernel_rfl)) (subsA_cons rfl (subsA_nil _)) ?_
  intro a ha
  have HW := Wd.refl w
  unfold headgateref25_Get.f at h
  refine wp_seq_k (fun K2476 hK2477 => ?_)
  refine wp_region_lit ?_
  refine stepnew ha HW 2 #[.int .i64 0, .int .i64 0, .int .i64 0, .int .u32 0, .int .i64 0, .int .u32 0, .int .u32 0, .int .u32 0, .int .u32 0, .int .u32 0, .int .u32 0, .bool false] 54 (by kernel_rfl) (by kernel_rfl) ?_; clear ha HW a; intro b2478 a W2479 HW ha
  refine stepp ha 3 (.int .i64 0) (by kernel_rfl) (by kernel_rfl) ?_; clear ha a; intro a ha
  refine endl ?_
  refine thenN (hK2477 _ _ ?_); clear hK2477
  refine wp_seq_k (fun K2480 hK2481 => ?_)
  refine wp_seq_k (fun K2482 hK2483 => ?_)
  refine wp_region_lit ?_
  refine stepp ha 8 (.string a0) (by kernel_rfl) (by kernel_rfl) ?_; clear ha a; intro a ha
  refine stepp ha 9 (.int .i64 (a0.size : Int)) (by kernel_rfl) (by kernel_rfl) ?_; clear ha a; intro a ha
  refine stepp ha 10 (.bool ((a0.size : Int) != 64)) (by kernel_rfl) (by kernel_rfl) ?_; clear ha a; intro a ha
  refine endl ?_
  refine thenN (hK2483 _ _ ?_); clear hK2483
  by_cases hp2484 : (a0.size : Int) = 64
  · skip
    replace h := ite_pos' h hp2484
    refine condF ha (by kernel_rfl) (by kernel_rfl) (t := ((a0.size : Int) != 64)) (ineq_f hp2484) ?_
    refine wp_skip ?_
    refine thenN (hK2481 _ _ ?_); clear hK2481
    refine wp_seq_k (fun K2488 hK2489 => ?_)
    obtain ⟨hA2490, h_⟩ := asrt_some h; clear h; have h := h_; clear h_
    obtain ⟨hA2491, h_⟩ := asrt_some h; clear h; have h := h_; clear h_
    obtain ⟨t2492, ht2493, h_⟩ := bind_some' h; clear h; have h := h_; clear h_
    obtain ⟨t2496, ht2497, h_⟩ := bind_some' h; clear h; have h := h_; clear h_
    obtain ⟨t2500, ht2501, h_⟩ := bind_some' h; clear h; have h := h_; clear h_
    obtain ⟨hA2504, h_⟩ := asrt_some h; clear h; have h := h_; clear h_
    refine regionG 20 (by kernel_rfl) (by kernel_rfl) ha HW [.fix (.string a0), .fix (.int .u8 (bt a0 0)), .fix (.int .i64 (IntKind.wrap .i64 (bt a0 0))), .fix (.string a0), .fix (.int .u8 (bt a0 1)), .fix (.int .u8 (Int.tmod (bt a0 1) 4)), .fix (.int .i64 (IntKind.wrap .i64 (Int.tmod (bt a0 1) 4))), .fix (.string a0), .fix (.int .i64 t2492), .fix (.string a0), .fix (.int .i64 t2496), .fix (.int .u32 (IntKind.wrap .u32 t2496)), .fix (.string a0), .fix (.int .i64 t2500), .fix (.agg #[.int .i64 (IntKind.wrap .i64 (bt a0 0)), .int .i64 (IntKind.wrap .i64 (Int.tmod (bt a0 1) 4)), .int .i64 t2492, .int .u32 (IntKind.wrap .u32 t2496), .int .i64 t2500, .int .u32 0, .int .u32 0, .int .u32 0, .int .u32 0, .int .u32 0, .int .u32 0]), .fix (.string a0), .fix (.int .u8 (bt a0 39)), .fix (.bool ((bt a0 39) == 1)), .fix (.agg #[.int .i64 (IntKind.wrap .i64 (bt a0 0)), .int .i64 (IntKind.wrap .i64 (Int.tmod (bt a0 1) 4)), .int .i64 t2492, .int .u32 (IntKind.wrap .u32 t2496), .int .i64 t2500, .int .u32 0, .int .u32 0, .int .u32 0, .int .u32 0, .int .u32 0, .int .u32 0, .bool ((bt a0 39) == 1)]), .blk w #[.int .i64 0, .int .i64 0, .int .i64 0, .int .u32 0, .int .i64 0, .int .u32 0, .int .u32 0, .int .u32 0, .int .u32 0, .int .u32 0, .int .u32 0, .bool false] 54 [(b2478, .cells #[.int .i64 0, .int .i64 0, .int .i64 0, .int .u32 0, .int .i64 0, .int .u32 0, .int .u32 0, .int .u32 0, .int .u32 0, .int .u32 0, .int .u32 0, .bool false] 54 (0, 0))] []] ?_ ?_
    · skip
      refine ⟨?_, ?_, ?_, ?_, ?_, ?_, ?_, ?_, ?_, ?_, ?_, ?_, ?_, ?_, ?_, ?_, ?_, ?_, ?_, ?_, trivial⟩
      · skip
        intro a wr hn hd HW hs; have ha := hasNil hn hd
        have ha := ha.add (seeE hs 0 (.string a0) (by kernel_rfl) (by kernel_rfl))
        refine yStep ha 12 (by kernel_rfl) ?_; intro l_ ha HK
        refine stepp ha 12 (.string a0) (by kernel_rfl) (by kernel_rfl) ?_; intro ax hax; exact HK _ _ _ hax rfl (Below.refl _ _)
      · skip
        intro a wr hn hd HW hs; have ha := hasNil hn hd
        have ha := ha.add (seeF hs 12 0 (.string a0) (by kernel_rfl) (by kernel_rfl))
        refine yStep ha 13 (by kernel_rfl) ?_; intro l_ ha HK
        refine stepsi ha 13 9 (.tmp 12) (.const (.int .i64 0)) a0 .i64 0 rfl (by kernel_rfl) (by kernel_rfl) (by kernel_rfl) (by decide) (show (0 : Int) < ((a0).size : Int) from hA2490) (by kernel_rfl) ?_; intro ax hax; exact HK _ _ _ hax rfl (Below.refl _ _)
      · skip
        intro a wr hn hd HW hs; have ha := hasNil hn hd
        have ha := ha.add (seeF hs 13 1 (.int .u8 (bt a0 0)) (by kernel_rfl) (by kernel_rfl))
        refine yStep ha 14 (by kernel_rfl) ?_; intro l_ ha HK
        refine stepp ha 14 (.int .i64 (IntKind.wrap .i64 (bt a0 0))) (by kernel_rfl) (by kernel_rfl) ?_; intro ax hax; exact HK _ _ _ hax rfl (Below.refl _ _)
      · skip
        intro a wr hn hd HW hs; have ha := hasNil hn hd
        have ha := ha.add (seeE hs 0 (.string a0) (by kernel_rfl) (by kernel_rfl))
        refine yStep ha 15 (by kernel_rfl) ?_; intro l_ ha HK
        refine stepp ha 15 (.string a0) (by kernel_rfl) (by kernel_rfl) ?_; intro ax hax; exact HK _ _ _ hax rfl (Below.refl _ _)
      · skip
        intro a wr hn hd HW hs; have ha := hasNil hn hd
        have ha := ha.add (seeF hs 15 3 (.string a0) (by kernel_rfl) (by kernel_rfl))
        refine yStep ha 16 (by kernel_rfl) ?_; intro l_ ha HK
        refine stepsi ha 16 9 (.tmp 15) (.const (.int .i64 1)) a0 .i64 1 rfl (by kernel_rfl) (by kernel_rfl) (by kernel_rfl) (by decide) (show (1 : Int) < ((a0).size : Int) from hA2491) (by kernel_rfl) ?_; intro ax hax; exact HK _ _ _ hax rfl (Below.refl _ _)
      · skip
        intro a wr hn hd HW hs; have ha := hasNil hn hd
        have ha := ha.add (seeF hs 16 4 (.int .u8 (bt a0 1)) (by kernel_rfl) (by kernel_rfl))
        refine yStep ha 17 (by kernel_rfl) ?_; intro l_ ha HK
        refine stepp ha 17 (.int .u8 (Int.tmod (bt a0 1) 4)) (by kernel_rfl) (by kernel_rfl) ?_; intro ax hax; exact HK _ _ _ hax rfl (Below.refl _ _)
      · skip
        intro a wr hn hd HW hs; have ha := hasNil hn hd
        have ha := ha.add (seeF hs 17 5 (.int .u8 (Int.tmod (bt a0 1) 4)) (by kernel_rfl) (by kernel_rfl))
        refine yStep ha 18 (by kernel_rfl) ?_; intro l_ ha HK
        refine stepp ha 18 (.int .i64 (IntKind.wrap .i64 (Int.tmod (bt a0 1) 4))) (by kernel_rfl) (by kernel_rfl) ?_; intro ax hax; exact HK _ _ _ hax rfl (Below.refl _ _)
      · skip
        intro a wr hn hd HW hs; have ha := hasNil hn hd
        have ha := ha.add (seeE hs 0 (.string a0) (by kernel_rfl) (by kernel_rfl))
        refine yStep ha 19 (by kernel_rfl) ?_; intro l_ ha HK
        refine stepp ha 19 (.string a0) (by kernel_rfl) (by kernel_rfl) ?_; intro ax hax; exact HK _ _ _ hax rfl (Below.refl _ _)
      · skip
        intro a wr hn hd HW hs; have ha := hasNil hn hd
        have ha := ha.add (seeF hs 19 7 (.string a0) (by kernel_rfl) (by kernel_rfl))
        refine yStep ha 20 (by kernel_rfl) ?_; intro l_ ha HK
        refine stepc ha 20 (by kernel_rfl) (by kernel_rfl) (headgateref25_num.calls K a0 2 2 t2492 _ ht2493) ?_; rintro e W2494 ⟨rfl, HX2495⟩
        refine ⟨_, rfl, ?_⟩; intro ax hax; exact HK _ _ _ hax rfl HX2495.below
      · skip
        intro a wr hn hd HW hs; have ha := hasNil hn hd
        have ha := ha.add (seeE hs 0 (.string a0) (by kernel_rfl) (by kernel_rfl))
        refine yStep ha 21 (by kernel_rfl) ?_; intro l_ ha HK
        refine stepp ha 21 (.string a0) (by kernel_rfl) (by kernel_rfl) ?_; intro ax hax; exact HK _ _ _ hax rfl (Below.refl _ _)
      · skip
        intro a wr hn hd HW hs; have ha := hasNil hn hd
        have ha := ha.add (seeF hs 21 9 (.string a0) (by kernel_rfl) (by kernel_rfl))
        refine yStep ha 22 (by kernel_rfl) ?_; intro l_ ha HK
        refine stepc ha 22 (by kernel_rfl) (by kernel_rfl) (headgateref25_num.calls K a0 4 4 t2496 _ ht2497) ?_; rintro e W2498 ⟨rfl, HX2499⟩
        refine ⟨_, rfl, ?_⟩; intro ax hax; exact HK _ _ _ hax rfl HX2499.below
      · skip
        intro a wr hn hd HW hs; have ha := hasNil hn hd
        have ha := ha.add (seeF hs 22 10 (.int .i64 t2496) (by kernel_rfl) (by kernel_rfl))
        refine yStep ha 23 (by kernel_rfl) ?_; intro l_ ha HK
        refine stepp ha 23 (.int .u32 (IntKind.wrap .u32 t2496)) (by kernel_rfl) (by kernel_rfl) ?_; intro ax hax; exact HK _ _ _ hax rfl (Below.refl _ _)
      · skip
        intro a wr hn hd HW hs; have ha := hasNil hn hd
        have ha := ha.add (seeE hs 0 (.string a0) (by kernel_rfl) (by kernel_rfl))
        refine yStep ha 24 (by kernel_rfl) ?_; intro l_ ha HK
        refine stepp ha 24 (.string a0) (by kernel_rfl) (by kernel_rfl) ?_; intro ax hax; exact HK _ _ _ hax rfl (Below.refl _ _)
      · skip
        intro a wr hn hd HW hs; have ha := hasNil hn hd
        have ha := ha.add (seeF hs 24 12 (.string a0) (by kernel_rfl) (by kernel_rfl))
        refine yStep ha 25 (by kernel_rfl) ?_; intro l_ ha HK
        refine stepc ha 25 (by kernel_rfl) (by kernel_rfl) (headgateref25_num.calls K a0 32 4 t2500 _ ht2501) ?_; rintro e W2502 ⟨rfl, HX2503⟩
        refine ⟨_, rfl, ?_⟩; intro ax hax; exact HK _ _ _ hax rfl HX2503.below
      · skip
        intro a wr hn hd HW hs; have ha := hasNil hn hd
        have ha := ha.add (seeF hs 14 2 (.int .i64 (IntKind.wrap .i64 (bt a0 0))) (by kernel_rfl) (by kernel_rfl))
        have ha := ha.add (seeF hs 18 6 (.int .i64 (IntKind.wrap .i64 (Int.tmod (bt a0 1) 4))) (by kernel_rfl) (by kernel_rfl))
        have ha := ha.add (seeF hs 20 8 (.int .i64 t2492) (by kernel_rfl) (by kernel_rfl))
        have ha := ha.add (seeF hs 23 11 (.int .u32 (IntKind.wrap .u32 t2496)) (by kernel_rfl) (by kernel_rfl))
        have ha := ha.add (seeF hs 25 13 (.int .i64 t2500) (by kernel_rfl) (by kernel_rfl))
        refine yStep ha 26 (by kernel_rfl) ?_; intro l_ ha HK
        refine stepp ha 26 (.agg #[.int .i64 (IntKind.wrap .i64 (bt a0 0)), .int .i64 (IntKind.wrap .i64 (Int.tmod (bt a0 1) 4)), .int .i64 t2492, .int .u32 (IntKind.wrap .u32 t2496), .int .i64 t2500, .int .u32 0, .int .u32 0, .int .u32 0, .int .u32 0, .int .u32 0, .int .u32 0]) (by kernel_rfl) (by kernel_rfl) ?_; intro ax hax; exact HK _ _ _ hax rfl (Below.refl _ _)
      · skip
        intro a wr hn hd HW hs; have ha := hasNil hn hd
        have ha := ha.add (seeE hs 0 (.string a0) (by kernel_rfl) (by kernel_rfl))
        refine yStep ha 27 (by kernel_rfl) ?_; intro l_ ha HK
        refine stepp ha 27 (.string a0) (by kernel_rfl) (by kernel_rfl) ?_; intro ax hax; exact HK _ _ _ hax rfl (Below.refl _ _)
      · skip
        intro a wr hn hd HW hs; have ha := hasNil hn hd
        have ha := ha.add (seeF hs 27 15 (.string a0) (by kernel_rfl) (by kernel_rfl))
        refine yStep ha 28 (by kernel_rfl) ?_; intro l_ ha HK
        refine stepsi ha 28 9 (.tmp 27) (.const (.int .i64 39)) a0 .i64 39 rfl (by kernel_rfl) (by kernel_rfl) (by kernel_rfl) (by decide) (show (39 : Int) < ((a0).size : Int) from hA2504) (by kernel_rfl) ?_; intro ax hax; exact HK _ _ _ hax rfl (Below.refl _ _)
      · skip
        intro a wr hn hd HW hs; have ha := hasNil hn hd
        have ha := ha.add (seeF hs 28 16 (.int .u8 (bt a0 39)) (by kernel_rfl) (by kernel_rfl))
        refine yStep ha 29 (by kernel_rfl) ?_; intro l_ ha HK
        refine stepp ha 29 (.bool ((bt a0 39) == 1)) (by kernel_rfl) (by kernel_rfl) ?_; intro ax hax; exact HK _ _ _ hax rfl (Below.refl _ _)
      · skip
        intro a wr hn hd HW hs; have ha := hasNil hn hd
        have ha := ha.add (seeF hs 26 14 (.agg #[.int .i64 (IntKind.wrap .i64 (bt a0 0)), .int .i64 (IntKind.wrap .i64 (Int.tmod (bt a0 1) 4)), .int .i64 t2492, .int .u32 (IntKind.wrap .u32 t2496), .int .i64 t2500, .int .u32 0, .int .u32 0, .int .u32 0, .int .u32 0, .int .u32 0, .int .u32 0]) (by kernel_rfl) (by kernel_rfl))
        have ha := ha.add (seeF hs 29 17 (.bool ((bt a0 39) == 1)) (by kernel_rfl) (by kernel_rfl))
        refine yStep ha 30 (by kernel_rfl) ?_; intro l_ ha HK
        refine stepp ha 30 (.agg #[.int .i64 (IntKind.wrap .i64 (bt a0 0)), .int .i64 (IntKind.wrap .i64 (Int.tmod (bt a0 1) 4)), .int .i64 t2492, .int .u32 (IntKind.wrap .u32 t2496), .int .i64 t2500, .int .u32 0, .int .u32 0, .int .u32 0, .int .u32 0, .int .u32 0, .int .u32 0, .bool ((bt a0 39) == 1)]) (by kernel_rfl) (by kernel_rfl) ?_; intro ax hax; exact HK _ _ _ hax rfl (Below.refl _ _)
      · skip
        intro a wr hn hd HW hs; have ha := hasNil hn hd
        refine yStep ha 4 (by kernel_rfl) ?_; intro l_ ha HK
        refine stepnew ha (Wd.refl wr) 4 #[.int .i64 0, .int .i64 0, .int .i64 0, .int .u32 0, .int .i64 0, .int .u32 0, .int .u32 0, .int .u32 0, .int .u32 0, .int .u32 0, .int .u32 0, .bool false] 54 (by kernel_rfl) (by kernel_rfl) ?_; intro b2505 ax W2506 HV hax
        exact HK _ _ _ hax ⟨b2505, rfl, HW.callw HV⟩ HV.below
    · skip
      intro a W2507 ha HW he hf
      replace ha := ha.add (he 0 (.string a0) (by kernel_rfl) (by kernel_rfl))
      replace ha := ha.add (he 2 (.pointer (some ⟨b2478, 0, none⟩)) (by kernel_rfl) (by kernel_rfl))
      obtain ⟨b2505, he_, HW⟩ := gotB (w1 := w) (m := 20) (j := 19) (d := 4) (C := #[.int .i64 0, .int .i64 0, .int .i64 0, .int .u32 0, .int .i64 0, .int .u32 0, .int .u32 0, .int .u32 0, .int .u32 0, .int .u32 0, .int .u32 0, .bool false]) (T := 54) (bs1 := [(b2478, .cells #[.int .i64 0, .int .i64 0, .int .i64 0, .int .u32 0, .int .i64 0, .int .u32 0, .int .u32 0, .int .u32 0, .int .u32 0, .int .u32 0, .int .u32 0, .bool false] 54 (0, 0))]) (os1 := []) hf (by kernel_rfl) (by kernel_rfl) (by kernel_rfl); replace ha := ha.add he_; clear he_
      replace ha := ha.add (gotF (m := 20) (j := 18) (d := 30) (v := .agg #[.int .i64 (IntKind.wrap .i64 (bt a0 0)), .int .i64 (IntKind.wrap .i64 (Int.tmod (bt a0 1) 4)), .int .i64 t2492, .int .u32 (IntKind.wrap .u32 t2496), .int .i64 t2500, .int .u32 0, .int .u32 0, .int .u32 0, .int .u32 0, .int .u32 0, .int .u32 0, .bool ((bt a0 39) == 1)]) hf (by kernel_rfl) (by kernel_rfl) (by kernel_rfl))
      clear he hf
      refine stepst ha HW 0 (b := b2505) (C := #[.int .i64 0, .int .i64 0, .int .i64 0, .int .u32 0, .int .i64 0, .int .u32 0, .int .u32 0, .int .u32 0, .int .u32 0, .int .u32 0, .int .u32 0, .bool false]) (T := 54) (by kernel_rfl) 54 0 (.tmp 4) (.tmp 30) (.agg #[.int .i64 (IntKind.wrap .i64 (bt a0 0)), .int .i64 (IntKind.wrap .i64 (Int.tmod (bt a0 1) 4)), .int .i64 t2492, .int .u32 (IntKind.wrap .u32 t2496), .int .i64 t2500, .int .u32 0, .int .u32 0, .int .u32 0, .int .u32 0, .int .u32 0, .int .u32 0, .bool ((bt a0 39) == 1)]) #[.int .i64 (IntKind.wrap .i64 (bt a0 0)), .int .i64 (IntKind.wrap .i64 (Int.tmod (bt a0 1) 4)), .int .i64 t2492, .int .u32 (IntKind.wrap .u32 t2496), .int .i64 t2500, .int .u32 0, .int .u32 0, .int .u32 0, .int .u32 0, .int .u32 0, .int .u32 0, .bool ((bt a0 39) == 1)] rfl (by kernel_rfl) (by kernel_rfl) (by kernel_rfl) (by kernel_rfl) (by kernel_rfl) (by kernel_rfl) (by kernel_rfl) ?_; clear ha HW a; intro a W2508 HW ha
      refine endl ?_
      refine thenN (hK2489 _ _ ?_); clear hK2489
      refine wp_seq_k (fun K2509 hK2510 => ?_)
      refine wp_seq_k (fun K2511 hK2512 => ?_)
      refine wp_region_lit ?_
      refine stepp ha 5 (.int .i64 0) (by kernel_rfl) (by kernel_rfl) ?_; clear ha a; intro a ha
      refine endl ?_
      refine thenN (hK2512 _ _ ?_); clear hK2512
      refine wp_block ?_
      refine loopk (fun k => fun a W2570 => ∃ (x2563 : Int), ∃ (x2564 : Int), ∃ (x2565 : Int), ∃ (x2566 : Int), ∃ (x2567 : Int), ∃ (x2568 : Int), ∃ (x2569 : Int), headgateref25_Get.l0 K a0 t2492 t2496 t2500 k x2563 x2564 x2565 x2566 x2567 x2568 x2569 = some r ∧ Has 62 [(0, .string a0), (2, .pointer (some ⟨b2478, 0, none⟩)), (4, .pointer (some ⟨b2505, 0, none⟩)), (5, .int .i64 x2563)] a ∧ Wd w W2570 [(b2505, .cells #[.int .i64 (IntKind.wrap .i64 (bt a0 0)), .int .i64 (IntKind.wrap .i64 (Int.tmod (bt a0 1) 4)), .int .i64 t2492, .int .u32 (IntKind.wrap .u32 t2496), .int .i64 t2500, .int .u32 x2564, .int .u32 x2565, .int .u32 x2566, .int .u32 x2567, .int .u32 x2568, .int .u32 x2569, .bool ((bt a0 39) == 1)] 54 (0, 0)), (b2478, .cells #[.int .i64 0, .int .i64 0, .int .i64 0, .int .u32 0, .int .i64 0, .int .u32 0, .int .u32 0, .int .u32 0, .int .u32 0, .int .u32 0, .int .u32 0, .bool false] 54 (0, 0))] []) K ?_ ?_
      · skip
        exact ⟨0, 0, 0, 0, 0, 0, 0, h, ha.sub (subs_cons (by kernel_rfl) (subs_cons (by kernel_rfl) (subs_cons (by kernel_rfl) (subs_cons (by kernel_rfl) (subs_nil _))))), HW.pick [0, 1] [] (by decide) (by decide) (by kernel_rfl) (by kernel_rfl)⟩
      · skip
        intro k a W2570 hI
        obtain ⟨x2563, x2564, x2565, x2566, x2567, x2568, x2569, h, ha, HW⟩ := hI
        cases k with
        | zero => exact (none_some (show none = some r from h)).elim
        | succ k2571 =>
          replace h : headgateref25_Get.b0 K a0 t2492 t2496 t2500 (headgateref25_Get.l0 K a0 t2492 t2496 t2500 k2571) x2563 x2564 x2565 x2566 x2567 x2568 x2569 = some r := h
          obtain ⟨again2562, hag2572⟩ : ∃ g_, g_ = headgateref25_Get.l0 K a0 t2492 t2496 t2500 k2571 := ⟨_, rfl⟩
          rw [← hag2572] at h
          unfold headgateref25_Get.b0 at h
          refine wp_seq_k (fun K2573 hK2574 => ?_)
          refine wp_seq_k (fun K2575 hK2576 => ?_)
          refine wp_region_lit ?_
          refine stepp ha 31 (.int .i64 x2563) (by kernel_rfl) (by kernel_rfl) ?_; clear ha a; intro a ha
          refine stepp ha 32 (.bool (decide (x2563 < 6))) (by kernel_rfl) (by kernel_rfl) ?_; clear ha a; intro a ha
          refine endl ?_
          refine thenN (hK2576 _ _ ?_); clear hK2576
          by_cases hp2577 : x2563 < 6
          · skip
            replace h := ite_pos' h hp2577
            refine condT ha (by kernel_rfl) (by kernel_rfl) (t := decide (x2563 < 6)) (decide_eq_true hp2577) ?_
            refine wp_skip ?_
            refine thenN (hK2574 _ _ ?_); clear hK2574
            refine wp_seq_k (fun K2578 hK2579 => ?_)
            refine wp_block ?_
            refine wp_region_lit ?_
            refine stepp ha 35 (.int .i64 x2563) (by kernel_rfl) (by kernel_rfl) ?_; clear ha a; intro a ha
            refine stepp ha 36 (.string a0) (by kernel_rfl) (by kernel_rfl) ?_; clear ha a; intro a ha
            refine stepp ha 37 (.int .i64 x2563) (by kernel_rfl) (by kernel_rfl) ?_; clear ha a; intro a ha
            refine stepp ha 38 (.int .i64 (IntKind.wrap .i64 (4 * x2563))) (by kernel_rfl) (by kernel_rfl) ?_; clear ha a; intro a ha
            refine stepp ha 39 (.int .i64 (IntKind.wrap .i64 (40 + (IntKind.wrap .i64 (4 * x2563))))) (by kernel_rfl) (by kernel_rfl) ?_; clear ha a; intro a ha
            obtain ⟨t2580, ht2581, h_⟩ := bind_some' h; clear h; have h := h_; clear h_
            refine stepc ha 40 (by kernel_rfl) (by kernel_rfl) (headgateref25_num.calls K a0 (IntKind.wrap .i64 (40 + (IntKind.wrap .i64 (4 * x2563)))) 4 t2580 _ ht2581) ?_; clear ha a; rintro e W2582 ⟨rfl, HX2583⟩
            refine ⟨_, rfl, ?_⟩; intro a ha; replace HW := HW.callw HX2583; clear HX2583
            refine stepp ha 41 (.int .u32 (IntKind.wrap .u32 t2580)) (by kernel_rfl) (by kernel_rfl) ?_; clear ha a; intro a ha
            refine stepp ha 42 (.pointer (some ⟨b2505, 0, none⟩)) (by kernel_rfl) (by kernel_rfl) ?_; clear ha a; intro a ha
            refine stepp ha 43 (.pointer (some ⟨b2505, 5, none⟩)) (by kernel_rfl) (by kernel_rfl) ?_; clear ha a; intro a ha
            obtain ⟨hA2584, h_⟩ := asrt_some h; clear h; have h := h_; clear h_
            refine stepiw ha 44 (sz := 1) b2505 5 23 6 22 (.tmp 43) (.tmp 35) .i64 x2563 rfl (by kernel_rfl) (by kernel_rfl) (by kernel_rfl) (by kernel_rfl) hA2584 hp2577 (by kernel_rfl) ?_; clear ha a; intro a ha
            refine stepsn ha HW 0 (b := b2505) (C := #[.int .i64 (IntKind.wrap .i64 (bt a0 0)), .int .i64 (IntKind.wrap .i64 (Int.tmod (bt a0 1) 4)), .int .i64 t2492, .int .u32 (IntKind.wrap .u32 t2496), .int .i64 t2500, .int .u32 x2564, .int .u32 x2565, .int .u32 x2566, .int .u32 x2567, .int .u32 x2568, .int .u32 x2569, .bool ((bt a0 39) == 1)]) (T := 54) (by kernel_rfl) 22 5 6 (.tmp 44) (.tmp 41) .u32 x2563 (IntKind.wrap .u32 t2580) ([x2564, x2565, x2566, x2567, x2568, x2569] : List Int) #[.int .i64 (IntKind.wrap .i64 (bt a0 0)), .int .i64 (IntKind.wrap .i64 (Int.tmod (bt a0 1) 4)), .int .i64 t2492, .int .u32 (IntKind.wrap .u32 t2496), .int .i64 t2500, .int .u32 (rdL 0 (([x2564, x2565, x2566, x2567, x2568, x2569] : List Int).set (x2563 : Int).toNat (IntKind.wrap .u32 t2580)) 0), .int .u32 (rdL 0 (([x2564, x2565, x2566, x2567, x2568, x2569] : List Int).set (x2563 : Int).toNat (IntKind.wrap .u32 t2580)) 1), .int .u32 (rdL 0 (([x2564, x2565, x2566, x2567, x2568, x2569] : List Int).set (x2563 : Int).toNat (IntKind.wrap .u32 t2580)) 2), .int .u32 (rdL 0 (([x2564, x2565, x2566, x2567, x2568, x2569] : List Int).set (x2563 : Int).toNat (IntKind.wrap .u32 t2580)) 3), .int .u32 (rdL 0 (([x2564, x2565, x2566, x2567, x2568, x2569] : List Int).set (x2563 : Int).toNat (IntKind.wrap .u32 t2580)) 4), .int .u32 (rdL 0 (([x2564, x2565, x2566, x2567, x2568, x2569] : List Int).set (x2563 : Int).toNat (IntKind.wrap .u32 t2580)) 5), .bool ((bt a0 39) == 1)] rfl (by kernel_rfl) (by kernel_rfl) (by kernel_rfl) rfl hA2584 hp2577 (by kernel_rfl) (by kernel_rfl) (by kernel_rfl) (by kernel_rfl) ?_; clear ha HW a; intro a W2585 HW ha
            refine endl ?_
            refine blkN ?_
            refine thenN (hK2579 _ _ ?_); clear hK2579
            refine wp_region_lit ?_
            refine stepp ha 33 (.int .i64 x2563) (by kernel_rfl) (by kernel_rfl) ?_; clear ha a; intro a ha
            refine stepp ha 34 (.int .i64 (IntKind.wrap .i64 (x2563 + 1))) (by kernel_rfl) (by kernel_rfl) ?_; clear ha a; intro a ha
            refine stepp ha 5 (.int .i64 (IntKind.wrap .i64 (x2563 + 1))) (by kernel_rfl) (by kernel_rfl) ?_; clear ha a; intro a ha
            refine endl ?_
            exact thenN ⟨k2571, Nat.lt_succ_self k2571, IntKind.wrap .i64 (x2563 + 1), rdL 0 (([x2564, x2565, x2566, x2567, x2568, x2569] : List Int).set (x2563 : Int).toNat (IntKind.wrap .u32 t2580)) 0, rdL 0 (([x2564, x2565, x2566, x2567, x2568, x2569] : List Int).set (x2563 : Int).toNat (IntKind.wrap .u32 t2580)) 1, rdL 0 (([x2564, x2565, x2566, x2567, x2568, x2569] : List Int).set (x2563 : Int).toNat (IntKind.wrap .u32 t2580)) 2, rdL 0 (([x2564, x2565, x2566, x2567, x2568, x2569] : List Int).set (x2563 : Int).toNat (IntKind.wrap .u32 t2580)) 3, rdL 0 (([x2564, x2565, x2566, x2567, x2568, x2569] : List Int).set (x2563 : Int).toNat (IntKind.wrap .u32 t2580)) 4, rdL 0 (([x2564, x2565, x2566, x2567, x2568, x2569] : List Int).set (x2563 : Int).toNat (IntKind.wrap .u32 t2580)) 5, (by rw [← hag2572]; exact h), ha.sub (subs_cons (by kernel_rfl) (subs_cons (by kernel_rfl) (subs_cons (by kernel_rfl) (subs_cons (by kernel_rfl) (subs_nil _))))), HW.pick [0, 1] [] (by decide) (by decide) (by kernel_rfl) (by kernel_rfl)⟩
          · skip
            replace h := ite_neg' h hp2577
            refine condF ha (by kernel_rfl) (by kernel_rfl) (t := decide (x2563 < 6)) (decide_eq_false hp2577) ?_
            refine wp_exit ?_
            refine thenE ?_
            refine thenE ?_
            refine inBlk ?_
            refine thenN (hK2510 _ _ ?_); clear hK2510
            refine wp_seq_k (fun K2586 hK2587 => ?_)
            refine wp_region_lit ?_
            refine stepp ha 46 (.pointer (some ⟨b2505, 0, none⟩)) (by kernel_rfl) (by kernel_rfl) ?_; clear ha a; intro a ha
            refine stepl ha 47 (HW.ca (i := 0) (b := b2505) (C := #[.int .i64 (IntKind.wrap .i64 (bt a0 0)), .int .i64 (IntKind.wrap .i64 (Int.tmod (bt a0 1) 4)), .int .i64 t2492, .int .u32 (IntKind.wrap .u32 t2496), .int .i64 t2500, .int .u32 x2564, .int .u32 x2565, .int .u32 x2566, .int .u32 x2567, .int .u32 x2568, .int .u32 x2569, .bool ((bt a0 39) == 1)]) (T := 54) (fr := (0, 0)) (by kernel_rfl)) 25 0 (.tmp 46) (.agg #[.int .i64 (IntKind.wrap .i64 (bt a0 0)), .int .i64 (IntKind.wrap .i64 (Int.tmod (bt a0 1) 4)), .int .i64 t2492, .int .u32 (IntKind.wrap .u32 t2496), .int .i64 t2500, .int .u32 x2564, .int .u32 x2565, .int .u32 x2566, .int .u32 x2567, .int .u32 x2568, .int .u32 x2569]) rfl (by kernel_rfl) (by kernel_rfl) (by kernel_rfl) ?_; clear ha a; intro a ha
            refine stepp ha 48 (.pointer (some ⟨b2505, 11, none⟩)) (by kernel_rfl) (by kernel_rfl) ?_; clear ha a; intro a ha
            refine stepl ha 49 (HW.ca (i := 0) (b := b2505) (C := #[.int .i64 (IntKind.wrap .i64 (bt a0 0)), .int .i64 (IntKind.wrap .i64 (Int.tmod (bt a0 1) 4)), .int .i64 t2492, .int .u32 (IntKind.wrap .u32 t2496), .int .i64 t2500, .int .u32 x2564, .int .u32 x2565, .int .u32 x2566, .int .u32 x2567, .int .u32 x2568, .int .u32 x2569, .bool ((bt a0 39) == 1)]) (T := 54) (fr := (0, 0)) (by kernel_rfl)) 4 11 (.tmp 48) (.bool ((bt a0 39) == 1)) rfl (by kernel_rfl) (by kernel_rfl) (by kernel_rfl) ?_; clear ha a; intro a ha
            obtain ⟨t2588, ht2589, h_⟩ := bind_some' h; clear h; have h := h_; clear h_
            refine stepc ha 50 (by kernel_rfl) (by kernel_rfl) (headgateref25_Put.calls K (⟨IntKind.wrap .i64 (bt a0 0), IntKind.wrap .i64 (Int.tmod (bt a0 1) 4), t2492, IntKind.wrap .u32 t2496, t2500, (⟨x2564, x2565, x2566, x2567, x2568, x2569⟩ : T_arr6_22)⟩ : T_api_Sqe) ((bt a0 39) == 1) t2588 _ ht2589) ?_; clear ha a; rintro e W2590 ⟨rfl, HX2591⟩
            refine ⟨_, rfl, ?_⟩; intro a ha; replace HW := HW.callw HX2591; clear HX2591
            refine stepp ha 45 (.tuple #[.string t2588.1, .int .i64 t2588.2]) (by kernel_rfl) (by kernel_rfl) ?_; clear ha a; intro a ha
            refine stepp ha 51 (.string t2588.1) (by kernel_rfl) (by kernel_rfl) ?_; clear ha a; intro a ha
            refine stepp ha 52 (.int .i64 t2588.2) (by kernel_rfl) (by kernel_rfl) ?_; clear ha a; intro a ha
            refine stepp ha 6 (.string t2588.1) (by kernel_rfl) (by kernel_rfl) ?_; clear ha a; intro a ha
            refine stepp ha 7 (.int .i64 t2588.2) (by kernel_rfl) (by kernel_rfl) ?_; clear ha a; intro a ha
            refine endl ?_
            refine thenN (hK2587 _ _ ?_); clear hK2587
            refine wp_seq_k (fun K2592 hK2593 => ?_)
            refine wp_seq_k (fun K2594 hK2595 => ?_)
            refine wp_region_lit ?_
            refine stepp ha 53 (.int .i64 t2588.2) (by kernel_rfl) (by kernel_rfl) ?_; clear ha a; intro a ha
            refine stepp ha 54 (.bool (t2588.2 != 0)) (by kernel_rfl) (by kernel_rfl) ?_; clear ha a; intro a ha
            refine stepp ha 55 (.bool (t2588.2 != 0)) (by kernel_rfl) (by kernel_rfl) ?_; clear ha a; intro a ha
            by_cases hp2596 : t2588.2 = 0
            · skip
              replace h := ite_pos' h hp2596
              replace ha := ha.bool 55 (by kernel_rfl) (ineq_f hp2596)
              refine stepp ha 56 (.string t2588.1) (by kernel_rfl) (by kernel_rfl) ?_; clear ha a; intro a ha
              refine stepp ha 57 (.string a0) (by kernel_rfl) (by kernel_rfl) ?_; clear ha a; intro a ha
              refine stepp ha 58 (.bool (!(t2588.1.toList == a0.toList))) (by kernel_rfl) (by kernel_rfl) ?_; clear ha a; intro a ha
              refine stepp ha 59 (.bool (!(t2588.1.toList == a0.toList))) (by kernel_rfl) (by kernel_rfl) ?_; clear ha a; intro a ha
              refine endl ?_
              refine thenN (hK2595 _ _ ?_); clear hK2595
              by_cases hp2597 : t2588.1 = a0
              · skip
                replace h := ite_pos' h hp2597
                refine condF ha (by kernel_rfl) (by kernel_rfl) (t := (!(t2588.1.toList == a0.toList))) (str_ne_f hp2597) ?_
                refine wp_skip ?_
                refine thenN (hK2593 _ _ ?_); clear hK2593
                refine wp_seq_k (fun K2604 hK2605 => ?_)
                refine wp_region_lit ?_
                refine stepl ha 61 (HW.ca (i := 0) (b := b2505) (C := #[.int .i64 (IntKind.wrap .i64 (bt a0 0)), .int .i64 (IntKind.wrap .i64 (Int.tmod (bt a0 1) 4)), .int .i64 t2492, .int .u32 (IntKind.wrap .u32 t2496), .int .i64 t2500, .int .u32 x2564, .int .u32 x2565, .int .u32 x2566, .int .u32 x2567, .int .u32 x2568, .int .u32 x2569, .bool ((bt a0 39) == 1)]) (T := 54) (fr := (0, 0)) (by kernel_rfl)) 54 0 (.tmp 4) (.agg #[.int .i64 (IntKind.wrap .i64 (bt a0 0)), .int .i64 (IntKind.wrap .i64 (Int.tmod (bt a0 1) 4)), .int .i64 t2492, .int .u32 (IntKind.wrap .u32 t2496), .int .i64 t2500, .int .u32 x2564, .int .u32 x2565, .int .u32 x2566, .int .u32 x2567, .int .u32 x2568, .int .u32 x2569, .bool ((bt a0 39) == 1)]) rfl (by kernel_rfl) (by kernel_rfl) (by kernel_rfl) ?_; clear ha a; intro a ha
                refine stepst ha HW 1 (b := b2478) (C := #[.int .i64 0, .int .i64 0, .int .i64 0, .int .u32 0, .int .i64 0, .int .u32 0, .int .u32 0, .int .u32 0, .int .u32 0, .int .u32 0, .int .u32 0, .bool false]) (T := 54) (by kernel_rfl) 54 0 (.tmp 2) (.tmp 61) (.agg #[.int .i64 (IntKind.wrap .i64 (bt a0 0)), .int .i64 (IntKind.wrap .i64 (Int.tmod (bt a0 1) 4)), .int .i64 t2492, .int .u32 (IntKind.wrap .u32 t2496), .int .i64 t2500, .int .u32 x2564, .int .u32 x2565, .int .u32 x2566, .int .u32 x2567, .int .u32 x2568, .int .u32 x2569, .bool ((bt a0 39) == 1)]) #[.int .i64 (IntKind.wrap .i64 (bt a0 0)), .int .i64 (IntKind.wrap .i64 (Int.tmod (bt a0 1) 4)), .int .i64 t2492, .int .u32 (IntKind.wrap .u32 t2496), .int .i64 t2500, .int .u32 x2564, .int .u32 x2565, .int .u32 x2566, .int .u32 x2567, .int .u32 x2568, .int .u32 x2569, .bool ((bt a0 39) == 1)] rfl (by kernel_rfl) (by kernel_rfl) (by kernel_rfl) (by kernel_rfl) (by kernel_rfl) (by kernel_rfl) (by kernel_rfl) ?_; clear ha HW a; intro a W2606 HW ha
                refine stepp ha 3 (.int .i64 0) (by kernel_rfl) (by kernel_rfl) ?_; clear ha a; intro a ha
                refine endl ?_
                refine thenN (hK2605 _ _ ?_); clear hK2605
                refine wp_ret ?_
                obtain rfl := Option.some.inj h
                exact finv ha _ _ rfl (.cell (ad := ⟨b2478, 0, none⟩) (v := .agg #[.int .i64 (IntKind.wrap .i64 (bt a0 0)), .int .i64 (IntKind.wrap .i64 (Int.tmod (bt a0 1) 4)), .int .i64 t2492, .int .u32 (IntKind.wrap .u32 t2496), .int .i64 t2500, .int .u32 x2564, .int .u32 x2565, .int .u32 x2566, .int .u32 x2567, .int .u32 x2568, .int .u32 x2569, .bool ((bt a0 39) == 1)]) (by kernel_rfl) (run_loadVar_ca0 (HW.ca (i := 1) (b := b2478) (C := #[.int .i64 (IntKind.wrap .i64 (bt a0 0)), .int .i64 (IntKind.wrap .i64 (Int.tmod (bt a0 1) 4)), .int .i64 t2492, .int .u32 (IntKind.wrap .u32 t2496), .int .i64 t2500, .int .u32 x2564, .int .u32 x2565, .int .u32 x2566, .int .u32 x2567, .int .u32 x2568, .int .u32 x2569, .bool ((bt a0 39) == 1)]) (T := 54) (fr := (0, 0)) (by kernel_rfl)) 54 0 (.agg #[.int .i64 (IntKind.wrap .i64 (bt a0 0)), .int .i64 (IntKind.wrap .i64 (Int.tmod (bt a0 1) 4)), .int .i64 t2492, .int .u32 (IntKind.wrap .u32 t2496), .int .i64 t2500, .int .u32 x2564, .int .u32 x2565, .int .u32 x2566, .int .u32 x2567, .int .u32 x2568, .int .u32 x2569, .bool ((bt a0 39) == 1)]) (by kernel_rfl)) (.tmp (v := .int .i64 0) (by kernel_rfl) .nil)) (.tuple #[.agg #[.int .i64 (IntKind.wrap .i64 (bt a0 0)), .int .i64 (IntKind.wrap .i64 (Int.tmod (bt a0 1) 4)), .int .i64 t2492, .int .u32 (IntKind.wrap .u32 t2496), .int .i64 t2500, .int .u32 x2564, .int .u32 x2565, .int .u32 x2566, .int .u32 x2567, .int .u32 x2568, .int .u32 x2569, .bool ((bt a0 39) == 1)], .int .i64 0]) rfl ⟨rfl, HW.pick [] [] (by decide) (by decide) rfl (by kernel_rfl)⟩
              · skip
                replace h := ite_neg' h hp2597
                refine condT ha (by kernel_rfl) (by kernel_rfl) (t := (!(t2588.1.toList == a0.toList))) (str_ne_t hp2597) ?_
                refine wp_seq_k (fun K2598 hK2599 => ?_)
                refine wp_region_lit ?_
                refine stepp ha 60 (.agg #[.int .i64 0, .int .i64 0, .int .i64 0, .int .u32 0, .int .i64 0, .int .u32 0, .int .u32 0, .int .u32 0, .int .u32 0, .int .u32 0, .int .u32 0, .bool false]) (by kernel_rfl) (by kernel_rfl) ?_; clear ha a; intro a ha
                refine stepst ha HW 1 (b := b2478) (C := #[.int .i64 0, .int .i64 0, .int .i64 0, .int .u32 0, .int .i64 0, .int .u32 0, .int .u32 0, .int .u32 0, .int .u32 0, .int .u32 0, .int .u32 0, .bool false]) (T := 54) (by kernel_rfl) 54 0 (.tmp 2) (.tmp 60) (.agg #[.int .i64 0, .int .i64 0, .int .i64 0, .int .u32 0, .int .i64 0, .int .u32 0, .int .u32 0, .int .u32 0, .int .u32 0, .int .u32 0, .int .u32 0, .bool false]) #[.int .i64 0, .int .i64 0, .int .i64 0, .int .u32 0, .int .i64 0, .int .u32 0, .int .u32 0, .int .u32 0, .int .u32 0, .int .u32 0, .int .u32 0, .bool false] rfl (by kernel_rfl) (by kernel_rfl) (by kernel_rfl) (by kernel_rfl) (by kernel_rfl) (by kernel_rfl) (by kernel_rfl) ?_; clear ha HW a; intro a W2600 HW ha
                refine stepp ha 3 (.int .i64 250) (by kernel_rfl) (by kernel_rfl) ?_; clear ha a; intro a ha
                refine endl ?_
                refine thenN (hK2599 _ _ ?_); clear hK2599
                refine wp_ret ?_
                refine thenR ?_
                obtain rfl := Option.some.inj h
                exact finv ha _ _ rfl (.cell (ad := ⟨b2478, 0, none⟩) (v := .agg #[.int .i64 0, .int .i64 0, .int .i64 0, .int .u32 0, .int .i64 0, .int .u32 0, .int .u32 0, .int .u32 0, .int .u32 0, .int .u32 0, .int .u32 0, .bool false]) (by kernel_rfl) (run_loadVar_ca0 (HW.ca (i := 1) (b := b2478) (C := #[.int .i64 0, .int .i64 0, .int .i64 0, .int .u32 0, .int .i64 0, .int .u32 0, .int .u32 0, .int .u32 0, .int .u32 0, .int .u32 0, .int .u32 0, .bool false]) (T := 54) (fr := (0, 0)) (by kernel_rfl)) 54 0 (.agg #[.int .i64 0, .int .i64 0, .int .i64 0, .int .u32 0, .int .i64 0, .int .u32 0, .int .u32 0, .int .u32 0, .int .u32 0, .int .u32 0, .int .u32 0, .bool false]) (by kernel_rfl)) (.tmp (v := .int .i64 250) (by kernel_rfl) .nil)) (.tuple #[.agg #[.int .i64 0, .int .i64 0, .int .i64 0, .int .u32 0, .int .i64 0, .int .u32 0, .int .u32 0, .int .u32 0, .int .u32 0, .int .u32 0, .int .u32 0, .bool false], .int .i64 250]) rfl ⟨rfl, HW.pick [] [] (by decide) (by decide) rfl (by kernel_rfl)⟩
            · skip
              replace h := ite_neg' h hp2596
              replace ha := ha.bool 55 (by kernel_rfl) (ineq_t hp2596)
              refine stepo ha 56 (by kernel_rfl) ?_; clear ha a; intro a ha
              refine stepo ha 57 (by kernel_rfl) ?_; clear ha a; intro a ha
              refine stepo ha 58 (by kernel_rfl) ?_; clear ha a; intro a ha
              refine stepp ha 59 (.bool true) (by kernel_rfl) (by kernel_rfl) ?_; clear ha a; intro a ha
              refine endl ?_
              refine thenN (hK2595 _ _ ?_); clear hK2595
              refine condT ha (by kernel_rfl) (by kernel_rfl) (t := true) (rfl) ?_
              refine wp_seq_k (fun K2601 hK2602 => ?_)
              refine wp_region_lit ?_
              refine stepp ha 60 (.agg #[.int .i64 0, .int .i64 0, .int .i64 0, .int .u32 0, .int .i64 0, .int .u32 0, .int .u32 0, .int .u32 0, .int .u32 0, .int .u32 0, .int .u32 0, .bool false]) (by kernel_rfl) (by kernel_rfl) ?_; clear ha a; intro a ha
              refine stepst ha HW 1 (b := b2478) (C := #[.int .i64 0, .int .i64 0, .int .i64 0, .int .u32 0, .int .i64 0, .int .u32 0, .int .u32 0, .int .u32 0, .int .u32 0, .int .u32 0, .int .u32 0, .bool false]) (T := 54) (by kernel_rfl) 54 0 (.tmp 2) (.tmp 60) (.agg #[.int .i64 0, .int .i64 0, .int .i64 0, .int .u32 0, .int .i64 0, .int .u32 0, .int .u32 0, .int .u32 0, .int .u32 0, .int .u32 0, .int .u32 0, .bool false]) #[.int .i64 0, .int .i64 0, .int .i64 0, .int .u32 0, .int .i64 0, .int .u32 0, .int .u32 0, .int .u32 0, .int .u32 0, .int .u32 0, .int .u32 0, .bool false] rfl (by kernel_rfl) (by kernel_rfl) (by kernel_rfl) (by kernel_rfl) (by kernel_rfl) (by kernel_rfl) (by kernel_rfl) ?_; clear ha HW a; intro a W2603 HW ha
              refine stepp ha 3 (.int .i64 250) (by kernel_rfl) (by kernel_rfl) ?_; clear ha a; intro a ha
              refine endl ?_
              refine thenN (hK2602 _ _ ?_); clear hK2602
              refine wp_ret ?_
              refine thenR ?_
              obtain rfl := Option.some.inj h
              exact finv ha _ _ rfl (.cell (ad := ⟨b2478, 0, none⟩) (v := .agg #[.int .i64 0, .int .i64 0, .int .i64 0, .int .u32 0, .int .i64 0, .int .u32 0, .int .u32 0, .int .u32 0, .int .u32 0, .int .u32 0, .int .u32 0, .bool false]) (by kernel_rfl) (run_loadVar_ca0 (HW.ca (i := 1) (b := b2478) (C := #[.int .i64 0, .int .i64 0, .int .i64 0, .int .u32 0, .int .i64 0, .int .u32 0, .int .u32 0, .int .u32 0, .int .u32 0, .int .u32 0, .int .u32 0, .bool false]) (T := 54) (fr := (0, 0)) (by kernel_rfl)) 54 0 (.agg #[.int .i64 0, .int .i64 0, .int .i64 0, .int .u32 0, .int .i64 0, .int .u32 0, .int .u32 0, .int .u32 0, .int .u32 0, .int .u32 0, .int .u32 0, .bool false]) (by kernel_rfl)) (.tmp (v := .int .i64 250) (by kernel_rfl) .nil)) (.tuple #[.agg #[.int .i64 0, .int .i64 0, .int .i64 0, .int .u32 0, .int .i64 0, .int .u32 0, .int .u32 0, .int .u32 0, .int .u32 0, .int .u32 0, .int .u32 0, .bool false], .int .i64 250]) rfl ⟨rfl, HW.pick [] [] (by decide) (by decide) rfl (by kernel_rfl)⟩
  · skip
    replace h := ite_neg' h hp2484
    refine condT ha (by kernel_rfl) (by kernel_rfl) (t := ((a0.size : Int) != 64)) (ineq_t hp2484) ?_
    refine wp_seq_k (fun K2485 hK2486 => ?_)
    refine wp_region_lit ?_
    refine stepp ha 11 (.agg #[.int .i64 0, .int .i64 0, .int .i64 0, .int .u32 0, .int .i64 0, .int .u32 0, .int .u32 0, .int .u32 0, .int .u32 0, .int .u32 0, .int .u32 0, .bool false]) (by kernel_rfl) (by kernel_rfl) ?_; clear ha a; intro a ha
    refine stepst ha HW 0 (b := b2478) (C := #[.int .i64 0, .int .i64 0, .int .i64 0, .int .u32 0, .int .i64 0, .int .u32 0, .int .u32 0, .int .u32 0, .int .u32 0, .int .u32 0, .int .u32 0, .bool false]) (T := 54) (by kernel_rfl) 54 0 (.tmp 2) (.tmp 11) (.agg #[.int .i64 0, .int .i64 0, .int .i64 0, .int .u32 0, .int .i64 0, .int .u32 0, .int .u32 0, .int .u32 0, .int .u32 0, .int .u32 0, .int .u32 0, .bool false]) #[.int .i64 0, .int .i64 0, .int .i64 0, .int .u32 0, .int .i64 0, .int .u32 0, .int .u32 0, .int .u32 0, .int .u32 0, .int .u32 0, .int .u32 0, .bool false] rfl (by kernel_rfl) (by kernel_rfl) (by kernel_rfl) (by kernel_rfl) (by kernel_rfl) (by kernel_rfl) (by kernel_rfl) ?_; clear ha HW a; intro a W2487 HW ha
    refine stepp ha 3 (.int .i64 250) (by kernel_rfl) (by kernel_rfl) ?_; clear ha a; intro a ha
    refine endl ?_
    refine thenN (hK2486 _ _ ?_); clear hK2486
    refine wp_ret ?_
    refine thenR ?_
    obtain rfl := Option.some.inj h
    exact finv ha _ _ rfl (.cell (ad := ⟨b2478, 0, none⟩) (v := .agg #[.int .i64 0, .int .i64 0, .int .i64 0, .int .u32 0, .int .i64 0, .int .u32 0, .int .u32 0, .int .u32 0, .int .u32 0, .int .u32 0, .int .u32 0, .bool false]) (by kernel_rfl) (run_loadVar_ca0 (HW.ca (i := 0) (b := b2478) (C := #[.int .i64 0, .int .i64 0, .int .i64 0, .int .u32 0, .int .i64 0, .int .u32 0, .int .u32 0, .int .u32 0, .int .u32 0, .int .u32 0, .int .u32 0, .bool false]) (T := 54) (fr := (0, 0)) (by kernel_rfl)) 54 0 (.agg #[.int .i64 0, .int .i64 0, .int .i64 0, .int .u32 0, .int .i64 0, .int .u32 0, .int .u32 0, .int .u32 0, .int .u32 0, .int .u32 0, .int .u32 0, .bool false]) (by kernel_rfl)) (.tmp (v := .int .i64 250) (by kernel_rfl) .nil)) (.tuple #[.agg #[.int .i64 0, .int .i64 0, .int .i64 0, .int .u32 0, .int .i64 0, .int .u32 0, .int .u32 0, .int .u32 0, .int .u32 0, .int .u32 0, .int .u32 0, .bool false], .int .i64 250]) rfl ⟨rfl, HW.pick [] [] (by decide) (by decide) rfl (by kernel_rfl)⟩
end Go.Proofs.YtceagilmillgfaaDoor.F
