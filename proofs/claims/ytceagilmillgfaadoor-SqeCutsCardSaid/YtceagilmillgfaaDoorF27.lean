/- headgate/headgateref25.Ended: a plain function, and that the call comes to what it says. No condition. -/
import Derived.Test.YtceagilmillgfaaDoorFT
import Derived.Test.YtceagilmillgfaaDoorF16
import Derived.Test.YtceagilmillgfaaDoorF54
namespace Go.Proofs.YtceagilmillgfaaDoor.F
open Go Go.RowKit Go.Proofs.YtceagilmillgfaaDoor.X
set_option linter.unusedVariables false
set_option linter.unusedSimpArgs false
/-! ### headgate/headgateref25.Ended: function 27 -/
def headgateref25_Ended.f (K : Nat) (a0 : ByteArray) : Option (T_api_Cqe × Int) :=
  if (a0.size : Int) = 16 then ((headgateref25_num.f K a0 0 4).bind fun t2691 => ((headgateref25_num.f K a0 4 4).bind fun t2695 => ((headgateref25_num.f K a0 8 2).bind fun t2699 => ((headgateref25_num.f K a0 10 2).bind fun t2703 => ((headgateref25_num.f K a0 12 2).bind fun t2707 => ((headgateref25_num.f K a0 14 2).bind fun t2711 => ((headgateref25_End.f K (⟨IntKind.wrap .u32 t2691, IntKind.wrap .u32 t2695, t2699, t2703, t2707, IntKind.wrap .i64 (Int.tdiv t2711 2)⟩ : T_api_Cqe)).bind fun t2720 => (if t2720.2 = 0 then (if t2720.1 = a0 then (some ((⟨IntKind.wrap .u32 t2691, IntKind.wrap .u32 t2695, t2699, t2703, t2707, IntKind.wrap .i64 (Int.tdiv t2711 2)⟩ : T_api_Cqe), 0)) else (some ((⟨0, 0, 0, 0, 0, 0⟩ : T_api_Cqe), 250))) else (some ((⟨0, 0, 0, 0, 0, 0⟩ : T_api_Cqe), 250)))))))))) else (some ((⟨0, 0, 0, 0, 0, 0⟩ : T_api_Cqe), 250))
set_option maxRecDepth 100000 in
set_option maxHeartbeats 4000000 in
theorem headgateref25_Ended.calls (K : Nat) (a0 : ByteArray)  (r : T_api_Cqe × Int) (w : World)  (h : headgateref25_Ended.f K a0 = some r) :
    Calls Tryd.prog 27 #[.string a0] w (fun e W' => e = .returned (.tuple #[.agg #[.int .u32 r.1.f0, .int .u32 r.1.f1, .int .i64 r.1.f2, .int .i64 r.1.f3, .int .i64 r.1.f4, .int .i64 r.1.f5], .int .i64 r.2]) ∧ Wd w W' [] [] ) := by
  refine sxstart (n := 41) (l := [(0, .string a0)]) Tryd.func27 rfl rfl (Nat.le_of_ble_eq_true (by kernel_rfl)) (subsA_cons rfl (subsA_nil _)) ?_
  intro a ha
  have HW := Wd.refl w
  unfold headgateref25_Ended.f at h
  refine wp_seq_k (fun K2677 hK2678 => ?_)
  refine wp_region_lit ?_
  refine stepnew ha HW 2 #[.int .u32 0, .int .u32 0, .int .i64 0, .int .i64 0, .int .i64 0, .int .i64 0] 27 (by kernel_rfl) (by kernel_rfl) ?_; clear ha HW a; intro b2679 a W2680 HW ha
  refine stepp ha 3 (.int .i64 0) (by kernel_rfl) (by kernel_rfl) ?_; clear ha a; intro a ha
  refine endl ?_
  refine thenN (hK2678 _ _ ?_); clear hK2678
  refine wp_seq_k (fun K2681 hK2682 => ?_)
  refine wp_seq_k (fun K2683 hK2684 => ?_)
  refine wp_region_lit ?_
  refine stepp ha 7 (.string a0) (by kernel_rfl) (by kernel_rfl) ?_; clear ha a; intro a ha
  refine stepp ha 8 (.int .i64 (a0.size : Int)) (by kernel_rfl) (by kernel_rfl) ?_; clear ha a; intro a ha
  refine stepp ha 9 (.bool ((a0.size : Int) != 16)) (by kernel_rfl) (by kernel_rfl) ?_; clear ha a; intro a ha
  refine endl ?_
  refine thenN (hK2684 _ _ ?_); clear hK2684
  by_cases hp2685 : (a0.size : Int) = 16
  · skip
    replace h := ite_pos' h hp2685
    refine condF ha (by kernel_rfl) (by kernel_rfl) (t := ((a0.size : Int) != 16)) (ineq_f hp2685) ?_
    refine wp_skip ?_
    refine thenN (hK2682 _ _ ?_); clear hK2682
    refine wp_seq_k (fun K2689 hK2690 => ?_)
    refine wp_region_lit ?_
    refine stepp ha 11 (.string a0) (by kernel_rfl) (by kernel_rfl) ?_; clear ha a; intro a ha
    obtain ⟨t2691, ht2692, h_⟩ := bind_some' h; clear h; have h := h_; clear h_
    refine stepc ha 12 (by kernel_rfl) (by kernel_rfl) (headgateref25_num.calls K a0 0 4 t2691 _ ht2692) ?_; clear ha a; rintro e W2693 ⟨rfl, HX2694⟩
    refine ⟨_, rfl, ?_⟩; intro a ha; replace HW := HW.callw HX2694; clear HX2694
    refine stepp ha 13 (.int .u32 (IntKind.wrap .u32 t2691)) (by kernel_rfl) (by kernel_rfl) ?_; clear ha a; intro a ha
    refine stepp ha 14 (.string a0) (by kernel_rfl) (by kernel_rfl) ?_; clear ha a; intro a ha
    obtain ⟨t2695, ht2696, h_⟩ := bind_some' h; clear h; have h := h_; clear h_
    refine stepc ha 15 (by kernel_rfl) (by kernel_rfl) (headgateref25_num.calls K a0 4 4 t2695 _ ht2696) ?_; clear ha a; rintro e W2697 ⟨rfl, HX2698⟩
    refine ⟨_, rfl, ?_⟩; intro a ha; replace HW := HW.callw HX2698; clear HX2698
    refine stepp ha 16 (.int .u32 (IntKind.wrap .u32 t2695)) (by kernel_rfl) (by kernel_rfl) ?_; clear ha a; intro a ha
    refine stepp ha 17 (.string a0) (by kernel_rfl) (by kernel_rfl) ?_; clear ha a; intro a ha
    obtain ⟨t2699, ht2700, h_⟩ := bind_some' h; clear h; have h := h_; clear h_
    refine stepc ha 18 (by kernel_rfl) (by kernel_rfl) (headgateref25_num.calls K a0 8 2 t2699 _ ht2700) ?_; clear ha a; rintro e W2701 ⟨rfl, HX2702⟩
    refine ⟨_, rfl, ?_⟩; intro a ha; replace HW := HW.callw HX2702; clear HX2702
    refine stepp ha 19 (.string a0) (by kernel_rfl) (by kernel_rfl) ?_; clear ha a; intro a ha
    obtain ⟨t2703, ht2704, h_⟩ := bind_some' h; clear h; have h := h_; clear h_
    refine stepc ha 20 (by kernel_rfl) (by kernel_rfl) (headgateref25_num.calls K a0 10 2 t2703 _ ht2704) ?_; clear ha a; rintro e W2705 ⟨rfl, HX2706⟩
    refine ⟨_, rfl, ?_⟩; intro a ha; replace HW := HW.callw HX2706; clear HX2706
    refine stepp ha 21 (.string a0) (by kernel_rfl) (by kernel_rfl) ?_; clear ha a; intro a ha
    obtain ⟨t2707, ht2708, h_⟩ := bind_some' h; clear h; have h := h_; clear h_
    refine stepc ha 22 (by kernel_rfl) (by kernel_rfl) (headgateref25_num.calls K a0 12 2 t2707 _ ht2708) ?_; clear ha a; rintro e W2709 ⟨rfl, HX2710⟩
    refine ⟨_, rfl, ?_⟩; intro a ha; replace HW := HW.callw HX2710; clear HX2710
    refine stepp ha 23 (.string a0) (by kernel_rfl) (by kernel_rfl) ?_; clear ha a; intro a ha
    obtain ⟨t2711, ht2712, h_⟩ := bind_some' h; clear h; have h := h_; clear h_
    refine stepc ha 24 (by kernel_rfl) (by kernel_rfl) (headgateref25_num.calls K a0 14 2 t2711 _ ht2712) ?_; clear ha a; rintro e W2713 ⟨rfl, HX2714⟩
    refine ⟨_, rfl, ?_⟩; intro a ha; replace HW := HW.callw HX2714; clear HX2714
    refine stepp ha 25 (.int .i64 (IntKind.wrap .i64 (Int.tdiv t2711 2))) (by kernel_rfl) (by kernel_rfl) ?_; clear ha a; intro a ha
    refine stepp ha 26 (.agg #[.int .u32 (IntKind.wrap .u32 t2691), .int .u32 (IntKind.wrap .u32 t2695), .int .i64 t2699, .int .i64 t2703, .int .i64 t2707, .int .i64 (IntKind.wrap .i64 (Int.tdiv t2711 2))]) (by kernel_rfl) (by kernel_rfl) ?_; clear ha a; intro a ha
    refine stepnew ha HW 4 #[.int .u32 0, .int .u32 0, .int .i64 0, .int .i64 0, .int .i64 0, .int .i64 0] 27 (by kernel_rfl) (by kernel_rfl) ?_; clear ha HW a; intro b2715 a W2716 HW ha
    refine stepst ha HW 0 (b := b2715) (C := #[.int .u32 0, .int .u32 0, .int .i64 0, .int .i64 0, .int .i64 0, .int .i64 0]) (T := 27) (by kernel_rfl) 27 0 (.tmp 4) (.tmp 26) (.agg #[.int .u32 (IntKind.wrap .u32 t2691), .int .u32 (IntKind.wrap .u32 t2695), .int .i64 t2699, .int .i64 t2703, .int .i64 t2707, .int .i64 (IntKind.wrap .i64 (Int.tdiv t2711 2))]) #[.int .u32 (IntKind.wrap .u32 t2691), .int .u32 (IntKind.wrap .u32 t2695), .int .i64 t2699, .int .i64 t2703, .int .i64 t2707, .int .i64 (IntKind.wrap .i64 (Int.tdiv t2711 2))] rfl (by kernel_rfl) (by kernel_rfl) (by kernel_rfl) (by kernel_rfl) (by kernel_rfl) (by kernel_rfl) (by kernel_rfl) ?_; clear ha HW a; intro a W2717 HW ha
    refine endl ?_
    refine thenN (hK2690 _ _ ?_); clear hK2690
    refine wp_seq_k (fun K2718 hK2719 => ?_)
    refine wp_region_lit ?_
    refine stepl ha 28 (HW.ca (i := 0) (b := b2715) (C := #[.int .u32 (IntKind.wrap .u32 t2691), .int .u32 (IntKind.wrap .u32 t2695), .int .i64 t2699, .int .i64 t2703, .int .i64 t2707, .int .i64 (IntKind.wrap .i64 (Int.tdiv t2711 2))]) (T := 27) (fr := (0, 0)) (by kernel_rfl)) 27 0 (.tmp 4) (.agg #[.int .u32 (IntKind.wrap .u32 t2691), .int .u32 (IntKind.wrap .u32 t2695), .int .i64 t2699, .int .i64 t2703, .int .i64 t2707, .int .i64 (IntKind.wrap .i64 (Int.tdiv t2711 2))]) rfl (by kernel_rfl) (by kernel_rfl) (by kernel_rfl) ?_; clear ha a; intro a ha
    obtain ⟨t2720, ht2721, h_⟩ := bind_some' h; clear h; have h := h_; clear h_
    refine stepc ha 29 (by kernel_rfl) (by kernel_rfl) (headgateref25_End.calls K (⟨IntKind.wrap .u32 t2691, IntKind.wrap .u32 t2695, t2699, t2703, t2707, IntKind.wrap .i64 (Int.tdiv t2711 2)⟩ : T_api_Cqe) t2720 _ ht2721) ?_; clear ha a; rintro e W2722 ⟨rfl, HX2723⟩
    refine ⟨_, rfl, ?_⟩; intro a ha; replace HW := HW.callw HX2723; clear HX2723
    refine stepp ha 27 (.tuple #[.string t2720.1, .int .i64 t2720.2]) (by kernel_rfl) (by kernel_rfl) ?_; clear ha a; intro a ha
    refine stepp ha 30 (.string t2720.1) (by kernel_rfl) (by kernel_rfl) ?_; clear ha a; intro a ha
    refine stepp ha 31 (.int .i64 t2720.2) (by kernel_rfl) (by kernel_rfl) ?_; clear ha a; intro a ha
    refine stepp ha 5 (.string t2720.1) (by kernel_rfl) (by kernel_rfl) ?_; clear ha a; intro a ha
    refine stepp ha 6 (.int .i64 t2720.2) (by kernel_rfl) (by kernel_rfl) ?_; clear ha a; intro a ha
    refine endl ?_
    refine thenN (hK2719 _ _ ?_); clear hK2719
    refine wp_seq_k (fun K2724 hK2725 => ?_)
    refine wp_seq_k (fun K2726 hK2727 => ?_)
    refine wp_region_lit ?_
    refine stepp ha 32 (.int .i64 t2720.2) (by kernel_rfl) (by kernel_rfl) ?_; clear ha a; intro a ha
    refine stepp ha 33 (.bool (t2720.2 != 0)) (by kernel_rfl) (by kernel_rfl) ?_; clear ha a; intro a ha
    refine stepp ha 34 (.bool (t2720.2 != 0)) (by kernel_rfl) (by kernel_rfl) ?_; clear ha a; intro a ha
    by_cases hp2728 : t2720.2 = 0
    · skip
      replace h := ite_pos' h hp2728
      replace ha := ha.bool 34 (by kernel_rfl) (ineq_f hp2728)
      refine stepp ha 35 (.string t2720.1) (by kernel_rfl) (by kernel_rfl) ?_; clear ha a; intro a ha
      refine stepp ha 36 (.string a0) (by kernel_rfl) (by kernel_rfl) ?_; clear ha a; intro a ha
      refine stepp ha 37 (.bool (!(t2720.1.toList == a0.toList))) (by kernel_rfl) (by kernel_rfl) ?_; clear ha a; intro a ha
      refine stepp ha 38 (.bool (!(t2720.1.toList == a0.toList))) (by kernel_rfl) (by kernel_rfl) ?_; clear ha a; intro a ha
      refine endl ?_
      refine thenN (hK2727 _ _ ?_); clear hK2727
      by_cases hp2729 : t2720.1 = a0
      · skip
        replace h := ite_pos' h hp2729
        refine condF ha (by kernel_rfl) (by kernel_rfl) (t := (!(t2720.1.toList == a0.toList))) (str_ne_f hp2729) ?_
        refine wp_skip ?_
        refine thenN (hK2725 _ _ ?_); clear hK2725
        refine wp_seq_k (fun K2736 hK2737 => ?_)
        refine wp_region_lit ?_
        refine stepl ha 40 (HW.ca (i := 0) (b := b2715) (C := #[.int .u32 (IntKind.wrap .u32 t2691), .int .u32 (IntKind.wrap .u32 t2695), .int .i64 t2699, .int .i64 t2703, .int .i64 t2707, .int .i64 (IntKind.wrap .i64 (Int.tdiv t2711 2))]) (T := 27) (fr := (0, 0)) (by kernel_rfl)) 27 0 (.tmp 4) (.agg #[.int .u32 (IntKind.wrap .u32 t2691), .int .u32 (IntKind.wrap .u32 t2695), .int .i64 t2699, .int .i64 t2703, .int .i64 t2707, .int .i64 (IntKind.wrap .i64 (Int.tdiv t2711 2))]) rfl (by kernel_rfl) (by kernel_rfl) (by kernel_rfl) ?_; clear ha a; intro a ha
        refine stepst ha HW 1 (b := b2679) (C := #[.int .u32 0, .int .u32 0, .int .i64 0, .int .i64 0, .int .i64 0, .int .i64 0]) (T := 27) (by kernel_rfl) 27 0 (.tmp 2) (.tmp 40) (.agg #[.int .u32 (IntKind.wrap .u32 t2691), .int .u32 (IntKind.wrap .u32 t2695), .int .i64 t2699, .int .i64 t2703, .int .i64 t2707, .int .i64 (IntKind.wrap .i64 (Int.tdiv t2711 2))]) #[.int .u32 (IntKind.wrap .u32 t2691), .int .u32 (IntKind.wrap .u32 t2695), .int .i64 t2699, .int .i64 t2703, .int .i64 t2707, .int .i64 (IntKind.wrap .i64 (Int.tdiv t2711 2))] rfl (by kernel_rfl) (by kernel_rfl) (by kernel_rfl) (by kernel_rfl) (by kernel_rfl) (by kernel_rfl) (by kernel_rfl) ?_; clear ha HW a; intro a W2738 HW ha
        refine stepp ha 3 (.int .i64 0) (by kernel_rfl) (by kernel_rfl) ?_; clear ha a; intro a ha
        refine endl ?_
        refine thenN (hK2737 _ _ ?_); clear hK2737
        refine wp_ret ?_
        obtain rfl := Option.some.inj h
        exact finv ha _ _ rfl (.cell (ad := ⟨b2679, 0, none⟩) (v := .agg #[.int .u32 (IntKind.wrap .u32 t2691), .int .u32 (IntKind.wrap .u32 t2695), .int .i64 t2699, .int .i64 t2703, .int .i64 t2707, .int .i64 (IntKind.wrap .i64 (Int.tdiv t2711 2))]) (by kernel_rfl) (run_loadVar_ca0 (HW.ca (i := 1) (b := b2679) (C := #[.int .u32 (IntKind.wrap .u32 t2691), .int .u32 (IntKind.wrap .u32 t2695), .int .i64 t2699, .int .i64 t2703, .int .i64 t2707, .int .i64 (IntKind.wrap .i64 (Int.tdiv t2711 2))]) (T := 27) (fr := (0, 0)) (by kernel_rfl)) 27 0 (.agg #[.int .u32 (IntKind.wrap .u32 t2691), .int .u32 (IntKind.wrap .u32 t2695), .int .i64 t2699, .int .i64 t2703, .int .i64 t2707, .int .i64 (IntKind.wrap .i64 (Int.tdiv t2711 2))]) (by kernel_rfl)) (.tmp (v := .int .i64 0) (by kernel_rfl) .nil)) (.tuple #[.agg #[.int .u32 (IntKind.wrap .u32 t2691), .int .u32 (IntKind.wrap .u32 t2695), .int .i64 t2699, .int .i64 t2703, .int .i64 t2707, .int .i64 (IntKind.wrap .i64 (Int.tdiv t2711 2))], .int .i64 0]) rfl ⟨rfl, HW.pick [] [] (by decide) (by decide) rfl (by kernel_rfl)⟩
      · skip
        replace h := ite_neg' h hp2729
        refine condT ha (by kernel_rfl) (by kernel_rfl) (t := (!(t2720.1.toList == a0.toList))) (str_ne_t hp2729) ?_
        refine wp_seq_k (fun K2730 hK2731 => ?_)
        refine wp_region_lit ?_
        refine stepp ha 39 (.agg #[.int .u32 0, .int .u32 0, .int .i64 0, .int .i64 0, .int .i64 0, .int .i64 0]) (by kernel_rfl) (by kernel_rfl) ?_; clear ha a; intro a ha
        refine stepst ha HW 1 (b := b2679) (C := #[.int .u32 0, .int .u32 0, .int .i64 0, .int .i64 0, .int .i64 0, .int .i64 0]) (T := 27) (by kernel_rfl) 27 0 (.tmp 2) (.tmp 39) (.agg #[.int .u32 0, .int .u32 0, .int .i64 0, .int .i64 0, .int .i64 0, .int .i64 0]) #[.int .u32 0, .int .u32 0, .int .i64 0, .int .i64 0, .int .i64 0, .int .i64 0] rfl (by kernel_rfl) (by kernel_rfl) (by kernel_rfl) (by kernel_rfl) (by kernel_rfl) (by kernel_rfl) (by kernel_rfl) ?_; clear ha HW a; intro a W2732 HW ha
        refine stepp ha 3 (.int .i64 250) (by kernel_rfl) (by kernel_rfl) ?_; clear ha a; intro a ha
        refine endl ?_
        refine thenN (hK2731 _ _ ?_); clear hK2731
        refine wp_ret ?_
        refine thenR ?_
        obtain rfl := Option.some.inj h
        exact finv ha _ _ rfl (.cell (ad := ⟨b2679, 0, none⟩) (v := .agg #[.int .u32 0, .int .u32 0, .int .i64 0, .int .i64 0, .int .i64 0, .int .i64 0]) (by kernel_rfl) (run_loadVar_ca0 (HW.ca (i := 1) (b := b2679) (C := #[.int .u32 0, .int .u32 0, .int .i64 0, .int .i64 0, .int .i64 0, .int .i64 0]) (T := 27) (fr := (0, 0)) (by kernel_rfl)) 27 0 (.agg #[.int .u32 0, .int .u32 0, .int .i64 0, .int .i64 0, .int .i64 0, .int .i64 0]) (by kernel_rfl)) (.tmp (v := .int .i64 250) (by kernel_rfl) .nil)) (.tuple #[.agg #[.int .u32 0, .int .u32 0, .int .i64 0, .int .i64 0, .int .i64 0, .int .i64 0], .int .i64 250]) rfl ⟨rfl, HW.pick [] [] (by decide) (by decide) rfl (by kernel_rfl)⟩
    · skip
      replace h := ite_neg' h hp2728
      replace ha := ha.bool 34 (by kernel_rfl) (ineq_t hp2728)
      refine stepo ha 35 (by kernel_rfl) ?_; clear ha a; intro a ha
      refine stepo ha 36 (by kernel_rfl) ?_; clear ha a; intro a ha
      refine stepo ha 37 (by kernel_rfl) ?_; clear ha a; intro a ha
      refine stepp ha 38 (.bool true) (by kernel_rfl) (by kernel_rfl) ?_; clear ha a; intro a ha
      refine endl ?_
      refine thenN (hK2727 _ _ ?_); clear hK2727
      refine condT ha (by kernel_rfl) (by kernel_rfl) (t := true) (rfl) ?_
      refine wp_seq_k (fun K2733 hK2734 => ?_)
      refine wp_region_lit ?_
      refine stepp ha 39 (.agg #[.int .u32 0, .int .u32 0, .int .i64 0, .int .i64 0, .int .i64 0, .int .i64 0]) (by kernel_rfl) (by kernel_rfl) ?_; clear ha a; intro a ha
      refine stepst ha HW 1 (b := b2679) (C := #[.int .u32 0, .int .u32 0, .int .i64 0, .int .i64 0, .int .i64 0, .int .i64 0]) (T := 27) (by kernel_rfl) 27 0 (.tmp 2) (.tmp 39) (.agg #[.int .u32 0, .int .u32 0, .int .i64 0, .int .i64 0, .int .i64 0, .int .i64 0]) #[.int .u32 0, .int .u32 0, .int .i64 0, .int .i64 0, .int .i64 0, .int .i64 0] rfl (by kernel_rfl) (by kernel_rfl) (by kernel_rfl) (by kernel_rfl) (by kernel_rfl) (by kernel_rfl) (by kernel_rfl) ?_; clear ha HW a; intro a W2735 HW ha
      refine stepp ha 3 (.int .i64 250) (by kernel_rfl) (by kernel_rfl) ?_; clear ha a; intro a ha
      refine endl ?_
      refine thenN (hK2734 _ _ ?_); clear hK2734
      refine wp_ret ?_
      refine thenR ?_
      obtain rfl := Option.some.inj h
      exact finv ha _ _ rfl (.cell (ad := ⟨b2679, 0, none⟩) (v := .agg #[.int .u32 0, .int .u32 0, .int .i64 0, .int .i64 0, .int .i64 0, .int .i64 0]) (by kernel_rfl) (run_loadVar_ca0 (HW.ca (i := 1) (b := b2679) (C := #[.int .u32 0, .int .u32 0, .int .i64 0, .int .i64 0, .int .i64 0, .int .i64 0]) (T := 27) (fr := (0, 0)) (by kernel_rfl)) 27 0 (.agg #[.int .u32 0, .int .u32 0, .int .i64 0, .int .i64 0, .int .i64 0, .int .i64 0]) (by kernel_rfl)) (.tmp (v := .int .i64 250) (by kernel_rfl) .nil)) (.tuple #[.agg #[.int .u32 0, .int .u32 0, .int .i64 0, .int .i64 0, .int .i64 0, .int .i64 0], .int .i64 250]) rfl ⟨rfl, HW.pick [] [] (by decide) (by decide) rfl (by kernel_rfl)⟩
  · skip
    replace h := ite_neg' h hp2685
    refine condT ha (by kernel_rfl) (by kernel_rfl) (t := ((a0.size : Int) != 16)) (ineq_t hp2685) ?_
    refine wp_seq_k (fun K2686 hK2687 => ?_)
    refine wp_region_lit ?_
    refine stepp ha 10 (.agg #[.int .u32 0, .int .u32 0, .int .i64 0, .int .i64 0, .int .i64 0, .int .i64 0]) (by kernel_rfl) (by kernel_rfl) ?_; clear ha a; intro a ha
    refine stepst ha HW 0 (b := b2679) (C := #[.int .u32 0, .int .u32 0, .int .i64 0, .int .i64 0, .int .i64 0, .int .i64 0]) (T := 27) (by kernel_rfl) 27 0 (.tmp 2) (.tmp 10) (.agg #[.int .u32 0, .int .u32 0, .int .i64 0, .int .i64 0, .int .i64 0, .int .i64 0]) #[.int .u32 0, .int .u32 0, .int .i64 0, .int .i64 0, .int .i64 0, .int .i64 0] rfl (by kernel_rfl) (by kernel_rfl) (by kernel_rfl) (by kernel_rfl) (by kernel_rfl) (by kernel_rfl) (by kernel_rfl) ?_; clear ha HW a; intro a W2688 HW ha
    refine stepp ha 3 (.int .i64 250) (by kernel_rfl) (by kernel_rfl) ?_; clear ha a; intro a ha
    refine endl ?_
    refine thenN (hK2687 _ _ ?_); clear hK2687
    refine wp_ret ?_
    refine thenR ?_
    obtain rfl := Option.some.inj h
    exact finv ha _ _ rfl (.cell (ad := ⟨b2679, 0, none⟩) (v := .agg #[.int .u32 0, .int .u32 0, .int .i64 0, .int .i64 0, .int .i64 0, .int .i64 0]) (by kernel_rfl) (run_loadVar_ca0 (HW.ca (i := 0) (b := b2679) (C := #[.int .u32 0, .int .u32 0, .int .i64 0, .int .i64 0, .int .i64 0, .int .i64 0]) (T := 27) (fr := (0, 0)) (by kernel_rfl)) 27 0 (.agg #[.int .u32 0, .int .u32 0, .int .i64 0, .int .i64 0, .int .i64 0, .int .i64 0]) (by kernel_rfl)) (.tmp (v := .int .i64 250) (by kernel_rfl) .nil)) (.tuple #[.agg #[.int .u32 0, .int .u32 0, .int .i64 0, .int .i64 0, .int .i64 0, .int .i64 0], .int .i64 250]) rfl ⟨rfl, HW.pick [] [] (by decide) (by decide) rfl (by kernel_rfl)⟩
end Go.Proofs.YtceagilmillgfaaDoor.F
