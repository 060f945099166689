/- headgate/headgatelaw25.SqeGets: a plain function, and that the call comes to what it says. No condition. -/
import Derived.Test.YtceagilmillgfaaDoorFT
import Derived.Test.YtceagilmillgfaaDoorF17
import Derived.Test.YtceagilmillgfaaDoorF24
import Derived.Test.YtceagilmillgfaaDoorF25
import Derived.Test.YtceagilmillgfaaDoorF26
import Derived.Test.YtceagilmillgfaaDoorF27
import Derived.Test.YtceagilmillgfaaDoorF28
import Derived.Test.YtceagilmillgfaaDoorF29
namespace Go.Proofs.YtceagilmillgfaaDoor.F
open Go Go.RowKit Go.Proofs.YtceagilmillgfaaDoor.X
set_option linter.unusedVariables false
set_option linter.unusedSimpArgs false
/-! ### headgate/headgatelaw25.SqeGets: function 5 -/
def headgatelaw25_SqeGets.f (K : Nat) (a0 : ByteArray) : Option Bool :=
  if (a0.size : Int) > 5000 then ((headgatelaw25_wakes.f K).bind fun t2825 => (some t2825)) else ((sqe_Get.f K a0).bind fun t2831 => ((headgateref25_Get.f K a0).bind fun t2840 => ((sqe_Ended.f K a0).bind fun t2849 => ((headgateref25_Ended.f K a0).bind fun t2858 => ((headgateref25_Same.f K (⟨t2831.1.f0, t2831.1.f1, t2831.1.f2, t2831.1.f3, t2831.1.f4, (⟨t2831.1.f5.f0, t2831.1.f5.f1, t2831.1.f5.f2, t2831.1.f5.f3, t2831.1.f5.f4, t2831.1.f5.f5⟩ : T_arr6_22)⟩ : T_api_Sqe) (⟨t2840.1.f0.f0, t2840.1.f0.f1, t2840.1.f0.f2, t2840.1.f0.f3, t2840.1.f0.f4, (⟨t2840.1.f0.f5.f0, t2840.1.f0.f5.f1, t2840.1.f0.f5.f2, t2840.1.f0.f5.f3, t2840.1.f0.f5.f4, t2840.1.f0.f5.f5⟩ : T_arr6_22)⟩ : T_api_Sqe)).bind fun t2867 => (if t2867 = true then (if t2831.2.1 = t2840.1.f1 then (if t2831.2.2 = t2840.2 then ((headgateref25_SameEnd.f (⟨t2849.1.f0, t2849.1.f1, t2849.1.f2, t2849.1.f3, t2849.1.f4, t2849.1.f5⟩ : T_api_Cqe) (⟨t2858.1.f0, t2858.1.f1, t2858.1.f2, t2858.1.f3, t2858.1.f4, t2858.1.f5⟩ : T_api_Cqe)).bind fun t2874 => (if t2874 = true then (if t2849.2 = t2858.2 then ((headgatelaw25_wakes.f K).bind fun t2880 => (some t2880)) else (some false)) else (some false))) else (some false)) else (some false)) else (some false)))))))
set_option maxRecDepth 100000 in
set_option maxHeartbeats 4000000 in
theorem headgatelaw25_SqeGets.calls (K : Nat) (a0 : ByteArray)  (r : Bool) (w : World) (hG1 : CA w 1 0 (encs T_sqe_field.enc G_sqe_endsOf).toArray) (hG2 : CA w 2 0 (encs T_sqe_field.enc G_sqe_fieldsOf).toArray) (h : headgatelaw25_SqeGets.f K a0 = some r) :
    Calls Tryd.prog 5 #[.string a0] w (fun e W' => e = .returned (.bool r) ∧ Wd w W' [] [] ) := by
  refine sxstart (n := 65) (l := [(0, .string a0)]) Tryd.func5 rfl rfl (Nat.le_of_ble_eq_true (by kernel_rfl)) (subsA_cons rfl (subsA_nil _)) ?_
  intro a ha
  have HW := Wd.refl w
  unfold headgatelaw25_SqeGets.f at h
  refine wp_seq_k (fun K2816 hK2817 => ?_)
  refine wp_region_lit ?_
  refine stepp ha 2 (.bool false) (by kernel_rfl) (by kernel_rfl) ?_; clear ha a; intro a ha
  refine endl ?_
  refine thenN (hK2817 _ _ ?_); clear hK2817
  refine wp_seq_k (fun K2818 hK2819 => ?_)
  refine wp_seq_k (fun K2820 hK2821 => ?_)
  refine wp_region_lit ?_
  refine stepp ha 12 (.string a0) (by kernel_rfl) (by kernel_rfl) ?_; clear ha a; intro a ha
  refine stepp ha 13 (.int .i64 (a0.size : Int)) (by kernel_rfl) (by kernel_rfl) ?_; clear ha a; intro a ha
  refine stepp ha 14 (.bool (decide ((a0.size : Int) > 5000))) (by kernel_rfl) (by kernel_rfl) ?_; clear ha a; intro a ha
  refine endl ?_
  refine thenN (hK2821 _ _ ?_); clear hK2821
  by_cases hp2822 : (a0.size : Int) > 5000
  · skip
    replace h := ite_pos' h hp2822
    refine condT ha (by kernel_rfl) (by kernel_rfl) (t := decide ((a0.size : Int) > 5000)) (decide_eq_true hp2822) ?_
    refine wp_seq_k (fun K2823 hK2824 => ?_)
    refine wp_region_lit ?_
    obtain ⟨t2825, ht2826, h_⟩ := bind_some' h; clear h; have h := h_; clear h_
    refine stepc ha 15 (by kernel_rfl) (by kernel_rfl) (headgatelaw25_wakes.calls K t2825 _ (HW.ca0 hG1) (HW.ca0 hG2) ht2826) ?_; clear ha a; rintro e W2827 ⟨rfl, HX2828⟩
    refine ⟨_, rfl, ?_⟩; intro a ha; replace HW := HW.callw HX2828; clear HX2828
    refine stepp ha 2 (.bool t2825) (by kernel_rfl) (by kernel_rfl) ?_; clear ha a; intro a ha
    refine endl ?_
    refine thenN (hK2824 _ _ ?_); clear hK2824
    refine wp_ret ?_
    refine thenR ?_
    obtain rfl := Option.some.inj h
    exact finv ha _ _ rfl (.tmp (v := .bool t2825) (by kernel_rfl) .nil) (.bool t2825) rfl ⟨rfl, HW.pick [] [] (by decide) (by decide) rfl (by kernel_rfl)⟩
  · skip
    replace h := ite_neg' h hp2822
    refine condF ha (by kernel_rfl) (by kernel_rfl) (t := decide ((a0.size : Int) > 5000)) (decide_eq_false hp2822) ?_
    refine wp_skip ?_
    refine thenN (hK2819 _ _ ?_); clear hK2819
    refine wp_seq_k (fun K2829 hK2830 => ?_)
    refine wp_region_lit ?_
    refine stepp ha 17 (.string a0) (by kernel_rfl) (by kernel_rfl) ?_; clear ha a; intro a ha
    obtain ⟨t2831, ht2832, h_⟩ := bind_some' h; clear h; have h := h_; clear h_
    refine stepc ha 18 (by kernel_rfl) (by kernel_rfl) (sqe_Get.calls K a0 t2831 _ (HW.ca0 hG1) (HW.ca0 hG2) ht2832) ?_; clear ha a; rintro e W2833 ⟨rfl, HX2834⟩
    refine ⟨_, rfl, ?_⟩; intro a ha; replace HW := HW.callw HX2834; clear HX2834
    refine stepp ha 16 (.tuple #[.agg #[.int .i64 t2831.1.f0, .int .i64 t2831.1.f1, .int .i64 t2831.1.f2, .int .u32 t2831.1.f3, .int .i64 t2831.1.f4, .int .u32 t2831.1.f5.f0, .int .u32 t2831.1.f5.f1, .int .u32 t2831.1.f5.f2, .int .u32 t2831.1.f5.f3, .int .u32 t2831.1.f5.f4, .int .u32 t2831.1.f5.f5], .bool t2831.2.1, .int .i64 t2831.2.2]) (by kernel_rfl) (by kernel_rfl) ?_; clear ha a; intro a ha
    refine stepp ha 19 (.agg #[.int .i64 t2831.1.f0, .int .i64 t2831.1.f1, .int .i64 t2831.1.f2, .int .u32 t2831.1.f3, .int .i64 t2831.1.f4, .int .u32 t2831.1.f5.f0, .int .u32 t2831.1.f5.f1, .int .u32 t2831.1.f5.f2, .int .u32 t2831.1.f5.f3, .int .u32 t2831.1.f5.f4, .int .u32 t2831.1.f5.f5]) (by kernel_rfl) (by kernel_rfl) ?_; clear ha a; intro a ha
    refine stepp ha 20 (.bool t2831.2.1) (by kernel_rfl) (by kernel_rfl) ?_; clear ha a; intro a ha
    refine stepp ha 21 (.int .i64 t2831.2.2) (by kernel_rfl) (by kernel_rfl) ?_; clear ha a; intro a ha
    refine stepnew ha HW 3 #[.int .i64 0, .int .i64 0, .int .i64 0, .int .u32 0, .int .i64 0, .int .u32 0, .int .u32 0, .int .u32 0, .int .u32 0, .int .u32 0, .int .u32 0] 25 (by kernel_rfl) (by kernel_rfl) ?_; clear ha HW a; intro b2835 a W2836 HW ha
    refine stepst ha HW 0 (b := b2835) (C := #[.int .i64 0, .int .i64 0, .int .i64 0, .int .u32 0, .int .i64 0, .int .u32 0, .int .u32 0, .int .u32 0, .int .u32 0, .int .u32 0, .int .u32 0]) (T := 25) (by kernel_rfl) 25 0 (.tmp 3) (.tmp 19) (.agg #[.int .i64 t2831.1.f0, .int .i64 t2831.1.f1, .int .i64 t2831.1.f2, .int .u32 t2831.1.f3, .int .i64 t2831.1.f4, .int .u32 t2831.1.f5.f0, .int .u32 t2831.1.f5.f1, .int .u32 t2831.1.f5.f2, .int .u32 t2831.1.f5.f3, .int .u32 t2831.1.f5.f4, .int .u32 t2831.1.f5.f5]) #[.int .i64 t2831.1.f0, .int .i64 t2831.1.f1, .int .i64 t2831.1.f2, .int .u32 t2831.1.f3, .int .i64 t2831.1.f4, .int .u32 t2831.1.f5.f0, .int .u32 t2831.1.f5.f1, .int .u32 t2831.1.f5.f2, .int .u32 t2831.1.f5.f3, .int .u32 t2831.1.f5.f4, .int .u32 t2831.1.f5.f5] rfl (by kernel_rfl) (by kernel_rfl) (by kernel_rfl) (by kernel_rfl) (by kernel_rfl) (by kernel_rfl) (by kernel_rfl) ?_; clear ha HW a; intro a W2837 HW ha
    refine stepp ha 4 (.bool t2831.2.1) (by kernel_rfl) (by kernel_rfl) ?_; clear ha a; intro a ha
    refine stepp ha 5 (.int .i64 t2831.2.2) (by kernel_rfl) (by kernel_rfl) ?_; clear ha a; intro a ha
    refine endl ?_
    refine thenN (hK2830 _ _ ?_); clear hK2830
    refine wp_seq_k (fun K2838 hK2839 => ?_)
    refine wp_region_lit ?_
    refine stepp ha 23 (.string a0) (by kernel_rfl) (by kernel_rfl) ?_; clear ha a; intro a ha
    obtain ⟨t2840, ht2841, h_⟩ := bind_some' h; clear h; have h := h_; clear h_
    refine stepc ha 24 (by kernel_rfl) (by kernel_rfl) (headgateref25_Get.calls K a0 t2840 _ ht2841) ?_; clear ha a; rintro e W2842 ⟨rfl, HX2843⟩
    refine ⟨_, rfl, ?_⟩; intro a ha; replace HW := HW.callw HX2843; clear HX2843
    refine stepp ha 22 (.tuple #[.agg #[.int .i64 t2840.1.f0.f0, .int .i64 t2840.1.f0.f1, .int .i64 t2840.1.f0.f2, .int .u32 t2840.1.f0.f3, .int .i64 t2840.1.f0.f4, .int .u32 t2840.1.f0.f5.f0, .int .u32 t2840.1.f0.f5.f1, .int .u32 t2840.1.f0.f5.f2, .int .u32 t2840.1.f0.f5.f3, .int .u32 t2840.1.f0.f5.f4, .int .u32 t2840.1.f0.f5.f5, .bool t2840.1.f1], .int .i64 t2840.2]) (by kernel_rfl) (by kernel_rfl) ?_; clear ha a; intro a ha
    refine stepp ha 25 (.agg #[.int .i64 t2840.1.f0.f0, .int .i64 t2840.1.f0.f1, .int .i64 t2840.1.f0.f2, .int .u32 t2840.1.f0.f3, .int .i64 t2840.1.f0.f4, .int .u32 t2840.1.f0.f5.f0, .int .u32 t2840.1.f0.f5.f1, .int .u32 t2840.1.f0.f5.f2, .int .u32 t2840.1.f0.f5.f3, .int .u32 t2840.1.f0.f5.f4, .int .u32 t2840.1.f0.f5.f5, .bool t2840.1.f1]) (by kernel_rfl) (by kernel_rfl) ?_; clear ha a; intro a ha
    refine stepp ha 26 (.int .i64 t2840.2) (by kernel_rfl) (by kernel_rfl) ?_; clear ha a; intro a ha
    refine stepnew ha HW 6 #[.int .i64 0, .int .i64 0, .int .i64 0, .int .u32 0, .int .i64 0, .int .u32 0, .int .u32 0, .int .u32 0, .int .u32 0, .int .u32 0, .int .u32 0, .bool false] 54 (by kernel_rfl) (by kernel_rfl) ?_; clear ha HW a; intro b2844 a W2845 HW ha
    refine stepst ha HW 0 (b := b2844) (C := #[.int .i64 0, .int .i64 0, .int .i64 0, .int .u32 0, .int .i64 0, .int .u32 0, .int .u32 0, .int .u32 0, .int .u32 0, .int .u32 0, .int .u32 0, .bool false]) (T := 54) (by kernel_rfl) 54 0 (.tmp 6) (.tmp 25) (.agg #[.int .i64 t2840.1.f0.f0, .int .i64 t2840.1.f0.f1, .int .i64 t2840.1.f0.f2, .int .u32 t2840.1.f0.f3, .int .i64 t2840.1.f0.f4, .int .u32 t2840.1.f0.f5.f0, .int .u32 t2840.1.f0.f5.f1, .int .u32 t2840.1.f0.f5.f2, .int .u32 t2840.1.f0.f5.f3, .int .u32 t2840.1.f0.f5.f4, .int .u32 t2840.1.f0.f5.f5, .bool t2840.1.f1]) #[.int .i64 t2840.1.f0.f0, .int .i64 t2840.1.f0.f1, .int .i64 t2840.1.f0.f2, .int .u32 t2840.1.f0.f3, .int .i64 t2840.1.f0.f4, .int .u32 t2840.1.f0.f5.f0, .int .u32 t2840.1.f0.f5.f1, .int .u32 t2840.1.f0.f5.f2, .int .u32 t2840.1.f0.f5.f3, .int .u32 t2840.1.f0.f5.f4, .int .u32 t2840.1.f0.f5.f5, .bool t2840.1.f1] rfl (by kernel_rfl) (by kernel_rfl) (by kernel_rfl) (by kernel_rfl) (by kernel_rfl) (by kernel_rfl) (by kernel_rfl) ?_; clear ha HW a; intro a W2846 HW ha
    refine stepp ha 7 (.int .i64 t2840.2) (by kernel_rfl) (by kernel_rfl) ?_; clear ha a; intro a ha
    refine endl ?_
    refine thenN (hK2839 _ _ ?_); clear hK2839
    refine wp_seq_k (fun K2847 hK2848 => ?_)
    refine wp_region_lit ?_
    refine stepp ha 28 (.string a0) (by kernel_rfl) (by kernel_rfl) ?_; clear ha a; intro a ha
    obtain ⟨t2849, ht2850, h_⟩ := bind_some' h; clear h; have h := h_; clear h_
    refine stepc ha 29 (by kernel_rfl) (by kernel_rfl) (sqe_Ended.calls K a0 t2849 _ (HW.ca0 hG1) (HW.ca0 hG2) ht2850) ?_; clear ha a; rintro e W2851 ⟨rfl, HX2852⟩
    refine ⟨_, rfl, ?_⟩; intro a ha; replace HW := HW.callw HX2852; clear HX2852
    refine stepp ha 27 (.tuple #[.agg #[.int .u32 t2849.1.f0, .int .u32 t2849.1.f1, .int .i64 t2849.1.f2, .int .i64 t2849.1.f3, .int .i64 t2849.1.f4, .int .i64 t2849.1.f5], .int .i64 t2849.2]) (by kernel_rfl) (by kernel_rfl) ?_; clear ha a; intro a ha
    refine stepp ha 30 (.agg #[.int .u32 t2849.1.f0, .int .u32 t2849.1.f1, .int .i64 t2849.1.f2, .int .i64 t2849.1.f3, .int .i64 t2849.1.f4, .int .i64 t2849.1.f5]) (by kernel_rfl) (by kernel_rfl) ?_; clear ha a; intro a ha
    refine stepp ha 31 (.int .i64 t2849.2) (by kernel_rfl) (by kernel_rfl) ?_; clear ha a; intro a ha
    refine stepnew ha HW 8 #[.int .u32 0, .int .u32 0, .int .i64 0, .int .i64 0, .int .i64 0, .int .i64 0] 27 (by kernel_rfl) (by kernel_rfl) ?_; clear ha HW a; intro b2853 a W2854 HW ha
    refine stepst ha HW 0 (b := b2853) (C := #[.int .u32 0, .int .u32 0, .int .i64 0, .int .i64 0, .int .i64 0, .int .i64 0]) (T := 27) (by kernel_rfl) 27 0 (.tmp 8) (.tmp 30) (.agg #[.int .u32 t2849.1.f0, .int .u32 t2849.1.f1, .int .i64 t2849.1.f2, .int .i64 t2849.1.f3, .int .i64 t2849.1.f4, .int .i64 t2849.1.f5]) #[.int .u32 t2849.1.f0, .int .u32 t2849.1.f1, .int .i64 t2849.1.f2, .int .i64 t2849.1.f3, .int .i64 t2849.1.f4, .int .i64 t2849.1.f5] rfl (by kernel_rfl) (by kernel_rfl) (by kernel_rfl) (by kernel_rfl) (by kernel_rfl) (by kernel_rfl) (by kernel_rfl) ?_; clear ha HW a; intro a W2855 HW ha
    refine stepp ha 9 (.int .i64 t2849.2) (by kernel_rfl) (by kernel_rfl) ?_; clear ha a; intro a ha
    refine endl ?_
    refine thenN (hK2848 _ _ ?_); clear hK2848
    refine wp_seq_k (fun K2856 hK2857 => ?_)
    refine wp_region_lit ?_
    refine stepp ha 33 (.string a0) (by kernel_rfl) (by kernel_rfl) ?_; clear ha a; intro a ha
    obtain ⟨t2858, ht2859, h_⟩ := bind_some' h; clear h; have h := h_; clear h_
    refine stepc ha 34 (by kernel_rfl) (by kernel_rfl) (headgateref25_Ended.calls K a0 t2858 _ ht2859) ?_; clear ha a; rintro e W2860 ⟨rfl, HX2861⟩
    refine ⟨_, rfl, ?_⟩; intro a ha; replace HW := HW.callw HX2861; clear HX2861
    refine stepp ha 32 (.tuple #[.agg #[.int .u32 t2858.1.f0, .int .u32 t2858.1.f1, .int .i64 t2858.1.f2, .int .i64 t2858.1.f3, .int .i64 t2858.1.f4, .int .i64 t2858.1.f5], .int .i64 t2858.2]) (by kernel_rfl) (by kernel_rfl) ?_; clear ha a; intro a ha
    refine stepp ha 35 (.agg #[.int .u32 t2858.1.f0, .int .u32 t2858.1.f1, .int .i64 t2858.1.f2, .int .i64 t2858.1.f3, .int .i64 t2858.1.f4, .int .i64 t2858.1.f5]) (by kernel_rfl) (by kernel_rfl) ?_; clear ha a; intro a ha
    refine stepp ha 36 (.int .i64 t2858.2) (by kernel_rfl) (by kernel_rfl) ?_; clear ha a; intro a ha
    refine stepnew ha HW 10 #[.int .u32 0, .int .u32 0, .int .i64 0, .int .i64 0, .int .i64 0, .int .i64 0] 27 (by kernel_rfl) (by kernel_rfl) ?_; clear ha HW a; intro b2862 a W2863 HW ha
    refine stepst ha HW 0 (b := b2862) (C := #[.int .u32 0, .int .u32 0, .int .i64 0, .int .i64 0, .int .i64 0, .int .i64 0]) (T := 27) (by kernel_rfl) 27 0 (.tmp 10) (.tmp 35) (.agg #[.int .u32 t2858.1.f0, .int .u32 t2858.1.f1, .int .i64 t2858.1.f2, .int .i64 t2858.1.f3, .int .i64 t2858.1.f4, .int .i64 t2858.1.f5]) #[.int .u32 t2858.1.f0, .int .u32 t2858.1.f1, .int .i64 t2858.1.f2, .int .i64 t2858.1.f3, .int .i64 t2858.1.f4, .int .i64 t2858.1.f5] rfl (by kernel_rfl) (by kernel_rfl) (by kernel_rfl) (by kernel_rfl) (by kernel_rfl) (by kernel_rfl) (by kernel_rfl) ?_; clear ha HW a; intro a W2864 HW ha
    refine stepp ha 11 (.int .i64 t2858.2) (by kernel_rfl) (by kernel_rfl) ?_; clear ha a; intro a ha
    refine endl ?_
    refine thenN (hK2857 _ _ ?_); clear hK2857
    refine wp_seq_k (fun K2865 hK2866 => ?_)
    refine wp_region_lit ?_
    refine stepl ha 37 (HW.ca (i := 3) (b := b2835) (C := #[.int .i64 t2831.1.f0, .int .i64 t2831.1.f1, .int .i64 t2831.1.f2, .int .u32 t2831.1.f3, .int .i64 t2831.1.f4, .int .u32 t2831.1.f5.f0, .int .u32 t2831.1.f5.f1, .int .u32 t2831.1.f5.f2, .int .u32 t2831.1.f5.f3, .int .u32 t2831.1.f5.f4, .int .u32 t2831.1.f5.f5]) (T := 25) (fr := (0, 0)) (by kernel_rfl)) 25 0 (.tmp 3) (.agg #[.int .i64 t2831.1.f0, .int .i64 t2831.1.f1, .int .i64 t2831.1.f2, .int .u32 t2831.1.f3, .int .i64 t2831.1.f4, .int .u32 t2831.1.f5.f0, .int .u32 t2831.1.f5.f1, .int .u32 t2831.1.f5.f2, .int .u32 t2831.1.f5.f3, .int .u32 t2831.1.f5.f4, .int .u32 t2831.1.f5.f5]) rfl (by kernel_rfl) (by kernel_rfl) (by kernel_rfl) ?_; clear ha a; intro a ha
    refine stepp ha 38 (.pointer (some ⟨b2844, 0, none⟩)) (by kernel_rfl) (by kernel_rfl) ?_; clear ha a; intro a ha
    refine stepl ha 39 (HW.ca (i := 2) (b := b2844) (C := #[.int .i64 t2840.1.f0.f0, .int .i64 t2840.1.f0.f1, .int .i64 t2840.1.f0.f2, .int .u32 t2840.1.f0.f3, .int .i64 t2840.1.f0.f4, .int .u32 t2840.1.f0.f5.f0, .int .u32 t2840.1.f0.f5.f1, .int .u32 t2840.1.f0.f5.f2, .int .u32 t2840.1.f0.f5.f3, .int .u32 t2840.1.f0.f5.f4, .int .u32 t2840.1.f0.f5.f5, .bool t2840.1.f1]) (T := 54) (fr := (0, 0)) (by kernel_rfl)) 25 0 (.tmp 38) (.agg #[.int .i64 t2840.1.f0.f0, .int .i64 t2840.1.f0.f1, .int .i64 t2840.1.f0.f2, .int .u32 t2840.1.f0.f3, .int .i64 t2840.1.f0.f4, .int .u32 t2840.1.f0.f5.f0, .int .u32 t2840.1.f0.f5.f1, .int .u32 t2840.1.f0.f5.f2, .int .u32 t2840.1.f0.f5.f3, .int .u32 t2840.1.f0.f5.f4, .int .u32 t2840.1.f0.f5.f5]) rfl (by kernel_rfl) (by kernel_rfl) (by kernel_rfl) ?_; clear ha a; intro a ha
    obtain ⟨t2867, ht2868, h_⟩ := bind_some' h; clear h; have h := h_; clear h_
    refine stepc ha 40 (by kernel_rfl) (by kernel_rfl) (headgateref25_Same.calls K (⟨t2831.1.f0, t2831.1.f1, t2831.1.f2, t2831.1.f3, t2831.1.f4, (⟨t2831.1.f5.f0, t2831.1.f5.f1, t2831.1.f5.f2, t2831.1.f5.f3, t2831.1.f5.f4, t2831.1.f5.f5⟩ : T_arr6_22)⟩ : T_api_Sqe) (⟨t2840.1.f0.f0, t2840.1.f0.f1, t2840.1.f0.f2, t2840.1.f0.f3, t2840.1.f0.f4, (⟨t2840.1.f0.f5.f0, t2840.1.f0.f5.f1, t2840.1.f0.f5.f2, t2840.1.f0.f5.f3, t2840.1.f0.f5.f4, t2840.1.f0.f5.f5⟩ : T_arr6_22)⟩ : T_api_Sqe) t2867 _ ht2868) ?_; clear ha a; rintro e W2869 ⟨rfl, HX2870⟩
    refine ⟨_, rfl, ?_⟩; intro a ha; replace HW := HW.callw HX2870; clear HX2870
    refine stepp ha 41 (.bool t2867) (by kernel_rfl) (by kernel_rfl) ?_; clear ha a; intro a ha
    by_cases hp2871 : t2867 = true
    · skip
      replace h := ite_pos' h hp2871
      replace ha := ha.bool 41 (by kernel_rfl) (hp2871)
      refine stepp ha 42 (.bool t2831.2.1) (by kernel_rfl) (by kernel_rfl) ?_; clear ha a; intro a ha
      refine stepp ha 43 (.pointer (some ⟨b2844, 11, none⟩)) (by kernel_rfl) (by kernel_rfl) ?_; clear ha a; intro a ha
      refine stepl ha 44 (HW.ca (i := 2) (b := b2844) (C := #[.int .i64 t2840.1.f0.f0, .int .i64 t2840.1.f0.f1, .int .i64 t2840.1.f0.f2, .int .u32 t2840.1.f0.f3, .int .i64 t2840.1.f0.f4, .int .u32 t2840.1.f0.f5.f0, .int .u32 t2840.1.f0.f5.f1, .int .u32 t2840.1.f0.f5.f2, .int .u32 t2840.1.f0.f5.f3, .int .u32 t2840.1.f0.f5.f4, .int .u32 t2840.1.f0.f5.f5, .bool t2840.1.f1]) (T := 54) (fr := (0, 0)) (by kernel_rfl)) 4 11 (.tmp 43) (.bool t2840.1.f1) rfl (by kernel_rfl) (by kernel_rfl) (by kernel_rfl) ?_; clear ha a; intro a ha
      refine stepp ha 45 (.bool (t2831.2.1 == t2840.1.f1)) (by kernel_rfl) (by kernel_rfl) ?_; clear ha a; intro a ha
      refine stepp ha 46 (.bool (t2831.2.1 == t2840.1.f1)) (by kernel_rfl) (by kernel_rfl) ?_; clear ha a; intro a ha
      refine stepp ha 47 (.bool (t2831.2.1 == t2840.1.f1)) (by kernel_rfl) (by kernel_rfl) ?_; clear ha a; intro a ha
      by_cases hp2872 : t2831.2.1 = t2840.1.f1
      · skip
        replace h := ite_pos' h hp2872
        replace ha := ha.bool 47 (by kernel_rfl) (beq_t hp2872)
        refine stepp ha 48 (.int .i64 t2831.2.2) (by kernel_rfl) (by kernel_rfl) ?_; clear ha a; intro a ha
        refine stepp ha 49 (.int .i64 t2840.2) (by kernel_rfl) (by kernel_rfl) ?_; clear ha a; intro a ha
        refine stepp ha 50 (.bool (t2831.2.2 == t2840.2)) (by kernel_rfl) (by kernel_rfl) ?_; clear ha a; intro a ha
        refine stepp ha 51 (.bool (t2831.2.2 == t2840.2)) (by kernel_rfl) (by kernel_rfl) ?_; clear ha a; intro a ha
        refine stepp ha 52 (.bool (t2831.2.2 == t2840.2)) (by kernel_rfl) (by kernel_rfl) ?_; clear ha a; intro a ha
        by_cases hp2873 : t2831.2.2 = t2840.2
        · skip
          replace h := ite_pos' h hp2873
          replace ha := ha.bool 52 (by kernel_rfl) (ieq_t hp2873)
          refine stepl ha 53 (HW.ca (i := 1) (b := b2853) (C := #[.int .u32 t2849.1.f0, .int .u32 t2849.1.f1, .int .i64 t2849.1.f2, .int .i64 t2849.1.f3, .int .i64 t2849.1.f4, .int .i64 t2849.1.f5]) (T := 27) (fr := (0, 0)) (by kernel_rfl)) 27 0 (.tmp 8) (.agg #[.int .u32 t2849.1.f0, .int .u32 t2849.1.f1, .int .i64 t2849.1.f2, .int .i64 t2849.1.f3, .int .i64 t2849.1.f4, .int .i64 t2849.1.f5]) rfl (by kernel_rfl) (by kernel_rfl) (by kernel_rfl) ?_; clear ha a; intro a ha
          refine stepl ha 54 (HW.ca (i := 0) (b := b2862) (C := #[.int .u32 t2858.1.f0, .int .u32 t2858.1.f1, .int .i64 t2858.1.f2, .int .i64 t2858.1.f3, .int .i64 t2858.1.f4, .int .i64 t2858.1.f5]) (T := 27) (fr := (0, 0)) (by kernel_rfl)) 27 0 (.tmp 10) (.agg #[.int .u32 t2858.1.f0, .int .u32 t2858.1.f1, .int .i64 t2858.1.f2, .int .i64 t2858.1.f3, .int .i64 t2858.1.f4, .int .i64 t2858.1.f5]) rfl (by kernel_rfl) (by kernel_rfl) (by kernel_rfl) ?_; clear ha a; intro a ha
          obtain ⟨t2874, ht2875, h_⟩ := bind_some' h; clear h; have h := h_; clear h_
          refine stepc ha 55 (by kernel_rfl) (by kernel_rfl) (headgateref25_SameEnd.calls (⟨t2849.1.f0, t2849.1.f1, t2849.1.f2, t2849.1.f3, t2849.1.f4, t2849.1.f5⟩ : T_api_Cqe) (⟨t2858.1.f0, t2858.1.f1, t2858.1.f2, t2858.1.f3, t2858.1.f4, t2858.1.f5⟩ : T_api_Cqe) t2874 _ ht2875) ?_; clear ha a; rintro e W2876 ⟨rfl, HX2877⟩
          refine ⟨_, rfl, ?_⟩; intro a ha; replace HW := HW.callw HX2877; clear HX2877
          refine stepp ha 56 (.bool t2874) (by kernel_rfl) (by kernel_rfl) ?_; clear ha a; intro a ha
          refine stepp ha 57 (.bool t2874) (by kernel_rfl) (by kernel_rfl) ?_; clear ha a; intro a ha
          by_cases hp2878 : t2874 = true
          · skip
            replace h := ite_pos' h hp2878
            replace ha := ha.bool 57 (by kernel_rfl) (hp2878)
            refine stepp ha 58 (.int .i64 t2849.2) (by kernel_rfl) (by kernel_rfl) ?_; clear ha a; intro a ha
            refine stepp ha 59 (.int .i64 t2858.2) (by kernel_rfl) (by kernel_rfl) ?_; clear ha a; intro a ha
            refine stepp ha 60 (.bool (t2849.2 == t2858.2)) (by kernel_rfl) (by kernel_rfl) ?_; clear ha a; intro a ha
            refine stepp ha 61 (.bool (t2849.2 == t2858.2)) (by kernel_rfl) (by kernel_rfl) ?_; clear ha a; intro a ha
            refine stepp ha 62 (.bool (t2849.2 == t2858.2)) (by kernel_rfl) (by kernel_rfl) ?_; clear ha a; intro a ha
            by_cases hp2879 : t2849.2 = t2858.2
            · skip
              replace h := ite_pos' h hp2879
              replace ha := ha.bool 62 (by kernel_rfl) (ieq_t hp2879)
              obtain ⟨t2880, ht2881, h_⟩ := bind_some' h; clear h; have h := h_; clear h_
              refine stepc ha 63 (by kernel_rfl) (by kernel_rfl) (headgatelaw25_wakes.calls K t2880 _ (HW.ca0 hG1) (HW.ca0 hG2) ht2881) ?_; clear ha a; rintro e W2882 ⟨rfl, HX2883⟩
              refine ⟨_, rfl, ?_⟩; intro a ha; replace HW := HW.callw HX2883; clear HX2883
              refine stepp ha 64 (.bool t2880) (by kernel_rfl) (by kernel_rfl) ?_; clear ha a; intro a ha
              refine stepp ha 2 (.bool t2880) (by kernel_rfl) (by kernel_rfl) ?_; clear ha a; intro a ha
              refine endl ?_
              refine thenN (hK2866 _ _ ?_); clear hK2866
              refine wp_ret ?_
              obtain rfl := Option.some.inj h
              exact finv ha _ _ rfl (.tmp (v := .bool t2880) (by kernel_rfl) .nil) (.bool t2880) rfl ⟨rfl, HW.pick [] [] (by decide) (by decide) rfl (by kernel_rfl)⟩
            · skip
              replace h := ite_neg' h hp2879
              replace ha := ha.bool 62 (by kernel_rfl) (ieq_f hp2879)
              refine stepo ha 63 (by kernel_rfl) ?_; clear ha a; intro a ha
              refine stepp ha 64 (.bool false) (by kernel_rfl) (by kernel_rfl) ?_; clear ha a; intro a ha
              refine stepp ha 2 (.bool false) (by kernel_rfl) (by kernel_rfl) ?_; clear ha a; intro a ha
              refine endl ?_
              refine thenN (hK2866 _ _ ?_); clear hK2866
              refine wp_ret ?_
              obtain rfl := Option.some.inj h
              exact finv ha _ _ rfl (.tmp (v := .bool false) (by kernel_rfl) .nil) (.bool false) rfl ⟨rfl, HW.pick [] [] (by decide) (by decide) rfl (by kernel_rfl)⟩
          · skip
            replace h := ite_neg' h hp2878
            replace ha := ha.bool 57 (by kernel_rfl) (bool_f hp2878)
            refine stepo ha 58 (by kernel_rfl) ?_; clear ha a; intro a ha
            refine stepo ha 59 (by kernel_rfl) ?_; clear ha a; intro a ha
            refine stepo ha 60 (by kernel_rfl) ?_; clear ha a; intro a ha
            refine stepp ha 61 (.bool false) (by kernel_rfl) (by kernel_rfl) ?_; clear ha a; intro a ha
            refine stepp ha 62 (.bool false) (by kernel_rfl) (by kernel_rfl) ?_; clear ha a; intro a ha
            refine stepo ha 63 (by kernel_rfl) ?_; clear ha a; intro a ha
            refine stepp ha 64 (.bool false) (by kernel_rfl) (by kernel_rfl) ?_; clear ha a; intro a ha
            refine stepp ha 2 (.bool false) (by kernel_rfl) (by kernel_rfl) ?_; clear ha a; intro a ha
            refine endl ?_
            refine thenN (hK2866 _ _ ?_); clear hK2866
            refine wp_ret ?_
            obtain rfl := Option.some.inj h
            exact finv ha _ _ rfl (.tmp (v := .bool false) (by kernel_rfl) .nil) (.bool false) rfl ⟨rfl, HW.pick [] [] (by decide) (by decide) rfl (by kernel_rfl)⟩
        · skip
          replace h := ite_neg' h hp2873
          replace ha := ha.bool 52 (by kernel_rfl) (ieq_f hp2873)
          refine stepo ha 53 (by kernel_rfl) ?_; clear ha a; intro a ha
          refine stepo ha 54 (by kernel_rfl) ?_; clear ha a; intro a ha
          refine stepo ha 55 (by kernel_rfl) ?_; clear ha a; intro a ha
          refine stepp ha 56 (.bool false) (by kernel_rfl) (by kernel_rfl) ?_; clear ha a; intro a ha
          refine stepp ha 57 (.bool false) (by kernel_rfl) (by kernel_rfl) ?_; clear ha a; intro a ha
          refine stepo ha 58 (by kernel_rfl) ?_; clear ha a; intro a ha
          refine stepo ha 59 (by kernel_rfl) ?_; clear ha a; intro a ha
          refine stepo ha 60 (by kernel_rfl) ?_; clear ha a; intro a ha
          refine stepp ha 61 (.bool false) (by kernel_rfl) (by kernel_rfl) ?_; clear ha a; intro a ha
          refine stepp ha 62 (.bool false) (by kernel_rfl) (by kernel_rfl) ?_; clear ha a; intro a ha
          refine stepo ha 63 (by kernel_rfl) ?_; clear ha a; intro a ha
          refine stepp ha 64 (.bool false) (by kernel_rfl) (by kernel_rfl) ?_; clear ha a; intro a ha
          refine stepp ha 2 (.bool false) (by kernel_rfl) (by kernel_rfl) ?_; clear ha a; intro a ha
          refine endl ?_
          refine thenN (hK2866 _ _ ?_); clear hK2866
          refine wp_ret ?_
          obtain rfl := Option.some.inj h
          exact finv ha _ _ rfl (.tmp (v := .bool false) (by kernel_rfl) .nil) (.bool false) rfl ⟨rfl, HW.pick [] [] (by decide) (by decide) rfl (by kernel_rfl)⟩
      · skip
        replace h := ite_neg' h hp2872
        replace ha := ha.bool 47 (by kernel_rfl) (beq_f hp2872)
        refine stepo ha 48 (by kernel_rfl) ?_; clear ha a; intro a ha
        refine stepo ha 49 (by kernel_rfl) ?_; clear ha a; intro a ha
        refine stepo ha 50 (by kernel_rfl) ?_; clear ha a; intro a ha
        refine stepp ha 51 (.bool false) (by kernel_rfl) (by kernel_rfl) ?_; clear ha a; intro a ha
        refine stepp ha 52 (.bool false) (by kernel_rfl) (by kernel_rfl) ?_; clear ha a; intro a ha
        refine stepo ha 53 (by kernel_rfl) ?_; clear ha a; intro a ha
        refine stepo ha 54 (by kernel_rfl) ?_; clear ha a; intro a ha
        refine stepo ha 55 (by kernel_rfl) ?_; clear ha a; intro a ha
        refine stepp ha 56 (.bool false) (by kernel_rfl) (by kernel_rfl) ?_; clear ha a; intro a ha
        refine stepp ha 57 (.bool false) (by kernel_rfl) (by kernel_rfl) ?_; clear ha a; intro a ha
        refine stepo ha 58 (by kernel_rfl) ?_; clear ha a; intro a ha
        refine stepo ha 59 (by kernel_rfl) ?_; clear ha a; intro a ha
        refine stepo ha 60 (by kernel_rfl) ?_; clear ha a; intro a ha
        refine stepp ha 61 (.bool false) (by kernel_rfl) (by kernel_rfl) ?_; clear ha a; intro a ha
        refine stepp ha 62 (.bool false) (by kernel_rfl) (by kernel_rfl) ?_; clear ha a; intro a ha
        refine stepo ha 63 (by kernel_rfl) ?_; clear ha a; intro a ha
        refine stepp ha 64 (.bool false) (by kernel_rfl) (by kernel_rfl) ?_; clear ha a; intro a ha
        refine stepp ha 2 (.bool false) (by kernel_rfl) (by kernel_rfl) ?_; clear ha a; intro a ha
        refine endl ?_
        refine thenN (hK2866 _ _ ?_); clear hK2866
        refine wp_ret ?_
        obtain rfl := Option.some.inj h
        exact finv ha _ _ rfl (.tmp (v := .bool false) (by kernel_rfl) .nil) (.bool false) rfl ⟨rfl, HW.pick [] [] (by decide) (by decide) rfl (by kernel_rfl)⟩
    · skip
      replace h := ite_neg' h hp2871
      replace ha := ha.bool 41 (by kernel_rfl) (bool_f hp2871)
      refine stepo ha 42 (by kernel_rfl) ?_; clear ha a; intro a ha
      refine stepo ha 43 (by kernel_rfl) ?_; clear ha a; intro a ha
      refine stepo ha 44 (by kernel_rfl) ?_; clear ha a; intro a ha
      refine stepo ha 45 (by kernel_rfl) ?_; clear ha a; intro a ha
      refine stepp ha 46 (.bool false) (by kernel_rfl) (by kernel_rfl) ?_; clear ha a; intro a ha
      refine stepp ha 47 (.bool false) (by kernel_rfl) (by kernel_rfl) ?_; clear ha a; intro a ha
      refine stepo ha 48 (by kernel_rfl) ?_; clear ha a; intro a ha
      refine stepo ha 49 (by kernel_rfl) ?_; clear ha a; intro a ha
      refine stepo ha 50 (by kernel_rfl) ?_; clear ha a; intro a ha
      refine stepp ha 51 (.bool false) (by kernel_rfl) (by kernel_rfl) ?_; clear ha a; intro a ha
      refine stepp ha 52 (.bool false) (by kernel_rfl) (by kernel_rfl) ?_; clear ha a; intro a ha
      refine stepo ha 53 (by kernel_rfl) ?_; clear ha a; intro a ha
      refine stepo ha 54 (by kernel_rfl) ?_; clear ha a; intro a ha
      refine stepo ha 55 (by kernel_rfl) ?_; clear ha a; intro a ha
      refine stepp ha 56 (.bool false) (by kernel_rfl) (by kernel_rfl) ?_; clear ha a; intro a ha
      refine stepp ha 57 (.bool false) (by kernel_rfl) (by kernel_rfl) ?_; clear ha a; intro a ha
      refine stepo ha 58 (by kernel_rfl) ?_; clear ha a; intro a ha
      refine stepo ha 59 (by kernel_rfl) ?_; clear ha a; intro a ha
      refine stepo ha 60 (by kernel_rfl) ?_; clear ha a; intro a ha
      refine stepp ha 61 (.bool false) (by kernel_rfl) (by kernel_rfl) ?_; clear ha a; intro a ha
      refine stepp ha 62 (.bool false) (by kernel_rfl) (by kernel_rfl) ?_; clear ha a; intro a ha
      refine stepo ha 63 (by kernel_rfl) ?_; clear ha a; intro a ha
      refine stepp ha 64 (.bool false) (by kernel_rfl) (by kernel_rfl) ?_; clear ha a; intro a ha
      refine stepp ha 2 (.bool false) (by kernel_rfl) (by kernel_rfl) ?_; clear ha a; intro a ha
      refine endl ?_
      refine thenN (hK2866 _ _ ?_); clear hK2866
      refine wp_ret ?_
      obtain rfl := Option.some.inj h
      exact finv ha _ _ rfl (.tmp (v := .bool false) (by kernel_rfl) .nil) (.bool false) rfl ⟨rfl, HW.pick [] [] (by decide) (by decide) rfl (by kernel_rfl)⟩
end Go.Proofs.YtceagilmillgfaaDoor.F
