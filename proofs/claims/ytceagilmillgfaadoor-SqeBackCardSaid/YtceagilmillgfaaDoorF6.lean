/- headgate/headgatelaw25.SqeBack: a plain function, and that the call comes to what it says. No condition. -/
import Derived.Test.YtceagilmillgfaaDoorFT
import Derived.Test.YtceagilmillgfaaDoorF13
import Derived.Test.YtceagilmillgfaaDoorF15
import Derived.Test.YtceagilmillgfaaDoorF17
import Derived.Test.YtceagilmillgfaaDoorF24
import Derived.Test.YtceagilmillgfaaDoorF26
import Derived.Test.YtceagilmillgfaaDoorF28
import Derived.Test.YtceagilmillgfaaDoorF29
namespace Go.Proofs.YtceagilmillgfaaDoor.F
open Go Go.RowKit Go.Proofs.YtceagilmillgfaaDoor.X
set_option linter.unusedVariables false
set_option linter.unusedSimpArgs false
/-! ### headgate/headgatelaw25.SqeBack: function 6 -/
def headgatelaw25_SqeBack.j1 (K : Nat) (a2 : ByteArray) : Option Bool :=
  (sqe_Ended.f K a2).bind fun t3098 => (if t3098.2 = 0 then ((sqe_End.f K (⟨t3098.1.f0, t3098.1.f1, t3098.1.f2, t3098.1.f3, t3098.1.f4, t3098.1.f5⟩ : T_api_Cqe)).bind fun t3110 => (if t3110.2 = 0 then (if t3110.1 = a2 then ((headgatelaw25_wakes.f K).bind fun t3124 => (some t3124)) else (some false)) else (some false))) else ((headgatelaw25_wakes.f K).bind fun t3130 => (some t3130)))
def headgatelaw25_SqeBack.j0 (K : Nat) (a2 : ByteArray) : Option Bool :=
  (sqe_Get.f K a2).bind fun t3069 => (if t3069.2.2 = 0 then ((sqe_Put.f K (⟨t3069.1.f0, t3069.1.f1, t3069.1.f2, t3069.1.f3, t3069.1.f4, (⟨t3069.1.f5.f0, t3069.1.f5.f1, t3069.1.f5.f2, t3069.1.f5.f3, t3069.1.f5.f4, t3069.1.f5.f5⟩ : T_arr6_22)⟩ : T_api_Sqe) t3069.2.1).bind fun t3081 => (if t3081.2 = 0 then (if t3081.1 = a2 then (headgatelaw25_SqeBack.j1 K a2) else (some false)) else (some false))) else (headgatelaw25_SqeBack.j1 K a2))
def headgatelaw25_SqeBack.b0 (K : Nat) (a0 : T_api_Sqe) (a1 : T_api_Cqe) (a2 : ByteArray) (again2987 : Int → Option Bool) (x2988 : Int) : Option Bool :=
  if x2988 < 2 then ((sqe_Put.f K (⟨a0.f0, a0.f1, a0.f2, a0.f3, a0.f4, (⟨a0.f5.f0, a0.f5.f1, a0.f5.f2, a0.f5.f3, a0.f5.f4, a0.f5.f5⟩ : T_arr6_22)⟩ : T_api_Sqe) (x2988 == 1)).bind fun t3001 => (if t3001.2 = 0 then ((sqe_Get.f K t3001.1).bind fun t3010 => (if t3010.2.2 = 0 then ((headgateref25_Same.f K (⟨a0.f0, a0.f1, a0.f2, a0.f3, a0.f4, (⟨a0.f5.f0, a0.f5.f1, a0.f5.f2, a0.f5.f3, a0.f5.f4, a0.f5.f5⟩ : T_arr6_22)⟩ : T_api_Sqe) (⟨t3010.1.f0, t3010.1.f1, t3010.1.f2, t3010.1.f3, t3010.1.f4, (⟨t3010.1.f5.f0, t3010.1.f5.f1, t3010.1.f5.f2, t3010.1.f5.f3, t3010.1.f5.f4, t3010.1.f5.f5⟩ : T_arr6_22)⟩ : T_api_Sqe)).bind fun t3020 => (if t3020 = true then (if t3010.2.1 = (x2988 == 1) then (again2987 (IntKind.wrap .i64 (x2988 + 1))) else (some false)) else (some false))) else (some false))) else (again2987 (IntKind.wrap .i64 (x2988 + 1))))) else ((sqe_End.f K a1).bind fun t3036 => (if t3036.2 = 0 then ((sqe_Ended.f K t3036.1).bind fun t3045 => (if t3045.2 = 0 then ((headgateref25_SameEnd.f a1 (⟨t3045.1.f0, t3045.1.f1, t3045.1.f2, t3045.1.f3, t3045.1.f4, t3045.1.f5⟩ : T_api_Cqe)).bind fun t3055 => (if t3055 = true then (headgatelaw25_SqeBack.j0 K a2) else (some false))) else (some false))) else (headgatelaw25_SqeBack.j0 K a2)))
def headgatelaw25_SqeBack.l0 (K : Nat) (a0 : T_api_Sqe) (a1 : T_api_Cqe) (a2 : ByteArray) : Nat → Int → Option Bool
  | 0, _ => none
  | k_ + 1, x2988 => headgatelaw25_SqeBack.b0 K a0 a1 a2 (headgatelaw25_SqeBack.l0 K a0 a1 a2 k_) x2988
def headgatelaw25_SqeBack.f (K : Nat) (a0 : T_api_Sqe) (a1 : T_api_Cqe) (a2 : ByteArray) : Option Bool :=
  if (a2.size : Int) > 5000 then ((headgatelaw25_wakes.f K).bind fun t2897 => (some t2897)) else (headgatelaw25_SqeBack.l0 K a0 a1 a2 K 0)
set_option maxRecDepth 100000 in
set_option maxHeartbeats 4000000 in
theorem headgatelaw25_SqeBack.calls (K : Nat) (a0 : T_api_Sqe) (a1 : T_api_Cqe) (a2 : ByteArray)  (r : Bool) (w : World) (hG1 : CA w 1 0 (encs T_sqe_field.enc G_sqe_endsOf).toArray) (hG2 : CA w 2 0 (encs T_sqe_field.enc G_sqe_fieldsOf).toArray) (h : headgatelaw25_SqeBack.f K a0 a1 a2 = some r) :
    Calls Tryd.prog 6 #[.agg #[.int .i64 a0.f0, .int .i64 a0.f1, .int .i64 a0.f2, .int .u32 a0.f3, .int .i64 a0.f4, .int .u32 a0.f5.f0, .int .u32 a0.f5.f1, .int .u32 a0.f5.f2, .int .u32 a0.f5.f3, .int .u32 a0.f5.f4, .int .u32 a0.f5.f5], .agg #[.int .u32 a1.f0, .int .u32 a1.f1, .int .i64 a1.f2, .int .i64 a1.f3, .int .i64 a1.f4, .int .i64 a1.f5], .string a2] w (fun e W' => e = .returned (.bool r) ∧ Wd w W' [] [] ) := by
  refine sxstart (n := 124) (l := [(0, .agg #[.int .i64 a0.f0, .int .i64 a0.f1, .int .i64 a0.f2, .int .u32 a0.f3, .int .i64 a0.f4, .int .u32 a0.f5.f0, .int .u32 a0.f5.f1, .int .u32 a0.f5.f2, .int .u32 a0.f5.f3, .int .u32 a0.f5.f4, .int .u32 a0.f5.f5]), (1, .agg #[.int .u32 a1.f0, .int .u32 a1.f1, .int .i64 a1.f2, .int .i64 a1.f3, .int .i64 a1.f4, .int .i64 a1.f5]), (2, .string a2)]) Tryd.func6 rfl rfl (Nat.le_of_ble_eq_true (by kernel_rfl)) (subsA_cons rfl (subsA_cons rfl (subsA_cons rfl (subsA_nil _)))) ?_
  intro a ha
  have HW := Wd.refl w
  unfold headgatelaw25_SqeBack.f at h
  refine wp_seq_k (fun K2884 hK2885 => ?_)
  refine wp_region_lit ?_
  refine stepnew ha HW 3 #[.int .i64 a0.f0, .int .i64 a0.f1, .int .i64 a0.f2, .int .u32 a0.f3, .int .i64 a0.f4, .int .u32 a0.f5.f0, .int .u32 a0.f5.f1, .int .u32 a0.f5.f2, .int .u32 a0.f5.f3, .int .u32 a0.f5.f4, .int .u32 a0.f5.f5] 25 (by kernel_rfl) (by kernel_rfl) ?_; clear ha HW a; intro b2886 a W2887 HW ha
  refine stepnew ha HW 4 #[.int .u32 a1.f0, .int .u32 a1.f1, .int .i64 a1.f2, .int .i64 a1.f3, .int .i64 a1.f4, .int .i64 a1.f5] 27 (by kernel_rfl) (by kernel_rfl) ?_; clear ha HW a; intro b2888 a W2889 HW ha
  refine stepp ha 6 (.bool false) (by kernel_rfl) (by kernel_rfl) ?_; clear ha a; intro a ha
  refine endl ?_
  refine thenN (hK2885 _ _ ?_); clear hK2885
  refine wp_seq_k (fun K2890 hK2891 => ?_)
  refine wp_seq_k (fun K2892 hK2893 => ?_)
  refine wp_region_lit ?_
  refine stepp ha 26 (.string a2) (by kernel_rfl) (by kernel_rfl) ?_; clear ha a; intro a ha
  refine stepp ha 27 (.int .i64 (a2.size : Int)) (by kernel_rfl) (by kernel_rfl) ?_; clear ha a; intro a ha
  refine stepp ha 28 (.bool (decide ((a2.size : Int) > 5000))) (by kernel_rfl) (by kernel_rfl) ?_; clear ha a; intro a ha
  refine endl ?_
  refine thenN (hK2893 _ _ ?_); clear hK2893
  by_cases hp2894 : (a2.size : Int) > 5000
  · skip
    replace h := ite_pos' h hp2894
    refine condT ha (by kernel_rfl) (by kernel_rfl) (t := decide ((a2.size : Int) > 5000)) (decide_eq_true hp2894) ?_
    refine wp_seq_k (fun K2895 hK2896 => ?_)
    refine wp_region_lit ?_
    obtain ⟨t2897, ht2898, h_⟩ := bind_some' h; clear h; have h := h_; clear h_
    refine stepc ha 29 (by kernel_rfl) (by kernel_rfl) (headgatelaw25_wakes.calls K t2897 _ (HW.ca0 hG1) (HW.ca0 hG2) ht2898) ?_; clear ha a; rintro e W2899 ⟨rfl, HX2900⟩
    refine ⟨_, rfl, ?_⟩; intro a ha; replace HW := HW.callw HX2900; clear HX2900
    refine stepp ha 6 (.bool t2897) (by kernel_rfl) (by kernel_rfl) ?_; clear ha a; intro a ha
    refine endl ?_
    refine thenN (hK2896 _ _ ?_); clear hK2896
    refine wp_ret ?_
    refine thenR ?_
    obtain rfl := Option.some.inj h
    exact finv ha _ _ rfl (.tmp (v := .bool t2897) (by kernel_rfl) .nil) (.bool t2897) rfl ⟨rfl, HW.pick [] [] (by decide) (by decide) rfl (by kernel_rfl)⟩
  · skip
    replace h := ite_neg' h hp2894
    refine condF ha (by kernel_rfl) (by kernel_rfl) (t := decide ((a2.size : Int) > 5000)) (decide_eq_false hp2894) ?_
    refine wp_skip ?_
    refine thenN (hK2891 _ _ ?_); clear hK2891
    refine wp_seq_k (fun K2901 hK2902 => ?_)
    refine wp_seq_k (fun K2903 hK2904 => ?_)
    refine wp_region_lit ?_
    refine stepp ha 7 (.int .i64 0) (by kernel_rfl) (by kernel_rfl) ?_; clear ha a; intro a ha
    refine endl ?_
    refine thenN (hK2904 _ _ ?_); clear hK2904
    refine wp_block ?_
    refine loopk (fun k => fun a W2989 => ∃ (x2988 : Int), headgatelaw25_SqeBack.l0 K a0 a1 a2 k x2988 = some r ∧ Has 124 [(2, .string a2), (3, .pointer (some ⟨b2886, 0, none⟩)), (4, .pointer (some ⟨b2888, 0, none⟩)), (7, .int .i64 x2988)] a ∧ Wd w W2989 [(b2888, .cells #[.int .u32 a1.f0, .int .u32 a1.f1, .int .i64 a1.f2, .int .i64 a1.f3, .int .i64 a1.f4, .int .i64 a1.f5] 27 (0, 0)), (b2886, .cells #[.int .i64 a0.f0, .int .i64 a0.f1, .int .i64 a0.f2, .int .u32 a0.f3, .int .i64 a0.f4, .int .u32 a0.f5.f0, .int .u32 a0.f5.f1, .int .u32 a0.f5.f2, .int .u32 a0.f5.f3, .int .u32 a0.f5.f4, .int .u32 a0.f5.f5] 25 (0, 0))] []) K ?_ ?_
    · skip
      exact ⟨0, h, ha.sub (subs_cons (by kernel_rfl) (subs_cons (by kernel_rfl) (subs_cons (by kernel_rfl) (subs_cons (by kernel_rfl) (subs_nil _))))), HW.pick [0, 1] [] (by decide) (by decide) (by kernel_rfl) (by kernel_rfl)⟩
    · skip
      intro k a W2989 hI
      obtain ⟨x2988, h, ha, HW⟩ := hI
      cases k with
      | zero => exact (none_some (show none = some r from h)).elim
      | succ k2990 =>
        replace h : headgatelaw25_SqeBack.b0 K a0 a1 a2 (headgatelaw25_SqeBack.l0 K a0 a1 a2 k2990) x2988 = some r := h
        obtain ⟨again2987, hag2991⟩ : ∃ g_, g_ = headgatelaw25_SqeBack.l0 K a0 a1 a2 k2990 := ⟨_, rfl⟩
        rw [← hag2991] at h
        unfold headgatelaw25_SqeBack.b0 at h
        refine wp_seq_k (fun K2992 hK2993 => ?_)
        refine wp_seq_k (fun K2994 hK2995 => ?_)
        refine wp_region_lit ?_
        refine stepp ha 30 (.int .i64 x2988) (by kernel_rfl) (by kernel_rfl) ?_; clear ha a; intro a ha
        refine stepp ha 31 (.bool (decide (x2988 < 2))) (by kernel_rfl) (by kernel_rfl) ?_; clear ha a; intro a ha
        refine endl ?_
        refine thenN (hK2995 _ _ ?_); clear hK2995
        by_cases hp2996 : x2988 < 2
        · skip
          replace h := ite_pos' h hp2996
          refine condT ha (by kernel_rfl) (by kernel_rfl) (t := decide (x2988 < 2)) (decide_eq_true hp2996) ?_
          refine wp_skip ?_
          refine thenN (hK2993 _ _ ?_); clear hK2993
          refine wp_seq_k (fun K2997 hK2998 => ?_)
          refine wp_block ?_
          refine wp_seq_k (fun K2999 hK3000 => ?_)
          refine wp_region_lit ?_
          refine stepl ha 35 (HW.ca (i := 1) (b := b2886) (C := #[.int .i64 a0.f0, .int .i64 a0.f1, .int .i64 a0.f2, .int .u32 a0.f3, .int .i64 a0.f4, .int .u32 a0.f5.f0, .int .u32 a0.f5.f1, .int .u32 a0.f5.f2, .int .u32 a0.f5.f3, .int .u32 a0.f5.f4, .int .u32 a0.f5.f5]) (T := 25) (fr := (0, 0)) (by kernel_rfl)) 25 0 (.tmp 3) (.agg #[.int .i64 a0.f0, .int .i64 a0.f1, .int .i64 a0.f2, .int .u32 a0.f3, .int .i64 a0.f4, .int .u32 a0.f5.f0, .int .u32 a0.f5.f1, .int .u32 a0.f5.f2, .int .u32 a0.f5.f3, .int .u32 a0.f5.f4, .int .u32 a0.f5.f5]) rfl (by kernel_rfl) (by kernel_rfl) (by kernel_rfl) ?_; clear ha a; intro a ha
          refine stepp ha 36 (.int .i64 x2988) (by kernel_rfl) (by kernel_rfl) ?_; clear ha a; intro a ha
          refine stepp ha 37 (.bool (x2988 == 1)) (by kernel_rfl) (by kernel_rfl) ?_; clear ha a; intro a ha
          obtain ⟨t3001, ht3002, h_⟩ := bind_some' h; clear h; have h := h_; clear h_
          refine stepc ha 38 (by kernel_rfl) (by kernel_rfl) (sqe_Put.calls K (⟨a0.f0, a0.f1, a0.f2, a0.f3, a0.f4, (⟨a0.f5.f0, a0.f5.f1, a0.f5.f2, a0.f5.f3, a0.f5.f4, a0.f5.f5⟩ : T_arr6_22)⟩ : T_api_Sqe) (x2988 == 1) t3001 _ (HW.ca0 hG1) (HW.ca0 hG2) ht3002) ?_; clear ha a; rintro e W3003 ⟨rfl, HX3004⟩
          refine ⟨_, rfl, ?_⟩; intro a ha; replace HW := HW.callw HX3004; clear HX3004
          refine stepp ha 34 (.tuple #[.string t3001.1, .int .i64 t3001.2]) (by kernel_rfl) (by kernel_rfl) ?_; clear ha a; intro a ha
          refine stepp ha 39 (.string t3001.1) (by kernel_rfl) (by kernel_rfl) ?_; clear ha a; intro a ha
          refine stepp ha 40 (.int .i64 t3001.2) (by kernel_rfl) (by kernel_rfl) ?_; clear ha a; intro a ha
          refine stepp ha 8 (.string t3001.1) (by kernel_rfl) (by kernel_rfl) ?_; clear ha a; intro a ha
          refine stepp ha 9 (.int .i64 t3001.2) (by kernel_rfl) (by kernel_rfl) ?_; clear ha a; intro a ha
          refine endl ?_
          refine thenN (hK3000 _ _ ?_); clear hK3000
          refine wp_seq_k (fun K3005 hK3006 => ?_)
          refine wp_region_lit ?_
          refine stepp ha 41 (.int .i64 t3001.2) (by kernel_rfl) (by kernel_rfl) ?_; clear ha a; intro a ha
          refine stepp ha 42 (.bool (t3001.2 == 0)) (by kernel_rfl) (by kernel_rfl) ?_; clear ha a; intro a ha
          refine endl ?_
          refine thenN (hK3006 _ _ ?_); clear hK3006
          by_cases hp3007 : t3001.2 = 0
          · skip
            replace h := ite_pos' h hp3007
            refine condT ha (by kernel_rfl) (by kernel_rfl) (t := (t3001.2 == 0)) (ieq_t hp3007) ?_
            refine wp_seq_k (fun K3008 hK3009 => ?_)
            refine wp_region_lit ?_
            refine stepp ha 44 (.string t3001.1) (by kernel_rfl) (by kernel_rfl) ?_; clear ha a; intro a ha
            obtain ⟨t3010, ht3011, h_⟩ := bind_some' h; clear h; have h := h_; clear h_
            refine stepc ha 45 (by kernel_rfl) (by kernel_rfl) (sqe_Get.calls K t3001.1 t3010 _ (HW.ca0 hG1) (HW.ca0 hG2) ht3011) ?_; clear ha a; rintro e W3012 ⟨rfl, HX3013⟩
            refine ⟨_, rfl, ?_⟩; intro a ha; replace HW := HW.callw HX3013; clear HX3013
            refine stepp ha 43 (.tuple #[.agg #[.int .i64 t3010.1.f0, .int .i64 t3010.1.f1, .int .i64 t3010.1.f2, .int .u32 t3010.1.f3, .int .i64 t3010.1.f4, .int .u32 t3010.1.f5.f0, .int .u32 t3010.1.f5.f1, .int .u32 t3010.1.f5.f2, .int .u32 t3010.1.f5.f3, .int .u32 t3010.1.f5.f4, .int .u32 t3010.1.f5.f5], .bool t3010.2.1, .int .i64 t3010.2.2]) (by kernel_rfl) (by kernel_rfl) ?_; clear ha a; intro a ha
            refine stepp ha 46 (.agg #[.int .i64 t3010.1.f0, .int .i64 t3010.1.f1, .int .i64 t3010.1.f2, .int .u32 t3010.1.f3, .int .i64 t3010.1.f4, .int .u32 t3010.1.f5.f0, .int .u32 t3010.1.f5.f1, .int .u32 t3010.1.f5.f2, .int .u32 t3010.1.f5.f3, .int .u32 t3010.1.f5.f4, .int .u32 t3010.1.f5.f5]) (by kernel_rfl) (by kernel_rfl) ?_; clear ha a; intro a ha
            refine stepp ha 47 (.bool t3010.2.1) (by kernel_rfl) (by kernel_rfl) ?_; clear ha a; intro a ha
            refine stepp ha 48 (.int .i64 t3010.2.2) (by kernel_rfl) (by kernel_rfl) ?_; clear ha a; intro a ha
            refine stepnew ha HW 10 #[.int .i64 0, .int .i64 0, .int .i64 0, .int .u32 0, .int .i64 0, .int .u32 0, .int .u32 0, .int .u32 0, .int .u32 0, .int .u32 0, .int .u32 0] 25 (by kernel_rfl) (by kernel_rfl) ?_; clear ha HW a; intro b3014 a W3015 HW ha
            refine stepst ha HW 0 (b := b3014) (C := #[.int .i64 0, .int .i64 0, .int .i64 0, .int .u32 0, .int .i64 0, .int .u32 0, .int .u32 0, .int .u32 0, .int .u32 0, .int .u32 0, .int .u32 0]) (T := 25) (by kernel_rfl) 25 0 (.tmp 10) (.tmp 46) (.agg #[.int .i64 t3010.1.f0, .int .i64 t3010.1.f1, .int .i64 t3010.1.f2, .int .u32 t3010.1.f3, .int .i64 t3010.1.f4, .int .u32 t3010.1.f5.f0, .int .u32 t3010.1.f5.f1, .int .u32 t3010.1.f5.f2, .int .u32 t3010.1.f5.f3, .int .u32 t3010.1.f5.f4, .int .u32 t3010.1.f5.f5]) #[.int .i64 t3010.1.f0, .int .i64 t3010.1.f1, .int .i64 t3010.1.f2, .int .u32 t3010.1.f3, .int .i64 t3010.1.f4, .int .u32 t3010.1.f5.f0, .int .u32 t3010.1.f5.f1, .int .u32 t3010.1.f5.f2, .int .u32 t3010.1.f5.f3, .int .u32 t3010.1.f5.f4, .int .u32 t3010.1.f5.f5] rfl (by kernel_rfl) (by kernel_rfl) (by kernel_rfl) (by kernel_rfl) (by kernel_rfl) (by kernel_rfl) (by kernel_rfl) ?_; clear ha HW a; intro a W3016 HW ha
            refine stepp ha 11 (.bool t3010.2.1) (by kernel_rfl) (by kernel_rfl) ?_; clear ha a; intro a ha
            refine stepp ha 12 (.int .i64 t3010.2.2) (by kernel_rfl) (by kernel_rfl) ?_; clear ha a; intro a ha
            refine endl ?_
            refine thenN (hK3009 _ _ ?_); clear hK3009
            refine wp_seq_k (fun K3017 hK3018 => ?_)
            refine wp_region_lit ?_
            refine stepp ha 49 (.int .i64 t3010.2.2) (by kernel_rfl) (by kernel_rfl) ?_; clear ha a; intro a ha
            refine stepp ha 50 (.bool (t3010.2.2 != 0)) (by kernel_rfl) (by kernel_rfl) ?_; clear ha a; intro a ha
            refine stepp ha 51 (.bool (t3010.2.2 != 0)) (by kernel_rfl) (by kernel_rfl) ?_; clear ha a; intro a ha
            by_cases hp3019 : t3010.2.2 = 0
            · skip
              replace h := ite_pos' h hp3019
              replace ha := ha.bool 51 (by kernel_rfl) (ineq_f hp3019)
              refine stepl ha 52 (HW.ca (i := 2) (b := b2886) (C := #[.int .i64 a0.f0, .int .i64 a0.f1, .int .i64 a0.f2, .int .u32 a0.f3, .int .i64 a0.f4, .int .u32 a0.f5.f0, .int .u32 a0.f5.f1, .int .u32 a0.f5.f2, .int .u32 a0.f5.f3, .int .u32 a0.f5.f4, .int .u32 a0.f5.f5]) (T := 25) (fr := (0, 0)) (by kernel_rfl)) 25 0 (.tmp 3) (.agg #[.int .i64 a0.f0, .int .i64 a0.f1, .int .i64 a0.f2, .int .u32 a0.f3, .int .i64 a0.f4, .int .u32 a0.f5.f0, .int .u32 a0.f5.f1, .int .u32 a0.f5.f2, .int .u32 a0.f5.f3, .int .u32 a0.f5.f4, .int .u32 a0.f5.f5]) rfl (by kernel_rfl) (by kernel_rfl) (by kernel_rfl) ?_; clear ha a; intro a ha
              refine stepl ha 53 (HW.ca (i := 0) (b := b3014) (C := #[.int .i64 t3010.1.f0, .int .i64 t3010.1.f1, .int .i64 t3010.1.f2, .int .u32 t3010.1.f3, .int .i64 t3010.1.f4, .int .u32 t3010.1.f5.f0, .int .u32 t3010.1.f5.f1, .int .u32 t3010.1.f5.f2, .int .u32 t3010.1.f5.f3, .int .u32 t3010.1.f5.f4, .int .u32 t3010.1.f5.f5]) (T := 25) (fr := (0, 0)) (by kernel_rfl)) 25 0 (.tmp 10) (.agg #[.int .i64 t3010.1.f0, .int .i64 t3010.1.f1, .int .i64 t3010.1.f2, .int .u32 t3010.1.f3, .int .i64 t3010.1.f4, .int .u32 t3010.1.f5.f0, .int .u32 t3010.1.f5.f1, .int .u32 t3010.1.f5.f2, .int .u32 t3010.1.f5.f3, .int .u32 t3010.1.f5.f4, .int .u32 t3010.1.f5.f5]) rfl (by kernel_rfl) (by kernel_rfl) (by kernel_rfl) ?_; clear ha a; intro a ha
              obtain ⟨t3020, ht3021, h_⟩ := bind_some' h; clear h; have h := h_; clear h_
              refine stepc ha 54 (by kernel_rfl) (by kernel_rfl) (headgateref25_Same.calls K (⟨a0.f0, a0.f1, a0.f2, a0.f3, a0.f4, (⟨a0.f5.f0, a0.f5.f1, a0.f5.f2, a0.f5.f3, a0.f5.f4, a0.f5.f5⟩ : T_arr6_22)⟩ : T_api_Sqe) (⟨t3010.1.f0, t3010.1.f1, t3010.1.f2, t3010.1.f3, t3010.1.f4, (⟨t3010.1.f5.f0, t3010.1.f5.f1, t3010.1.f5.f2, t3010.1.f5.f3, t3010.1.f5.f4, t3010.1.f5.f5⟩ : T_arr6_22)⟩ : T_api_Sqe) t3020 _ ht3021) ?_; clear ha a; rintro e W3022 ⟨rfl, HX3023⟩
              refine ⟨_, rfl, ?_⟩; intro a ha; replace HW := HW.callw HX3023; clear HX3023
              refine stepp ha 55 (.bool (!t3020)) (by kernel_rfl) (by kernel_rfl) ?_; clear ha a; intro a ha
              refine stepp ha 56 (.bool (!t3020)) (by kernel_rfl) (by kernel_rfl) ?_; clear ha a; intro a ha
              refine stepp ha 57 (.bool (!t3020)) (by kernel_rfl) (by kernel_rfl) ?_; clear ha a; intro a ha
              by_cases hp3024 : t3020 = true
              · skip
                replace h := ite_pos' h hp3024
                replace ha := ha.bool 57 (by kernel_rfl) (not_f (hp3024))
                refine stepp ha 58 (.bool t3010.2.1) (by kernel_rfl) (by kernel_rfl) ?_; clear ha a; intro a ha
                refine stepp ha 59 (.int .i64 x2988) (by kernel_rfl) (by kernel_rfl) ?_; clear ha a; intro a ha
                refine stepp ha 60 (.bool (x2988 == 1)) (by kernel_rfl) (by kernel_rfl) ?_; clear ha a; intro a ha
                refine stepp ha 61 (.bool (t3010.2.1 != (x2988 == 1))) (by kernel_rfl) (by kernel_rfl) ?_; clear ha a; intro a ha
                refine stepp ha 62 (.bool (t3010.2.1 != (x2988 == 1))) (by kernel_rfl) (by kernel_rfl) ?_; clear ha a; intro a ha
                refine endl ?_
                refine thenN (hK3018 _ _ ?_); clear hK3018
                by_cases hp3025 : t3010.2.1 = (x2988 == 1)
                · skip
                  replace h := ite_pos' h hp3025
                  refine condF ha (by kernel_rfl) (by kernel_rfl) (t := (t3010.2.1 != (x2988 == 1))) (bne_f hp3025) ?_
                  refine wp_skip ?_
                  refine blkN ?_
                  refine thenN (hK2998 _ _ ?_); clear hK2998
                  refine wp_region_lit ?_
                  refine stepp ha 32 (.int .i64 x2988) (by kernel_rfl) (by kernel_rfl) ?_; clear ha a; intro a ha
                  refine stepp ha 33 (.int .i64 (IntKind.wrap .i64 (x2988 + 1))) (by kernel_rfl) (by kernel_rfl) ?_; clear ha a; intro a ha
                  refine stepp ha 7 (.int .i64 (IntKind.wrap .i64 (x2988 + 1))) (by kernel_rfl) (by kernel_rfl) ?_; clear ha a; intro a ha
                  refine endl ?_
                  exact thenN ⟨k2990, Nat.lt_succ_self k2990, IntKind.wrap .i64 (x2988 + 1), (by rw [← hag2991]; exact h), ha.sub (subs_cons (by kernel_rfl) (subs_cons (by kernel_rfl) (subs_cons (by kernel_rfl) (subs_cons (by kernel_rfl) (subs_nil _))))), HW.pick [1, 2] [] (by decide) (by decide) (by kernel_rfl) (by kernel_rfl)⟩
                · skip
                  replace h := ite_neg' h hp3025
                  refine condT ha (by kernel_rfl) (by kernel_rfl) (t := (t3010.2.1 != (x2988 == 1))) (bne_t hp3025) ?_
                  refine wp_seq_k (fun K3026 hK3027 => ?_)
                  refine wp_region_lit ?_
                  refine stepp ha 6 (.bool false) (by kernel_rfl) (by kernel_rfl) ?_; clear ha a; intro a ha
                  refine endl ?_
                  refine thenN (hK3027 _ _ ?_); clear hK3027
                  refine wp_ret ?_
                  refine blkR ?_
                  refine thenR ?_
                  refine thenR ?_
                  refine blkR ?_
                  refine thenR ?_
                  obtain rfl := Option.some.inj h
                  exact finv ha _ _ rfl (.tmp (v := .bool false) (by kernel_rfl) .nil) (.bool false) rfl ⟨rfl, HW.pick [] [] (by decide) (by decide) rfl (by kernel_rfl)⟩
              · skip
                replace h := ite_neg' h hp3024
                replace ha := ha.bool 57 (by kernel_rfl) (not_t (bool_f hp3024))
                refine stepo ha 58 (by kernel_rfl) ?_; clear ha a; intro a ha
                refine stepo ha 59 (by kernel_rfl) ?_; clear ha a; intro a ha
                refine stepo ha 60 (by kernel_rfl) ?_; clear ha a; intro a ha
                refine stepo ha 61 (by kernel_rfl) ?_; clear ha a; intro a ha
                refine stepp ha 62 (.bool true) (by kernel_rfl) (by kernel_rfl) ?_; clear ha a; intro a ha
                refine endl ?_
                refine thenN (hK3018 _ _ ?_); clear hK3018
                refine condT ha (by kernel_rfl) (by kernel_rfl) (t := true) (rfl) ?_
                refine wp_seq_k (fun K3028 hK3029 => ?_)
                refine wp_region_lit ?_
                refine stepp ha 6 (.bool false) (by kernel_rfl) (by kernel_rfl) ?_; clear ha a; intro a ha
                refine endl ?_
                refine thenN (hK3029 _ _ ?_); clear hK3029
                refine wp_ret ?_
                refine blkR ?_
                refine thenR ?_
                refine thenR ?_
                refine blkR ?_
                refine thenR ?_
                obtain rfl := Option.some.inj h
                exact finv ha _ _ rfl (.tmp (v := .bool false) (by kernel_rfl) .nil) (.bool false) rfl ⟨rfl, HW.pick [] [] (by decide) (by decide) rfl (by kernel_rfl)⟩
            · skip
              replace h := ite_neg' h hp3019
              replace ha := ha.bool 51 (by kernel_rfl) (ineq_t hp3019)
              refine stepo ha 52 (by kernel_rfl) ?_; clear ha a; intro a ha
              refine stepo ha 53 (by kernel_rfl) ?_; clear ha a; intro a ha
              refine stepo ha 54 (by kernel_rfl) ?_; clear ha a; intro a ha
              refine stepo ha 55 (by kernel_rfl) ?_; clear ha a; intro a ha
              refine stepp ha 56 (.bool true) (by kernel_rfl) (by kernel_rfl) ?_; clear ha a; intro a ha
              refine stepp ha 57 (.bool true) (by kernel_rfl) (by kernel_rfl) ?_; clear ha a; intro a ha
              refine stepo ha 58 (by kernel_rfl) ?_; clear ha a; intro a ha
              refine stepo ha 59 (by kernel_rfl) ?_; clear ha a; intro a ha
              refine stepo ha 60 (by kernel_rfl) ?_; clear ha a; intro a ha
              refine stepo ha 61 (by kernel_rfl) ?_; clear ha a; intro a ha
              refine stepp ha 62 (.bool true) (by kernel_rfl) (by kernel_rfl) ?_; clear ha a; intro a ha
              refine endl ?_
              refine thenN (hK3018 _ _ ?_); clear hK3018
              refine condT ha (by kernel_rfl) (by kernel_rfl) (t := true) (rfl) ?_
              refine wp_seq_k (fun K3030 hK3031 => ?_)
              refine wp_region_lit ?_
              refine stepp ha 6 (.bool false) (by kernel_rfl) (by kernel_rfl) ?_; clear ha a; intro a ha
              refine endl ?_
              refine thenN (hK3031 _ _ ?_); clear hK3031
              refine wp_ret ?_
              refine blkR ?_
              refine thenR ?_
              refine thenR ?_
              refine blkR ?_
              refine thenR ?_
              obtain rfl := Option.some.inj h
              exact finv ha _ _ rfl (.tmp (v := .bool false) (by kernel_rfl) .nil) (.bool false) rfl ⟨rfl, HW.pick [] [] (by decide) (by decide) rfl (by kernel_rfl)⟩
          · skip
            replace h := ite_neg' h hp3007
            refine condF ha (by kernel_rfl) (by kernel_rfl) (t := (t3001.2 == 0)) (ieq_f hp3007) ?_
            refine wp_skip ?_
            refine blkN ?_
            refine thenN (hK2998 _ _ ?_); clear hK2998
            refine wp_region_lit ?_
            refine stepp ha 32 (.int .i64 x2988) (by kernel_rfl) (by kernel_rfl) ?_; clear ha a; intro a ha
            refine stepp ha 33 (.int .i64 (IntKind.wrap .i64 (x2988 + 1))) (by kernel_rfl) (by kernel_rfl) ?_; clear ha a; intro a ha
            refine stepp ha 7 (.int .i64 (IntKind.wrap .i64 (x2988 + 1))) (by kernel_rfl) (by kernel_rfl) ?_; clear ha a; intro a ha
            refine endl ?_
            exact thenN ⟨k2990, Nat.lt_succ_self k2990, IntKind.wrap .i64 (x2988 + 1), (by rw [← hag2991]; exact h), ha.sub (subs_cons (by kernel_rfl) (subs_cons (by kernel_rfl) (subs_cons (by kernel_rfl) (subs_cons (by kernel_rfl) (subs_nil _))))), HW.pick [0, 1] [] (by decide) (by decide) (by kernel_rfl) (by kernel_rfl)⟩
        · skip
          replace h := ite_neg' h hp2996
          refine condF ha (by kernel_rfl) (by kernel_rfl) (t := decide (x2988 < 2)) (decide_eq_false hp2996) ?_
          refine wp_exit ?_
          refine thenE ?_
          refine thenE ?_
          refine inBlk ?_
          refine thenN (hK2902 _ _ ?_); clear hK2902
          refine wp_seq_k (fun K3032 hK3033 => ?_)
          refine cutn (fun a W3064 => headgatelaw25_SqeBack.j0 K a2 = some r ∧ Has 124 [(2, .string a2)] a ∧ Wd w W3064 [] []) ?_ ?_
          · skip
            refine wp_seq_k (fun K3034 hK3035 => ?_)
            refine wp_region_lit ?_
            refine stepl ha 64 (HW.ca (i := 0) (b := b2888) (C := #[.int .u32 a1.f0, .int .u32 a1.f1, .int .i64 a1.f2, .int .i64 a1.f3, .int .i64 a1.f4, .int .i64 a1.f5]) (T := 27) (fr := (0, 0)) (by kernel_rfl)) 27 0 (.tmp 4) (.agg #[.int .u32 a1.f0, .int .u32 a1.f1, .int .i64 a1.f2, .int .i64 a1.f3, .int .i64 a1.f4, .int .i64 a1.f5]) rfl (by kernel_rfl) (by kernel_rfl) (by kernel_rfl) ?_; clear ha a; intro a ha
            obtain ⟨t3036, ht3037, h_⟩ := bind_some' h; clear h; have h := h_; clear h_
            refine stepc ha 65 (by kernel_rfl) (by kernel_rfl) (sqe_End.calls K a1 t3036 _ (HW.ca0 hG1) (HW.ca0 hG2) ht3037) ?_; clear ha a; rintro e W3038 ⟨rfl, HX3039⟩
            refine ⟨_, rfl, ?_⟩; intro a ha; replace HW := HW.callw HX3039; clear HX3039
            refine stepp ha 63 (.tuple #[.string t3036.1, .int .i64 t3036.2]) (by kernel_rfl) (by kernel_rfl) ?_; clear ha a; intro a ha
            refine stepp ha 66 (.string t3036.1) (by kernel_rfl) (by kernel_rfl) ?_; clear ha a; intro a ha
            refine stepp ha 67 (.int .i64 t3036.2) (by kernel_rfl) (by kernel_rfl) ?_; clear ha a; intro a ha
            refine stepp ha 13 (.string t3036.1) (by kernel_rfl) (by kernel_rfl) ?_; clear ha a; intro a ha
            refine stepp ha 14 (.int .i64 t3036.2) (by kernel_rfl) (by kernel_rfl) ?_; clear ha a; intro a ha
            refine endl ?_
            refine thenN (hK3035 _ _ ?_); clear hK3035
            refine wp_seq_k (fun K3040 hK3041 => ?_)
            refine wp_region_lit ?_
            refine stepp ha 68 (.int .i64 t3036.2) (by kernel_rfl) (by kernel_rfl) ?_; clear ha a; intro a ha
            refine stepp ha 69 (.bool (t3036.2 == 0)) (by kernel_rfl) (by kernel_rfl) ?_; clear ha a; intro a ha
            refine endl ?_
            refine thenN (hK3041 _ _ ?_); clear hK3041
            by_cases hp3042 : t3036.2 = 0
            · skip
              replace h := ite_pos' h hp3042
              refine condT ha (by kernel_rfl) (by kernel_rfl) (t := (t3036.2 == 0)) (ieq_t hp3042) ?_
              refine wp_seq_k (fun K3043 hK3044 => ?_)
              refine wp_region_lit ?_
              refine stepp ha 71 (.string t3036.1) (by kernel_rfl) (by kernel_rfl) ?_; clear ha a; intro a ha
              obtain ⟨t3045, ht3046, h_⟩ := bind_some' h; clear h; have h := h_; clear h_
              refine stepc ha 72 (by kernel_rfl) (by kernel_rfl) (sqe_Ended.calls K t3036.1 t3045 _ (HW.ca0 hG1) (HW.ca0 hG2) ht3046) ?_; clear ha a; rintro e W3047 ⟨rfl, HX3048⟩
              refine ⟨_, rfl, ?_⟩; intro a ha; replace HW := HW.callw HX3048; clear HX3048
              refine stepp ha 70 (.tuple #[.agg #[.int .u32 t3045.1.f0, .int .u32 t3045.1.f1, .int .i64 t3045.1.f2, .int .i64 t3045.1.f3, .int .i64 t3045.1.f4, .int .i64 t3045.1.f5], .int .i64 t3045.2]) (by kernel_rfl) (by kernel_rfl) ?_; clear ha a; intro a ha
              refine stepp ha 73 (.agg #[.int .u32 t3045.1.f0, .int .u32 t3045.1.f1, .int .i64 t3045.1.f2, .int .i64 t3045.1.f3, .int .i64 t3045.1.f4, .int .i64 t3045.1.f5]) (by kernel_rfl) (by kernel_rfl) ?_; clear ha a; intro a ha
              refine stepp ha 74 (.int .i64 t3045.2) (by kernel_rfl) (by kernel_rfl) ?_; clear ha a; intro a ha
              refine stepnew ha HW 15 #[.int .u32 0, .int .u32 0, .int .i64 0, .int .i64 0, .int .i64 0, .int .i64 0] 27 (by kernel_rfl) (by kernel_rfl) ?_; clear ha HW a; intro b3049 a W3050 HW ha
              refine stepst ha HW 0 (b := b3049) (C := #[.int .u32 0, .int .u32 0, .int .i64 0, .int .i64 0, .int .i64 0, .int .i64 0]) (T := 27) (by kernel_rfl) 27 0 (.tmp 15) (.tmp 73) (.agg #[.int .u32 t3045.1.f0, .int .u32 t3045.1.f1, .int .i64 t3045.1.f2, .int .i64 t3045.1.f3, .int .i64 t3045.1.f4, .int .i64 t3045.1.f5]) #[.int .u32 t3045.1.f0, .int .u32 t3045.1.f1, .int .i64 t3045.1.f2, .int .i64 t3045.1.f3, .int .i64 t3045.1.f4, .int .i64 t3045.1.f5] rfl (by kernel_rfl) (by kernel_rfl) (by kernel_rfl) (by kernel_rfl) (by kernel_rfl) (by kernel_rfl) (by kernel_rfl) ?_; clear ha HW a; intro a W3051 HW ha
              refine stepp ha 16 (.int .i64 t3045.2) (by kernel_rfl) (by kernel_rfl) ?_; clear ha a; intro a ha
              refine endl ?_
              refine thenN (hK3044 _ _ ?_); clear hK3044
              refine wp_seq_k (fun K3052 hK3053 => ?_)
              refine wp_region_lit ?_
              refine stepp ha 75 (.int .i64 t3045.2) (by kernel_rfl) (by kernel_rfl) ?_; clear ha a; intro a ha
              refine stepp ha 76 (.bool (t3045.2 != 0)) (by kernel_rfl) (by kernel_rfl) ?_; clear ha a; intro a ha
              refine stepp ha 77 (.bool (t3045.2 != 0)) (by kernel_rfl) (by kernel_rfl) ?_; clear ha a; intro a ha
              by_cases hp3054 : t3045.2 = 0
              · skip
                replace h := ite_pos' h hp3054
                replace ha := ha.bool 77 (by kernel_rfl) (ineq_f hp3054)
                refine stepl ha 78 (HW.ca (i := 1) (b := b2888) (C := #[.int .u32 a1.f0, .int .u32 a1.f1, .int .i64 a1.f2, .int .i64 a1.f3, .int .i64 a1.f4, .int .i64 a1.f5]) (T := 27) (fr := (0, 0)) (by kernel_rfl)) 27 0 (.tmp 4) (.agg #[.int .u32 a1.f0, .int .u32 a1.f1, .int .i64 a1.f2, .int .i64 a1.f3, .int .i64 a1.f4, .int .i64 a1.f5]) rfl (by kernel_rfl) (by kernel_rfl) (by kernel_rfl) ?_; clear ha a; intro a ha
                refine stepl ha 79 (HW.ca (i := 0) (b := b3049) (C := #[.int .u32 t3045.1.f0, .int .u32 t3045.1.f1, .int .i64 t3045.1.f2, .int .i64 t3045.1.f3, .int .i64 t3045.1.f4, .int .i64 t3045.1.f5]) (T := 27) (fr := (0, 0)) (by kernel_rfl)) 27 0 (.tmp 15) (.agg #[.int .u32 t3045.1.f0, .int .u32 t3045.1.f1, .int .i64 t3045.1.f2, .int .i64 t3045.1.f3, .int .i64 t3045.1.f4, .int .i64 t3045.1.f5]) rfl (by kernel_rfl) (by kernel_rfl) (by kernel_rfl) ?_; clear ha a; intro a ha
                obtain ⟨t3055, ht3056, h_⟩ := bind_some' h; clear h; have h := h_; clear h_
                refine stepc ha 80 (by kernel_rfl) (by kernel_rfl) (headgateref25_SameEnd.calls a1 (⟨t3045.1.f0, t3045.1.f1, t3045.1.f2, t3045.1.f3, t3045.1.f4, t3045.1.f5⟩ : T_api_Cqe) t3055 _ ht3056) ?_; clear ha a; rintro e W3057 ⟨rfl, HX3058⟩
                refine ⟨_, rfl, ?_⟩; intro a ha; replace HW := HW.callw HX3058; clear HX3058
                refine stepp ha 81 (.bool (!t3055)) (by kernel_rfl) (by kernel_rfl) ?_; clear ha a; intro a ha
                refine stepp ha 82 (.bool (!t3055)) (by kernel_rfl) (by kernel_rfl) ?_; clear ha a; intro a ha
                refine endl ?_
                refine thenN (hK3053 _ _ ?_); clear hK3053
                by_cases hp3059 : t3055 = true
                · skip
                  replace h := ite_pos' h hp3059
                  refine condF ha (by kernel_rfl) (by kernel_rfl) (t := (!t3055)) (not_f (hp3059)) ?_
                  refine wp_skip ?_
                  exact thenN ⟨h, ha.sub (subs_cons (by kernel_rfl) (subs_nil _)), HW.pick [] [] (by decide) (by decide) (by kernel_rfl) (by kernel_rfl)⟩
                · skip
                  replace h := ite_neg' h hp3059
                  refine condT ha (by kernel_rfl) (by kernel_rfl) (t := (!t3055)) (not_t (bool_f hp3059)) ?_
                  refine wp_seq_k (fun K3060 hK3061 => ?_)
                  refine wp_region_lit ?_
                  refine stepp ha 6 (.bool false) (by kernel_rfl) (by kernel_rfl) ?_; clear ha a; intro a ha
                  refine endl ?_
                  refine thenN (hK3061 _ _ ?_); clear hK3061
                  refine wp_ret ?_
                  refine thenR ?_
                  obtain rfl := Option.some.inj h
                  exact finv ha _ _ rfl (.tmp (v := .bool false) (by kernel_rfl) .nil) (.bool false) rfl ⟨rfl, HW.pick [] [] (by decide) (by decide) rfl (by kernel_rfl)⟩
              · skip
                replace h := ite_neg' h hp3054
                replace ha := ha.bool 77 (by kernel_rfl) (ineq_t hp3054)
                refine stepo ha 78 (by kernel_rfl) ?_; clear ha a; intro a ha
                refine stepo ha 79 (by kernel_rfl) ?_; clear ha a; intro a ha
                refine stepo ha 80 (by kernel_rfl) ?_; clear ha a; intro a ha
                refine stepo ha 81 (by kernel_rfl) ?_; clear ha a; intro a ha
                refine stepp ha 82 (.bool true) (by kernel_rfl) (by kernel_rfl) ?_; clear ha a; intro a ha
                refine endl ?_
                refine thenN (hK3053 _ _ ?_); clear hK3053
                refine condT ha (by kernel_rfl) (by kernel_rfl) (t := true) (rfl) ?_
                refine wp_seq_k (fun K3062 hK3063 => ?_)
                refine wp_region_lit ?_
                refine stepp ha 6 (.bool false) (by kernel_rfl) (by kernel_rfl) ?_; clear ha a; intro a ha
                refine endl ?_
                refine thenN (hK3063 _ _ ?_); clear hK3063
                refine wp_ret ?_
                refine thenR ?_
                obtain rfl := Option.some.inj h
                exact finv ha _ _ rfl (.tmp (v := .bool false) (by kernel_rfl) .nil) (.bool false) rfl ⟨rfl, HW.pick [] [] (by decide) (by decide) rfl (by kernel_rfl)⟩
            · skip
              replace h := ite_neg' h hp3042
              refine condF ha (by kernel_rfl) (by kernel_rfl) (t := (t3036.2 == 0)) (ieq_f hp3042) ?_
              refine wp_skip ?_
              exact thenN ⟨h, ha.sub (subs_cons (by kernel_rfl) (subs_nil _)), HW.pick [] [] (by decide) (by decide) (by kernel_rfl) (by kernel_rfl)⟩
          · skip
            intro a W3064 hJ
            obtain ⟨h, ha, HW⟩ := hJ
            replace h : headgatelaw25_SqeBack.j0 K a2 = some r := h
            unfold headgatelaw25_SqeBack.j0 at h
            refine hK3033 _ _ ?_; clear hK3033
            refine wp_seq_k (fun K3065 hK3066 => ?_)
            refine cutn (fun a W3093 => headgatelaw25_SqeBack.j1 K a2 = some r ∧ Has 124 [(2, .string a2)] a ∧ Wd w W3093 [] []) ?_ ?_
            · skip
              refine wp_seq_k (fun K3067 hK3068 => ?_)
              refine wp_region_lit ?_
              refine stepp ha 84 (.string a2) (by kernel_rfl) (by kernel_rfl) ?_; clear ha a; intro a ha
              obtain ⟨t3069, ht3070, h_⟩ := bind_some' h; clear h; have h := h_; clear h_
              refine stepc ha 85 (by kernel_rfl) (by kernel_rfl) (sqe_Get.calls K a2 t3069 _ (HW.ca0 hG1) (HW.ca0 hG2) ht3070) ?_; clear ha a; rintro e W3071 ⟨rfl, HX3072⟩
              refine ⟨_, rfl, ?_⟩; intro a ha; replace HW := HW.callw HX3072; clear HX3072
              refine stepp ha 83 (.tuple #[.agg #[.int .i64 t3069.1.f0, .int .i64 t3069.1.f1, .int .i64 t3069.1.f2, .int .u32 t3069.1.f3, .int .i64 t3069.1.f4, .int .u32 t3069.1.f5.f0, .int .u32 t3069.1.f5.f1, .int .u32 t3069.1.f5.f2, .int .u32 t3069.1.f5.f3, .int .u32 t3069.1.f5.f4, .int .u32 t3069.1.f5.f5], .bool t3069.2.1, .int .i64 t3069.2.2]) (by kernel_rfl) (by kernel_rfl) ?_; clear ha a; intro a ha
              refine stepp ha 86 (.agg #[.int .i64 t3069.1.f0, .int .i64 t3069.1.f1, .int .i64 t3069.1.f2, .int .u32 t3069.1.f3, .int .i64 t3069.1.f4, .int .u32 t3069.1.f5.f0, .int .u32 t3069.1.f5.f1, .int .u32 t3069.1.f5.f2, .int .u32 t3069.1.f5.f3, .int .u32 t3069.1.f5.f4, .int .u32 t3069.1.f5.f5]) (by kernel_rfl) (by kernel_rfl) ?_; clear ha a; intro a ha
              refine stepp ha 87 (.bool t3069.2.1) (by kernel_rfl) (by kernel_rfl) ?_; clear ha a; intro a ha
              refine stepp ha 88 (.int .i64 t3069.2.2) (by kernel_rfl) (by kernel_rfl) ?_; clear ha a; intro a ha
              refine stepnew ha HW 17 #[.int .i64 0, .int .i64 0, .int .i64 0, .int .u32 0, .int .i64 0, .int .u32 0, .int .u32 0, .int .u32 0, .int .u32 0, .int .u32 0, .int .u32 0] 25 (by kernel_rfl) (by kernel_rfl) ?_; clear ha HW a; intro b3073 a W3074 HW ha
              refine stepst ha HW 0 (b := b3073) (C := #[.int .i64 0, .int .i64 0, .int .i64 0, .int .u32 0, .int .i64 0, .int .u32 0, .int .u32 0, .int .u32 0, .int .u32 0, .int .u32 0, .int .u32 0]) (T := 25) (by kernel_rfl) 25 0 (.tmp 17) (.tmp 86) (.agg #[.int .i64 t3069.1.f0, .int .i64 t3069.1.f1, .int .i64 t3069.1.f2, .int .u32 t3069.1.f3, .int .i64 t3069.1.f4, .int .u32 t3069.1.f5.f0, .int .u32 t3069.1.f5.f1, .int .u32 t3069.1.f5.f2, .int .u32 t3069.1.f5.f3, .int .u32 t3069.1.f5.f4, .int .u32 t3069.1.f5.f5]) #[.int .i64 t3069.1.f0, .int .i64 t3069.1.f1, .int .i64 t3069.1.f2, .int .u32 t3069.1.f3, .int .i64 t3069.1.f4, .int .u32 t3069.1.f5.f0, .int .u32 t3069.1.f5.f1, .int .u32 t3069.1.f5.f2, .int .u32 t3069.1.f5.f3, .int .u32 t3069.1.f5.f4, .int .u32 t3069.1.f5.f5] rfl (by kernel_rfl) (by kernel_rfl) (by kernel_rfl) (by kernel_rfl) (by kernel_rfl) (by kernel_rfl) (by kernel_rfl) ?_; clear ha HW a; intro a W3075 HW ha
              refine stepp ha 18 (.bool t3069.2.1) (by kernel_rfl) (by kernel_rfl) ?_; clear ha a; intro a ha
              refine stepp ha 19 (.int .i64 t3069.2.2) (by kernel_rfl) (by kernel_rfl) ?_; clear ha a; intro a ha
              refine endl ?_
              refine thenN (hK3068 _ _ ?_); clear hK3068
              refine wp_seq_k (fun K3076 hK3077 => ?_)
              refine wp_region_lit ?_
              refine stepp ha 89 (.int .i64 t3069.2.2) (by kernel_rfl) (by kernel_rfl) ?_; clear ha a; intro a ha
              refine stepp ha 90 (.bool (t3069.2.2 == 0)) (by kernel_rfl) (by kernel_rfl) ?_; clear ha a; intro a ha
              refine endl ?_
              refine thenN (hK3077 _ _ ?_); clear hK3077
              by_cases hp3078 : t3069.2.2 = 0
              · skip
                replace h := ite_pos' h hp3078
                refine condT ha (by kernel_rfl) (by kernel_rfl) (t := (t3069.2.2 == 0)) (ieq_t hp3078) ?_
                refine wp_seq_k (fun K3079 hK3080 => ?_)
                refine wp_region_lit ?_
                refine stepl ha 92 (HW.ca (i := 0) (b := b3073) (C := #[.int .i64 t3069.1.f0, .int .i64 t3069.1.f1, .int .i64 t3069.1.f2, .int .u32 t3069.1.f3, .int .i64 t3069.1.f4, .int .u32 t3069.1.f5.f0, .int .u32 t3069.1.f5.f1, .int .u32 t3069.1.f5.f2, .int .u32 t3069.1.f5.f3, .int .u32 t3069.1.f5.f4, .int .u32 t3069.1.f5.f5]) (T := 25) (fr := (0, 0)) (by kernel_rfl)) 25 0 (.tmp 17) (.agg #[.int .i64 t3069.1.f0, .int .i64 t3069.1.f1, .int .i64 t3069.1.f2, .int .u32 t3069.1.f3, .int .i64 t3069.1.f4, .int .u32 t3069.1.f5.f0, .int .u32 t3069.1.f5.f1, .int .u32 t3069.1.f5.f2, .int .u32 t3069.1.f5.f3, .int .u32 t3069.1.f5.f4, .int .u32 t3069.1.f5.f5]) rfl (by kernel_rfl) (by kernel_rfl) (by kernel_rfl) ?_; clear ha a; intro a ha
                refine stepp ha 93 (.bool t3069.2.1) (by kernel_rfl) (by kernel_rfl) ?_; clear ha a; intro a ha
                obtain ⟨t3081, ht3082, h_⟩ := bind_some' h; clear h; have h := h_; clear h_
                refine stepc ha 94 (by kernel_rfl) (by kernel_rfl) (sqe_Put.calls K (⟨t3069.1.f0, t3069.1.f1, t3069.1.f2, t3069.1.f3, t3069.1.f4, (⟨t3069.1.f5.f0, t3069.1.f5.f1, t3069.1.f5.f2, t3069.1.f5.f3, t3069.1.f5.f4, t3069.1.f5.f5⟩ : T_arr6_22)⟩ : T_api_Sqe) t3069.2.1 t3081 _ (HW.ca0 hG1) (HW.ca0 hG2) ht3082) ?_; clear ha a; rintro e W3083 ⟨rfl, HX3084⟩
                refine ⟨_, rfl, ?_⟩; intro a ha; replace HW := HW.callw HX3084; clear HX3084
                refine stepp ha 91 (.tuple #[.string t3081.1, .int .i64 t3081.2]) (by kernel_rfl) (by kernel_rfl) ?_; clear ha a; intro a ha
                refine stepp ha 95 (.string t3081.1) (by kernel_rfl) (by kernel_rfl) ?_; clear ha a; intro a ha
                refine stepp ha 96 (.int .i64 t3081.2) (by kernel_rfl) (by kernel_rfl) ?_; clear ha a; intro a ha
                refine stepp ha 20 (.string t3081.1) (by kernel_rfl) (by kernel_rfl) ?_; clear ha a; intro a ha
                refine stepp ha 21 (.int .i64 t3081.2) (by kernel_rfl) (by kernel_rfl) ?_; clear ha a; intro a ha
                refine endl ?_
                refine thenN (hK3080 _ _ ?_); clear hK3080
                refine wp_seq_k (fun K3085 hK3086 => ?_)
                refine wp_region_lit ?_
                refine stepp ha 97 (.int .i64 t3081.2) (by kernel_rfl) (by kernel_rfl) ?_; clear ha a; intro a ha
                refine stepp ha 98 (.bool (t3081.2 != 0)) (by kernel_rfl) (by kernel_rfl) ?_; clear ha a; intro a ha
                refine stepp ha 99 (.bool (t3081.2 != 0)) (by kernel_rfl) (by kernel_rfl) ?_; clear ha a; intro a ha
                by_cases hp3087 : t3081.2 = 0
                · skip
                  replace h := ite_pos' h hp3087
                  replace ha := ha.bool 99 (by kernel_rfl) (ineq_f hp3087)
                  refine stepp ha 100 (.string t3081.1) (by kernel_rfl) (by kernel_rfl) ?_; clear ha a; intro a ha
                  refine stepp ha 101 (.string a2) (by kernel_rfl) (by kernel_rfl) ?_; clear ha a; intro a ha
                  refine stepp ha 102 (.bool (!(t3081.1.toList == a2.toList))) (by kernel_rfl) (by kernel_rfl) ?_; clear ha a; intro a ha
                  refine stepp ha 103 (.bool (!(t3081.1.toList == a2.toList))) (by kernel_rfl) (by kernel_rfl) ?_; clear ha a; intro a ha
                  refine endl ?_
                  refine thenN (hK3086 _ _ ?_); clear hK3086
                  by_cases hp3088 : t3081.1 = a2
                  · skip
                    replace h := ite_pos' h hp3088
                    refine condF ha (by kernel_rfl) (by kernel_rfl) (t := (!(t3081.1.toList == a2.toList))) (str_ne_f hp3088) ?_
                    refine wp_skip ?_
                    exact thenN ⟨h, ha.sub (subs_cons (by kernel_rfl) (subs_nil _)), HW.pick [] [] (by decide) (by decide) (by kernel_rfl) (by kernel_rfl)⟩
                  · skip
                    replace h := ite_neg' h hp3088
                    refine condT ha (by kernel_rfl) (by kernel_rfl) (t := (!(t3081.1.toList == a2.toList))) (str_ne_t hp3088) ?_
                    refine wp_seq_k (fun K3089 hK3090 => ?_)
                    refine wp_region_lit ?_
                    refine stepp ha 6 (.bool false) (by kernel_rfl) (by kernel_rfl) ?_; clear ha a; intro a ha
                    refine endl ?_
                    refine thenN (hK3090 _ _ ?_); clear hK3090
                    refine wp_ret ?_
                    refine thenR ?_
                    obtain rfl := Option.some.inj h
                    exact finv ha _ _ rfl (.tmp (v := .bool false) (by kernel_rfl) .nil) (.bool false) rfl ⟨rfl, HW.pick [] [] (by decide) (by decide) rfl (by kernel_rfl)⟩
                · skip
                  replace h := ite_neg' h hp3087
                  replace ha := ha.bool 99 (by kernel_rfl) (ineq_t hp3087)
                  refine stepo ha 100 (by kernel_rfl) ?_; clear ha a; intro a ha
                  refine stepo ha 101 (by kernel_rfl) ?_; clear ha a; intro a ha
                  refine stepo ha 102 (by kernel_rfl) ?_; clear ha a; intro a ha
                  refine stepp ha 103 (.bool true) (by kernel_rfl) (by kernel_rfl) ?_; clear ha a; intro a ha
                  refine endl ?_
                  refine thenN (hK3086 _ _ ?_); clear hK3086
                  refine condT ha (by kernel_rfl) (by kernel_rfl) (t := true) (rfl) ?_
                  refine wp_seq_k (fun K3091 hK3092 => ?_)
                  refine wp_region_lit ?_
                  refine stepp ha 6 (.bool false) (by kernel_rfl) (by kernel_rfl) ?_; clear ha a; intro a ha
                  refine endl ?_
                  refine thenN (hK3092 _ _ ?_); clear hK3092
                  refine wp_ret ?_
                  refine thenR ?_
                  obtain rfl := Option.some.inj h
                  exact finv ha _ _ rfl (.tmp (v := .bool false) (by kernel_rfl) .nil) (.bool false) rfl ⟨rfl, HW.pick [] [] (by decide) (by decide) rfl (by kernel_rfl)⟩
              · skip
                replace h := ite_neg' h hp3078
                refine condF ha (by kernel_rfl) (by kernel_rfl) (t := (t3069.2.2 == 0)) (ieq_f hp3078) ?_
                refine wp_skip ?_
                exact thenN ⟨h, ha.sub (subs_cons (by kernel_rfl) (subs_nil _)), HW.pick [] [] (by decide) (by decide) (by kernel_rfl) (by kernel_rfl)⟩
            · skip
              intro a W3093 hJ
              obtain ⟨h, ha, HW⟩ := hJ
              replace h : headgatelaw25_SqeBack.j1 K a2 = some r := h
              unfold headgatelaw25_SqeBack.j1 at h
              refine hK3066 _ _ ?_; clear hK3066
              refine wp_seq_k (fun K3094 hK3095 => ?_)
              refine wp_seq_k (fun K3096 hK3097 => ?_)
              refine wp_region_lit ?_
              refine stepp ha 105 (.string a2) (by kernel_rfl) (by kernel_rfl) ?_; clear ha a; intro a ha
              obtain ⟨t3098, ht3099, h_⟩ := bind_some' h; clear h; have h := h_; clear h_
              refine stepc ha 106 (by kernel_rfl) (by kernel_rfl) (sqe_Ended.calls K a2 t3098 _ (HW.ca0 hG1) (HW.ca0 hG2) ht3099) ?_; clear ha a; rintro e W3100 ⟨rfl, HX3101⟩
              refine ⟨_, rfl, ?_⟩; intro a ha; replace HW := HW.callw HX3101; clear HX3101
              refine stepp ha 104 (.tuple #[.agg #[.int .u32 t3098.1.f0, .int .u32 t3098.1.f1, .int .i64 t3098.1.f2, .int .i64 t3098.1.f3, .int .i64 t3098.1.f4, .int .i64 t3098.1.f5], .int .i64 t3098.2]) (by kernel_rfl) (by kernel_rfl) ?_; clear ha a; intro a ha
              refine stepp ha 107 (.agg #[.int .u32 t3098.1.f0, .int .u32 t3098.1.f1, .int .i64 t3098.1.f2, .int .i64 t3098.1.f3, .int .i64 t3098.1.f4, .int .i64 t3098.1.f5]) (by kernel_rfl) (by kernel_rfl) ?_; clear ha a; intro a ha
              refine stepp ha 108 (.int .i64 t3098.2) (by kernel_rfl) (by kernel_rfl) ?_; clear ha a; intro a ha
              refine stepnew ha HW 22 #[.int .u32 0, .int .u32 0, .int .i64 0, .int .i64 0, .int .i64 0, .int .i64 0] 27 (by kernel_rfl) (by kernel_rfl) ?_; clear ha HW a; intro b3102 a W3103 HW ha
              refine stepst ha HW 0 (b := b3102) (C := #[.int .u32 0, .int .u32 0, .int .i64 0, .int .i64 0, .int .i64 0, .int .i64 0]) (T := 27) (by kernel_rfl) 27 0 (.tmp 22) (.tmp 107) (.agg #[.int .u32 t3098.1.f0, .int .u32 t3098.1.f1, .int .i64 t3098.1.f2, .int .i64 t3098.1.f3, .int .i64 t3098.1.f4, .int .i64 t3098.1.f5]) #[.int .u32 t3098.1.f0, .int .u32 t3098.1.f1, .int .i64 t3098.1.f2, .int .i64 t3098.1.f3, .int .i64 t3098.1.f4, .int .i64 t3098.1.f5] rfl (by kernel_rfl) (by kernel_rfl) (by kernel_rfl) (by kernel_rfl) (by kernel_rfl) (by kernel_rfl) (by kernel_rfl) ?_; clear ha HW a; intro a W3104 HW ha
              refine stepp ha 23 (.int .i64 t3098.2) (by kernel_rfl) (by kernel_rfl) ?_; clear ha a; intro a ha
              refine endl ?_
              refine thenN (hK3097 _ _ ?_); clear hK3097
              refine wp_seq_k (fun K3105 hK3106 => ?_)
              refine wp_region_lit ?_
              refine stepp ha 109 (.int .i64 t3098.2) (by kernel_rfl) (by kernel_rfl) ?_; clear ha a; intro a ha
              refine stepp ha 110 (.bool (t3098.2 == 0)) (by kernel_rfl) (by kernel_rfl) ?_; clear ha a; intro a ha
              refine endl ?_
              refine thenN (hK3106 _ _ ?_); clear hK3106
              by_cases hp3107 : t3098.2 = 0
              · skip
                replace h := ite_pos' h hp3107
                refine condT ha (by kernel_rfl) (by kernel_rfl) (t := (t3098.2 == 0)) (ieq_t hp3107) ?_
                refine wp_seq_k (fun K3108 hK3109 => ?_)
                refine wp_region_lit ?_
                refine stepl ha 112 (HW.ca (i := 0) (b := b3102) (C := #[.int .u32 t3098.1.f0, .int .u32 t3098.1.f1, .int .i64 t3098.1.f2, .int .i64 t3098.1.f3, .int .i64 t3098.1.f4, .int .i64 t3098.1.f5]) (T := 27) (fr := (0, 0)) (by kernel_rfl)) 27 0 (.tmp 22) (.agg #[.int .u32 t3098.1.f0, .int .u32 t3098.1.f1, .int .i64 t3098.1.f2, .int .i64 t3098.1.f3, .int .i64 t3098.1.f4, .int .i64 t3098.1.f5]) rfl (by kernel_rfl) (by kernel_rfl) (by kernel_rfl) ?_; clear ha a; intro a ha
                obtain ⟨t3110, ht3111, h_⟩ := bind_some' h; clear h; have h := h_; clear h_
                refine stepc ha 113 (by kernel_rfl) (by kernel_rfl) (sqe_End.calls K (⟨t3098.1.f0, t3098.1.f1, t3098.1.f2, t3098.1.f3, t3098.1.f4, t3098.1.f5⟩ : T_api_Cqe) t3110 _ (HW.ca0 hG1) (HW.ca0 hG2) ht3111) ?_; clear ha a; rintro e W3112 ⟨rfl, HX3113⟩
                refine ⟨_, rfl, ?_⟩; intro a ha; replace HW := HW.callw HX3113; clear HX3113
                refine stepp ha 111 (.tuple #[.string t3110.1, .int .i64 t3110.2]) (by kernel_rfl) (by kernel_rfl) ?_; clear ha a; intro a ha
                refine stepp ha 114 (.string t3110.1) (by kernel_rfl) (by kernel_rfl) ?_; clear ha a; intro a ha
                refine stepp ha 115 (.int .i64 t3110.2) (by kernel_rfl) (by kernel_rfl) ?_; clear ha a; intro a ha
                refine stepp ha 24 (.string t3110.1) (by kernel_rfl) (by kernel_rfl) ?_; clear ha a; intro a ha
                refine stepp ha 25 (.int .i64 t3110.2) (by kernel_rfl) (by kernel_rfl) ?_; clear ha a; intro a ha
                refine endl ?_
                refine thenN (hK3109 _ _ ?_); clear hK3109
                refine wp_seq_k (fun K3114 hK3115 => ?_)
                refine wp_region_lit ?_
                refine stepp ha 116 (.int .i64 t3110.2) (by kernel_rfl) (by kernel_rfl) ?_; clear ha a; intro a ha
                refine stepp ha 117 (.bool (t3110.2 != 0)) (by kernel_rfl) (by kernel_rfl) ?_; clear ha a; intro a ha
                refine stepp ha 118 (.bool (t3110.2 != 0)) (by kernel_rfl) (by kernel_rfl) ?_; clear ha a; intro a ha
                by_cases hp3116 : t3110.2 = 0
                · skip
                  replace h := ite_pos' h hp3116
                  replace ha := ha.bool 118 (by kernel_rfl) (ineq_f hp3116)
                  refine stepp ha 119 (.string t3110.1) (by kernel_rfl) (by kernel_rfl) ?_; clear ha a; intro a ha
                  refine stepp ha 120 (.string a2) (by kernel_rfl) (by kernel_rfl) ?_; clear ha a; intro a ha
                  refine stepp ha 121 (.bool (!(t3110.1.toList == a2.toList))) (by kernel_rfl) (by kernel_rfl) ?_; clear ha a; intro a ha
                  refine stepp ha 122 (.bool (!(t3110.1.toList == a2.toList))) (by kernel_rfl) (by kernel_rfl) ?_; clear ha a; intro a ha
                  refine endl ?_
                  refine thenN (hK3115 _ _ ?_); clear hK3115
                  by_cases hp3117 : t3110.1 = a2
                  · skip
                    replace h := ite_pos' h hp3117
                    refine condF ha (by kernel_rfl) (by kernel_rfl) (t := (!(t3110.1.toList == a2.toList))) (str_ne_f hp3117) ?_
                    refine wp_skip ?_
                    refine thenN (hK3095 _ _ ?_); clear hK3095
                    refine wp_seq_k (fun K3122 hK3123 => ?_)
                    refine wp_region_lit ?_
                    obtain ⟨t3124, ht3125, h_⟩ := bind_some' h; clear h; have h := h_; clear h_
                    refine stepc ha 123 (by kernel_rfl) (by kernel_rfl) (headgatelaw25_wakes.calls K t3124 _ (HW.ca0 hG1) (HW.ca0 hG2) ht3125) ?_; clear ha a; rintro e W3126 ⟨rfl, HX3127⟩
                    refine ⟨_, rfl, ?_⟩; intro a ha; replace HW := HW.callw HX3127; clear HX3127
                    refine stepp ha 6 (.bool t3124) (by kernel_rfl) (by kernel_rfl) ?_; clear ha a; intro a ha
                    refine endl ?_
                    refine thenN (hK3123 _ _ ?_); clear hK3123
                    refine wp_ret ?_
                    obtain rfl := Option.some.inj h
                    exact finv ha _ _ rfl (.tmp (v := .bool t3124) (by kernel_rfl) .nil) (.bool t3124) rfl ⟨rfl, HW.pick [] [] (by decide) (by decide) rfl (by kernel_rfl)⟩
                  · skip
                    replace h := ite_neg' h hp3117
                    refine condT ha (by kernel_rfl) (by kernel_rfl) (t := (!(t3110.1.toList == a2.toList))) (str_ne_t hp3117) ?_
                    refine wp_seq_k (fun K3118 hK3119 => ?_)
                    refine wp_region_lit ?_
                    refine stepp ha 6 (.bool false) (by kernel_rfl) (by kernel_rfl) ?_; clear ha a; intro a ha
                    refine endl ?_
                    refine thenN (hK3119 _ _ ?_); clear hK3119
                    refine wp_ret ?_
                    refine thenR ?_
                    obtain rfl := Option.some.inj h
                    exact finv ha _ _ rfl (.tmp (v := .bool false) (by kernel_rfl) .nil) (.bool false) rfl ⟨rfl, HW.pick [] [] (by decide) (by decide) rfl (by kernel_rfl)⟩
                · skip
                  replace h := ite_neg' h hp3116
                  replace ha := ha.bool 118 (by kernel_rfl) (ineq_t hp3116)
                  refine stepo ha 119 (by kernel_rfl) ?_; clear ha a; intro a ha
                  refine stepo ha 120 (by kernel_rfl) ?_; clear ha a; intro a ha
                  refine stepo ha 121 (by kernel_rfl) ?_; clear ha a; intro a ha
                  refine stepp ha 122 (.bool true) (by kernel_rfl) (by kernel_rfl) ?_; clear ha a; intro a ha
                  refine endl ?_
                  refine thenN (hK3115 _ _ ?_); clear hK3115
                  refine condT ha (by kernel_rfl) (by kernel_rfl) (t := true) (rfl) ?_
                  refine wp_seq_k (fun K3120 hK3121 => ?_)
                  refine wp_region_lit ?_
                  refine stepp ha 6 (.bool false) (by kernel_rfl) (by kernel_rfl) ?_; clear ha a; intro a ha
                  refine endl ?_
                  refine thenN (hK3121 _ _ ?_); clear hK3121
                  refine wp_ret ?_
                  refine thenR ?_
                  obtain rfl := Option.some.inj h
                  exact finv ha _ _ rfl (.tmp (v := .bool false) (by kernel_rfl) .nil) (.bool false) rfl ⟨rfl, HW.pick [] [] (by decide) (by decide) rfl (by kernel_rfl)⟩
              · skip
                replace h := ite_neg' h hp3107
                refine condF ha (by kernel_rfl) (by kernel_rfl) (t := (t3098.2 == 0)) (ieq_f hp3107) ?_
                refine wp_skip ?_
                refine thenN (hK3095 _ _ ?_); clear hK3095
                refine wp_seq_k (fun K3128 hK3129 => ?_)
                refine wp_region_lit ?_
                obtain ⟨t3130, ht3131, h_⟩ := bind_some' h; clear h; have h := h_; clear h_
                refine stepc ha 123 (by kernel_rfl) (by kernel_rfl) (headgatelaw25_wakes.calls K t3130 _ (HW.ca0 hG1) (HW.ca0 hG2) ht3131) ?_; clear ha a; rintro e W3132 ⟨rfl, HX3133⟩
                refine ⟨_, rfl, ?_⟩; intro a ha; replace HW := HW.callw HX3133; clear HX3133
                refine stepp ha 6 (.bool t3130) (by kernel_rfl) (by kernel_rfl) ?_; clear ha a; intro a ha
                refine endl ?_
                refine thenN (hK3129 _ _ ?_); clear hK3129
                refine wp_ret ?_
                obtain rfl := Option.some.inj h
                exact finv ha _ _ rfl (.tmp (v := .bool t3130) (by kernel_rfl) .nil) (.bool t3130) rfl ⟨rfl, HW.pick [] [] (by decide) (by decide) rfl (by kernel_rfl)⟩
end Go.Proofs.YtceagilmillgfaaDoor.F
