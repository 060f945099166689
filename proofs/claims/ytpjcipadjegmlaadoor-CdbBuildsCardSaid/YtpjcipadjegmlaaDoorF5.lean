/- headgate/headgatelaw15.CdbBuilds: plain functions, and that the calls come to what they say. No condition. -/
import Derived.Test.YtpjcipadjegmlaaDoorFT
import Derived.Test.YtpjcipadjegmlaaDoorF15
import Derived.Test.YtpjcipadjegmlaaDoorF18
import Derived.Test.YtpjcipadjegmlaaDoorF21
import Derived.Test.YtpjcipadjegmlaaDoorF22
import Derived.Test.YtpjcipadjegmlaaDoorF23
import Derived.Test.YtpjcipadjegmlaaDoorF26
import Derived.Test.YtpjcipadjegmlaaDoorF48
namespace Go.Proofs.YtpjcipadjegmlaaDoor.F
open Go Go.RowKit Go.Proofs.YtpjcipadjegmlaaDoor.X
set_option linter.unusedVariables false
set_option linter.unusedSimpArgs false
/-! ### headgate/headgatelaw15.CdbBuilds: function 5 -/
def headgatelaw15_CdbBuilds.f (K : Nat) (a0 : T_cdb_Ask) (a1 : Int) : Option Bool :=
  (cdb_Build.f K a0).bind fun t3048 => ((headgatelaw15_own.f a0).bind fun t3054 => ((headgateref15_Build.f K t3054).bind fun t3058 => (if t3048.1 = t3058.1 then (if t3048.2 = t3058.2 then ((cdb_Type.f K a1).bind fun t3066 => ((headgateref15_Type.f a1).bind fun t3070 => (if t3066 = t3070 then ((cdb_Number.f a1).bind fun t3075 => ((headgateref15_Number.f K a1).bind fun t3079 => (if t3075 = t3079 then ((headgatelaw15_wakes.f K).bind fun t3084 => (some t3084)) else (some false)))) else (some false)))) else (some false)) else (some false))))
set_option maxRecDepth 100000 in
set_option maxHeartbeats 4000000 in
theorem headgatelaw15_CdbBuilds.calls (K : Nat) (a0 : T_cdb_Ask) (a1 : Int)  (r : Bool) (w : World) (hG0 : CA w 0 0 (encs (encI .i64) G_cdb_numbers).toArray) (hG1 : CA w 1 0 (encs T_cdb_form.enc G_cdb_forms).toArray) (h : headgatelaw15_CdbBuilds.f K a0 a1 = some r) :
    Calls Tryd.prog 5 #[.agg #[.int .i64 a0.f0, .int .i64 a0.f1, .int .i64 a0.f2, .bool a0.f3, .int .i64 a0.f4, .int .i64 a0.f5, .int .i64 a0.f6], .int .i64 a1] w (fun e W' => e = .returned (.bool r) ∧ Wd w W' [] [] ) := by
  refine sxstart (n := 45) (l := [(0, .agg #[.int .i64 a0.f0, .int .i64 a0.f1, .int .i64 a0.f2, .bool a0.f3, .int .i64 a0.f4, .int .i64 a0.f5, .int .i64 a0.f6]), (1, .int .i64 a1)]) Tryd.func5 rfl rfl (Nat.le_of_ble_eq_true KR) (subsA_cons rfl (subsA_cons rfl (subsA_nil _))) ?_
  intro a ha
  have HW := Wd.refl w
  unfold headgatelaw15_CdbBuilds.f at h
  refine wp_seq_k (fun K3042 hK3043 => ?_)
  refine wp_region_lit ?_
  refine stepnew ha HW 2 #[.int .i64 a0.f0, .int .i64 a0.f1, .int .i64 a0.f2, .bool a0.f3, .int .i64 a0.f4, .int .i64 a0.f5, .int .i64 a0.f6] 39 KR KR ?_; clear ha HW a; intro b3044 a W3045 HW ha
  refine stepp ha 4 (.bool false) KR KR ?_; clear ha a; intro a ha
  refine endl ?_
  refine thenN (hK3043 _ _ ?_); clear hK3043
  refine wp_seq_k (fun K3046 hK3047 => ?_)
  refine wp_region_lit ?_
  refine stepl ha 10 (HW.ca (i := 0) (b := b3044) (C := #[.int .i64 a0.f0, .int .i64 a0.f1, .int .i64 a0.f2, .bool a0.f3, .int .i64 a0.f4, .int .i64 a0.f5, .int .i64 a0.f6]) (T := 39) (fr := (0, 0)) KR) 39 0 (.tmp 2) (.agg #[.int .i64 a0.f0, .int .i64 a0.f1, .int .i64 a0.f2, .bool a0.f3, .int .i64 a0.f4, .int .i64 a0.f5, .int .i64 a0.f6]) rfl KR KR KR ?_; clear ha a; intro a ha
  obtain ⟨t3048, ht3049, h_⟩ := bind_some' h; clear h; have h := h_; clear h_
  refine stepc ha 11 KR KR (cdb_Build.calls K a0 t3048 _ (HW.ca0 hG0) (HW.ca0 hG1) ht3049) ?_; clear ha a; rintro e W3050 ⟨rfl, HX3051⟩
  refine ⟨_, rfl, ?_⟩; intro a ha; replace HW := HW.callw HX3051; clear HX3051
  refine stepp ha 9 (.tuple #[.string t3048.1, .int .i64 t3048.2]) KR KR ?_; clear ha a; intro a ha
  refine stepp ha 12 (.string t3048.1) KR KR ?_; clear ha a; intro a ha
  refine stepp ha 13 (.int .i64 t3048.2) KR KR ?_; clear ha a; intro a ha
  refine stepp ha 5 (.string t3048.1) KR KR ?_; clear ha a; intro a ha
  refine stepp ha 6 (.int .i64 t3048.2) KR KR ?_; clear ha a; intro a ha
  refine endl ?_
  refine thenN (hK3047 _ _ ?_); clear hK3047
  refine wp_seq_k (fun K3052 hK3053 => ?_)
  refine wp_region_lit ?_
  refine stepl ha 15 (HW.ca (i := 0) (b := b3044) (C := #[.int .i64 a0.f0, .int .i64 a0.f1, .int .i64 a0.f2, .bool a0.f3, .int .i64 a0.f4, .int .i64 a0.f5, .int .i64 a0.f6]) (T := 39) (fr := (0, 0)) KR) 39 0 (.tmp 2) (.agg #[.int .i64 a0.f0, .int .i64 a0.f1, .int .i64 a0.f2, .bool a0.f3, .int .i64 a0.f4, .int .i64 a0.f5, .int .i64 a0.f6]) rfl KR KR KR ?_; clear ha a; intro a ha
  obtain ⟨t3054, ht3055, h_⟩ := bind_some' h; clear h; have h := h_; clear h_
  refine stepc ha 16 KR KR (headgatelaw15_own.calls a0 t3054 _ ht3055) ?_; clear ha a; rintro e W3056 ⟨rfl, HX3057⟩
  refine ⟨_, rfl, ?_⟩; intro a ha; replace HW := HW.callw HX3057; clear HX3057
  obtain ⟨t3058, ht3059, h_⟩ := bind_some' h; clear h; have h := h_; clear h_
  refine stepc ha 17 KR KR (headgateref15_Build.calls K t3054 t3058 _ ht3059) ?_; clear ha a; rintro e W3060 ⟨rfl, HX3061⟩
  refine ⟨_, rfl, ?_⟩; intro a ha; replace HW := HW.callw HX3061; clear HX3061
  refine stepp ha 14 (.tuple #[.string t3058.1, .int .i64 t3058.2]) KR KR ?_; clear ha a; intro a ha
  refine stepp ha 18 (.string t3058.1) KR KR ?_; clear ha a; intro a ha
  refine stepp ha 19 (.int .i64 t3058.2) KR KR ?_; clear ha a; intro a ha
  refine stepp ha 7 (.string t3058.1) KR KR ?_; clear ha a; intro a ha
  refine stepp ha 8 (.int .i64 t3058.2) KR KR ?_; clear ha a; intro a ha
  refine endl ?_
  refine thenN (hK3053 _ _ ?_); clear hK3053
  refine wp_seq_k (fun K3062 hK3063 => ?_)
  refine wp_region_lit ?_
  refine stepp ha 20 (.string t3048.1) KR KR ?_; clear ha a; intro a ha
  refine stepp ha 21 (.string t3058.1) KR KR ?_; clear ha a; intro a ha
  refine stepp ha 22 (.bool (t3048.1.toList == t3058.1.toList)) KR KR ?_; clear ha a; intro a ha
  refine stepp ha 23 (.bool (t3048.1.toList == t3058.1.toList)) KR KR ?_; clear ha a; intro a ha
  by_cases hp3064 : t3048.1 = t3058.1
  · skip
    replace h := ite_pos' h hp3064
    replace ha := ha.bool 23 KR (str_eq_t hp3064)
    refine stepp ha 24 (.int .i64 t3048.2) KR KR ?_; clear ha a; intro a ha
    refine stepp ha 25 (.int .i64 t3058.2) KR KR ?_; clear ha a; intro a ha
    refine stepp ha 26 (.bool (t3048.2 == t3058.2)) KR KR ?_; clear ha a; intro a ha
    refine stepp ha 27 (.bool (t3048.2 == t3058.2)) KR KR ?_; clear ha a; intro a ha
    refine stepp ha 28 (.bool (t3048.2 == t3058.2)) KR KR ?_; clear ha a; intro a ha
    by_cases hp3065 : t3048.2 = t3058.2
    · skip
      replace h := ite_pos' h hp3065
      replace ha := ha.bool 28 KR (ieq_t hp3065)
      refine stepp ha 29 (.int .i64 a1) KR KR ?_; clear ha a; intro a ha
      obtain ⟨t3066, ht3067, h_⟩ := bind_some' h; clear h; have h := h_; clear h_
      refine stepc ha 30 KR KR (cdb_Type.calls K a1 t3066 _ (HW.ca0 hG0) ht3067) ?_; clear ha a; rintro e W3068 ⟨rfl, HX3069⟩
      refine ⟨_, rfl, ?_⟩; intro a ha; replace HW := HW.callw HX3069; clear HX3069
      refine stepp ha 31 (.int .i64 a1) KR KR ?_; clear ha a; intro a ha
      obtain ⟨t3070, ht3071, h_⟩ := bind_some' h; clear h; have h := h_; clear h_
      refine stepc ha 32 KR KR (headgateref15_Type.calls a1 t3070 _ ht3071) ?_; clear ha a; rintro e W3072 ⟨rfl, HX3073⟩
      refine ⟨_, rfl, ?_⟩; intro a ha; replace HW := HW.callw HX3073; clear HX3073
      refine stepp ha 33 (.bool (t3066 == t3070)) KR KR ?_; clear ha a; intro a ha
      refine stepp ha 34 (.bool (t3066 == t3070)) KR KR ?_; clear ha a; intro a ha
      refine stepp ha 35 (.bool (t3066 == t3070)) KR KR ?_; clear ha a; intro a ha
      by_cases hp3074 : t3066 = t3070
      · skip
        replace h := ite_pos' h hp3074
        replace ha := ha.bool 35 KR (ieq_t hp3074)
        refine stepp ha 36 (.int .i64 a1) KR KR ?_; clear ha a; intro a ha
        obtain ⟨t3075, ht3076, h_⟩ := bind_some' h; clear h; have h := h_; clear h_
        refine stepc ha 37 KR KR (cdb_Number.calls a1 t3075 _ (HW.ca0 hG0) ht3076) ?_; clear ha a; rintro e W3077 ⟨rfl, HX3078⟩
        refine ⟨_, rfl, ?_⟩; intro a ha; replace HW := HW.callw HX3078; clear HX3078
        refine stepp ha 38 (.int .i64 a1) KR KR ?_; clear ha a; intro a ha
        obtain ⟨t3079, ht3080, h_⟩ := bind_some' h; clear h; have h := h_; clear h_
        refine stepc ha 39 KR KR (headgateref15_Number.calls K a1 t3079 _ ht3080) ?_; clear ha a; rintro e W3081 ⟨rfl, HX3082⟩
        refine ⟨_, rfl, ?_⟩; intro a ha; replace HW := HW.callw HX3082; clear HX3082
        refine stepp ha 40 (.bool (t3075 == t3079)) KR KR ?_; clear ha a; intro a ha
        refine stepp ha 41 (.bool (t3075 == t3079)) KR KR ?_; clear ha a; intro a ha
        refine stepp ha 42 (.bool (t3075 == t3079)) KR KR ?_; clear ha a; intro a ha
        by_cases hp3083 : t3075 = t3079
        · skip
          replace h := ite_pos' h hp3083
          replace ha := ha.bool 42 KR (ieq_t hp3083)
          obtain ⟨t3084, ht3085, h_⟩ := bind_some' h; clear h; have h := h_; clear h_
          refine stepc ha 43 KR KR (headgatelaw15_wakes.calls K t3084 _ (HW.ca0 hG0) (HW.ca0 hG1) ht3085) ?_; clear ha a; rintro e W3086 ⟨rfl, HX3087⟩
          refine ⟨_, rfl, ?_⟩; intro a ha; replace HW := HW.callw HX3087; clear HX3087
          refine stepp ha 44 (.bool t3084) KR KR ?_; clear ha a; intro a ha
          refine stepp ha 4 (.bool t3084) KR KR ?_; clear ha a; intro a ha
          refine endl ?_
          refine thenN (hK3063 _ _ ?_); clear hK3063
          refine wp_ret ?_
          obtain rfl := Option.some.inj h
          exact finv ha _ _ rfl (.tmp (v := .bool t3084) KR .nil) (.bool t3084) rfl ⟨rfl, HW.pick [] [] (by decide) (by decide) rfl KR⟩
        · skip
          replace h := ite_neg' h hp3083
          replace ha := ha.bool 42 KR (ieq_f hp3083)
          refine stepo ha 43 KR ?_; clear ha a; intro a ha
          refine stepp ha 44 (.bool false) KR KR ?_; clear ha a; intro a ha
          refine stepp ha 4 (.bool false) KR KR ?_; clear ha a; intro a ha
          refine endl ?_
          refine thenN (hK3063 _ _ ?_); clear hK3063
          refine wp_ret ?_
          obtain rfl := Option.some.inj h
          exact finv ha _ _ rfl (.tmp (v := .bool false) KR .nil) (.bool false) rfl ⟨rfl, HW.pick [] [] (by decide) (by decide) rfl KR⟩
      · skip
        replace h := ite_neg' h hp3074
        replace ha := ha.bool 35 KR (ieq_f hp3074)
        refine stepo ha 36 KR ?_; clear ha a; intro a ha
        refine stepo ha 37 KR ?_; clear ha a; intro a ha
        refine stepo ha 38 KR ?_; clear ha a; intro a ha
        refine stepo ha 39 KR ?_; clear ha a; intro a ha
        refine stepo ha 40 KR ?_; clear ha a; intro a ha
        refine stepp ha 41 (.bool false) KR KR ?_; clear ha a; intro a ha
        refine stepp ha 42 (.bool false) KR KR ?_; clear ha a; intro a ha
        refine stepo ha 43 KR ?_; clear ha a; intro a ha
        refine stepp ha 44 (.bool false) KR KR ?_; clear ha a; intro a ha
        refine stepp ha 4 (.bool false) KR KR ?_; clear ha a; intro a ha
        refine endl ?_
        refine thenN (hK3063 _ _ ?_); clear hK3063
        refine wp_ret ?_
        obtain rfl := Option.some.inj h
        exact finv ha _ _ rfl (.tmp (v := .bool false) KR .nil) (.bool false) rfl ⟨rfl, HW.pick [] [] (by decide) (by decide) rfl KR⟩
    · skip
      replace h := ite_neg' h hp3065
      replace ha := ha.bool 28 KR (ieq_f hp3065)
      refine stepo ha 29 KR ?_; clear ha a; intro a ha
      refine stepo ha 30 KR ?_; clear ha a; intro a ha
      refine stepo ha 31 KR ?_; clear ha a; intro a ha
      refine stepo ha 32 KR ?_; clear ha a; intro a ha
      refine stepo ha 33 KR ?_; clear ha a; intro a ha
      refine stepp ha 34 (.bool false) KR KR ?_; clear ha a; intro a ha
      refine stepp ha 35 (.bool false) KR KR ?_; clear ha a; intro a ha
      refine stepo ha 36 KR ?_; clear ha a; intro a ha
      refine stepo ha 37 KR ?_; clear ha a; intro a ha
      refine stepo ha 38 KR ?_; clear ha a; intro a ha
      refine stepo ha 39 KR ?_; clear ha a; intro a ha
      refine stepo ha 40 KR ?_; clear ha a; intro a ha
      refine stepp ha 41 (.bool false) KR KR ?_; clear ha a; intro a ha
      refine stepp ha 42 (.bool false) KR KR ?_; clear ha a; intro a ha
      refine stepo ha 43 KR ?_; clear ha a; intro a ha
      refine stepp ha 44 (.bool false) KR KR ?_; clear ha a; intro a ha
      refine stepp ha 4 (.bool false) KR KR ?_; clear ha a; intro a ha
      refine endl ?_
      refine thenN (hK3063 _ _ ?_); clear hK3063
      refine wp_ret ?_
      obtain rfl := Option.some.inj h
      exact finv ha _ _ rfl (.tmp (v := .bool false) KR .nil) (.bool false) rfl ⟨rfl, HW.pick [] [] (by decide) (by decide) rfl KR⟩
  · skip
    replace h := ite_neg' h hp3064
    replace ha := ha.bool 23 KR (str_eq_f hp3064)
    refine stepo ha 24 KR ?_; clear ha a; intro a ha
    refine stepo ha 25 KR ?_; clear ha a; intro a ha
    refine stepo ha 26 KR ?_; clear ha a; intro a ha
    refine stepp ha 27 (.bool false) KR KR ?_; clear ha a; intro a ha
    refine stepp ha 28 (.bool false) KR KR ?_; clear ha a; intro a ha
    refine stepo ha 29 KR ?_; clear ha a; intro a ha
    refine stepo ha 30 KR ?_; clear ha a; intro a ha
    refine stepo ha 31 KR ?_; clear ha a; intro a ha
    refine stepo ha 32 KR ?_; clear ha a; intro a ha
    refine stepo ha 33 KR ?_; clear ha a; intro a ha
    refine stepp ha 34 (.bool false) KR KR ?_; clear ha a; intro a ha
    refine stepp ha 35 (.bool false) KR KR ?_; clear ha a; intro a ha
    refine stepo ha 36 KR ?_; clear ha a; intro a ha
    refine stepo ha 37 KR ?_; clear ha a; intro a ha
    refine stepo ha 38 KR ?_; clear ha a; intro a ha
    refine stepo ha 39 KR ?_; clear ha a; intro a ha
    refine stepo ha 40 KR ?_; clear ha a; intro a ha
    refine stepp ha 41 (.bool false) KR KR ?_; clear ha a; intro a ha
    refine stepp ha 42 (.bool false) KR KR ?_; clear ha a; intro a ha
    refine stepo ha 43 KR ?_; clear ha a; intro a ha
    refine stepp ha 44 (.bool false) KR KR ?_; clear ha a; intro a ha
    refine stepp ha 4 (.bool false) KR KR ?_; clear ha a; intro a ha
    refine endl ?_
    refine thenN (hK3063 _ _ ?_); clear hK3063
    refine wp_ret ?_
    obtain rfl := Option.some.inj h
    exact finv ha _ _ rfl (.tmp (v := .bool false) KR .nil) (.bool false) rfl ⟨rfl, HW.pick [] [] (by decide) (by decide) rfl KR⟩
end Go.Proofs.YtpjcipadjegmlaaDoor.F
