/- headgate/headgatelaw15.CdbBack: plain functions, and that the calls come to what they say. No condition. -/
import Derived.Test.YtpjcipadjegmlaaDoorFT
import Derived.Test.YtpjcipadjegmlaaDoorF15
import Derived.Test.YtpjcipadjegmlaaDoorF16
import Derived.Test.YtpjcipadjegmlaaDoorF18
import Derived.Test.YtpjcipadjegmlaaDoorF22
import Derived.Test.YtpjcipadjegmlaaDoorF48
namespace Go.Proofs.YtpjcipadjegmlaaDoor.F
open Go Go.RowKit Go.Proofs.YtpjcipadjegmlaaDoor.X
set_option linter.unusedVariables false
set_option linter.unusedSimpArgs false
/-! ### headgate/headgatelaw15.CdbBack: function 6 -/
def headgatelaw15_CdbBack.j0 (K : Nat) (a1 : ByteArray) : Option Bool :=
  (cdb_Parse.f K a1).bind fun t3156 => (if t3156.2 = 0 then ((cdb_Build.f K (⟨t3156.1.f0, t3156.1.f1, t3156.1.f2, t3156.1.f3, t3156.1.f4, t3156.1.f5, t3156.1.f6⟩ : T_cdb_Ask)).bind fun t3186 => ((cdb_Parse.f K t3186.1).bind fun t3192 => (if t3186.2 = 0 then (if t3192.2 = 0 then ((headgatelaw15_own.f (⟨t3192.1.f0, t3192.1.f1, t3192.1.f2, t3192.1.f3, t3192.1.f4, t3192.1.f5, t3192.1.f6⟩ : T_cdb_Ask)).bind fun t3203 => ((headgatelaw15_own.f (⟨t3156.1.f0, t3156.1.f1, t3156.1.f2, t3156.1.f3, t3156.1.f4, t3156.1.f5, t3156.1.f6⟩ : T_cdb_Ask)).bind fun t3207 => ((headgateref15_Same.f t3203 t3207).bind fun t3211 => (if t3211 = true then (if (t3186.1.size : Int) = (a1.size : Int) then ((headgatelaw15_wakes.f K).bind fun t3217 => (some t3217)) else (some false)) else (some false))))) else (some false)) else (some false)))) else (if t3156.2 = 150 then ((headgatelaw15_own.f (⟨t3156.1.f0, t3156.1.f1, t3156.1.f2, t3156.1.f3, t3156.1.f4, t3156.1.f5, t3156.1.f6⟩ : T_cdb_Ask)).bind fun t3171 => ((headgateref15_Same.f t3171 (⟨0, 0, 0, false, 0, 0, 0⟩ : T_headgateref15_Ask)).bind fun t3175 => (if t3175 = true then ((headgatelaw15_wakes.f K).bind fun t3180 => (some t3180)) else (some false)))) else (some false)))
def headgatelaw15_CdbBack.f (K : Nat) (a0 : T_cdb_Ask) (a1 : ByteArray) : Option Bool :=
  if (a1.size : Int) > 5000 then ((headgatelaw15_wakes.f K).bind fun t3099 => (some t3099)) else ((cdb_Build.f K a0).bind fun t3105 => (if t3105.2 = 0 then ((cdb_Parse.f K t3105.1).bind fun t3116 => (if t3116.2 = 0 then ((headgatelaw15_own.f a0).bind fun t3126 => ((headgatelaw15_own.f (⟨t3116.1.f0, t3116.1.f1, t3116.1.f2, t3116.1.f3, t3116.1.f4, t3116.1.f5, t3116.1.f6⟩ : T_cdb_Ask)).bind fun t3130 => ((headgateref15_Same.f t3126 t3130).bind fun t3134 => (if t3134 = true then ((cdb_Length.f K t3105.1).bind fun t3139 => (if (t3105.1.size : Int) = t3139 then (headgatelaw15_CdbBack.j0 K a1) else (some false))) else (some false))))) else (some false))) else (headgatelaw15_CdbBack.j0 K a1)))
set_option maxRecDepth 100000 in
set_option maxHeartbeats 4000000 in
theorem headgatelaw15_CdbBack.calls (K : Nat) (a0 : T_cdb_Ask) (a1 : ByteArray)  (r : Bool) (w : World) (hG0 : CA w 0 0 (encs (encI .i64) G_cdb_numbers).toArray) (hG1 : CA w 1 0 (encs T_cdb_form.enc G_cdb_forms).toArray) (h : headgatelaw15_CdbBack.f K a0 a1 = some r) :
    Calls Tryd.prog 6 #[.agg #[.int .i64 a0.f0, .int .i64 a0.f1, .int .i64 a0.f2, .bool a0.f3, .int .i64 a0.f4, .int .i64 a0.f5, .int .i64 a0.f6], .string a1] w (fun e W' => e = .returned (.bool r) ∧ Wd w W' [] [] ) := by
  refine sxstart (n := 99) (l := [(0, .agg #[.int .i64 a0.f0, .int .i64 a0.f1, .int .i64 a0.f2, .bool a0.f3, .int .i64 a0.f4, .int .i64 a0.f5, .int .i64 a0.f6]), (1, .string a1)]) Tryd.func6 rfl rfl (Nat.le_of_ble_eq_true KR) (subsA_cons rfl (subsA_cons rfl (subsA_nil _))) ?_
  intro a ha
  have HW := Wd.refl w
  unfold headgatelaw15_CdbBack.f at h
  refine wp_seq_k (fun K3088 hK3089 => ?_)
  refine wp_region_lit ?_
  refine stepnew ha HW 2 #[.int .i64 a0.f0, .int .i64 a0.f1, .int .i64 a0.f2, .bool a0.f3, .int .i64 a0.f4, .int .i64 a0.f5, .int .i64 a0.f6] 39 KR KR ?_; clear ha HW a; intro b3090 a W3091 HW ha
  refine stepp ha 4 (.bool false) KR KR ?_; clear ha a; intro a ha
  refine endl ?_
  refine thenN (hK3089 _ _ ?_); clear hK3089
  refine wp_seq_k (fun K3092 hK3093 => ?_)
  refine wp_seq_k (fun K3094 hK3095 => ?_)
  refine wp_region_lit ?_
  refine stepp ha 15 (.string a1) KR KR ?_; clear ha a; intro a ha
  refine stepp ha 16 (.int .i64 (a1.size : Int)) KR KR ?_; clear ha a; intro a ha
  refine stepp ha 17 (.bool (decide ((a1.size : Int) > 5000))) KR KR ?_; clear ha a; intro a ha
  refine endl ?_
  refine thenN (hK3095 _ _ ?_); clear hK3095
  by_cases hp3096 : (a1.size : Int) > 5000
  · skip
    replace h := ite_pos' h hp3096
    refine condT ha KR KR (t := decide ((a1.size : Int) > 5000)) (decide_eq_true hp3096) ?_
    refine wp_seq_k (fun K3097 hK3098 => ?_)
    refine wp_region_lit ?_
    obtain ⟨t3099, ht3100, h_⟩ := bind_some' h; clear h; have h := h_; clear h_
    refine stepc ha 18 KR KR (headgatelaw15_wakes.calls K t3099 _ (HW.ca0 hG0) (HW.ca0 hG1) ht3100) ?_; clear ha a; rintro e W3101 ⟨rfl, HX3102⟩
    refine ⟨_, rfl, ?_⟩; intro a ha; replace HW := HW.callw HX3102; clear HX3102
    refine stepp ha 4 (.bool t3099) KR KR ?_; clear ha a; intro a ha
    refine endl ?_
    refine thenN (hK3098 _ _ ?_); clear hK3098
    refine wp_ret ?_
    refine thenR ?_
    obtain rfl := Option.some.inj h
    exact finv ha _ _ rfl (.tmp (v := .bool t3099) KR .nil) (.bool t3099) rfl ⟨rfl, HW.pick [] [] (by decide) (by decide) rfl KR⟩
  · skip
    replace h := ite_neg' h hp3096
    refine condF ha KR KR (t := decide ((a1.size : Int) > 5000)) (decide_eq_false hp3096) ?_
    refine wp_skip ?_
    refine thenN (hK3093 _ _ ?_); clear hK3093
    refine wp_seq_k (fun K3103 hK3104 => ?_)
    refine wp_region_lit ?_
    refine stepl ha 20 (HW.ca (i := 0) (b := b3090) (C := #[.int .i64 a0.f0, .int .i64 a0.f1, .int .i64 a0.f2, .bool a0.f3, .int .i64 a0.f4, .int .i64 a0.f5, .int .i64 a0.f6]) (T := 39) (fr := (0, 0)) KR) 39 0 (.tmp 2) (.agg #[.int .i64 a0.f0, .int .i64 a0.f1, .int .i64 a0.f2, .bool a0.f3, .int .i64 a0.f4, .int .i64 a0.f5, .int .i64 a0.f6]) rfl KR KR KR ?_; clear ha a; intro a ha
    obtain ⟨t3105, ht3106, h_⟩ := bind_some' h; clear h; have h := h_; clear h_
    refine stepc ha 21 KR KR (cdb_Build.calls K a0 t3105 _ (HW.ca0 hG0) (HW.ca0 hG1) ht3106) ?_; clear ha a; rintro e W3107 ⟨rfl, HX3108⟩
    refine ⟨_, rfl, ?_⟩; intro a ha; replace HW := HW.callw HX3108; clear HX3108
    refine stepp ha 19 (.tuple #[.string t3105.1, .int .i64 t3105.2]) KR KR ?_; clear ha a; intro a ha
    refine stepp ha 22 (.string t3105.1) KR KR ?_; clear ha a; intro a ha
    refine stepp ha 23 (.int .i64 t3105.2) KR KR ?_; clear ha a; intro a ha
    refine stepp ha 5 (.string t3105.1) KR KR ?_; clear ha a; intro a ha
    refine stepp ha 6 (.int .i64 t3105.2) KR KR ?_; clear ha a; intro a ha
    refine endl ?_
    refine thenN (hK3104 _ _ ?_); clear hK3104
    refine wp_seq_k (fun K3109 hK3110 => ?_)
    refine cutn (fun a W3153 => headgatelaw15_CdbBack.j0 K a1 = some r ∧ Has 99 [(1, .string a1)] a ∧ Wd w W3153 [] []) ?_ ?_
    · skip
      refine wp_seq_k (fun K3111 hK3112 => ?_)
      refine wp_region_lit ?_
      refine stepp ha 24 (.int .i64 t3105.2) KR KR ?_; clear ha a; intro a ha
      refine stepp ha 25 (.bool (t3105.2 == 0)) KR KR ?_; clear ha a; intro a ha
      refine endl ?_
      refine thenN (hK3112 _ _ ?_); clear hK3112
      by_cases hp3113 : t3105.2 = 0
      · skip
        replace h := ite_pos' h hp3113
        refine condT ha KR KR (t := (t3105.2 == 0)) (ieq_t hp3113) ?_
        refine wp_seq_k (fun K3114 hK3115 => ?_)
        refine wp_region_lit ?_
        refine stepp ha 27 (.string t3105.1) KR KR ?_; clear ha a; intro a ha
        obtain ⟨t3116, ht3117, h_⟩ := bind_some' h; clear h; have h := h_; clear h_
        refine stepc ha 28 KR KR (cdb_Parse.calls K t3105.1 t3116 _ (HW.ca0 hG0) (HW.ca0 hG1) ht3117) ?_; clear ha a; rintro e W3118 ⟨rfl, HX3119⟩
        refine ⟨_, rfl, ?_⟩; intro a ha; replace HW := HW.callw HX3119; clear HX3119
        refine stepp ha 26 (.tuple #[.agg #[.int .i64 t3116.1.f0, .int .i64 t3116.1.f1, .int .i64 t3116.1.f2, .bool t3116.1.f3, .int .i64 t3116.1.f4, .int .i64 t3116.1.f5, .int .i64 t3116.1.f6], .int .i64 t3116.2]) KR KR ?_; clear ha a; intro a ha
        refine stepp ha 29 (.agg #[.int .i64 t3116.1.f0, .int .i64 t3116.1.f1, .int .i64 t3116.1.f2, .bool t3116.1.f3, .int .i64 t3116.1.f4, .int .i64 t3116.1.f5, .int .i64 t3116.1.f6]) KR KR ?_; clear ha a; intro a ha
        refine stepp ha 30 (.int .i64 t3116.2) KR KR ?_; clear ha a; intro a ha
        refine stepnew ha HW 7 #[.int .i64 0, .int .i64 0, .int .i64 0, .bool false, .int .i64 0, .int .i64 0, .int .i64 0] 39 KR KR ?_; clear ha HW a; intro b3120 a W3121 HW ha
        refine stepst ha HW 0 (b := b3120) (C := #[.int .i64 0, .int .i64 0, .int .i64 0, .bool false, .int .i64 0, .int .i64 0, .int .i64 0]) (T := 39) KR 39 0 (.tmp 7) (.tmp 29) (.agg #[.int .i64 t3116.1.f0, .int .i64 t3116.1.f1, .int .i64 t3116.1.f2, .bool t3116.1.f3, .int .i64 t3116.1.f4, .int .i64 t3116.1.f5, .int .i64 t3116.1.f6]) #[.int .i64 t3116.1.f0, .int .i64 t3116.1.f1, .int .i64 t3116.1.f2, .bool t3116.1.f3, .int .i64 t3116.1.f4, .int .i64 t3116.1.f5, .int .i64 t3116.1.f6] rfl KR KR KR KR KR KR KR ?_; clear ha HW a; intro a W3122 HW ha
        refine stepp ha 8 (.int .i64 t3116.2) KR KR ?_; clear ha a; intro a ha
        refine endl ?_
        refine thenN (hK3115 _ _ ?_); clear hK3115
        refine wp_seq_k (fun K3123 hK3124 => ?_)
        by_cases hp3125 : t3116.2 = 0
        · skip
          replace h := ite_pos' h hp3125
          obtain ⟨t3126, ht3127, h_⟩ := bind_some' h; clear h; have h := h_; clear h_
          obtain ⟨t3130, ht3131, h_⟩ := bind_some' h; clear h; have h := h_; clear h_
          obtain ⟨t3134, ht3135, h_⟩ := bind_some' h; clear h; have h := h_; clear h_
          by_cases hp3138 : t3134 = true
          · skip
            replace h := ite_pos' h hp3138
            obtain ⟨t3139, ht3140, h_⟩ := bind_some' h; clear h; have h := h_; clear h_
            refine regionG 17 KR KR ha HW [.fix (.int .i64 t3116.2), .fix (.bool (t3116.2 != 0)), .fix (.bool (t3116.2 != 0)), .fix (.agg #[.int .i64 a0.f0, .int .i64 a0.f1, .int .i64 a0.f2, .bool a0.f3, .int .i64 a0.f4, .int .i64 a0.f5, .int .i64 a0.f6]), .fix (.agg #[.int .i64 t3126.f0, .int .i64 t3126.f1, .int .i64 t3126.f2, .bool t3126.f3, .int .i64 t3126.f4, .int .i64 t3126.f5, .int .i64 t3126.f6]), .fix (.agg #[.int .i64 t3116.1.f0, .int .i64 t3116.1.f1, .int .i64 t3116.1.f2, .bool t3116.1.f3, .int .i64 t3116.1.f4, .int .i64 t3116.1.f5, .int .i64 t3116.1.f6]), .fix (.agg #[.int .i64 t3130.f0, .int .i64 t3130.f1, .int .i64 t3130.f2, .bool t3130.f3, .int .i64 t3130.f4, .int .i64 t3130.f5, .int .i64 t3130.f6]), .fix (.bool t3134), .fix (.bool (!t3134)), .fix (.bool (!t3134)), .fix (.bool (!t3134)), .fix (.string t3105.1), .fix (.int .i64 (t3105.1.size : Int)), .fix (.string t3105.1), .fix (.int .i64 t3139), .fix (.bool ((t3105.1.size : Int) != t3139)), .fix (.bool ((t3105.1.size : Int) != t3139))] ?_ ?_
            · skip
              refine ⟨?_, ?_, ?_, ?_, ?_, ?_, ?_, ?_, ?_, ?_, ?_, ?_, ?_, ?_, ?_, ?_, ?_, trivial⟩
              · skip
                intro a wr hn hd HW hs; have ha := hasNil hn hd
                have ha := ha.add (seeE hs 8 (.int .i64 t3116.2) KR KR)
                refine yStep ha 31 KR ?_; intro l_ ha HK
                refine stepp ha 31 (.int .i64 t3116.2) KR KR ?_; intro ax hax; exact HK _ _ _ hax rfl (Below.refl _ _)
              · skip
                intro a wr hn hd HW hs; have ha := hasNil hn hd
                have ha := ha.add (seeF hs 31 0 (.int .i64 t3116.2) KR KR)
                refine yStep ha 32 KR ?_; intro l_ ha HK
                refine stepp ha 32 (.bool (t3116.2 != 0)) KR KR ?_; intro ax hax; exact HK _ _ _ hax rfl (Below.refl _ _)
              · skip
                intro a wr hn hd HW hs; have ha := hasNil hn hd
                have ha := ha.add (seeF hs 32 1 (.bool (t3116.2 != 0)) KR KR)
                refine yStep ha 33 KR ?_; intro l_ ha HK
                refine stepp ha 33 (.bool (t3116.2 != 0)) KR KR ?_; intro ax hax; exact HK _ _ _ hax rfl (Below.refl _ _)
              · skip
                intro a wr hn hd HW hs; have ha := hasNil hn hd
                have ha := ha.add (seeE hs 2 (.pointer (some ⟨b3090, 0, none⟩)) KR KR)
                have ha := ha.add (seeF hs 33 2 (.bool (t3116.2 != 0)) KR KR)
                have ha := ha.bool 33 KR (ineq_f hp3125)
                refine yStep ha 34 KR ?_; intro l_ ha HK
                refine stepl ha 34 (HW.ca (i := 1) (b := b3090) (C := #[.int .i64 a0.f0, .int .i64 a0.f1, .int .i64 a0.f2, .bool a0.f3, .int .i64 a0.f4, .int .i64 a0.f5, .int .i64 a0.f6]) (T := 39) (fr := (0, 0)) KR) 39 0 (.tmp 2) (.agg #[.int .i64 a0.f0, .int .i64 a0.f1, .int .i64 a0.f2, .bool a0.f3, .int .i64 a0.f4, .int .i64 a0.f5, .int .i64 a0.f6]) rfl KR KR KR ?_; intro ax hax; exact HK _ _ _ hax rfl (Below.refl _ _)
              · skip
                intro a wr hn hd HW hs; have ha := hasNil hn hd
                have ha := ha.add (seeF hs 34 3 (.agg #[.int .i64 a0.f0, .int .i64 a0.f1, .int .i64 a0.f2, .bool a0.f3, .int .i64 a0.f4, .int .i64 a0.f5, .int .i64 a0.f6]) KR KR)
                have ha := ha.add (seeF hs 33 2 (.bool (t3116.2 != 0)) KR KR)
                have ha := ha.bool 33 KR (ineq_f hp3125)
                refine yStep ha 35 KR ?_; intro l_ ha HK
                refine stepc ha 35 KR KR (headgatelaw15_own.calls a0 t3126 _ ht3127) ?_; rintro e W3128 ⟨rfl, HX3129⟩
                refine ⟨_, rfl, ?_⟩; intro ax hax; exact HK _ _ _ hax rfl HX3129.below
              · skip
                intro a wr hn hd HW hs; have ha := hasNil hn hd
                have ha := ha.add (seeE hs 7 (.pointer (some ⟨b3120, 0, none⟩)) KR KR)
                have ha := ha.add (seeF hs 33 2 (.bool (t3116.2 != 0)) KR KR)
                have ha := ha.bool 33 KR (ineq_f hp3125)
                refine yStep ha 36 KR ?_; intro l_ ha HK
                refine stepl ha 36 (HW.ca (i := 0) (b := b3120) (C := #[.int .i64 t3116.1.f0, .int .i64 t3116.1.f1, .int .i64 t3116.1.f2, .bool t3116.1.f3, .int .i64 t3116.1.f4, .int .i64 t3116.1.f5, .int .i64 t3116.1.f6]) (T := 39) (fr := (0, 0)) KR) 39 0 (.tmp 7) (.agg #[.int .i64 t3116.1.f0, .int .i64 t3116.1.f1, .int .i64 t3116.1.f2, .bool t3116.1.f3, .int .i64 t3116.1.f4, .int .i64 t3116.1.f5, .int .i64 t3116.1.f6]) rfl KR KR KR ?_; intro ax hax; exact HK _ _ _ hax rfl (Below.refl _ _)
              · skip
                intro a wr hn hd HW hs; have ha := hasNil hn hd
                have ha := ha.add (seeF hs 36 5 (.agg #[.int .i64 t3116.1.f0, .int .i64 t3116.1.f1, .int .i64 t3116.1.f2, .bool t3116.1.f3, .int .i64 t3116.1.f4, .int .i64 t3116.1.f5, .int .i64 t3116.1.f6]) KR KR)
                have ha := ha.add (seeF hs 33 2 (.bool (t3116.2 != 0)) KR KR)
                have ha := ha.bool 33 KR (ineq_f hp3125)
                refine yStep ha 37 KR ?_; intro l_ ha HK
                refine stepc ha 37 KR KR (headgatelaw15_own.calls (⟨t3116.1.f0, t3116.1.f1, t3116.1.f2, t3116.1.f3, t3116.1.f4, t3116.1.f5, t3116.1.f6⟩ : T_cdb_Ask) t3130 _ ht3131) ?_; rintro e W3132 ⟨rfl, HX3133⟩
                refine ⟨_, rfl, ?_⟩; intro ax hax; exact HK _ _ _ hax rfl HX3133.below
              · skip
                intro a wr hn hd HW hs; have ha := hasNil hn hd
                have ha := ha.add (seeF hs 35 4 (.agg #[.int .i64 t3126.f0, .int .i64 t3126.f1, .int .i64 t3126.f2, .bool t3126.f3, .int .i64 t3126.f4, .int .i64 t3126.f5, .int .i64 t3126.f6]) KR KR)
                have ha := ha.add (seeF hs 37 6 (.agg #[.int .i64 t3130.f0, .int .i64 t3130.f1, .int .i64 t3130.f2, .bool t3130.f3, .int .i64 t3130.f4, .int .i64 t3130.f5, .int .i64 t3130.f6]) KR KR)
                have ha := ha.add (seeF hs 33 2 (.bool (t3116.2 != 0)) KR KR)
                have ha := ha.bool 33 KR (ineq_f hp3125)
                refine yStep ha 38 KR ?_; intro l_ ha HK
                refine stepc ha 38 KR KR (headgateref15_Same.calls t3126 t3130 t3134 _ ht3135) ?_; rintro e W3136 ⟨rfl, HX3137⟩
                refine ⟨_, rfl, ?_⟩; intro ax hax; exact HK _ _ _ hax rfl HX3137.below
              · skip
                intro a wr hn hd HW hs; have ha := hasNil hn hd
                have ha := ha.add (seeF hs 38 7 (.bool t3134) KR KR)
                have ha := ha.add (seeF hs 33 2 (.bool (t3116.2 != 0)) KR KR)
                have ha := ha.bool 33 KR (ineq_f hp3125)
                refine yStep ha 39 KR ?_; intro l_ ha HK
                refine stepp ha 39 (.bool (!t3134)) KR KR ?_; intro ax hax; exact HK _ _ _ hax rfl (Below.refl _ _)
              · skip
                intro a wr hn hd HW hs; have ha := hasNil hn hd
                have ha := ha.add (seeF hs 33 2 (.bool (t3116.2 != 0)) KR KR)
                have ha := ha.bool 33 KR (ineq_f hp3125)
                have ha := ha.add (seeF hs 39 8 (.bool (!t3134)) KR KR)
                refine yStep ha 40 KR ?_; intro l_ ha HK
                refine stepp ha 40 (.bool (!t3134)) KR KR ?_; intro ax hax; exact HK _ _ _ hax rfl (Below.refl _ _)
              · skip
                intro a wr hn hd HW hs; have ha := hasNil hn hd
                have ha := ha.add (seeF hs 40 9 (.bool (!t3134)) KR KR)
                refine yStep ha 41 KR ?_; intro l_ ha HK
                refine stepp ha 41 (.bool (!t3134)) KR KR ?_; intro ax hax; exact HK _ _ _ hax rfl (Below.refl _ _)
              · skip
                intro a wr hn hd HW hs; have ha := hasNil hn hd
                have ha := ha.add (seeE hs 5 (.string t3105.1) KR KR)
                have ha := ha.add (seeF hs 41 10 (.bool (!t3134)) KR KR)
                have ha := ha.bool 41 KR (not_f (hp3138))
                refine yStep ha 42 KR ?_; intro l_ ha HK
                refine stepp ha 42 (.string t3105.1) KR KR ?_; intro ax hax; exact HK _ _ _ hax rfl (Below.refl _ _)
              · skip
                intro a wr hn hd HW hs; have ha := hasNil hn hd
                have ha := ha.add (seeF hs 42 11 (.string t3105.1) KR KR)
                have ha := ha.add (seeF hs 41 10 (.bool (!t3134)) KR KR)
                have ha := ha.bool 41 KR (not_f (hp3138))
                refine yStep ha 43 KR ?_; intro l_ ha HK
                refine stepp ha 43 (.int .i64 (t3105.1.size : Int)) KR KR ?_; intro ax hax; exact HK _ _ _ hax rfl (Below.refl _ _)
              · skip
                intro a wr hn hd HW hs; have ha := hasNil hn hd
                have ha := ha.add (seeE hs 5 (.string t3105.1) KR KR)
                have ha := ha.add (seeF hs 41 10 (.bool (!t3134)) KR KR)
                have ha := ha.bool 41 KR (not_f (hp3138))
                refine yStep ha 44 KR ?_; intro l_ ha HK
                refine stepp ha 44 (.string t3105.1) KR KR ?_; intro ax hax; exact HK _ _ _ hax rfl (Below.refl _ _)
              · skip
                intro a wr hn hd HW hs; have ha := hasNil hn hd
                have ha := ha.add (seeF hs 44 13 (.string t3105.1) KR KR)
                have ha := ha.add (seeF hs 41 10 (.bool (!t3134)) KR KR)
                have ha := ha.bool 41 KR (not_f (hp3138))
                refine yStep ha 45 KR ?_; intro l_ ha HK
                refine stepc ha 45 KR KR (cdb_Length.calls K t3105.1 t3139 _ (HW.ca0 hG1) ht3140) ?_; rintro e W3141 ⟨rfl, HX3142⟩
                refine ⟨_, rfl, ?_⟩; intro ax hax; exact HK _ _ _ hax rfl HX3142.below
              · skip
                intro a wr hn hd HW hs; have ha := hasNil hn hd
                have ha := ha.add (seeF hs 43 12 (.int .i64 (t3105.1.size : Int)) KR KR)
                have ha := ha.add (seeF hs 45 14 (.int .i64 t3139) KR KR)
                have ha := ha.add (seeF hs 41 10 (.bool (!t3134)) KR KR)
                have ha := ha.bool 41 KR (not_f (hp3138))
                refine yStep ha 46 KR ?_; intro l_ ha HK
                refine stepp ha 46 (.bool ((t3105.1.size : Int) != t3139)) KR KR ?_; intro ax hax; exact HK _ _ _ hax rfl (Below.refl _ _)
              · skip
                intro a wr hn hd HW hs; have ha := hasNil hn hd
                have ha := ha.add (seeF hs 41 10 (.bool (!t3134)) KR KR)
                have ha := ha.bool 41 KR (not_f (hp3138))
                have ha := ha.add (seeF hs 46 15 (.bool ((t3105.1.size : Int) != t3139)) KR KR)
                refine yStep ha 47 KR ?_; intro l_ ha HK
                refine stepp ha 47 (.bool ((t3105.1.size : Int) != t3139)) KR KR ?_; intro ax hax; exact HK _ _ _ hax rfl (Below.refl _ _)
            · skip
              intro a W3143 ha HW he hf
              replace ha := ha.add (he 1 (.string a1) KR KR)
              replace ha := ha.add (gotF (m := 17) (j := 16) (d := 47) (v := .bool ((t3105.1.size : Int) != t3139)) hf KR KR KR)
              clear he hf
              refine endl ?_
              refine thenN (hK3124 _ _ ?_); clear hK3124
              by_cases hp3146 : (t3105.1.size : Int) = t3139
              · skip
                replace h := ite_pos' h hp3146
                refine condF ha KR KR (t := ((t3105.1.size : Int) != t3139)) (ineq_f hp3146) ?_
                refine wp_skip ?_
                exact thenN ⟨h, ha.sub (subs_cons KR (subs_nil _)), HW.pick [] [] (by decide) (by decide) KR KR⟩
              · skip
                replace h := ite_neg' h hp3146
                refine condT ha KR KR (t := ((t3105.1.size : Int) != t3139)) (ineq_t hp3146) ?_
                refine wp_seq_k (fun K3147 hK3148 => ?_)
                refine wp_region_lit ?_
                refine stepp ha 4 (.bool false) KR KR ?_; clear ha a; intro a ha
                refine endl ?_
                refine thenN (hK3148 _ _ ?_); clear hK3148
                refine wp_ret ?_
                refine thenR ?_
                obtain rfl := Option.some.inj h
                exact finv ha _ _ rfl (.tmp (v := .bool false) KR .nil) (.bool false) rfl ⟨rfl, HW.pick [] [] (by decide) (by decide) rfl KR⟩
          · skip
            replace h := ite_neg' h hp3138
            refine regionG 17 KR KR ha HW [.fix (.int .i64 t3116.2), .fix (.bool (t3116.2 != 0)), .fix (.bool (t3116.2 != 0)), .fix (.agg #[.int .i64 a0.f0, .int .i64 a0.f1, .int .i64 a0.f2, .bool a0.f3, .int .i64 a0.f4, .int .i64 a0.f5, .int .i64 a0.f6]), .fix (.agg #[.int .i64 t3126.f0, .int .i64 t3126.f1, .int .i64 t3126.f2, .bool t3126.f3, .int .i64 t3126.f4, .int .i64 t3126.f5, .int .i64 t3126.f6]), .fix (.agg #[.int .i64 t3116.1.f0, .int .i64 t3116.1.f1, .int .i64 t3116.1.f2, .bool t3116.1.f3, .int .i64 t3116.1.f4, .int .i64 t3116.1.f5, .int .i64 t3116.1.f6]), .fix (.agg #[.int .i64 t3130.f0, .int .i64 t3130.f1, .int .i64 t3130.f2, .bool t3130.f3, .int .i64 t3130.f4, .int .i64 t3130.f5, .int .i64 t3130.f6]), .fix (.bool t3134), .fix (.bool (!t3134)), .fix (.bool (!t3134)), .fix (.bool (!t3134)), .fix undef, .fix undef, .fix undef, .fix undef, .fix undef, .fix (.bool true)] ?_ ?_
            · skip
              refine ⟨?_, ?_, ?_, ?_, ?_, ?_, ?_, ?_, ?_, ?_, ?_, ?_, ?_, ?_, ?_, ?_, ?_, trivial⟩
              · skip
                intro a wr hn hd HW hs; have ha := hasNil hn hd
                have ha := ha.add (seeE hs 8 (.int .i64 t3116.2) KR KR)
                refine yStep ha 31 KR ?_; intro l_ ha HK
                refine stepp ha 31 (.int .i64 t3116.2) KR KR ?_; intro ax hax; exact HK _ _ _ hax rfl (Below.refl _ _)
              · skip
                intro a wr hn hd HW hs; have ha := hasNil hn hd
                have ha := ha.add (seeF hs 31 0 (.int .i64 t3116.2) KR KR)
                refine yStep ha 32 KR ?_; intro l_ ha HK
                refine stepp ha 32 (.bool (t3116.2 != 0)) KR KR ?_; intro ax hax; exact HK _ _ _ hax rfl (Below.refl _ _)
              · skip
                intro a wr hn hd HW hs; have ha := hasNil hn hd
                have ha := ha.add (seeF hs 32 1 (.bool (t3116.2 != 0)) KR KR)
                refine yStep ha 33 KR ?_; intro l_ ha HK
                refine stepp ha 33 (.bool (t3116.2 != 0)) KR KR ?_; intro ax hax; exact HK _ _ _ hax rfl (Below.refl _ _)
              · skip
                intro a wr hn hd HW hs; have ha := hasNil hn hd
                have ha := ha.add (seeE hs 2 (.pointer (some ⟨b3090, 0, none⟩)) KR KR)
                have ha := ha.add (seeF hs 33 2 (.bool (t3116.2 != 0)) KR KR)
                have ha := ha.bool 33 KR (ineq_f hp3125)
                refine yStep ha 34 KR ?_; intro l_ ha HK
                refine stepl ha 34 (HW.ca (i := 1) (b := b3090) (C := #[.int .i64 a0.f0, .int .i64 a0.f1, .int .i64 a0.f2, .bool a0.f3, .int .i64 a0.f4, .int .i64 a0.f5, .int .i64 a0.f6]) (T := 39) (fr := (0, 0)) KR) 39 0 (.tmp 2) (.agg #[.int .i64 a0.f0, .int .i64 a0.f1, .int .i64 a0.f2, .bool a0.f3, .int .i64 a0.f4, .int .i64 a0.f5, .int .i64 a0.f6]) rfl KR KR KR ?_; intro ax hax; exact HK _ _ _ hax rfl (Below.refl _ _)
              · skip
                intro a wr hn hd HW hs; have ha := hasNil hn hd
                have ha := ha.add (seeF hs 34 3 (.agg #[.int .i64 a0.f0, .int .i64 a0.f1, .int .i64 a0.f2, .bool a0.f3, .int .i64 a0.f4, .int .i64 a0.f5, .int .i64 a0.f6]) KR KR)
                have ha := ha.add (seeF hs 33 2 (.bool (t3116.2 != 0)) KR KR)
                have ha := ha.bool 33 KR (ineq_f hp3125)
                refine yStep ha 35 KR ?_; intro l_ ha HK
                refine stepc ha 35 KR KR (headgatelaw15_own.calls a0 t3126 _ ht3127) ?_; rintro e W3128 ⟨rfl, HX3129⟩
                refine ⟨_, rfl, ?_⟩; intro ax hax; exact HK _ _ _ hax rfl HX3129.below
              · skip
                intro a wr hn hd HW hs; have ha := hasNil hn hd
                have ha := ha.add (seeE hs 7 (.pointer (some ⟨b3120, 0, none⟩)) KR KR)
                have ha := ha.add (seeF hs 33 2 (.bool (t3116.2 != 0)) KR KR)
                have ha := ha.bool 33 KR (ineq_f hp3125)
                refine yStep ha 36 KR ?_; intro l_ ha HK
                refine stepl ha 36 (HW.ca (i := 0) (b := b3120) (C := #[.int .i64 t3116.1.f0, .int .i64 t3116.1.f1, .int .i64 t3116.1.f2, .bool t3116.1.f3, .int .i64 t3116.1.f4, .int .i64 t3116.1.f5, .int .i64 t3116.1.f6]) (T := 39) (fr := (0, 0)) KR) 39 0 (.tmp 7) (.agg #[.int .i64 t3116.1.f0, .int .i64 t3116.1.f1, .int .i64 t3116.1.f2, .bool t3116.1.f3, .int .i64 t3116.1.f4, .int .i64 t3116.1.f5, .int .i64 t3116.1.f6]) rfl KR KR KR ?_; intro ax hax; exact HK _ _ _ hax rfl (Below.refl _ _)
              · skip
                intro a wr hn hd HW hs; have ha := hasNil hn hd
                have ha := ha.add (seeF hs 36 5 (.agg #[.int .i64 t3116.1.f0, .int .i64 t3116.1.f1, .int .i64 t3116.1.f2, .bool t3116.1.f3, .int .i64 t3116.1.f4, .int .i64 t3116.1.f5, .int .i64 t3116.1.f6]) KR KR)
                have ha := ha.add (seeF hs 33 2 (.bool (t3116.2 != 0)) KR KR)
                have ha := ha.bool 33 KR (ineq_f hp3125)
                refine yStep ha 37 KR ?_; intro l_ ha HK
                refine stepc ha 37 KR KR (headgatelaw15_own.calls (⟨t3116.1.f0, t3116.1.f1, t3116.1.f2, t3116.1.f3, t3116.1.f4, t3116.1.f5, t3116.1.f6⟩ : T_cdb_Ask) t3130 _ ht3131) ?_; rintro e W3132 ⟨rfl, HX3133⟩
                refine ⟨_, rfl, ?_⟩; intro ax hax; exact HK _ _ _ hax rfl HX3133.below
              · skip
                intro a wr hn hd HW hs; have ha := hasNil hn hd
                have ha := ha.add (seeF hs 35 4 (.agg #[.int .i64 t3126.f0, .int .i64 t3126.f1, .int .i64 t3126.f2, .bool t3126.f3, .int .i64 t3126.f4, .int .i64 t3126.f5, .int .i64 t3126.f6]) KR KR)
                have ha := ha.add (seeF hs 37 6 (.agg #[.int .i64 t3130.f0, .int .i64 t3130.f1, .int .i64 t3130.f2, .bool t3130.f3, .int .i64 t3130.f4, .int .i64 t3130.f5, .int .i64 t3130.f6]) KR KR)
                have ha := ha.add (seeF hs 33 2 (.bool (t3116.2 != 0)) KR KR)
                have ha := ha.bool 33 KR (ineq_f hp3125)
                refine yStep ha 38 KR ?_; intro l_ ha HK
                refine stepc ha 38 KR KR (headgateref15_Same.calls t3126 t3130 t3134 _ ht3135) ?_; rintro e W3136 ⟨rfl, HX3137⟩
                refine ⟨_, rfl, ?_⟩; intro ax hax; exact HK _ _ _ hax rfl HX3137.below
              · skip
                intro a wr hn hd HW hs; have ha := hasNil hn hd
                have ha := ha.add (seeF hs 38 7 (.bool t3134) KR KR)
                have ha := ha.add (seeF hs 33 2 (.bool (t3116.2 != 0)) KR KR)
                have ha := ha.bool 33 KR (ineq_f hp3125)
                refine yStep ha 39 KR ?_; intro l_ ha HK
                refine stepp ha 39 (.bool (!t3134)) KR KR ?_; intro ax hax; exact HK _ _ _ hax rfl (Below.refl _ _)
              · skip
                intro a wr hn hd HW hs; have ha := hasNil hn hd
                have ha := ha.add (seeF hs 33 2 (.bool (t3116.2 != 0)) KR KR)
                have ha := ha.bool 33 KR (ineq_f hp3125)
                have ha := ha.add (seeF hs 39 8 (.bool (!t3134)) KR KR)
                refine yStep ha 40 KR ?_; intro l_ ha HK
                refine stepp ha 40 (.bool (!t3134)) KR KR ?_; intro ax hax; exact HK _ _ _ hax rfl (Below.refl _ _)
              · skip
                intro a wr hn hd HW hs; have ha := hasNil hn hd
                have ha := ha.add (seeF hs 40 9 (.bool (!t3134)) KR KR)
                refine yStep ha 41 KR ?_; intro l_ ha HK
                refine stepp ha 41 (.bool (!t3134)) KR KR ?_; intro ax hax; exact HK _ _ _ hax rfl (Below.refl _ _)
              · skip
                intro a wr hn hd HW hs; have ha := hasNil hn hd
                have ha := ha.add (seeE hs 5 (.string t3105.1) KR KR)
                have ha := ha.add (seeF hs 41 10 (.bool (!t3134)) KR KR)
                have ha := ha.bool 41 KR (not_t (bool_f hp3138))
                exact yo ha KR rfl
              · skip
                intro a wr hn hd HW hs; have ha := hasNil hn hd
                have ha := ha.add (seeF hs 42 11 (undef) KR KR)
                have ha := ha.add (seeF hs 41 10 (.bool (!t3134)) KR KR)
                have ha := ha.bool 41 KR (not_t (bool_f hp3138))
                exact yo ha KR rfl
              · skip
                intro a wr hn hd HW hs; have ha := hasNil hn hd
                have ha := ha.add (seeE hs 5 (.string t3105.1) KR KR)
                have ha := ha.add (seeF hs 41 10 (.bool (!t3134)) KR KR)
                have ha := ha.bool 41 KR (not_t (bool_f hp3138))
                exact yo ha KR rfl
              · skip
                intro a wr hn hd HW hs; have ha := hasNil hn hd
                have ha := ha.add (seeF hs 44 13 (undef) KR KR)
                have ha := ha.add (seeF hs 41 10 (.bool (!t3134)) KR KR)
                have ha := ha.bool 41 KR (not_t (bool_f hp3138))
                exact yo ha KR rfl
              · skip
                intro a wr hn hd HW hs; have ha := hasNil hn hd
                have ha := ha.add (seeF hs 43 12 (undef) KR KR)
                have ha := ha.add (seeF hs 45 14 (undef) KR KR)
                have ha := ha.add (seeF hs 41 10 (.bool (!t3134)) KR KR)
                have ha := ha.bool 41 KR (not_t (bool_f hp3138))
                exact yo ha KR rfl
              · skip
                intro a wr hn hd HW hs; have ha := hasNil hn hd
                have ha := ha.add (seeF hs 41 10 (.bool (!t3134)) KR KR)
                have ha := ha.bool 41 KR (not_t (bool_f hp3138))
                have ha := ha.add (seeF hs 46 15 (undef) KR KR)
                refine yStep ha 47 KR ?_; intro l_ ha HK
                refine stepp ha 47 (.bool true) KR KR ?_; intro ax hax; exact HK _ _ _ hax rfl (Below.refl _ _)
            · skip
              intro a W3144 ha HW he hf
              replace ha := ha.add (he 1 (.string a1) KR KR)
              replace ha := ha.add (gotF (m := 17) (j := 16) (d := 47) (v := .bool true) hf KR KR KR)
              clear he hf
              refine endl ?_
              refine thenN (hK3124 _ _ ?_); clear hK3124
              refine condT ha KR KR (t := true) (rfl) ?_
              refine wp_seq_k (fun K3149 hK3150 => ?_)
              refine wp_region_lit ?_
              refine stepp ha 4 (.bool false) KR KR ?_; clear ha a; intro a ha
              refine endl ?_
              refine thenN (hK3150 _ _ ?_); clear hK3150
              refine wp_ret ?_
              refine thenR ?_
              obtain rfl := Option.some.inj h
              exact finv ha _ _ rfl (.tmp (v := .bool false) KR .nil) (.bool false) rfl ⟨rfl, HW.pick [] [] (by decide) (by decide) rfl KR⟩
        · skip
          replace h := ite_neg' h hp3125
          refine regionG 17 KR KR ha HW [.fix (.int .i64 t3116.2), .fix (.bool (t3116.2 != 0)), .fix (.bool (t3116.2 != 0)), .fix undef, .fix undef, .fix undef, .fix undef, .fix undef, .fix undef, .fix (.bool true), .fix (.bool true), .fix undef, .fix undef, .fix undef, .fix undef, .fix undef, .fix (.bool true)] ?_ ?_
          · skip
            refine ⟨?_, ?_, ?_, ?_, ?_, ?_, ?_, ?_, ?_, ?_, ?_, ?_, ?_, ?_, ?_, ?_, ?_, trivial⟩
            · skip
              intro a wr hn hd HW hs; have ha := hasNil hn hd
              have ha := ha.add (seeE hs 8 (.int .i64 t3116.2) KR KR)
              refine yStep ha 31 KR ?_; intro l_ ha HK
              refine stepp ha 31 (.int .i64 t3116.2) KR KR ?_; intro ax hax; exact HK _ _ _ hax rfl (Below.refl _ _)
            · skip
              intro a wr hn hd HW hs; have ha := hasNil hn hd
              have ha := ha.add (seeF hs 31 0 (.int .i64 t3116.2) KR KR)
              refine yStep ha 32 KR ?_; intro l_ ha HK
              refine stepp ha 32 (.bool (t3116.2 != 0)) KR KR ?_; intro ax hax; exact HK _ _ _ hax rfl (Below.refl _ _)
            · skip
              intro a wr hn hd HW hs; have ha := hasNil hn hd
              have ha := ha.add (seeF hs 32 1 (.bool (t3116.2 != 0)) KR KR)
              refine yStep ha 33 KR ?_; intro l_ ha HK
              refine stepp ha 33 (.bool (t3116.2 != 0)) KR KR ?_; intro ax hax; exact HK _ _ _ hax rfl (Below.refl _ _)
            · skip
              intro a wr hn hd HW hs; have ha := hasNil hn hd
              have ha := ha.add (seeE hs 2 (.pointer (some ⟨b3090, 0, none⟩)) KR KR)
              have ha := ha.add (seeF hs 33 2 (.bool (t3116.2 != 0)) KR KR)
              have ha := ha.bool 33 KR (ineq_t hp3125)
              exact yo ha KR rfl
            · skip
              intro a wr hn hd HW hs; have ha := hasNil hn hd
              have ha := ha.add (seeF hs 34 3 (undef) KR KR)
              have ha := ha.add (seeF hs 33 2 (.bool (t3116.2 != 0)) KR KR)
              have ha := ha.bool 33 KR (ineq_t hp3125)
              exact yo ha KR rfl
            · skip
              intro a wr hn hd HW hs; have ha := hasNil hn hd
              have ha := ha.add (seeE hs 7 (.pointer (some ⟨b3120, 0, none⟩)) KR KR)
              have ha := ha.add (seeF hs 33 2 (.bool (t3116.2 != 0)) KR KR)
              have ha := ha.bool 33 KR (ineq_t hp3125)
              exact yo ha KR rfl
            · skip
              intro a wr hn hd HW hs; have ha := hasNil hn hd
              have ha := ha.add (seeF hs 36 5 (undef) KR KR)
              have ha := ha.add (seeF hs 33 2 (.bool (t3116.2 != 0)) KR KR)
              have ha := ha.bool 33 KR (ineq_t hp3125)
              exact yo ha KR rfl
            · skip
              intro a wr hn hd HW hs; have ha := hasNil hn hd
              have ha := ha.add (seeF hs 35 4 (undef) KR KR)
              have ha := ha.add (seeF hs 37 6 (undef) KR KR)
              have ha := ha.add (seeF hs 33 2 (.bool (t3116.2 != 0)) KR KR)
              have ha := ha.bool 33 KR (ineq_t hp3125)
              exact yo ha KR rfl
            · skip
              intro a wr hn hd HW hs; have ha := hasNil hn hd
              have ha := ha.add (seeF hs 38 7 (undef) KR KR)
              have ha := ha.add (seeF hs 33 2 (.bool (t3116.2 != 0)) KR KR)
              have ha := ha.bool 33 KR (ineq_t hp3125)
              exact yo ha KR rfl
            · skip
              intro a wr hn hd HW hs; have ha := hasNil hn hd
              have ha := ha.add (seeF hs 33 2 (.bool (t3116.2 != 0)) KR KR)
              have ha := ha.bool 33 KR (ineq_t hp3125)
              have ha := ha.add (seeF hs 39 8 (undef) KR KR)
              refine yStep ha 40 KR ?_; intro l_ ha HK
              refine stepp ha 40 (.bool true) KR KR ?_; intro ax hax; exact HK _ _ _ hax rfl (Below.refl _ _)
            · skip
              intro a wr hn hd HW hs; have ha := hasNil hn hd
              have ha := ha.add (seeF hs 40 9 (.bool true) KR KR)
              refine yStep ha 41 KR ?_; intro l_ ha HK
              refine stepp ha 41 (.bool true) KR KR ?_; intro ax hax; exact HK _ _ _ hax rfl (Below.refl _ _)
            · skip
              intro a wr hn hd HW hs; have ha := hasNil hn hd
              have ha := ha.add (seeE hs 5 (.string t3105.1) KR KR)
              have ha := ha.add (seeF hs 41 10 (.bool true) KR KR)
              exact yo ha KR rfl
            · skip
              intro a wr hn hd HW hs; have ha := hasNil hn hd
              have ha := ha.add (seeF hs 42 11 (undef) KR KR)
              have ha := ha.add (seeF hs 41 10 (.bool true) KR KR)
              exact yo ha KR rfl
            · skip
              intro a wr hn hd HW hs; have ha := hasNil hn hd
              have ha := ha.add (seeE hs 5 (.string t3105.1) KR KR)
              have ha := ha.add (seeF hs 41 10 (.bool true) KR KR)
              exact yo ha KR rfl
            · skip
              intro a wr hn hd HW hs; have ha := hasNil hn hd
              have ha := ha.add (seeF hs 44 13 (undef) KR KR)
              have ha := ha.add (seeF hs 41 10 (.bool true) KR KR)
              exact yo ha KR rfl
            · skip
              intro a wr hn hd HW hs; have ha := hasNil hn hd
              have ha := ha.add (seeF hs 43 12 (undef) KR KR)
              have ha := ha.add (seeF hs 45 14 (undef) KR KR)
              have ha := ha.add (seeF hs 41 10 (.bool true) KR KR)
              exact yo ha KR rfl
            · skip
              intro a wr hn hd HW hs; have ha := hasNil hn hd
              have ha := ha.add (seeF hs 41 10 (.bool true) KR KR)
              have ha := ha.add (seeF hs 46 15 (undef) KR KR)
              refine yStep ha 47 KR ?_; intro l_ ha HK
              refine stepp ha 47 (.bool true) KR KR ?_; intro ax hax; exact HK _ _ _ hax rfl (Below.refl _ _)
          · skip
            intro a W3145 ha HW he hf
            replace ha := ha.add (he 1 (.string a1) KR KR)
            replace ha := ha.add (gotF (m := 17) (j := 16) (d := 47) (v := .bool true) hf KR KR KR)
            clear he hf
            refine endl ?_
            refine thenN (hK3124 _ _ ?_); clear hK3124
            refine condT ha KR KR (t := true) (rfl) ?_
            refine wp_seq_k (fun K3151 hK3152 => ?_)
            refine wp_region_lit ?_
            refine stepp ha 4 (.bool false) KR KR ?_; clear ha a; intro a ha
            refine endl ?_
            refine thenN (hK3152 _ _ ?_); clear hK3152
            refine wp_ret ?_
            refine thenR ?_
            obtain rfl := Option.some.inj h
            exact finv ha _ _ rfl (.tmp (v := .bool false) KR .nil) (.bool false) rfl ⟨rfl, HW.pick [] [] (by decide) (by decide) rfl KR⟩
      · skip
        replace h := ite_neg' h hp3113
        refine condF ha KR KR (t := (t3105.2 == 0)) (ieq_f hp3113) ?_
        refine wp_skip ?_
        exact thenN ⟨h, ha.sub (subs_cons KR (subs_nil _)), HW.pick [] [] (by decide) (by decide) KR KR⟩
    · skip
      intro a W3153 hJ
      obtain ⟨h, ha, HW⟩ := hJ
      replace h : headgatelaw15_CdbBack.j0 K a1 = some r := h
      unfold headgatelaw15_CdbBack.j0 at h
      refine hK3110 _ _ ?_; clear hK3110
      refine wp_seq_k (fun K3154 hK3155 => ?_)
      refine wp_region_lit ?_
      refine stepp ha 49 (.string a1) KR KR ?_; clear ha a; intro a ha
      obtain ⟨t3156, ht3157, h_⟩ := bind_some' h; clear h; have h := h_; clear h_
      refine stepc ha 50 KR KR (cdb_Parse.calls K a1 t3156 _ (HW.ca0 hG0) (HW.ca0 hG1) ht3157) ?_; clear ha a; rintro e W3158 ⟨rfl, HX3159⟩
      refine ⟨_, rfl, ?_⟩; intro a ha; replace HW := HW.callw HX3159; clear HX3159
      refine stepp ha 48 (.tuple #[.agg #[.int .i64 t3156.1.f0, .int .i64 t3156.1.f1, .int .i64 t3156.1.f2, .bool t3156.1.f3, .int .i64 t3156.1.f4, .int .i64 t3156.1.f5, .int .i64 t3156.1.f6], .int .i64 t3156.2]) KR KR ?_; clear ha a; intro a ha
      refine stepp ha 51 (.agg #[.int .i64 t3156.1.f0, .int .i64 t3156.1.f1, .int .i64 t3156.1.f2, .bool t3156.1.f3, .int .i64 t3156.1.f4, .int .i64 t3156.1.f5, .int .i64 t3156.1.f6]) KR KR ?_; clear ha a; intro a ha
      refine stepp ha 52 (.int .i64 t3156.2) KR KR ?_; clear ha a; intro a ha
      refine stepnew ha HW 9 #[.int .i64 0, .int .i64 0, .int .i64 0, .bool false, .int .i64 0, .int .i64 0, .int .i64 0] 39 KR KR ?_; clear ha HW a; intro b3160 a W3161 HW ha
      refine stepst ha HW 0 (b := b3160) (C := #[.int .i64 0, .int .i64 0, .int .i64 0, .bool false, .int .i64 0, .int .i64 0, .int .i64 0]) (T := 39) KR 39 0 (.tmp 9) (.tmp 51) (.agg #[.int .i64 t3156.1.f0, .int .i64 t3156.1.f1, .int .i64 t3156.1.f2, .bool t3156.1.f3, .int .i64 t3156.1.f4, .int .i64 t3156.1.f5, .int .i64 t3156.1.f6]) #[.int .i64 t3156.1.f0, .int .i64 t3156.1.f1, .int .i64 t3156.1.f2, .bool t3156.1.f3, .int .i64 t3156.1.f4, .int .i64 t3156.1.f5, .int .i64 t3156.1.f6] rfl KR KR KR KR KR KR KR ?_; clear ha HW a; intro a W3162 HW ha
      refine stepp ha 10 (.int .i64 t3156.2) KR KR ?_; clear ha a; intro a ha
      refine endl ?_
      refine thenN (hK3155 _ _ ?_); clear hK3155
      refine wp_seq_k (fun K3163 hK3164 => ?_)
      refine wp_seq_k (fun K3165 hK3166 => ?_)
      refine wp_region_lit ?_
      refine stepp ha 53 (.int .i64 t3156.2) KR KR ?_; clear ha a; intro a ha
      refine stepp ha 54 (.bool (t3156.2 != 0)) KR KR ?_; clear ha a; intro a ha
      refine endl ?_
      refine thenN (hK3166 _ _ ?_); clear hK3166
      by_cases hp3167 : t3156.2 = 0
      · skip
        replace h := ite_pos' h hp3167
        refine condF ha KR KR (t := (t3156.2 != 0)) (ineq_f hp3167) ?_
        refine wp_skip ?_
        refine thenN (hK3164 _ _ ?_); clear hK3164
        refine wp_seq_k (fun K3184 hK3185 => ?_)
        refine wp_region_lit ?_
        refine stepl ha 67 (HW.ca (i := 0) (b := b3160) (C := #[.int .i64 t3156.1.f0, .int .i64 t3156.1.f1, .int .i64 t3156.1.f2, .bool t3156.1.f3, .int .i64 t3156.1.f4, .int .i64 t3156.1.f5, .int .i64 t3156.1.f6]) (T := 39) (fr := (0, 0)) KR) 39 0 (.tmp 9) (.agg #[.int .i64 t3156.1.f0, .int .i64 t3156.1.f1, .int .i64 t3156.1.f2, .bool t3156.1.f3, .int .i64 t3156.1.f4, .int .i64 t3156.1.f5, .int .i64 t3156.1.f6]) rfl KR KR KR ?_; clear ha a; intro a ha
        obtain ⟨t3186, ht3187, h_⟩ := bind_some' h; clear h; have h := h_; clear h_
        refine stepc ha 68 KR KR (cdb_Build.calls K (⟨t3156.1.f0, t3156.1.f1, t3156.1.f2, t3156.1.f3, t3156.1.f4, t3156.1.f5, t3156.1.f6⟩ : T_cdb_Ask) t3186 _ (HW.ca0 hG0) (HW.ca0 hG1) ht3187) ?_; clear ha a; rintro e W3188 ⟨rfl, HX3189⟩
        refine ⟨_, rfl, ?_⟩; intro a ha; replace HW := HW.callw HX3189; clear HX3189
        refine stepp ha 66 (.tuple #[.string t3186.1, .int .i64 t3186.2]) KR KR ?_; clear ha a; intro a ha
        refine stepp ha 69 (.string t3186.1) KR KR ?_; clear ha a; intro a ha
        refine stepp ha 70 (.int .i64 t3186.2) KR KR ?_; clear ha a; intro a ha
        refine stepp ha 11 (.string t3186.1) KR KR ?_; clear ha a; intro a ha
        refine stepp ha 12 (.int .i64 t3186.2) KR KR ?_; clear ha a; intro a ha
        refine endl ?_
        refine thenN (hK3185 _ _ ?_); clear hK3185
        refine wp_seq_k (fun K3190 hK3191 => ?_)
        refine wp_region_lit ?_
        refine stepp ha 72 (.string t3186.1) KR KR ?_; clear ha a; intro a ha
        obtain ⟨t3192, ht3193, h_⟩ := bind_some' h; clear h; have h := h_; clear h_
        refine stepc ha 73 KR KR (cdb_Parse.calls K t3186.1 t3192 _ (HW.ca0 hG0) (HW.ca0 hG1) ht3193) ?_; clear ha a; rintro e W3194 ⟨rfl, HX3195⟩
        refine ⟨_, rfl, ?_⟩; intro a ha; replace HW := HW.callw HX3195; clear HX3195
        refine stepp ha 71 (.tuple #[.agg #[.int .i64 t3192.1.f0, .int .i64 t3192.1.f1, .int .i64 t3192.1.f2, .bool t3192.1.f3, .int .i64 t3192.1.f4, .int .i64 t3192.1.f5, .int .i64 t3192.1.f6], .int .i64 t3192.2]) KR KR ?_; clear ha a; intro a ha
        refine stepp ha 74 (.agg #[.int .i64 t3192.1.f0, .int .i64 t3192.1.f1, .int .i64 t3192.1.f2, .bool t3192.1.f3, .int .i64 t3192.1.f4, .int .i64 t3192.1.f5, .int .i64 t3192.1.f6]) KR KR ?_; clear ha a; intro a ha
        refine stepp ha 75 (.int .i64 t3192.2) KR KR ?_; clear ha a; intro a ha
        refine stepnew ha HW 13 #[.int .i64 0, .int .i64 0, .int .i64 0, .bool false, .int .i64 0, .int .i64 0, .int .i64 0] 39 KR KR ?_; clear ha HW a; intro b3196 a W3197 HW ha
        refine stepst ha HW 0 (b := b3196) (C := #[.int .i64 0, .int .i64 0, .int .i64 0, .bool false, .int .i64 0, .int .i64 0, .int .i64 0]) (T := 39) KR 39 0 (.tmp 13) (.tmp 74) (.agg #[.int .i64 t3192.1.f0, .int .i64 t3192.1.f1, .int .i64 t3192.1.f2, .bool t3192.1.f3, .int .i64 t3192.1.f4, .int .i64 t3192.1.f5, .int .i64 t3192.1.f6]) #[.int .i64 t3192.1.f0, .int .i64 t3192.1.f1, .int .i64 t3192.1.f2, .bool t3192.1.f3, .int .i64 t3192.1.f4, .int .i64 t3192.1.f5, .int .i64 t3192.1.f6] rfl KR KR KR KR KR KR KR ?_; clear ha HW a; intro a W3198 HW ha
        refine stepp ha 14 (.int .i64 t3192.2) KR KR ?_; clear ha a; intro a ha
        refine endl ?_
        refine thenN (hK3191 _ _ ?_); clear hK3191
        refine wp_seq_k (fun K3199 hK3200 => ?_)
        by_cases hp3201 : t3186.2 = 0
        · skip
          replace h := ite_pos' h hp3201
          by_cases hp3202 : t3192.2 = 0
          · skip
            replace h := ite_pos' h hp3202
            obtain ⟨t3203, ht3204, h_⟩ := bind_some' h; clear h; have h := h_; clear h_
            obtain ⟨t3207, ht3208, h_⟩ := bind_some' h; clear h; have h := h_; clear h_
            obtain ⟨t3211, ht3212, h_⟩ := bind_some' h; clear h; have h := h_; clear h_
            by_cases hp3215 : t3211 = true
            · skip
              replace h := ite_pos' h hp3215
              by_cases hp3216 : (t3186.1.size : Int) = (a1.size : Int)
              · skip
                replace h := ite_pos' h hp3216
                obtain ⟨t3217, ht3218, h_⟩ := bind_some' h; clear h; have h := h_; clear h_
                refine regionG 23 KR KR ha HW [.fix (.int .i64 t3186.2), .fix (.bool (t3186.2 == 0)), .fix (.bool (t3186.2 == 0)), .fix (.int .i64 t3192.2), .fix (.bool (t3192.2 == 0)), .fix (.bool (t3192.2 == 0)), .fix (.bool (t3192.2 == 0)), .fix (.agg #[.int .i64 t3192.1.f0, .int .i64 t3192.1.f1, .int .i64 t3192.1.f2, .bool t3192.1.f3, .int .i64 t3192.1.f4, .int .i64 t3192.1.f5, .int .i64 t3192.1.f6]), .fix (.agg #[.int .i64 t3203.f0, .int .i64 t3203.f1, .int .i64 t3203.f2, .bool t3203.f3, .int .i64 t3203.f4, .int .i64 t3203.f5, .int .i64 t3203.f6]), .fix (.agg #[.int .i64 t3156.1.f0, .int .i64 t3156.1.f1, .int .i64 t3156.1.f2, .bool t3156.1.f3, .int .i64 t3156.1.f4, .int .i64 t3156.1.f5, .int .i64 t3156.1.f6]), .fix (.agg #[.int .i64 t3207.f0, .int .i64 t3207.f1, .int .i64 t3207.f2, .bool t3207.f3, .int .i64 t3207.f4, .int .i64 t3207.f5, .int .i64 t3207.f6]), .fix (.bool t3211), .fix (.bool t3211), .fix (.bool t3211), .fix (.string t3186.1), .fix (.int .i64 (t3186.1.size : Int)), .fix (.string a1), .fix (.int .i64 (a1.size : Int)), .fix (.bool ((t3186.1.size : Int) == (a1.size : Int))), .fix (.bool ((t3186.1.size : Int) == (a1.size : Int))), .fix (.bool ((t3186.1.size : Int) == (a1.size : Int))), .fix (.bool t3217), .fix (.bool t3217)] ?_ ?_
                · skip
                  refine ⟨?_, ?_, ?_, ?_, ?_, ?_, ?_, ?_, ?_, ?_, ?_, ?_, ?_, ?_, ?_, ?_, ?_, ?_, ?_, ?_, ?_, ?_, ?_, trivial⟩
                  · skip
                    intro a wr hn hd HW hs; have ha := hasNil hn hd
                    have ha := ha.add (seeE hs 12 (.int .i64 t3186.2) KR KR)
                    refine yStep ha 76 KR ?_; intro l_ ha HK
                    refine stepp ha 76 (.int .i64 t3186.2) KR KR ?_; intro ax hax; exact HK _ _ _ hax rfl (Below.refl _ _)
                  · skip
                    intro a wr hn hd HW hs; have ha := hasNil hn hd
                    have ha := ha.add (seeF hs 76 0 (.int .i64 t3186.2) KR KR)
                    refine yStep ha 77 KR ?_; intro l_ ha HK
                    refine stepp ha 77 (.bool (t3186.2 == 0)) KR KR ?_; intro ax hax; exact HK _ _ _ hax rfl (Below.refl _ _)
                  · skip
                    intro a wr hn hd HW hs; have ha := hasNil hn hd
                    have ha := ha.add (seeF hs 77 1 (.bool (t3186.2 == 0)) KR KR)
                    refine yStep ha 78 KR ?_; intro l_ ha HK
                    refine stepp ha 78 (.bool (t3186.2 == 0)) KR KR ?_; intro ax hax; exact HK _ _ _ hax rfl (Below.refl _ _)
                  · skip
                    intro a wr hn hd HW hs; have ha := hasNil hn hd
                    have ha := ha.add (seeE hs 14 (.int .i64 t3192.2) KR KR)
                    have ha := ha.add (seeF hs 78 2 (.bool (t3186.2 == 0)) KR KR)
                    have ha := ha.bool 78 KR (ieq_t hp3201)
                    refine yStep ha 79 KR ?_; intro l_ ha HK
                    refine stepp ha 79 (.int .i64 t3192.2) KR KR ?_; intro ax hax; exact HK _ _ _ hax rfl (Below.refl _ _)
                  · skip
                    intro a wr hn hd HW hs; have ha := hasNil hn hd
                    have ha := ha.add (seeF hs 79 3 (.int .i64 t3192.2) KR KR)
                    have ha := ha.add (seeF hs 78 2 (.bool (t3186.2 == 0)) KR KR)
                    have ha := ha.bool 78 KR (ieq_t hp3201)
                    refine yStep ha 80 KR ?_; intro l_ ha HK
                    refine stepp ha 80 (.bool (t3192.2 == 0)) KR KR ?_; intro ax hax; exact HK _ _ _ hax rfl (Below.refl _ _)
                  · skip
                    intro a wr hn hd HW hs; have ha := hasNil hn hd
                    have ha := ha.add (seeF hs 78 2 (.bool (t3186.2 == 0)) KR KR)
                    have ha := ha.bool 78 KR (ieq_t hp3201)
                    have ha := ha.add (seeF hs 80 4 (.bool (t3192.2 == 0)) KR KR)
                    refine yStep ha 81 KR ?_; intro l_ ha HK
                    refine stepp ha 81 (.bool (t3192.2 == 0)) KR KR ?_; intro ax hax; exact HK _ _ _ hax rfl (Below.refl _ _)
                  · skip
                    intro a wr hn hd HW hs; have ha := hasNil hn hd
                    have ha := ha.add (seeF hs 81 5 (.bool (t3192.2 == 0)) KR KR)
                    refine yStep ha 82 KR ?_; intro l_ ha HK
                    refine stepp ha 82 (.bool (t3192.2 == 0)) KR KR ?_; intro ax hax; exact HK _ _ _ hax rfl (Below.refl _ _)
                  · skip
                    intro a wr hn hd HW hs; have ha := hasNil hn hd
                    have ha := ha.add (seeE hs 13 (.pointer (some ⟨b3196, 0, none⟩)) KR KR)
                    have ha := ha.add (seeF hs 82 6 (.bool (t3192.2 == 0)) KR KR)
                    have ha := ha.bool 82 KR (ieq_t hp3202)
                    refine yStep ha 83 KR ?_; intro l_ ha HK
                    refine stepl ha 83 (HW.ca (i := 0) (b := b3196) (C := #[.int .i64 t3192.1.f0, .int .i64 t3192.1.f1, .int .i64 t3192.1.f2, .bool t3192.1.f3, .int .i64 t3192.1.f4, .int .i64 t3192.1.f5, .int .i64 t3192.1.f6]) (T := 39) (fr := (0, 0)) KR) 39 0 (.tmp 13) (.agg #[.int .i64 t3192.1.f0, .int .i64 t3192.1.f1, .int .i64 t3192.1.f2, .bool t3192.1.f3, .int .i64 t3192.1.f4, .int .i64 t3192.1.f5, .int .i64 t3192.1.f6]) rfl KR KR KR ?_; intro ax hax; exact HK _ _ _ hax rfl (Below.refl _ _)
                  · skip
                    intro a wr hn hd HW hs; have ha := hasNil hn hd
                    have ha := ha.add (seeF hs 83 7 (.agg #[.int .i64 t3192.1.f0, .int .i64 t3192.1.f1, .int .i64 t3192.1.f2, .bool t3192.1.f3, .int .i64 t3192.1.f4, .int .i64 t3192.1.f5, .int .i64 t3192.1.f6]) KR KR)
                    have ha := ha.add (seeF hs 82 6 (.bool (t3192.2 == 0)) KR KR)
                    have ha := ha.bool 82 KR (ieq_t hp3202)
                    refine yStep ha 84 KR ?_; intro l_ ha HK
                    refine stepc ha 84 KR KR (headgatelaw15_own.calls (⟨t3192.1.f0, t3192.1.f1, t3192.1.f2, t3192.1.f3, t3192.1.f4, t3192.1.f5, t3192.1.f6⟩ : T_cdb_Ask) t3203 _ ht3204) ?_; rintro e W3205 ⟨rfl, HX3206⟩
                    refine ⟨_, rfl, ?_⟩; intro ax hax; exact HK _ _ _ hax rfl HX3206.below
                  · skip
                    intro a wr hn hd HW hs; have ha := hasNil hn hd
                    have ha := ha.add (seeE hs 9 (.pointer (some ⟨b3160, 0, none⟩)) KR KR)
                    have ha := ha.add (seeF hs 82 6 (.bool (t3192.2 == 0)) KR KR)
                    have ha := ha.bool 82 KR (ieq_t hp3202)
                    refine yStep ha 85 KR ?_; intro l_ ha HK
                    refine stepl ha 85 (HW.ca (i := 1) (b := b3160) (C := #[.int .i64 t3156.1.f0, .int .i64 t3156.1.f1, .int .i64 t3156.1.f2, .bool t3156.1.f3, .int .i64 t3156.1.f4, .int .i64 t3156.1.f5, .int .i64 t3156.1.f6]) (T := 39) (fr := (0, 0)) KR) 39 0 (.tmp 9) (.agg #[.int .i64 t3156.1.f0, .int .i64 t3156.1.f1, .int .i64 t3156.1.f2, .bool t3156.1.f3, .int .i64 t3156.1.f4, .int .i64 t3156.1.f5, .int .i64 t3156.1.f6]) rfl KR KR KR ?_; intro ax hax; exact HK _ _ _ hax rfl (Below.refl _ _)
                  · skip
                    intro a wr hn hd HW hs; have ha := hasNil hn hd
                    have ha := ha.add (seeF hs 85 9 (.agg #[.int .i64 t3156.1.f0, .int .i64 t3156.1.f1, .int .i64 t3156.1.f2, .bool t3156.1.f3, .int .i64 t3156.1.f4, .int .i64 t3156.1.f5, .int .i64 t3156.1.f6]) KR KR)
                    have ha := ha.add (seeF hs 82 6 (.bool (t3192.2 == 0)) KR KR)
                    have ha := ha.bool 82 KR (ieq_t hp3202)
                    refine yStep ha 86 KR ?_; intro l_ ha HK
                    refine stepc ha 86 KR KR (headgatelaw15_own.calls (⟨t3156.1.f0, t3156.1.f1, t3156.1.f2, t3156.1.f3, t3156.1.f4, t3156.1.f5, t3156.1.f6⟩ : T_cdb_Ask) t3207 _ ht3208) ?_; rintro e W3209 ⟨rfl, HX3210⟩
                    refine ⟨_, rfl, ?_⟩; intro ax hax; exact HK _ _ _ hax rfl HX3210.below
                  · skip
                    intro a wr hn hd HW hs; have ha := hasNil hn hd
                    have ha := ha.add (seeF hs 84 8 (.agg #[.int .i64 t3203.f0, .int .i64 t3203.f1, .int .i64 t3203.f2, .bool t3203.f3, .int .i64 t3203.f4, .int .i64 t3203.f5, .int .i64 t3203.f6]) KR KR)
                    have ha := ha.add (seeF hs 86 10 (.agg #[.int .i64 t3207.f0, .int .i64 t3207.f1, .int .i64 t3207.f2, .bool t3207.f3, .int .i64 t3207.f4, .int .i64 t3207.f5, .int .i64 t3207.f6]) KR KR)
                    have ha := ha.add (seeF hs 82 6 (.bool (t3192.2 == 0)) KR KR)
                    have ha := ha.bool 82 KR (ieq_t hp3202)
                    refine yStep ha 87 KR ?_; intro l_ ha HK
                    refine stepc ha 87 KR KR (headgateref15_Same.calls t3203 t3207 t3211 _ ht3212) ?_; rintro e W3213 ⟨rfl, HX3214⟩
                    refine ⟨_, rfl, ?_⟩; intro ax hax; exact HK _ _ _ hax rfl HX3214.below
                  · skip
                    intro a wr hn hd HW hs; have ha := hasNil hn hd
                    have ha := ha.add (seeF hs 82 6 (.bool (t3192.2 == 0)) KR KR)
                    have ha := ha.bool 82 KR (ieq_t hp3202)
                    have ha := ha.add (seeF hs 87 11 (.bool t3211) KR KR)
                    refine yStep ha 88 KR ?_; intro l_ ha HK
                    refine stepp ha 88 (.bool t3211) KR KR ?_; intro ax hax; exact HK _ _ _ hax rfl (Below.refl _ _)
                  · skip
                    intro a wr hn hd HW hs; have ha := hasNil hn hd
                    have ha := ha.add (seeF hs 88 12 (.bool t3211) KR KR)
                    refine yStep ha 89 KR ?_; intro l_ ha HK
                    refine stepp ha 89 (.bool t3211) KR KR ?_; intro ax hax; exact HK _ _ _ hax rfl (Below.refl _ _)
                  · skip
                    intro a wr hn hd HW hs; have ha := hasNil hn hd
                    have ha := ha.add (seeE hs 11 (.string t3186.1) KR KR)
                    have ha := ha.add (seeF hs 89 13 (.bool t3211) KR KR)
                    have ha := ha.bool 89 KR (hp3215)
                    refine yStep ha 90 KR ?_; intro l_ ha HK
                    refine stepp ha 90 (.string t3186.1) KR KR ?_; intro ax hax; exact HK _ _ _ hax rfl (Below.refl _ _)
                  · skip
                    intro a wr hn hd HW hs; have ha := hasNil hn hd
                    have ha := ha.add (seeF hs 90 14 (.string t3186.1) KR KR)
                    have ha := ha.add (seeF hs 89 13 (.bool t3211) KR KR)
                    have ha := ha.bool 89 KR (hp3215)
                    refine yStep ha 91 KR ?_; intro l_ ha HK
                    refine stepp ha 91 (.int .i64 (t3186.1.size : Int)) KR KR ?_; intro ax hax; exact HK _ _ _ hax rfl (Below.refl _ _)
                  · skip
                    intro a wr hn hd HW hs; have ha := hasNil hn hd
                    have ha := ha.add (seeE hs 1 (.string a1) KR KR)
                    have ha := ha.add (seeF hs 89 13 (.bool t3211) KR KR)
                    have ha := ha.bool 89 KR (hp3215)
                    refine yStep ha 92 KR ?_; intro l_ ha HK
                    refine stepp ha 92 (.string a1) KR KR ?_; intro ax hax; exact HK _ _ _ hax rfl (Below.refl _ _)
                  · skip
                    intro a wr hn hd HW hs; have ha := hasNil hn hd
                    have ha := ha.add (seeF hs 92 16 (.string a1) KR KR)
                    have ha := ha.add (seeF hs 89 13 (.bool t3211) KR KR)
                    have ha := ha.bool 89 KR (hp3215)
                    refine yStep ha 93 KR ?_; intro l_ ha HK
                    refine stepp ha 93 (.int .i64 (a1.size : Int)) KR KR ?_; intro ax hax; exact HK _ _ _ hax rfl (Below.refl _ _)
                  · skip
                    intro a wr hn hd HW hs; have ha := hasNil hn hd
                    have ha := ha.add (seeF hs 91 15 (.int .i64 (t3186.1.size : Int)) KR KR)
                    have ha := ha.add (seeF hs 93 17 (.int .i64 (a1.size : Int)) KR KR)
                    have ha := ha.add (seeF hs 89 13 (.bool t3211) KR KR)
                    have ha := ha.bool 89 KR (hp3215)
                    refine yStep ha 94 KR ?_; intro l_ ha HK
                    refine stepp ha 94 (.bool ((t3186.1.size : Int) == (a1.size : Int))) KR KR ?_; intro ax hax; exact HK _ _ _ hax rfl (Below.refl _ _)
                  · skip
                    intro a wr hn hd HW hs; have ha := hasNil hn hd
                    have ha := ha.add (seeF hs 89 13 (.bool t3211) KR KR)
                    have ha := ha.bool 89 KR (hp3215)
                    have ha := ha.add (seeF hs 94 18 (.bool ((t3186.1.size : Int) == (a1.size : Int))) KR KR)
                    refine yStep ha 95 KR ?_; intro l_ ha HK
                    refine stepp ha 95 (.bool ((t3186.1.size : Int) == (a1.size : Int))) KR KR ?_; intro ax hax; exact HK _ _ _ hax rfl (Below.refl _ _)
                  · skip
                    intro a wr hn hd HW hs; have ha := hasNil hn hd
                    have ha := ha.add (seeF hs 95 19 (.bool ((t3186.1.size : Int) == (a1.size : Int))) KR KR)
                    refine yStep ha 96 KR ?_; intro l_ ha HK
                    refine stepp ha 96 (.bool ((t3186.1.size : Int) == (a1.size : Int))) KR KR ?_; intro ax hax; exact HK _ _ _ hax rfl (Below.refl _ _)
                  · skip
                    intro a wr hn hd HW hs; have ha := hasNil hn hd
                    have ha := ha.add (seeF hs 96 20 (.bool ((t3186.1.size : Int) == (a1.size : Int))) KR KR)
                    have ha := ha.bool 96 KR (ieq_t hp3216)
                    refine yStep ha 97 KR ?_; intro l_ ha HK
                    refine stepc ha 97 KR KR (headgatelaw15_wakes.calls K t3217 _ (HW.ca0 hG0) (HW.ca0 hG1) ht3218) ?_; rintro e W3219 ⟨rfl, HX3220⟩
                    refine ⟨_, rfl, ?_⟩; intro ax hax; exact HK _ _ _ hax rfl HX3220.below
                  · skip
                    intro a wr hn hd HW hs; have ha := hasNil hn hd
                    have ha := ha.add (seeF hs 96 20 (.bool ((t3186.1.size : Int) == (a1.size : Int))) KR KR)
                    have ha := ha.bool 96 KR (ieq_t hp3216)
                    have ha := ha.add (seeF hs 97 21 (.bool t3217) KR KR)
                    refine yStep ha 98 KR ?_; intro l_ ha HK
                    refine stepp ha 98 (.bool t3217) KR KR ?_; intro ax hax; exact HK _ _ _ hax rfl (Below.refl _ _)
                · skip
                  intro a W3221 ha HW he hf
                  replace ha := ha.add (gotF (m := 23) (j := 22) (d := 98) (v := .bool t3217) hf KR KR KR)
                  clear he hf
                  refine stepp ha 4 (.bool t3217) KR KR ?_; clear ha a; intro a ha
                  refine endl ?_
                  refine thenN (hK3200 _ _ ?_); clear hK3200
                  refine wp_ret ?_
                  obtain rfl := Option.some.inj h
                  exact finv ha _ _ rfl (.tmp (v := .bool t3217) KR .nil) (.bool t3217) rfl ⟨rfl, HW.pick [] [] (by decide) (by decide) rfl KR⟩
              · skip
                replace h := ite_neg' h hp3216
                refine regionG 23 KR KR ha HW [.fix (.int .i64 t3186.2), .fix (.bool (t3186.2 == 0)), .fix (.bool (t3186.2 == 0)), .fix (.int .i64 t3192.2), .fix (.bool (t3192.2 == 0)), .fix (.bool (t3192.2 == 0)), .fix (.bool (t3192.2 == 0)), .fix (.agg #[.int .i64 t3192.1.f0, .int .i64 t3192.1.f1, .int .i64 t3192.1.f2, .bool t3192.1.f3, .int .i64 t3192.1.f4, .int .i64 t3192.1.f5, .int .i64 t3192.1.f6]), .fix (.agg #[.int .i64 t3203.f0, .int .i64 t3203.f1, .int .i64 t3203.f2, .bool t3203.f3, .int .i64 t3203.f4, .int .i64 t3203.f5, .int .i64 t3203.f6]), .fix (.agg #[.int .i64 t3156.1.f0, .int .i64 t3156.1.f1, .int .i64 t3156.1.f2, .bool t3156.1.f3, .int .i64 t3156.1.f4, .int .i64 t3156.1.f5, .int .i64 t3156.1.f6]), .fix (.agg #[.int .i64 t3207.f0, .int .i64 t3207.f1, .int .i64 t3207.f2, .bool t3207.f3, .int .i64 t3207.f4, .int .i64 t3207.f5, .int .i64 t3207.f6]), .fix (.bool t3211), .fix (.bool t3211), .fix (.bool t3211), .fix (.string t3186.1), .fix (.int .i64 (t3186.1.size : Int)), .fix (.string a1), .fix (.int .i64 (a1.size : Int)), .fix (.bool ((t3186.1.size : Int) == (a1.size : Int))), .fix (.bool ((t3186.1.size : Int) == (a1.size : Int))), .fix (.bool ((t3186.1.size : Int) == (a1.size : Int))), .fix undef, .fix (.bool false)] ?_ ?_
                · skip
                  refine ⟨?_, ?_, ?_, ?_, ?_, ?_, ?_, ?_, ?_, ?_, ?_, ?_, ?_, ?_, ?_, ?_, ?_, ?_, ?_, ?_, ?_, ?_, ?_, trivial⟩
                  · skip
                    intro a wr hn hd HW hs; have ha := hasNil hn hd
                    have ha := ha.add (seeE hs 12 (.int .i64 t3186.2) KR KR)
                    refine yStep ha 76 KR ?_; intro l_ ha HK
                    refine stepp ha 76 (.int .i64 t3186.2) KR KR ?_; intro ax hax; exact HK _ _ _ hax rfl (Below.refl _ _)
                  · skip
                    intro a wr hn hd HW hs; have ha := hasNil hn hd
                    have ha := ha.add (seeF hs 76 0 (.int .i64 t3186.2) KR KR)
                    refine yStep ha 77 KR ?_; intro l_ ha HK
                    refine stepp ha 77 (.bool (t3186.2 == 0)) KR KR ?_; intro ax hax; exact HK _ _ _ hax rfl (Below.refl _ _)
                  · skip
                    intro a wr hn hd HW hs; have ha := hasNil hn hd
                    have ha := ha.add (seeF hs 77 1 (.bool (t3186.2 == 0)) KR KR)
                    refine yStep ha 78 KR ?_; intro l_ ha HK
                    refine stepp ha 78 (.bool (t3186.2 == 0)) KR KR ?_; intro ax hax; exact HK _ _ _ hax rfl (Below.refl _ _)
                  · skip
                    intro a wr hn hd HW hs; have ha := hasNil hn hd
                    have ha := ha.add (seeE hs 14 (.int .i64 t3192.2) KR KR)
                    have ha := ha.add (seeF hs 78 2 (.bool (t3186.2 == 0)) KR KR)
                    have ha := ha.bool 78 KR (ieq_t hp3201)
                    refine yStep ha 79 KR ?_; intro l_ ha HK
                    refine stepp ha 79 (.int .i64 t3192.2) KR KR ?_; intro ax hax; exact HK _ _ _ hax rfl (Below.refl _ _)
                  · skip
                    intro a wr hn hd HW hs; have ha := hasNil hn hd
                    have ha := ha.add (seeF hs 79 3 (.int .i64 t3192.2) KR KR)
                    have ha := ha.add (seeF hs 78 2 (.bool (t3186.2 == 0)) KR KR)
                    have ha := ha.bool 78 KR (ieq_t hp3201)
                    refine yStep ha 80 KR ?_; intro l_ ha HK
                    refine stepp ha 80 (.bool (t3192.2 == 0)) KR KR ?_; intro ax hax; exact HK _ _ _ hax rfl (Below.refl _ _)
                  · skip
                    intro a wr hn hd HW hs; have ha := hasNil hn hd
                    have ha := ha.add (seeF hs 78 2 (.bool (t3186.2 == 0)) KR KR)
                    have ha := ha.bool 78 KR (ieq_t hp3201)
                    have ha := ha.add (seeF hs 80 4 (.bool (t3192.2 == 0)) KR KR)
                    refine yStep ha 81 KR ?_; intro l_ ha HK
                    refine stepp ha 81 (.bool (t3192.2 == 0)) KR KR ?_; intro ax hax; exact HK _ _ _ hax rfl (Below.refl _ _)
                  · skip
                    intro a wr hn hd HW hs; have ha := hasNil hn hd
                    have ha := ha.add (seeF hs 81 5 (.bool (t3192.2 == 0)) KR KR)
                    refine yStep ha 82 KR ?_; intro l_ ha HK
                    refine stepp ha 82 (.bool (t3192.2 == 0)) KR KR ?_; intro ax hax; exact HK _ _ _ hax rfl (Below.refl _ _)
                  · skip
                    intro a wr hn hd HW hs; have ha := hasNil hn hd
                    have ha := ha.add (seeE hs 13 (.pointer (some ⟨b3196, 0, none⟩)) KR KR)
                    have ha := ha.add (seeF hs 82 6 (.bool (t3192.2 == 0)) KR KR)
                    have ha := ha.bool 82 KR (ieq_t hp3202)
                    refine yStep ha 83 KR ?_; intro l_ ha HK
                    refine stepl ha 83 (HW.ca (i := 0) (b := b3196) (C := #[.int .i64 t3192.1.f0, .int .i64 t3192.1.f1, .int .i64 t3192.1.f2, .bool t3192.1.f3, .int .i64 t3192.1.f4, .int .i64 t3192.1.f5, .int .i64 t3192.1.f6]) (T := 39) (fr := (0, 0)) KR) 39 0 (.tmp 13) (.agg #[.int .i64 t3192.1.f0, .int .i64 t3192.1.f1, .int .i64 t3192.1.f2, .bool t3192.1.f3, .int .i64 t3192.1.f4, .int .i64 t3192.1.f5, .int .i64 t3192.1.f6]) rfl KR KR KR ?_; intro ax hax; exact HK _ _ _ hax rfl (Below.refl _ _)
                  · skip
                    intro a wr hn hd HW hs; have ha := hasNil hn hd
                    have ha := ha.add (seeF hs 83 7 (.agg #[.int .i64 t3192.1.f0, .int .i64 t3192.1.f1, .int .i64 t3192.1.f2, .bool t3192.1.f3, .int .i64 t3192.1.f4, .int .i64 t3192.1.f5, .int .i64 t3192.1.f6]) KR KR)
                    have ha := ha.add (seeF hs 82 6 (.bool (t3192.2 == 0)) KR KR)
                    have ha := ha.bool 82 KR (ieq_t hp3202)
                    refine yStep ha 84 KR ?_; intro l_ ha HK
                    refine stepc ha 84 KR KR (headgatelaw15_own.calls (⟨t3192.1.f0, t3192.1.f1, t3192.1.f2, t3192.1.f3, t3192.1.f4, t3192.1.f5, t3192.1.f6⟩ : T_cdb_Ask) t3203 _ ht3204) ?_; rintro e W3205 ⟨rfl, HX3206⟩
                    refine ⟨_, rfl, ?_⟩; intro ax hax; exact HK _ _ _ hax rfl HX3206.below
                  · skip
                    intro a wr hn hd HW hs; have ha := hasNil hn hd
                    have ha := ha.add (seeE hs 9 (.pointer (some ⟨b3160, 0, none⟩)) KR KR)
                    have ha := ha.add (seeF hs 82 6 (.bool (t3192.2 == 0)) KR KR)
                    have ha := ha.bool 82 KR (ieq_t hp3202)
                    refine yStep ha 85 KR ?_; intro l_ ha HK
                    refine stepl ha 85 (HW.ca (i := 1) (b := b3160) (C := #[.int .i64 t3156.1.f0, .int .i64 t3156.1.f1, .int .i64 t3156.1.f2, .bool t3156.1.f3, .int .i64 t3156.1.f4, .int .i64 t3156.1.f5, .int .i64 t3156.1.f6]) (T := 39) (fr := (0, 0)) KR) 39 0 (.tmp 9) (.agg #[.int .i64 t3156.1.f0, .int .i64 t3156.1.f1, .int .i64 t3156.1.f2, .bool t3156.1.f3, .int .i64 t3156.1.f4, .int .i64 t3156.1.f5, .int .i64 t3156.1.f6]) rfl KR KR KR ?_; intro ax hax; exact HK _ _ _ hax rfl (Below.refl _ _)
                  · skip
                    intro a wr hn hd HW hs; have ha := hasNil hn hd
                    have ha := ha.add (seeF hs 85 9 (.agg #[.int .i64 t3156.1.f0, .int .i64 t3156.1.f1, .int .i64 t3156.1.f2, .bool t3156.1.f3, .int .i64 t3156.1.f4, .int .i64 t3156.1.f5, .int .i64 t3156.1.f6]) KR KR)
                    have ha := ha.add (seeF hs 82 6 (.bool (t3192.2 == 0)) KR KR)
                    have ha := ha.bool 82 KR (ieq_t hp3202)
                    refine yStep ha 86 KR ?_; intro l_ ha HK
                    refine stepc ha 86 KR KR (headgatelaw15_own.calls (⟨t3156.1.f0, t3156.1.f1, t3156.1.f2, t3156.1.f3, t3156.1.f4, t3156.1.f5, t3156.1.f6⟩ : T_cdb_Ask) t3207 _ ht3208) ?_; rintro e W3209 ⟨rfl, HX3210⟩
                    refine ⟨_, rfl, ?_⟩; intro ax hax; exact HK _ _ _ hax rfl HX3210.below
                  · skip
                    intro a wr hn hd HW hs; have ha := hasNil hn hd
                    have ha := ha.add (seeF hs 84 8 (.agg #[.int .i64 t3203.f0, .int .i64 t3203.f1, .int .i64 t3203.f2, .bool t3203.f3, .int .i64 t3203.f4, .int .i64 t3203.f5, .int .i64 t3203.f6]) KR KR)
                    have ha := ha.add (seeF hs 86 10 (.agg #[.int .i64 t3207.f0, .int .i64 t3207.f1, .int .i64 t3207.f2, .bool t3207.f3, .int .i64 t3207.f4, .int .i64 t3207.f5, .int .i64 t3207.f6]) KR KR)
                    have ha := ha.add (seeF hs 82 6 (.bool (t3192.2 == 0)) KR KR)
                    have ha := ha.bool 82 KR (ieq_t hp3202)
                    refine yStep ha 87 KR ?_; intro l_ ha HK
                    refine stepc ha 87 KR KR (headgateref15_Same.calls t3203 t3207 t3211 _ ht3212) ?_; rintro e W3213 ⟨rfl, HX3214⟩
                    refine ⟨_, rfl, ?_⟩; intro ax hax; exact HK _ _ _ hax rfl HX3214.below
                  · skip
                    intro a wr hn hd HW hs; have ha := hasNil hn hd
                    have ha := ha.add (seeF hs 82 6 (.bool (t3192.2 == 0)) KR KR)
                    have ha := ha.bool 82 KR (ieq_t hp3202)
                    have ha := ha.add (seeF hs 87 11 (.bool t3211) KR KR)
                    refine yStep ha 88 KR ?_; intro l_ ha HK
                    refine stepp ha 88 (.bool t3211) KR KR ?_; intro ax hax; exact HK _ _ _ hax rfl (Below.refl _ _)
                  · skip
                    intro a wr hn hd HW hs; have ha := hasNil hn hd
                    have ha := ha.add (seeF hs 88 12 (.bool t3211) KR KR)
                    refine yStep ha 89 KR ?_; intro l_ ha HK
                    refine stepp ha 89 (.bool t3211) KR KR ?_; intro ax hax; exact HK _ _ _ hax rfl (Below.refl _ _)
                  · skip
                    intro a wr hn hd HW hs; have ha := hasNil hn hd
                    have ha := ha.add (seeE hs 11 (.string t3186.1) KR KR)
                    have ha := ha.add (seeF hs 89 13 (.bool t3211) KR KR)
                    have ha := ha.bool 89 KR (hp3215)
                    refine yStep ha 90 KR ?_; intro l_ ha HK
                    refine stepp ha 90 (.string t3186.1) KR KR ?_; intro ax hax; exact HK _ _ _ hax rfl (Below.refl _ _)
                  · skip
                    intro a wr hn hd HW hs; have ha := hasNil hn hd
                    have ha := ha.add (seeF hs 90 14 (.string t3186.1) KR KR)
                    have ha := ha.add (seeF hs 89 13 (.bool t3211) KR KR)
                    have ha := ha.bool 89 KR (hp3215)
                    refine yStep ha 91 KR ?_; intro l_ ha HK
                    refine stepp ha 91 (.int .i64 (t3186.1.size : Int)) KR KR ?_; intro ax hax; exact HK _ _ _ hax rfl (Below.refl _ _)
                  · skip
                    intro a wr hn hd HW hs; have ha := hasNil hn hd
                    have ha := ha.add (seeE hs 1 (.string a1) KR KR)
                    have ha := ha.add (seeF hs 89 13 (.bool t3211) KR KR)
                    have ha := ha.bool 89 KR (hp3215)
                    refine yStep ha 92 KR ?_; intro l_ ha HK
                    refine stepp ha 92 (.string a1) KR KR ?_; intro ax hax; exact HK _ _ _ hax rfl (Below.refl _ _)
                  · skip
                    intro a wr hn hd HW hs; have ha := hasNil hn hd
                    have ha := ha.add (seeF hs 92 16 (.string a1) KR KR)
                    have ha := ha.add (seeF hs 89 13 (.bool t3211) KR KR)
                    have ha := ha.bool 89 KR (hp3215)
                    refine yStep ha 93 KR ?_; intro l_ ha HK
                    refine stepp ha 93 (.int .i64 (a1.size : Int)) KR KR ?_; intro ax hax; exact HK _ _ _ hax rfl (Below.refl _ _)
                  · skip
                    intro a wr hn hd HW hs; have ha := hasNil hn hd
                    have ha := ha.add (seeF hs 91 15 (.int .i64 (t3186.1.size : Int)) KR KR)
                    have ha := ha.add (seeF hs 93 17 (.int .i64 (a1.size : Int)) KR KR)
                    have ha := ha.add (seeF hs 89 13 (.bool t3211) KR KR)
                    have ha := ha.bool 89 KR (hp3215)
                    refine yStep ha 94 KR ?_; intro l_ ha HK
                    refine stepp ha 94 (.bool ((t3186.1.size : Int) == (a1.size : Int))) KR KR ?_; intro ax hax; exact HK _ _ _ hax rfl (Below.refl _ _)
                  · skip
                    intro a wr hn hd HW hs; have ha := hasNil hn hd
                    have ha := ha.add (seeF hs 89 13 (.bool t3211) KR KR)
                    have ha := ha.bool 89 KR (hp3215)
                    have ha := ha.add (seeF hs 94 18 (.bool ((t3186.1.size : Int) == (a1.size : Int))) KR KR)
                    refine yStep ha 95 KR ?_; intro l_ ha HK
                    refine stepp ha 95 (.bool ((t3186.1.size : Int) == (a1.size : Int))) KR KR ?_; intro ax hax; exact HK _ _ _ hax rfl (Below.refl _ _)
                  · skip
                    intro a wr hn hd HW hs; have ha := hasNil hn hd
                    have ha := ha.add (seeF hs 95 19 (.bool ((t3186.1.size : Int) == (a1.size : Int))) KR KR)
                    refine yStep ha 96 KR ?_; intro l_ ha HK
                    refine stepp ha 96 (.bool ((t3186.1.size : Int) == (a1.size : Int))) KR KR ?_; intro ax hax; exact HK _ _ _ hax rfl (Below.refl _ _)
                  · skip
                    intro a wr hn hd HW hs; have ha := hasNil hn hd
                    have ha := ha.add (seeF hs 96 20 (.bool ((t3186.1.size : Int) == (a1.size : Int))) KR KR)
                    have ha := ha.bool 96 KR (ieq_f hp3216)
                    exact yo ha KR rfl
                  · skip
                    intro a wr hn hd HW hs; have ha := hasNil hn hd
                    have ha := ha.add (seeF hs 96 20 (.bool ((t3186.1.size : Int) == (a1.size : Int))) KR KR)
                    have ha := ha.bool 96 KR (ieq_f hp3216)
                    have ha := ha.add (seeF hs 97 21 (undef) KR KR)
                    refine yStep ha 98 KR ?_; intro l_ ha HK
                    refine stepp ha 98 (.bool false) KR KR ?_; intro ax hax; exact HK _ _ _ hax rfl (Below.refl _ _)
                · skip
                  intro a W3222 ha HW he hf
                  replace ha := ha.add (gotF (m := 23) (j := 22) (d := 98) (v := .bool false) hf KR KR KR)
                  clear he hf
                  refine stepp ha 4 (.bool false) KR KR ?_; clear ha a; intro a ha
                  refine endl ?_
                  refine thenN (hK3200 _ _ ?_); clear hK3200
                  refine wp_ret ?_
                  obtain rfl := Option.some.inj h
                  exact finv ha _ _ rfl (.tmp (v := .bool false) KR .nil) (.bool false) rfl ⟨rfl, HW.pick [] [] (by decide) (by decide) rfl KR⟩
            · skip
              replace h := ite_neg' h hp3215
              refine regionG 23 KR KR ha HW [.fix (.int .i64 t3186.2), .fix (.bool (t3186.2 == 0)), .fix (.bool (t3186.2 == 0)), .fix (.int .i64 t3192.2), .fix (.bool (t3192.2 == 0)), .fix (.bool (t3192.2 == 0)), .fix (.bool (t3192.2 == 0)), .fix (.agg #[.int .i64 t3192.1.f0, .int .i64 t3192.1.f1, .int .i64 t3192.1.f2, .bool t3192.1.f3, .int .i64 t3192.1.f4, .int .i64 t3192.1.f5, .int .i64 t3192.1.f6]), .fix (.agg #[.int .i64 t3203.f0, .int .i64 t3203.f1, .int .i64 t3203.f2, .bool t3203.f3, .int .i64 t3203.f4, .int .i64 t3203.f5, .int .i64 t3203.f6]), .fix (.agg #[.int .i64 t3156.1.f0, .int .i64 t3156.1.f1, .int .i64 t3156.1.f2, .bool t3156.1.f3, .int .i64 t3156.1.f4, .int .i64 t3156.1.f5, .int .i64 t3156.1.f6]), .fix (.agg #[.int .i64 t3207.f0, .int .i64 t3207.f1, .int .i64 t3207.f2, .bool t3207.f3, .int .i64 t3207.f4, .int .i64 t3207.f5, .int .i64 t3207.f6]), .fix (.bool t3211), .fix (.bool t3211), .fix (.bool t3211), .fix undef, .fix undef, .fix undef, .fix undef, .fix undef, .fix (.bool false), .fix (.bool false), .fix undef, .fix (.bool false)] ?_ ?_
              · skip
                refine ⟨?_, ?_, ?_, ?_, ?_, ?_, ?_, ?_, ?_, ?_, ?_, ?_, ?_, ?_, ?_, ?_, ?_, ?_, ?_, ?_, ?_, ?_, ?_, trivial⟩
                · skip
                  intro a wr hn hd HW hs; have ha := hasNil hn hd
                  have ha := ha.add (seeE hs 12 (.int .i64 t3186.2) KR KR)
                  refine yStep ha 76 KR ?_; intro l_ ha HK
                  refine stepp ha 76 (.int .i64 t3186.2) KR KR ?_; intro ax hax; exact HK _ _ _ hax rfl (Below.refl _ _)
                · skip
                  intro a wr hn hd HW hs; have ha := hasNil hn hd
                  have ha := ha.add (seeF hs 76 0 (.int .i64 t3186.2) KR KR)
                  refine yStep ha 77 KR ?_; intro l_ ha HK
                  refine stepp ha 77 (.bool (t3186.2 == 0)) KR KR ?_; intro ax hax; exact HK _ _ _ hax rfl (Below.refl _ _)
                · skip
                  intro a wr hn hd HW hs; have ha := hasNil hn hd
                  have ha := ha.add (seeF hs 77 1 (.bool (t3186.2 == 0)) KR KR)
                  refine yStep ha 78 KR ?_; intro l_ ha HK
                  refine stepp ha 78 (.bool (t3186.2 == 0)) KR KR ?_; intro ax hax; exact HK _ _ _ hax rfl (Below.refl _ _)
                · skip
                  intro a wr hn hd HW hs; have ha := hasNil hn hd
                  have ha := ha.add (seeE hs 14 (.int .i64 t3192.2) KR KR)
                  have ha := ha.add (seeF hs 78 2 (.bool (t3186.2 == 0)) KR KR)
                  have ha := ha.bool 78 KR (ieq_t hp3201)
                  refine yStep ha 79 KR ?_; intro l_ ha HK
                  refine stepp ha 79 (.int .i64 t3192.2) KR KR ?_; intro ax hax; exact HK _ _ _ hax rfl (Below.refl _ _)
                · skip
                  intro a wr hn hd HW hs; have ha := hasNil hn hd
                  have ha := ha.add (seeF hs 79 3 (.int .i64 t3192.2) KR KR)
                  have ha := ha.add (seeF hs 78 2 (.bool (t3186.2 == 0)) KR KR)
                  have ha := ha.bool 78 KR (ieq_t hp3201)
                  refine yStep ha 80 KR ?_; intro l_ ha HK
                  refine stepp ha 80 (.bool (t3192.2 == 0)) KR KR ?_; intro ax hax; exact HK _ _ _ hax rfl (Below.refl _ _)
                · skip
                  intro a wr hn hd HW hs; have ha := hasNil hn hd
                  have ha := ha.add (seeF hs 78 2 (.bool (t3186.2 == 0)) KR KR)
                  have ha := ha.bool 78 KR (ieq_t hp3201)
                  have ha := ha.add (seeF hs 80 4 (.bool (t3192.2 == 0)) KR KR)
                  refine yStep ha 81 KR ?_; intro l_ ha HK
                  refine stepp ha 81 (.bool (t3192.2 == 0)) KR KR ?_; intro ax hax; exact HK _ _ _ hax rfl (Below.refl _ _)
                · skip
                  intro a wr hn hd HW hs; have ha := hasNil hn hd
                  have ha := ha.add (seeF hs 81 5 (.bool (t3192.2 == 0)) KR KR)
                  refine yStep ha 82 KR ?_; intro l_ ha HK
                  refine stepp ha 82 (.bool (t3192.2 == 0)) KR KR ?_; intro ax hax; exact HK _ _ _ hax rfl (Below.refl _ _)
                · skip
                  intro a wr hn hd HW hs; have ha := hasNil hn hd
                  have ha := ha.add (seeE hs 13 (.pointer (some ⟨b3196, 0, none⟩)) KR KR)
                  have ha := ha.add (seeF hs 82 6 (.bool (t3192.2 == 0)) KR KR)
                  have ha := ha.bool 82 KR (ieq_t hp3202)
                  refine yStep ha 83 KR ?_; intro l_ ha HK
                  refine stepl ha 83 (HW.ca (i := 0) (b := b3196) (C := #[.int .i64 t3192.1.f0, .int .i64 t3192.1.f1, .int .i64 t3192.1.f2, .bool t3192.1.f3, .int .i64 t3192.1.f4, .int .i64 t3192.1.f5, .int .i64 t3192.1.f6]) (T := 39) (fr := (0, 0)) KR) 39 0 (.tmp 13) (.agg #[.int .i64 t3192.1.f0, .int .i64 t3192.1.f1, .int .i64 t3192.1.f2, .bool t3192.1.f3, .int .i64 t3192.1.f4, .int .i64 t3192.1.f5, .int .i64 t3192.1.f6]) rfl KR KR KR ?_; intro ax hax; exact HK _ _ _ hax rfl (Below.refl _ _)
                · skip
                  intro a wr hn hd HW hs; have ha := hasNil hn hd
                  have ha := ha.add (seeF hs 83 7 (.agg #[.int .i64 t3192.1.f0, .int .i64 t3192.1.f1, .int .i64 t3192.1.f2, .bool t3192.1.f3, .int .i64 t3192.1.f4, .int .i64 t3192.1.f5, .int .i64 t3192.1.f6]) KR KR)
                  have ha := ha.add (seeF hs 82 6 (.bool (t3192.2 == 0)) KR KR)
                  have ha := ha.bool 82 KR (ieq_t hp3202)
                  refine yStep ha 84 KR ?_; intro l_ ha HK
                  refine stepc ha 84 KR KR (headgatelaw15_own.calls (⟨t3192.1.f0, t3192.1.f1, t3192.1.f2, t3192.1.f3, t3192.1.f4, t3192.1.f5, t3192.1.f6⟩ : T_cdb_Ask) t3203 _ ht3204) ?_; rintro e W3205 ⟨rfl, HX3206⟩
                  refine ⟨_, rfl, ?_⟩; intro ax hax; exact HK _ _ _ hax rfl HX3206.below
                · skip
                  intro a wr hn hd HW hs; have ha := hasNil hn hd
                  have ha := ha.add (seeE hs 9 (.pointer (some ⟨b3160, 0, none⟩)) KR KR)
                  have ha := ha.add (seeF hs 82 6 (.bool (t3192.2 == 0)) KR KR)
                  have ha := ha.bool 82 KR (ieq_t hp3202)
                  refine yStep ha 85 KR ?_; intro l_ ha HK
                  refine stepl ha 85 (HW.ca (i := 1) (b := b3160) (C := #[.int .i64 t3156.1.f0, .int .i64 t3156.1.f1, .int .i64 t3156.1.f2, .bool t3156.1.f3, .int .i64 t3156.1.f4, .int .i64 t3156.1.f5, .int .i64 t3156.1.f6]) (T := 39) (fr := (0, 0)) KR) 39 0 (.tmp 9) (.agg #[.int .i64 t3156.1.f0, .int .i64 t3156.1.f1, .int .i64 t3156.1.f2, .bool t3156.1.f3, .int .i64 t3156.1.f4, .int .i64 t3156.1.f5, .int .i64 t3156.1.f6]) rfl KR KR KR ?_; intro ax hax; exact HK _ _ _ hax rfl (Below.refl _ _)
                · skip
                  intro a wr hn hd HW hs; have ha := hasNil hn hd
                  have ha := ha.add (seeF hs 85 9 (.agg #[.int .i64 t3156.1.f0, .int .i64 t3156.1.f1, .int .i64 t3156.1.f2, .bool t3156.1.f3, .int .i64 t3156.1.f4, .int .i64 t3156.1.f5, .int .i64 t3156.1.f6]) KR KR)
                  have ha := ha.add (seeF hs 82 6 (.bool (t3192.2 == 0)) KR KR)
                  have ha := ha.bool 82 KR (ieq_t hp3202)
                  refine yStep ha 86 KR ?_; intro l_ ha HK
                  refine stepc ha 86 KR KR (headgatelaw15_own.calls (⟨t3156.1.f0, t3156.1.f1, t3156.1.f2, t3156.1.f3, t3156.1.f4, t3156.1.f5, t3156.1.f6⟩ : T_cdb_Ask) t3207 _ ht3208) ?_; rintro e W3209 ⟨rfl, HX3210⟩
                  refine ⟨_, rfl, ?_⟩; intro ax hax; exact HK _ _ _ hax rfl HX3210.below
                · skip
                  intro a wr hn hd HW hs; have ha := hasNil hn hd
                  have ha := ha.add (seeF hs 84 8 (.agg #[.int .i64 t3203.f0, .int .i64 t3203.f1, .int .i64 t3203.f2, .bool t3203.f3, .int .i64 t3203.f4, .int .i64 t3203.f5, .int .i64 t3203.f6]) KR KR)
                  have ha := ha.add (seeF hs 86 10 (.agg #[.int .i64 t3207.f0, .int .i64 t3207.f1, .int .i64 t3207.f2, .bool t3207.f3, .int .i64 t3207.f4, .int .i64 t3207.f5, .int .i64 t3207.f6]) KR KR)
                  have ha := ha.add (seeF hs 82 6 (.bool (t3192.2 == 0)) KR KR)
                  have ha := ha.bool 82 KR (ieq_t hp3202)
                  refine yStep ha 87 KR ?_; intro l_ ha HK
                  refine stepc ha 87 KR KR (headgateref15_Same.calls t3203 t3207 t3211 _ ht3212) ?_; rintro e W3213 ⟨rfl, HX3214⟩
                  refine ⟨_, rfl, ?_⟩; intro ax hax; exact HK _ _ _ hax rfl HX3214.below
                · skip
                  intro a wr hn hd HW hs; have ha := hasNil hn hd
                  have ha := ha.add (seeF hs 82 6 (.bool (t3192.2 == 0)) KR KR)
                  have ha := ha.bool 82 KR (ieq_t hp3202)
                  have ha := ha.add (seeF hs 87 11 (.bool t3211) KR KR)
                  refine yStep ha 88 KR ?_; intro l_ ha HK
                  refine stepp ha 88 (.bool t3211) KR KR ?_; intro ax hax; exact HK _ _ _ hax rfl (Below.refl _ _)
                · skip
                  intro a wr hn hd HW hs; have ha := hasNil hn hd
                  have ha := ha.add (seeF hs 88 12 (.bool t3211) KR KR)
                  refine yStep ha 89 KR ?_; intro l_ ha HK
                  refine stepp ha 89 (.bool t3211) KR KR ?_; intro ax hax; exact HK _ _ _ hax rfl (Below.refl _ _)
                · skip
                  intro a wr hn hd HW hs; have ha := hasNil hn hd
                  have ha := ha.add (seeE hs 11 (.string t3186.1) KR KR)
                  have ha := ha.add (seeF hs 89 13 (.bool t3211) KR KR)
                  have ha := ha.bool 89 KR (bool_f hp3215)
                  exact yo ha KR rfl
                · skip
                  intro a wr hn hd HW hs; have ha := hasNil hn hd
                  have ha := ha.add (seeF hs 90 14 (undef) KR KR)
                  have ha := ha.add (seeF hs 89 13 (.bool t3211) KR KR)
                  have ha := ha.bool 89 KR (bool_f hp3215)
                  exact yo ha KR rfl
                · skip
                  intro a wr hn hd HW hs; have ha := hasNil hn hd
                  have ha := ha.add (seeE hs 1 (.string a1) KR KR)
                  have ha := ha.add (seeF hs 89 13 (.bool t3211) KR KR)
                  have ha := ha.bool 89 KR (bool_f hp3215)
                  exact yo ha KR rfl
                · skip
                  intro a wr hn hd HW hs; have ha := hasNil hn hd
                  have ha := ha.add (seeF hs 92 16 (undef) KR KR)
                  have ha := ha.add (seeF hs 89 13 (.bool t3211) KR KR)
                  have ha := ha.bool 89 KR (bool_f hp3215)
                  exact yo ha KR rfl
                · skip
                  intro a wr hn hd HW hs; have ha := hasNil hn hd
                  have ha := ha.add (seeF hs 91 15 (undef) KR KR)
                  have ha := ha.add (seeF hs 93 17 (undef) KR KR)
                  have ha := ha.add (seeF hs 89 13 (.bool t3211) KR KR)
                  have ha := ha.bool 89 KR (bool_f hp3215)
                  exact yo ha KR rfl
                · skip
                  intro a wr hn hd HW hs; have ha := hasNil hn hd
                  have ha := ha.add (seeF hs 89 13 (.bool t3211) KR KR)
                  have ha := ha.bool 89 KR (bool_f hp3215)
                  have ha := ha.add (seeF hs 94 18 (undef) KR KR)
                  refine yStep ha 95 KR ?_; intro l_ ha HK
                  refine stepp ha 95 (.bool false) KR KR ?_; intro ax hax; exact HK _ _ _ hax rfl (Below.refl _ _)
                · skip
                  intro a wr hn hd HW hs; have ha := hasNil hn hd
                  have ha := ha.add (seeF hs 95 19 (.bool false) KR KR)
                  refine yStep ha 96 KR ?_; intro l_ ha HK
                  refine stepp ha 96 (.bool false) KR KR ?_; intro ax hax; exact HK _ _ _ hax rfl (Below.refl _ _)
                · skip
                  intro a wr hn hd HW hs; have ha := hasNil hn hd
                  have ha := ha.add (seeF hs 96 20 (.bool false) KR KR)
                  exact yo ha KR rfl
                · skip
                  intro a wr hn hd HW hs; have ha := hasNil hn hd
                  have ha := ha.add (seeF hs 96 20 (.bool false) KR KR)
                  have ha := ha.add (seeF hs 97 21 (undef) KR KR)
                  refine yStep ha 98 KR ?_; intro l_ ha HK
                  refine stepp ha 98 (.bool false) KR KR ?_; intro ax hax; exact HK _ _ _ hax rfl (Below.refl _ _)
              · skip
                intro a W3223 ha HW he hf
                replace ha := ha.add (gotF (m := 23) (j := 22) (d := 98) (v := .bool false) hf KR KR KR)
                clear he hf
                refine stepp ha 4 (.bool false) KR KR ?_; clear ha a; intro a ha
                refine endl ?_
                refine thenN (hK3200 _ _ ?_); clear hK3200
                refine wp_ret ?_
                obtain rfl := Option.some.inj h
                exact finv ha _ _ rfl (.tmp (v := .bool false) KR .nil) (.bool false) rfl ⟨rfl, HW.pick [] [] (by decide) (by decide) rfl KR⟩
          · skip
            replace h := ite_neg' h hp3202
            refine regionG 23 KR KR ha HW [.fix (.int .i64 t3186.2), .fix (.bool (t3186.2 == 0)), .fix (.bool (t3186.2 == 0)), .fix (.int .i64 t3192.2), .fix (.bool (t3192.2 == 0)), .fix (.bool (t3192.2 == 0)), .fix (.bool (t3192.2 == 0)), .fix undef, .fix undef, .fix undef, .fix undef, .fix undef, .fix (.bool false), .fix (.bool false), .fix undef, .fix undef, .fix undef, .fix undef, .fix undef, .fix (.bool false), .fix (.bool false), .fix undef, .fix (.bool false)] ?_ ?_
            · skip
              refine ⟨?_, ?_, ?_, ?_, ?_, ?_, ?_, ?_, ?_, ?_, ?_, ?_, ?_, ?_, ?_, ?_, ?_, ?_, ?_, ?_, ?_, ?_, ?_, trivial⟩
              · skip
                intro a wr hn hd HW hs; have ha := hasNil hn hd
                have ha := ha.add (seeE hs 12 (.int .i64 t3186.2) KR KR)
                refine yStep ha 76 KR ?_; intro l_ ha HK
                refine stepp ha 76 (.int .i64 t3186.2) KR KR ?_; intro ax hax; exact HK _ _ _ hax rfl (Below.refl _ _)
              · skip
                intro a wr hn hd HW hs; have ha := hasNil hn hd
                have ha := ha.add (seeF hs 76 0 (.int .i64 t3186.2) KR KR)
                refine yStep ha 77 KR ?_; intro l_ ha HK
                refine stepp ha 77 (.bool (t3186.2 == 0)) KR KR ?_; intro ax hax; exact HK _ _ _ hax rfl (Below.refl _ _)
              · skip
                intro a wr hn hd HW hs; have ha := hasNil hn hd
                have ha := ha.add (seeF hs 77 1 (.bool (t3186.2 == 0)) KR KR)
                refine yStep ha 78 KR ?_; intro l_ ha HK
                refine stepp ha 78 (.bool (t3186.2 == 0)) KR KR ?_; intro ax hax; exact HK _ _ _ hax rfl (Below.refl _ _)
              · skip
                intro a wr hn hd HW hs; have ha := hasNil hn hd
                have ha := ha.add (seeE hs 14 (.int .i64 t3192.2) KR KR)
                have ha := ha.add (seeF hs 78 2 (.bool (t3186.2 == 0)) KR KR)
                have ha := ha.bool 78 KR (ieq_t hp3201)
                refine yStep ha 79 KR ?_; intro l_ ha HK
                refine stepp ha 79 (.int .i64 t3192.2) KR KR ?_; intro ax hax; exact HK _ _ _ hax rfl (Below.refl _ _)
              · skip
                intro a wr hn hd HW hs; have ha := hasNil hn hd
                have ha := ha.add (seeF hs 79 3 (.int .i64 t3192.2) KR KR)
                have ha := ha.add (seeF hs 78 2 (.bool (t3186.2 == 0)) KR KR)
                have ha := ha.bool 78 KR (ieq_t hp3201)
                refine yStep ha 80 KR ?_; intro l_ ha HK
                refine stepp ha 80 (.bool (t3192.2 == 0)) KR KR ?_; intro ax hax; exact HK _ _ _ hax rfl (Below.refl _ _)
              · skip
                intro a wr hn hd HW hs; have ha := hasNil hn hd
                have ha := ha.add (seeF hs 78 2 (.bool (t3186.2 == 0)) KR KR)
                have ha := ha.bool 78 KR (ieq_t hp3201)
                have ha := ha.add (seeF hs 80 4 (.bool (t3192.2 == 0)) KR KR)
                refine yStep ha 81 KR ?_; intro l_ ha HK
                refine stepp ha 81 (.bool (t3192.2 == 0)) KR KR ?_; intro ax hax; exact HK _ _ _ hax rfl (Below.refl _ _)
              · skip
                intro a wr hn hd HW hs; have ha := hasNil hn hd
                have ha := ha.add (seeF hs 81 5 (.bool (t3192.2 == 0)) KR KR)
                refine yStep ha 82 KR ?_; intro l_ ha HK
                refine stepp ha 82 (.bool (t3192.2 == 0)) KR KR ?_; intro ax hax; exact HK _ _ _ hax rfl (Below.refl _ _)
              · skip
                intro a wr hn hd HW hs; have ha := hasNil hn hd
                have ha := ha.add (seeE hs 13 (.pointer (some ⟨b3196, 0, none⟩)) KR KR)
                have ha := ha.add (seeF hs 82 6 (.bool (t3192.2 == 0)) KR KR)
                have ha := ha.bool 82 KR (ieq_f hp3202)
                exact yo ha KR rfl
              · skip
                intro a wr hn hd HW hs; have ha := hasNil hn hd
                have ha := ha.add (seeF hs 83 7 (undef) KR KR)
                have ha := ha.add (seeF hs 82 6 (.bool (t3192.2 == 0)) KR KR)
                have ha := ha.bool 82 KR (ieq_f hp3202)
                exact yo ha KR rfl
              · skip
                intro a wr hn hd HW hs; have ha := hasNil hn hd
                have ha := ha.add (seeE hs 9 (.pointer (some ⟨b3160, 0, none⟩)) KR KR)
                have ha := ha.add (seeF hs 82 6 (.bool (t3192.2 == 0)) KR KR)
                have ha := ha.bool 82 KR (ieq_f hp3202)
                exact yo ha KR rfl
              · skip
                intro a wr hn hd HW hs; have ha := hasNil hn hd
                have ha := ha.add (seeF hs 85 9 (undef) KR KR)
                have ha := ha.add (seeF hs 82 6 (.bool (t3192.2 == 0)) KR KR)
                have ha := ha.bool 82 KR (ieq_f hp3202)
                exact yo ha KR rfl
              · skip
                intro a wr hn hd HW hs; have ha := hasNil hn hd
                have ha := ha.add (seeF hs 84 8 (undef) KR KR)
                have ha := ha.add (seeF hs 86 10 (undef) KR KR)
                have ha := ha.add (seeF hs 82 6 (.bool (t3192.2 == 0)) KR KR)
                have ha := ha.bool 82 KR (ieq_f hp3202)
                exact yo ha KR rfl
              · skip
                intro a wr hn hd HW hs; have ha := hasNil hn hd
                have ha := ha.add (seeF hs 82 6 (.bool (t3192.2 == 0)) KR KR)
                have ha := ha.bool 82 KR (ieq_f hp3202)
                have ha := ha.add (seeF hs 87 11 (undef) KR KR)
                refine yStep ha 88 KR ?_; intro l_ ha HK
                refine stepp ha 88 (.bool false) KR KR ?_; intro ax hax; exact HK _ _ _ hax rfl (Below.refl _ _)
              · skip
                intro a wr hn hd HW hs; have ha := hasNil hn hd
                have ha := ha.add (seeF hs 88 12 (.bool false) KR KR)
                refine yStep ha 89 KR ?_; intro l_ ha HK
                refine stepp ha 89 (.bool false) KR KR ?_; intro ax hax; exact HK _ _ _ hax rfl (Below.refl _ _)
              · skip
                intro a wr hn hd HW hs; have ha := hasNil hn hd
                have ha := ha.add (seeE hs 11 (.string t3186.1) KR KR)
                have ha := ha.add (seeF hs 89 13 (.bool false) KR KR)
                exact yo ha KR rfl
              · skip
                intro a wr hn hd HW hs; have ha := hasNil hn hd
                have ha := ha.add (seeF hs 90 14 (undef) KR KR)
                have ha := ha.add (seeF hs 89 13 (.bool false) KR KR)
                exact yo ha KR rfl
              · skip
                intro a wr hn hd HW hs; have ha := hasNil hn hd
                have ha := ha.add (seeE hs 1 (.string a1) KR KR)
                have ha := ha.add (seeF hs 89 13 (.bool false) KR KR)
                exact yo ha KR rfl
              · skip
                intro a wr hn hd HW hs; have ha := hasNil hn hd
                have ha := ha.add (seeF hs 92 16 (undef) KR KR)
                have ha := ha.add (seeF hs 89 13 (.bool false) KR KR)
                exact yo ha KR rfl
              · skip
                intro a wr hn hd HW hs; have ha := hasNil hn hd
                have ha := ha.add (seeF hs 91 15 (undef) KR KR)
                have ha := ha.add (seeF hs 93 17 (undef) KR KR)
                have ha := ha.add (seeF hs 89 13 (.bool false) KR KR)
                exact yo ha KR rfl
              · skip
                intro a wr hn hd HW hs; have ha := hasNil hn hd
                have ha := ha.add (seeF hs 89 13 (.bool false) KR KR)
                have ha := ha.add (seeF hs 94 18 (undef) KR KR)
                refine yStep ha 95 KR ?_; intro l_ ha HK
                refine stepp ha 95 (.bool false) KR KR ?_; intro ax hax; exact HK _ _ _ hax rfl (Below.refl _ _)
              · skip
                intro a wr hn hd HW hs; have ha := hasNil hn hd
                have ha := ha.add (seeF hs 95 19 (.bool false) KR KR)
                refine yStep ha 96 KR ?_; intro l_ ha HK
                refine stepp ha 96 (.bool false) KR KR ?_; intro ax hax; exact HK _ _ _ hax rfl (Below.refl _ _)
              · skip
                intro a wr hn hd HW hs; have ha := hasNil hn hd
                have ha := ha.add (seeF hs 96 20 (.bool false) KR KR)
                exact yo ha KR rfl
              · skip
                intro a wr hn hd HW hs; have ha := hasNil hn hd
                have ha := ha.add (seeF hs 96 20 (.bool false) KR KR)
                have ha := ha.add (seeF hs 97 21 (undef) KR KR)
                refine yStep ha 98 KR ?_; intro l_ ha HK
                refine stepp ha 98 (.bool false) KR KR ?_; intro ax hax; exact HK _ _ _ hax rfl (Below.refl _ _)
            · skip
              intro a W3224 ha HW he hf
              replace ha := ha.add (gotF (m := 23) (j := 22) (d := 98) (v := .bool false) hf KR KR KR)
              clear he hf
              refine stepp ha 4 (.bool false) KR KR ?_; clear ha a; intro a ha
              refine endl ?_
              refine thenN (hK3200 _ _ ?_); clear hK3200
              refine wp_ret ?_
              obtain rfl := Option.some.inj h
              exact finv ha _ _ rfl (.tmp (v := .bool false) KR .nil) (.bool false) rfl ⟨rfl, HW.pick [] [] (by decide) (by decide) rfl KR⟩
        · skip
          replace h := ite_neg' h hp3201
          refine regionG 23 KR KR ha HW [.fix (.int .i64 t3186.2), .fix (.bool (t3186.2 == 0)), .fix (.bool (t3186.2 == 0)), .fix undef, .fix undef, .fix (.bool false), .fix (.bool false), .fix undef, .fix undef, .fix undef, .fix undef, .fix undef, .fix (.bool false), .fix (.bool false), .fix undef, .fix undef, .fix undef, .fix undef, .fix undef, .fix (.bool false), .fix (.bool false), .fix undef, .fix (.bool false)] ?_ ?_
          · skip
            refine ⟨?_, ?_, ?_, ?_, ?_, ?_, ?_, ?_, ?_, ?_, ?_, ?_, ?_, ?_, ?_, ?_, ?_, ?_, ?_, ?_, ?_, ?_, ?_, trivial⟩
            · skip
              intro a wr hn hd HW hs; have ha := hasNil hn hd
              have ha := ha.add (seeE hs 12 (.int .i64 t3186.2) KR KR)
              refine yStep ha 76 KR ?_; intro l_ ha HK
              refine stepp ha 76 (.int .i64 t3186.2) KR KR ?_; intro ax hax; exact HK _ _ _ hax rfl (Below.refl _ _)
            · skip
              intro a wr hn hd HW hs; have ha := hasNil hn hd
              have ha := ha.add (seeF hs 76 0 (.int .i64 t3186.2) KR KR)
              refine yStep ha 77 KR ?_; intro l_ ha HK
              refine stepp ha 77 (.bool (t3186.2 == 0)) KR KR ?_; intro ax hax; exact HK _ _ _ hax rfl (Below.refl _ _)
            · skip
              intro a wr hn hd HW hs; have ha := hasNil hn hd
              have ha := ha.add (seeF hs 77 1 (.bool (t3186.2 == 0)) KR KR)
              refine yStep ha 78 KR ?_; intro l_ ha HK
              refine stepp ha 78 (.bool (t3186.2 == 0)) KR KR ?_; intro ax hax; exact HK _ _ _ hax rfl (Below.refl _ _)
            · skip
              intro a wr hn hd HW hs; have ha := hasNil hn hd
              have ha := ha.add (seeE hs 14 (.int .i64 t3192.2) KR KR)
              have ha := ha.add (seeF hs 78 2 (.bool (t3186.2 == 0)) KR KR)
              have ha := ha.bool 78 KR (ieq_f hp3201)
              exact yo ha KR rfl
            · skip
              intro a wr hn hd HW hs; have ha := hasNil hn hd
              have ha := ha.add (seeF hs 79 3 (undef) KR KR)
              have ha := ha.add (seeF hs 78 2 (.bool (t3186.2 == 0)) KR KR)
              have ha := ha.bool 78 KR (ieq_f hp3201)
              exact yo ha KR rfl
            · skip
              intro a wr hn hd HW hs; have ha := hasNil hn hd
              have ha := ha.add (seeF hs 78 2 (.bool (t3186.2 == 0)) KR KR)
              have ha := ha.bool 78 KR (ieq_f hp3201)
              have ha := ha.add (seeF hs 80 4 (undef) KR KR)
              refine yStep ha 81 KR ?_; intro l_ ha HK
              refine stepp ha 81 (.bool false) KR KR ?_; intro ax hax; exact HK _ _ _ hax rfl (Below.refl _ _)
            · skip
              intro a wr hn hd HW hs; have ha := hasNil hn hd
              have ha := ha.add (seeF hs 81 5 (.bool false) KR KR)
              refine yStep ha 82 KR ?_; intro l_ ha HK
              refine stepp ha 82 (.bool false) KR KR ?_; intro ax hax; exact HK _ _ _ hax rfl (Below.refl _ _)
            · skip
              intro a wr hn hd HW hs; have ha := hasNil hn hd
              have ha := ha.add (seeE hs 13 (.pointer (some ⟨b3196, 0, none⟩)) KR KR)
              have ha := ha.add (seeF hs 82 6 (.bool false) KR KR)
              exact yo ha KR rfl
            · skip
              intro a wr hn hd HW hs; have ha := hasNil hn hd
              have ha := ha.add (seeF hs 83 7 (undef) KR KR)
              have ha := ha.add (seeF hs 82 6 (.bool false) KR KR)
              exact yo ha KR rfl
            · skip
              intro a wr hn hd HW hs; have ha := hasNil hn hd
              have ha := ha.add (seeE hs 9 (.pointer (some ⟨b3160, 0, none⟩)) KR KR)
              have ha := ha.add (seeF hs 82 6 (.bool false) KR KR)
              exact yo ha KR rfl
            · skip
              intro a wr hn hd HW hs; have ha := hasNil hn hd
              have ha := ha.add (seeF hs 85 9 (undef) KR KR)
              have ha := ha.add (seeF hs 82 6 (.bool false) KR KR)
              exact yo ha KR rfl
            · skip
              intro a wr hn hd HW hs; have ha := hasNil hn hd
              have ha := ha.add (seeF hs 84 8 (undef) KR KR)
              have ha := ha.add (seeF hs 86 10 (undef) KR KR)
              have ha := ha.add (seeF hs 82 6 (.bool false) KR KR)
              exact yo ha KR rfl
            · skip
              intro a wr hn hd HW hs; have ha := hasNil hn hd
              have ha := ha.add (seeF hs 82 6 (.bool false) KR KR)
              have ha := ha.add (seeF hs 87 11 (undef) KR KR)
              refine yStep ha 88 KR ?_; intro l_ ha HK
              refine stepp ha 88 (.bool false) KR KR ?_; intro ax hax; exact HK _ _ _ hax rfl (Below.refl _ _)
            · skip
              intro a wr hn hd HW hs; have ha := hasNil hn hd
              have ha := ha.add (seeF hs 88 12 (.bool false) KR KR)
              refine yStep ha 89 KR ?_; intro l_ ha HK
              refine stepp ha 89 (.bool false) KR KR ?_; intro ax hax; exact HK _ _ _ hax rfl (Below.refl _ _)
            · skip
              intro a wr hn hd HW hs; have ha := hasNil hn hd
              have ha := ha.add (seeE hs 11 (.string t3186.1) KR KR)
              have ha := ha.add (seeF hs 89 13 (.bool false) KR KR)
              exact yo ha KR rfl
            · skip
              intro a wr hn hd HW hs; have ha := hasNil hn hd
              have ha := ha.add (seeF hs 90 14 (undef) KR KR)
              have ha := ha.add (seeF hs 89 13 (.bool false) KR KR)
              exact yo ha KR rfl
            · skip
              intro a wr hn hd HW hs; have ha := hasNil hn hd
              have ha := ha.add (seeE hs 1 (.string a1) KR KR)
              have ha := ha.add (seeF hs 89 13 (.bool false) KR KR)
              exact yo ha KR rfl
            · skip
              intro a wr hn hd HW hs; have ha := hasNil hn hd
              have ha := ha.add (seeF hs 92 16 (undef) KR KR)
              have ha := ha.add (seeF hs 89 13 (.bool false) KR KR)
              exact yo ha KR rfl
            · skip
              intro a wr hn hd HW hs; have ha := hasNil hn hd
              have ha := ha.add (seeF hs 91 15 (undef) KR KR)
              have ha := ha.add (seeF hs 93 17 (undef) KR KR)
              have ha := ha.add (seeF hs 89 13 (.bool false) KR KR)
              exact yo ha KR rfl
            · skip
              intro a wr hn hd HW hs; have ha := hasNil hn hd
              have ha := ha.add (seeF hs 89 13 (.bool false) KR KR)
              have ha := ha.add (seeF hs 94 18 (undef) KR KR)
              refine yStep ha 95 KR ?_; intro l_ ha HK
              refine stepp ha 95 (.bool false) KR KR ?_; intro ax hax; exact HK _ _ _ hax rfl (Below.refl _ _)
            · skip
              intro a wr hn hd HW hs; have ha := hasNil hn hd
              have ha := ha.add (seeF hs 95 19 (.bool false) KR KR)
              refine yStep ha 96 KR ?_; intro l_ ha HK
              refine stepp ha 96 (.bool false) KR KR ?_; intro ax hax; exact HK _ _ _ hax rfl (Below.refl _ _)
            · skip
              intro a wr hn hd HW hs; have ha := hasNil hn hd
              have ha := ha.add (seeF hs 96 20 (.bool false) KR KR)
              exact yo ha KR rfl
            · skip
              intro a wr hn hd HW hs; have ha := hasNil hn hd
              have ha := ha.add (seeF hs 96 20 (.bool false) KR KR)
              have ha := ha.add (seeF hs 97 21 (undef) KR KR)
              refine yStep ha 98 KR ?_; intro l_ ha HK
              refine stepp ha 98 (.bool false) KR KR ?_; intro ax hax; exact HK _ _ _ hax rfl (Below.refl _ _)
          · skip
            intro a W3225 ha HW he hf
            replace ha := ha.add (gotF (m := 23) (j := 22) (d := 98) (v := .bool false) hf KR KR KR)
            clear he hf
            refine stepp ha 4 (.bool false) KR KR ?_; clear ha a; intro a ha
            refine endl ?_
            refine thenN (hK3200 _ _ ?_); clear hK3200
            refine wp_ret ?_
            obtain rfl := Option.some.inj h
            exact finv ha _ _ rfl (.tmp (v := .bool false) KR .nil) (.bool false) rfl ⟨rfl, HW.pick [] [] (by decide) (by decide) rfl KR⟩
      · skip
        replace h := ite_neg' h hp3167
        refine condT ha KR KR (t := (t3156.2 != 0)) (ineq_t hp3167) ?_
        refine wp_seq_k (fun K3168 hK3169 => ?_)
        refine wp_region_lit ?_
        refine stepp ha 55 (.int .i64 t3156.2) KR KR ?_; clear ha a; intro a ha
        refine stepp ha 56 (.bool (t3156.2 == 150)) KR KR ?_; clear ha a; intro a ha
        refine stepp ha 57 (.bool (t3156.2 == 150)) KR KR ?_; clear ha a; intro a ha
        by_cases hp3170 : t3156.2 = 150
        · skip
          replace h := ite_pos' h hp3170
          replace ha := ha.bool 57 KR (ieq_t hp3170)
          refine stepl ha 58 (HW.ca (i := 0) (b := b3160) (C := #[.int .i64 t3156.1.f0, .int .i64 t3156.1.f1, .int .i64 t3156.1.f2, .bool t3156.1.f3, .int .i64 t3156.1.f4, .int .i64 t3156.1.f5, .int .i64 t3156.1.f6]) (T := 39) (fr := (0, 0)) KR) 39 0 (.tmp 9) (.agg #[.int .i64 t3156.1.f0, .int .i64 t3156.1.f1, .int .i64 t3156.1.f2, .bool t3156.1.f3, .int .i64 t3156.1.f4, .int .i64 t3156.1.f5, .int .i64 t3156.1.f6]) rfl KR KR KR ?_; clear ha a; intro a ha
          obtain ⟨t3171, ht3172, h_⟩ := bind_some' h; clear h; have h := h_; clear h_
          refine stepc ha 59 KR KR (headgatelaw15_own.calls (⟨t3156.1.f0, t3156.1.f1, t3156.1.f2, t3156.1.f3, t3156.1.f4, t3156.1.f5, t3156.1.f6⟩ : T_cdb_Ask) t3171 _ ht3172) ?_; clear ha a; rintro e W3173 ⟨rfl, HX3174⟩
          refine ⟨_, rfl, ?_⟩; intro a ha; replace HW := HW.callw HX3174; clear HX3174
          refine stepp ha 60 (.agg #[.int .i64 0, .int .i64 0, .int .i64 0, .bool false, .int .i64 0, .int .i64 0, .int .i64 0]) KR KR ?_; clear ha a; intro a ha
          obtain ⟨t3175, ht3176, h_⟩ := bind_some' h; clear h; have h := h_; clear h_
          refine stepc ha 61 KR KR (headgateref15_Same.calls t3171 (⟨0, 0, 0, false, 0, 0, 0⟩ : T_headgateref15_Ask) t3175 _ ht3176) ?_; clear ha a; rintro e W3177 ⟨rfl, HX3178⟩
          refine ⟨_, rfl, ?_⟩; intro a ha; replace HW := HW.callw HX3178; clear HX3178
          refine stepp ha 62 (.bool t3175) KR KR ?_; clear ha a; intro a ha
          refine stepp ha 63 (.bool t3175) KR KR ?_; clear ha a; intro a ha
          by_cases hp3179 : t3175 = true
          · skip
            replace h := ite_pos' h hp3179
            replace ha := ha.bool 63 KR (hp3179)
            obtain ⟨t3180, ht3181, h_⟩ := bind_some' h; clear h; have h := h_; clear h_
            refine stepc ha 64 KR KR (headgatelaw15_wakes.calls K t3180 _ (HW.ca0 hG0) (HW.ca0 hG1) ht3181) ?_; clear ha a; rintro e W3182 ⟨rfl, HX3183⟩
            refine ⟨_, rfl, ?_⟩; intro a ha; replace HW := HW.callw HX3183; clear HX3183
            refine stepp ha 65 (.bool t3180) KR KR ?_; clear ha a; intro a ha
            refine stepp ha 4 (.bool t3180) KR KR ?_; clear ha a; intro a ha
            refine endl ?_
            refine thenN (hK3169 _ _ ?_); clear hK3169
            refine wp_ret ?_
            refine thenR ?_
            obtain rfl := Option.some.inj h
            exact finv ha _ _ rfl (.tmp (v := .bool t3180) KR .nil) (.bool t3180) rfl ⟨rfl, HW.pick [] [] (by decide) (by decide) rfl KR⟩
          · skip
            replace h := ite_neg' h hp3179
            replace ha := ha.bool 63 KR (bool_f hp3179)
            refine stepo ha 64 KR ?_; clear ha a; intro a ha
            refine stepp ha 65 (.bool false) KR KR ?_; clear ha a; intro a ha
            refine stepp ha 4 (.bool false) KR KR ?_; clear ha a; intro a ha
            refine endl ?_
            refine thenN (hK3169 _ _ ?_); clear hK3169
            refine wp_ret ?_
            refine thenR ?_
            obtain rfl := Option.some.inj h
            exact finv ha _ _ rfl (.tmp (v := .bool false) KR .nil) (.bool false) rfl ⟨rfl, HW.pick [] [] (by decide) (by decide) rfl KR⟩
        · skip
          replace h := ite_neg' h hp3170
          replace ha := ha.bool 57 KR (ieq_f hp3170)
          refine stepo ha 58 KR ?_; clear ha a; intro a ha
          refine stepo ha 59 KR ?_; clear ha a; intro a ha
          refine stepo ha 60 KR ?_; clear ha a; intro a ha
          refine stepo ha 61 KR ?_; clear ha a; intro a ha
          refine stepp ha 62 (.bool false) KR KR ?_; clear ha a; intro a ha
          refine stepp ha 63 (.bool false) KR KR ?_; clear ha a; intro a ha
          refine stepo ha 64 KR ?_; clear ha a; intro a ha
          refine stepp ha 65 (.bool false) KR KR ?_; clear ha a; intro a ha
          refine stepp ha 4 (.bool false) KR KR ?_; clear ha a; intro a ha
          refine endl ?_
          refine thenN (hK3169 _ _ ?_); clear hK3169
          refine wp_ret ?_
          refine thenR ?_
          obtain rfl := Option.some.inj h
          exact finv ha _ _ rfl (.tmp (v := .bool false) KR .nil) (.bool false) rfl ⟨rfl, HW.pick [] [] (by decide) (by decide) rfl KR⟩
end Go.Proofs.YtpjcipadjegmlaaDoor.F
