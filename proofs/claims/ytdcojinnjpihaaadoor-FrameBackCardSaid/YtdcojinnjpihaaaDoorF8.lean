/- headgate/headgatelaw05.FrameBack: plain functions, and that the calls come to what they say. No condition. -/
import Derived.Test.YtdcojinnjpihaaaDoorFT
import Derived.Test.YtdcojinnjpihaaaDoorF9
import Derived.Test.YtdcojinnjpihaaaDoorF16
import Derived.Test.YtdcojinnjpihaaaDoorF45
namespace Go.Proofs.YtdcojinnjpihaaaDoor.F
open Go Go.RowKit Go.Proofs.YtdcojinnjpihaaaDoor.X
set_option linter.unusedVariables false
set_option linter.unusedSimpArgs false
/-! ### headgate/headgatelaw05.FrameBack: function 8 -/
def headgatelaw05_FrameBack.j0 (K : Nat) (a0 : Int) (a1 : T_arr2_9) (a2 : List T_api_Write) (x3246 : Bool) : Option Bool :=
  if x3246 = true then ((headgatelaw05_wakes.f K).bind fun t3251 => (some t3251)) else ((frame_Put.f K a0 a1.f0).bind fun t3257 => (asrt (t3257.1.size + a1.f1.size ≤ 9223372036854775807) ((frame_Get.f K (t3257.1 ++ a1.f1)).bind fun t3264 => (if t3257.2 = 0 then (if t3264.2.2.2 = 0 then (if t3264.1 = a0 then (if t3264.2.1 = a1.f0 then (if t3264.2.2.1 = (t3257.1.size : Int) then ((frame_Sectors.f (a1.f0.size : Int)).bind fun t3289 => (if t3264.2.2.1 = (IntKind.wrap .i64 (512 * t3289)) then (asrt (([] : List T_api_Write).length + a2.length ≤ 5864062014805) ((frame_Writes.f K (([] : List T_api_Write) ++ a2)).bind fun t3315 => (if t3315.2 = 0 then ((frame_Split.f K t3315.1).bind fun t3333 => (if t3333.2 = 0 then ((headgateref05_Same.f K t3333.1 a2).bind fun t3343 => (if t3343 = true then ((headgatelaw05_wakes.f K).bind fun t3348 => (some t3348)) else (some false))) else (some false))) else (if t3315.1 = (⟨#[]⟩ : ByteArray) then ((headgatelaw05_wakes.f K).bind fun t3327 => (some t3327)) else (some false))))) else (some false))) else (some false)) else (some false)) else (some false)) else (some false)) else (if (a1.f0.size : Int) > 65536 then (if t3257.1 = (⟨#[]⟩ : ByteArray) then ((headgatelaw05_wakes.f K).bind fun t3277 => (some t3277)) else (some false)) else (some false))))))
def headgatelaw05_FrameBack.f (K : Nat) (a0 : Int) (a1 : T_arr2_9) (a2 : List T_api_Write) : Option Bool :=
  if (a1.f0.size : Int) > 70000 then (headgatelaw05_FrameBack.j0 K a0 a1 a2 true) else (if (a1.f1.size : Int) > 70000 then (headgatelaw05_FrameBack.j0 K a0 a1 a2 true) else (headgatelaw05_FrameBack.j0 K a0 a1 a2 (decide ((a2.length : Int) > 200))))
set_option maxRecDepth 100000 in
set_option maxHeartbeats 4000000 in
theorem headgatelaw05_FrameBack.calls (K : Nat) (a0 : Int) (a1 : T_arr2_9) (a2 : List T_api_Write) (A2_0 : Option Addr) (c2_0 : Nat) (r : Bool) (w : World) (hG0 : CA w 0 0 (encs (encIK .u32) G_crc_steps).toArray) (hr2_0 : Rd 2 w (.slice A2_0 a2.length c2_0) a2.length (encs T_api_Write.enc a2)) (h : headgatelaw05_FrameBack.f K a0 a1 a2 = some r) :
    Calls Tryd.prog 8 #[.int .u64 a0, .agg #[.string a1.f0, .string a1.f1], .slice A2_0 a2.length c2_0] w (fun e W' => e = .returned (.bool r) ∧ Wd w W' [] [] ) := by
  refine sxstart (n := 119) (l := [(0, .int .u64 a0), (1, .agg #[.string a1.f0, .string a1.f1]), (2, .slice A2_0 a2.length c2_0)]) Tryd.func8 rfl rfl (Nat.le_of_ble_eq_true KR) (subsA_cons rfl (subsA_cons rfl (subsA_cons rfl (subsA_nil _)))) ?_
  intro a ha
  have HW := Wd.refl w
  unfold headgatelaw05_FrameBack.f at h
  refine wp_seq_k (fun K3233 hK3234 => ?_)
  refine wp_region_lit ?_
  refine stepnew ha HW 4 #[.string a1.f0, .string a1.f1] 55 KR KR ?_; clear ha HW a; intro b3235 a W3236 HW ha
  refine stepp ha 6 (.bool false) KR KR ?_; clear ha a; intro a ha
  refine endl ?_
  refine thenN (hK3234 _ _ ?_); clear hK3234
  refine wp_seq_k (fun K3237 hK3238 => ?_)
  refine regionG 5 KR KR ha HW [.fix (.pointer (some ⟨b3235, 0, none⟩)), .fix (.string a1.f0), .fix (.pointer (some ⟨b3235, 1, none⟩)), .fix (.string a1.f1), .fix (.string a1.f0)] ?_ ?_
  · skip
    refine ⟨?_, ?_, ?_, ?_, ?_, trivial⟩
    · skip
      intro a wr hn hd HW hs; have ha := hasNil hn hd
      have ha := ha.add (seeE hs 4 (.pointer (some ⟨b3235, 0, none⟩)) KR KR)
      refine yStep ha 19 KR ?_; intro l_ ha HK
      refine stepp ha 19 (.pointer (some ⟨b3235, 0, none⟩)) KR KR ?_; intro ax hax; exact HK _ _ _ hax rfl (Below.refl _ _)
    · skip
      intro a wr hn hd HW hs; have ha := hasNil hn hd
      have ha := ha.add (seeF hs 19 0 (.pointer (some ⟨b3235, 0, none⟩)) KR KR)
      refine yStep ha 20 KR ?_; intro l_ ha HK
      refine stepl ha 20 (HW.ca (i := 0) (b := b3235) (C := #[.string a1.f0, .string a1.f1]) (T := 55) (fr := (0, 0)) KR) 9 0 (.tmp 19) (.string a1.f0) rfl KR KR KR ?_; intro ax hax; exact HK _ _ _ hax rfl (Below.refl _ _)
    · skip
      intro a wr hn hd HW hs; have ha := hasNil hn hd
      have ha := ha.add (seeE hs 4 (.pointer (some ⟨b3235, 0, none⟩)) KR KR)
      refine yStep ha 21 KR ?_; intro l_ ha HK
      refine stepp ha 21 (.pointer (some ⟨b3235, 1, none⟩)) KR KR ?_; intro ax hax; exact HK _ _ _ hax rfl (Below.refl _ _)
    · skip
      intro a wr hn hd HW hs; have ha := hasNil hn hd
      have ha := ha.add (seeF hs 21 2 (.pointer (some ⟨b3235, 1, none⟩)) KR KR)
      refine yStep ha 22 KR ?_; intro l_ ha HK
      refine stepl ha 22 (HW.ca (i := 0) (b := b3235) (C := #[.string a1.f0, .string a1.f1]) (T := 55) (fr := (0, 0)) KR) 9 1 (.tmp 21) (.string a1.f1) rfl KR KR KR ?_; intro ax hax; exact HK _ _ _ hax rfl (Below.refl _ _)
    · skip
      intro a wr hn hd HW hs; have ha := hasNil hn hd
      have ha := ha.add (seeF hs 20 1 (.string a1.f0) KR KR)
      refine yStep ha 7 KR ?_; intro l_ ha HK
      refine stepp ha 7 (.string a1.f0) KR KR ?_; intro ax hax; exact HK _ _ _ hax rfl (Below.refl _ _)
  · skip
    intro a W3239 ha HW he hf
    replace ha := ha.add (he 0 (.int .u64 a0) KR KR)
    replace ha := ha.add (he 2 (.slice A2_0 a2.length c2_0) KR KR)
    replace ha := ha.add (gotF (m := 5) (j := 4) (d := 7) (v := .string a1.f0) hf KR KR KR)
    replace ha := ha.add (gotF (m := 5) (j := 3) (d := 22) (v := .string a1.f1) hf KR KR KR)
    clear he hf
    refine stepp ha 8 (.string a1.f1) KR KR ?_; clear ha a; intro a ha
    refine endl ?_
    refine thenN (hK3238 _ _ ?_); clear hK3238
    refine wp_seq_k (fun K3240 hK3241 => ?_)
    refine wp_seq_k (fun K3242 hK3243 => ?_)
    refine cutn (fun a W3247 => ∃ (x3246 : Bool), headgatelaw05_FrameBack.j0 K a0 a1 a2 x3246 = some r ∧ Has 119 [(0, .int .u64 a0), (2, .slice A2_0 a2.length c2_0), (7, .string a1.f0), (8, .string a1.f1), (35, .bool x3246)] a ∧ Wd w W3247 [] []) ?_ ?_
    · skip
      refine wp_region_lit ?_
      refine stepp ha 23 (.string a1.f0) KR KR ?_; clear ha a; intro a ha
      refine stepp ha 24 (.int .i64 (a1.f0.size : Int)) KR KR ?_; clear ha a; intro a ha
      refine stepp ha 25 (.bool (decide ((a1.f0.size : Int) > 70000))) KR KR ?_; clear ha a; intro a ha
      refine stepp ha 26 (.bool (decide ((a1.f0.size : Int) > 70000))) KR KR ?_; clear ha a; intro a ha
      by_cases hp3244 : (a1.f0.size : Int) > 70000
      · skip
        replace h := ite_pos' h hp3244
        replace ha := ha.bool 26 KR (decide_eq_true hp3244)
        refine stepo ha 27 KR ?_; clear ha a; intro a ha
        refine stepo ha 28 KR ?_; clear ha a; intro a ha
        refine stepo ha 29 KR ?_; clear ha a; intro a ha
        refine stepp ha 30 (.bool true) KR KR ?_; clear ha a; intro a ha
        refine stepp ha 31 (.bool true) KR KR ?_; clear ha a; intro a ha
        refine stepo ha 32 KR ?_; clear ha a; intro a ha
        refine stepo ha 33 KR ?_; clear ha a; intro a ha
        refine stepo ha 34 KR ?_; clear ha a; intro a ha
        refine stepp ha 35 (.bool true) KR KR ?_; clear ha a; intro a ha
        refine endl ?_
        exact thenN ⟨true, h, ha.sub (subs_cons KR (subs_cons KR (subs_cons KR (subs_cons KR (subs_cons KR (subs_nil _)))))), HW.pick [] [] (by decide) (by decide) KR KR⟩
      · skip
        replace h := ite_neg' h hp3244
        replace ha := ha.bool 26 KR (decide_eq_false hp3244)
        refine stepp ha 27 (.string a1.f1) KR KR ?_; clear ha a; intro a ha
        refine stepp ha 28 (.int .i64 (a1.f1.size : Int)) KR KR ?_; clear ha a; intro a ha
        refine stepp ha 29 (.bool (decide ((a1.f1.size : Int) > 70000))) KR KR ?_; clear ha a; intro a ha
        refine stepp ha 30 (.bool (decide ((a1.f1.size : Int) > 70000))) KR KR ?_; clear ha a; intro a ha
        refine stepp ha 31 (.bool (decide ((a1.f1.size : Int) > 70000))) KR KR ?_; clear ha a; intro a ha
        by_cases hp3245 : (a1.f1.size : Int) > 70000
        · skip
          replace h := ite_pos' h hp3245
          replace ha := ha.bool 31 KR (decide_eq_true hp3245)
          refine stepo ha 32 KR ?_; clear ha a; intro a ha
          refine stepo ha 33 KR ?_; clear ha a; intro a ha
          refine stepo ha 34 KR ?_; clear ha a; intro a ha
          refine stepp ha 35 (.bool true) KR KR ?_; clear ha a; intro a ha
          refine endl ?_
          exact thenN ⟨true, h, ha.sub (subs_cons KR (subs_cons KR (subs_cons KR (subs_cons KR (subs_cons KR (subs_nil _)))))), HW.pick [] [] (by decide) (by decide) KR KR⟩
        · skip
          replace h := ite_neg' h hp3245
          replace ha := ha.bool 31 KR (decide_eq_false hp3245)
          refine stepp ha 32 (.slice A2_0 a2.length c2_0) KR KR ?_; clear ha a; intro a ha
          refine stepp ha 33 (.int .i64 (a2.length : Int)) KR KR ?_; clear ha a; intro a ha
          refine stepp ha 34 (.bool (decide ((a2.length : Int) > 200))) KR KR ?_; clear ha a; intro a ha
          refine stepp ha 35 (.bool (decide ((a2.length : Int) > 200))) KR KR ?_; clear ha a; intro a ha
          refine endl ?_
          exact thenN ⟨decide ((a2.length : Int) > 200), h, ha.sub (subs_cons KR (subs_cons KR (subs_cons KR (subs_cons KR (subs_cons KR (subs_nil _)))))), HW.pick [] [] (by decide) (by decide) KR KR⟩
    · skip
      intro a W3247 hJ
      obtain ⟨x3246, h, ha, HW⟩ := hJ
      replace h : headgatelaw05_FrameBack.j0 K a0 a1 a2 x3246 = some r := h
      unfold headgatelaw05_FrameBack.j0 at h
      refine hK3243 _ _ ?_; clear hK3243
      by_cases hp3248 : x3246 = true
      · skip
        replace h := ite_pos' h hp3248
        refine condT ha KR KR (t := x3246) (hp3248) ?_
        refine wp_seq_k (fun K3249 hK3250 => ?_)
        refine wp_region_lit ?_
        obtain ⟨t3251, ht3252, h_⟩ := bind_some' h; clear h; have h := h_; clear h_
        refine stepc ha 36 KR KR (headgatelaw05_wakes.calls K t3251 _ (HW.ca0 hG0) ht3252) ?_; clear ha a; rintro e W3253 ⟨rfl, HX3254⟩
        refine ⟨_, rfl, ?_⟩; intro a ha; replace HW := HW.callw HX3254; clear HX3254
        refine stepp ha 6 (.bool t3251) KR KR ?_; clear ha a; intro a ha
        refine endl ?_
        refine thenN (hK3250 _ _ ?_); clear hK3250
        refine wp_ret ?_
        refine thenR ?_
        obtain rfl := Option.some.inj h
        exact finv ha _ _ rfl (.tmp (v := .bool t3251) KR .nil) (.bool t3251) rfl ⟨rfl, HW.pick [] [] (by decide) (by decide) rfl KR⟩
      · skip
        replace h := ite_neg' h hp3248
        refine condF ha KR KR (t := x3246) (bool_f hp3248) ?_
        refine wp_skip ?_
        refine thenN (hK3241 _ _ ?_); clear hK3241
        refine wp_seq_k (fun K3255 hK3256 => ?_)
        refine wp_region_lit ?_
        refine stepp ha 38 (.int .u64 a0) KR KR ?_; clear ha a; intro a ha
        refine stepp ha 39 (.string a1.f0) KR KR ?_; clear ha a; intro a ha
        obtain ⟨t3257, ht3258, h_⟩ := bind_some' h; clear h; have h := h_; clear h_
        refine stepc ha 40 KR KR (frame_Put.calls K a0 a1.f0 t3257 _ (HW.ca0 hG0) ht3258) ?_; clear ha a; rintro e W3259 ⟨rfl, HX3260⟩
        refine ⟨_, rfl, ?_⟩; intro a ha; replace HW := HW.callw HX3260; clear HX3260
        refine stepp ha 37 (.tuple #[.string t3257.1, .int .i64 t3257.2]) KR KR ?_; clear ha a; intro a ha
        refine stepp ha 41 (.string t3257.1) KR KR ?_; clear ha a; intro a ha
        refine stepp ha 42 (.int .i64 t3257.2) KR KR ?_; clear ha a; intro a ha
        refine stepp ha 9 (.string t3257.1) KR KR ?_; clear ha a; intro a ha
        refine stepp ha 10 (.int .i64 t3257.2) KR KR ?_; clear ha a; intro a ha
        refine endl ?_
        refine thenN (hK3256 _ _ ?_); clear hK3256
        refine wp_seq_k (fun K3261 hK3262 => ?_)
        refine wp_region_lit ?_
        refine stepp ha 44 (.string t3257.1) KR KR ?_; clear ha a; intro a ha
        refine stepp ha 45 (.string a1.f1) KR KR ?_; clear ha a; intro a ha
        obtain ⟨hA3263, h_⟩ := asrt_some h; clear h; have h := h_; clear h_
        refine stepsa ha 46 9 9 (.tmp 44) (.tmp 45) t3257.1 a1.f1 rfl KR KR (show (t3257.1).size + (a1.f1).size ≤ 9223372036854775807 from hA3263) KR ?_; clear ha a; intro a ha
        obtain ⟨t3264, ht3265, h_⟩ := bind_some' h; clear h; have h := h_; clear h_
        refine stepc ha 47 KR KR (frame_Get.calls K (t3257.1 ++ a1.f1) t3264 _ (HW.ca0 hG0) ht3265) ?_; clear ha a; rintro e W3266 ⟨rfl, HX3267⟩
        refine ⟨_, rfl, ?_⟩; intro a ha; replace HW := HW.callw HX3267; clear HX3267
        refine stepp ha 43 (.tuple #[.int .u64 t3264.1, .string t3264.2.1, .int .i64 t3264.2.2.1, .int .i64 t3264.2.2.2]) KR KR ?_; clear ha a; intro a ha
        refine stepp ha 48 (.int .u64 t3264.1) KR KR ?_; clear ha a; intro a ha
        refine stepp ha 49 (.string t3264.2.1) KR KR ?_; clear ha a; intro a ha
        refine stepp ha 50 (.int .i64 t3264.2.2.1) KR KR ?_; clear ha a; intro a ha
        refine stepp ha 51 (.int .i64 t3264.2.2.2) KR KR ?_; clear ha a; intro a ha
        refine stepp ha 11 (.int .u64 t3264.1) KR KR ?_; clear ha a; intro a ha
        refine stepp ha 12 (.string t3264.2.1) KR KR ?_; clear ha a; intro a ha
        refine stepp ha 13 (.int .i64 t3264.2.2.1) KR KR ?_; clear ha a; intro a ha
        refine stepp ha 14 (.int .i64 t3264.2.2.2) KR KR ?_; clear ha a; intro a ha
        refine endl ?_
        refine thenN (hK3262 _ _ ?_); clear hK3262
        refine wp_seq_k (fun K3268 hK3269 => ?_)
        refine wp_seq_k (fun K3270 hK3271 => ?_)
        refine wp_region_lit ?_
        refine stepp ha 52 (.int .i64 t3257.2) KR KR ?_; clear ha a; intro a ha
        refine stepp ha 53 (.bool (t3257.2 != 0)) KR KR ?_; clear ha a; intro a ha
        refine endl ?_
        refine thenN (hK3271 _ _ ?_); clear hK3271
        by_cases hp3272 : t3257.2 = 0
        · skip
          replace h := ite_pos' h hp3272
          refine condF ha KR KR (t := (t3257.2 != 0)) (ineq_f hp3272) ?_
          refine wp_skip ?_
          refine thenN (hK3269 _ _ ?_); clear hK3269
          refine wp_seq_k (fun K3281 hK3282 => ?_)
          refine wp_seq_k (fun K3283 hK3284 => ?_)
          refine wp_region_lit ?_
          refine stepp ha 64 (.int .i64 t3264.2.2.2) KR KR ?_; clear ha a; intro a ha
          refine stepp ha 65 (.bool (t3264.2.2.2 != 0)) KR KR ?_; clear ha a; intro a ha
          refine stepp ha 66 (.bool (t3264.2.2.2 != 0)) KR KR ?_; clear ha a; intro a ha
          by_cases hp3285 : t3264.2.2.2 = 0
          · skip
            replace h := ite_pos' h hp3285
            replace ha := ha.bool 66 KR (ineq_f hp3285)
            refine stepp ha 67 (.int .u64 t3264.1) KR KR ?_; clear ha a; intro a ha
            refine stepp ha 68 (.int .u64 a0) KR KR ?_; clear ha a; intro a ha
            refine stepp ha 69 (.bool (t3264.1 != a0)) KR KR ?_; clear ha a; intro a ha
            refine stepp ha 70 (.bool (t3264.1 != a0)) KR KR ?_; clear ha a; intro a ha
            refine stepp ha 71 (.bool (t3264.1 != a0)) KR KR ?_; clear ha a; intro a ha
            by_cases hp3286 : t3264.1 = a0
            · skip
              replace h := ite_pos' h hp3286
              replace ha := ha.bool 71 KR (ineq_f hp3286)
              refine stepp ha 72 (.string t3264.2.1) KR KR ?_; clear ha a; intro a ha
              refine stepp ha 73 (.string a1.f0) KR KR ?_; clear ha a; intro a ha
              refine stepp ha 74 (.bool (!(t3264.2.1.toList == a1.f0.toList))) KR KR ?_; clear ha a; intro a ha
              refine stepp ha 75 (.bool (!(t3264.2.1.toList == a1.f0.toList))) KR KR ?_; clear ha a; intro a ha
              refine stepp ha 76 (.bool (!(t3264.2.1.toList == a1.f0.toList))) KR KR ?_; clear ha a; intro a ha
              by_cases hp3287 : t3264.2.1 = a1.f0
              · skip
                replace h := ite_pos' h hp3287
                replace ha := ha.bool 76 KR (str_ne_f hp3287)
                refine stepp ha 77 (.int .i64 t3264.2.2.1) KR KR ?_; clear ha a; intro a ha
                refine stepp ha 78 (.string t3257.1) KR KR ?_; clear ha a; intro a ha
                refine stepp ha 79 (.int .i64 (t3257.1.size : Int)) KR KR ?_; clear ha a; intro a ha
                refine stepp ha 80 (.bool (t3264.2.2.1 != (t3257.1.size : Int))) KR KR ?_; clear ha a; intro a ha
                refine stepp ha 81 (.bool (t3264.2.2.1 != (t3257.1.size : Int))) KR KR ?_; clear ha a; intro a ha
                refine stepp ha 82 (.bool (t3264.2.2.1 != (t3257.1.size : Int))) KR KR ?_; clear ha a; intro a ha
                by_cases hp3288 : t3264.2.2.1 = (t3257.1.size : Int)
                · skip
                  replace h := ite_pos' h hp3288
                  replace ha := ha.bool 82 KR (ineq_f hp3288)
                  refine stepp ha 83 (.int .i64 t3264.2.2.1) KR KR ?_; clear ha a; intro a ha
                  refine stepp ha 84 (.string a1.f0) KR KR ?_; clear ha a; intro a ha
                  refine stepp ha 85 (.int .i64 (a1.f0.size : Int)) KR KR ?_; clear ha a; intro a ha
                  obtain ⟨t3289, ht3290, h_⟩ := bind_some' h; clear h; have h := h_; clear h_
                  refine stepc ha 86 KR KR (frame_Sectors.calls (a1.f0.size : Int) t3289 _ ht3290) ?_; clear ha a; rintro e W3291 ⟨rfl, HX3292⟩
                  refine ⟨_, rfl, ?_⟩; intro a ha; replace HW := HW.callw HX3292; clear HX3292
                  refine stepp ha 87 (.int .i64 (IntKind.wrap .i64 (512 * t3289))) KR KR ?_; clear ha a; intro a ha
                  refine stepp ha 88 (.bool (t3264.2.2.1 != (IntKind.wrap .i64 (512 * t3289)))) KR KR ?_; clear ha a; intro a ha
                  refine stepp ha 89 (.bool (t3264.2.2.1 != (IntKind.wrap .i64 (512 * t3289)))) KR KR ?_; clear ha a; intro a ha
                  refine endl ?_
                  refine thenN (hK3284 _ _ ?_); clear hK3284
                  by_cases hp3293 : t3264.2.2.1 = (IntKind.wrap .i64 (512 * t3289))
                  · skip
                    replace h := ite_pos' h hp3293
                    refine condF ha KR KR (t := (t3264.2.2.1 != (IntKind.wrap .i64 (512 * t3289)))) (ineq_f hp3293) ?_
                    refine wp_skip ?_
                    refine thenN (hK3282 _ _ ?_); clear hK3282
                    refine wp_seq_k (fun K3304 hK3305 => ?_)
                    refine wp_region_lit ?_
                    refine stepbs ha HW 91 46 2 0 #[] [] (by decide) KR KR KR KR ?_; clear ha HW a; intro b3306 a W3307 HW ha
                    replace HW : Wd w W3307 [] [⟨46, 2, .slice (some ⟨b3306, 0, none⟩) ([] : List T_api_Write).length 0, ([] : List T_api_Write).length, encs T_api_Write.enc ([] : List T_api_Write)⟩] := HW
                    replace ha := ha.turn 91 (v := .slice (some ⟨b3306, 0, none⟩) ([] : List T_api_Write).length 0) KR rfl
                    refine stepp ha 92 (.slice A2_0 a2.length c2_0) KR KR ?_; clear ha a; intro a ha
                    obtain ⟨hA3309, h_⟩ := asrt_some h; clear h; have h := h_; clear h_
                    refine stepape T_api_Write.enc ha HW 93 0 44 46 (.tmp 91) (.tmp 92) (.agg #[.int .i64 0, .string (⟨#[]⟩ : ByteArray)]) 2 24 (.slice (some ⟨b3306, 0, none⟩) ([] : List T_api_Write).length 0) ([] : List T_api_Write) (.slice A2_0 a2.length c2_0) a2 KR rfl KR KR ((HW.rd0 hr2_0)) (fun _ => rfl) KR KR KR (by decide) (by have := hA3309; unfold maxLen; omega) (by have := hA3309; omega) KR ?_; clear ha HW a; intro A3310 c3311 a W3312 HW ha
                    obtain ⟨t3315, ht3316, h_⟩ := bind_some' h; clear h; have h := h_; clear h_
                    refine stepc ha 94 KR KR (frame_Writes.calls K (([] : List T_api_Write) ++ a2) A3310 c3311 t3315 _ (HW.rdo (i := 0) (q := ⟨46, 2, .slice A3310 (([] : List T_api_Write) ++ a2).length c3311, (([] : List T_api_Write) ++ a2).length, encs T_api_Write.enc (([] : List T_api_Write) ++ a2)⟩) KR) ht3316) ?_; clear ha a; rintro e W3317 ⟨rfl, HX3318⟩
                    refine ⟨_, rfl, ?_⟩; intro a ha; replace HW := HW.callw HX3318; clear HX3318
                    refine stepp ha 90 (.tuple #[.string t3315.1, .int .i64 t3315.2]) KR KR ?_; clear ha a; intro a ha
                    refine stepp ha 95 (.string t3315.1) KR KR ?_; clear ha a; intro a ha
                    refine stepp ha 96 (.int .i64 t3315.2) KR KR ?_; clear ha a; intro a ha
                    refine stepp ha 15 (.string t3315.1) KR KR ?_; clear ha a; intro a ha
                    refine stepp ha 16 (.int .i64 t3315.2) KR KR ?_; clear ha a; intro a ha
                    refine endl ?_
                    refine thenN (hK3305 _ _ ?_); clear hK3305
                    refine wp_seq_k (fun K3319 hK3320 => ?_)
                    refine wp_seq_k (fun K3321 hK3322 => ?_)
                    refine wp_region_lit ?_
                    refine stepp ha 97 (.int .i64 t3315.2) KR KR ?_; clear ha a; intro a ha
                    refine stepp ha 98 (.bool (t3315.2 != 0)) KR KR ?_; clear ha a; intro a ha
                    refine endl ?_
                    refine thenN (hK3322 _ _ ?_); clear hK3322
                    by_cases hp3323 : t3315.2 = 0
                    · skip
                      replace h := ite_pos' h hp3323
                      refine condF ha KR KR (t := (t3315.2 != 0)) (ineq_f hp3323) ?_
                      refine wp_skip ?_
                      refine thenN (hK3320 _ _ ?_); clear hK3320
                      refine wp_seq_k (fun K3331 hK3332 => ?_)
                      refine wp_region_lit ?_
                      refine stepp ha 105 (.string t3315.1) KR KR ?_; clear ha a; intro a ha
                      obtain ⟨t3333, ht3334, h_⟩ := bind_some' h; clear h; have h := h_; clear h_
                      refine stepc ha 106 KR KR (frame_Split.calls K t3315.1 t3333 _ ht3334) ?_; clear ha a; rintro e W3338 ⟨A3335, c3336, rfl, HX3339⟩
                      refine ⟨_, rfl, ?_⟩; intro a ha; replace HW := HW.callw HX3339; clear HX3339
                      refine stepp ha 104 (.tuple #[.slice A3335 t3333.1.length c3336, .int .i64 t3333.2]) KR KR ?_; clear ha a; intro a ha
                      refine stepp ha 107 (.slice A3335 t3333.1.length c3336) KR KR ?_; clear ha a; intro a ha
                      refine stepp ha 108 (.int .i64 t3333.2) KR KR ?_; clear ha a; intro a ha
                      refine stepp ha 17 (.slice A3335 t3333.1.length c3336) KR KR ?_; clear ha a; intro a ha
                      refine stepp ha 18 (.int .i64 t3333.2) KR KR ?_; clear ha a; intro a ha
                      refine endl ?_
                      refine thenN (hK3332 _ _ ?_); clear hK3332
                      refine wp_seq_k (fun K3340 hK3341 => ?_)
                      refine wp_region_lit ?_
                      refine stepp ha 109 (.int .i64 t3333.2) KR KR ?_; clear ha a; intro a ha
                      refine stepp ha 110 (.bool (t3333.2 == 0)) KR KR ?_; clear ha a; intro a ha
                      refine stepp ha 111 (.bool (t3333.2 == 0)) KR KR ?_; clear ha a; intro a ha
                      by_cases hp3342 : t3333.2 = 0
                      · skip
                        replace h := ite_pos' h hp3342
                        replace ha := ha.bool 111 KR (ieq_t hp3342)
                        refine stepp ha 112 (.slice A3335 t3333.1.length c3336) KR KR ?_; clear ha a; intro a ha
                        refine stepp ha 113 (.slice A2_0 a2.length c2_0) KR KR ?_; clear ha a; intro a ha
                        obtain ⟨t3343, ht3344, h_⟩ := bind_some' h; clear h; have h := h_; clear h_
                        refine stepc ha 114 KR KR (headgateref05_Same.calls K t3333.1 a2 A3335 c3336 A2_0 c2_0 t3343 _ (HW.rdo (i := 0) (q := ⟨46, 2, .slice A3335 t3333.1.length c3336, t3333.1.length, encs T_api_Write.enc t3333.1⟩) KR) ((HW.rd0 hr2_0)) ht3344) ?_; clear ha a; rintro e W3345 ⟨rfl, HX3346⟩
                        refine ⟨_, rfl, ?_⟩; intro a ha; replace HW := HW.callw HX3346; clear HX3346
                        refine stepp ha 115 (.bool t3343) KR KR ?_; clear ha a; intro a ha
                        refine stepp ha 116 (.bool t3343) KR KR ?_; clear ha a; intro a ha
                        by_cases hp3347 : t3343 = true
                        · skip
                          replace h := ite_pos' h hp3347
                          replace ha := ha.bool 116 KR (hp3347)
                          obtain ⟨t3348, ht3349, h_⟩ := bind_some' h; clear h; have h := h_; clear h_
                          refine stepc ha 117 KR KR (headgatelaw05_wakes.calls K t3348 _ (HW.ca0 hG0) ht3349) ?_; clear ha a; rintro e W3350 ⟨rfl, HX3351⟩
                          refine ⟨_, rfl, ?_⟩; intro a ha; replace HW := HW.callw HX3351; clear HX3351
                          refine stepp ha 118 (.bool t3348) KR KR ?_; clear ha a; intro a ha
                          refine stepp ha 6 (.bool t3348) KR KR ?_; clear ha a; intro a ha
                          refine endl ?_
                          refine thenN (hK3341 _ _ ?_); clear hK3341
                          refine wp_ret ?_
                          obtain rfl := Option.some.inj h
                          exact finv ha _ _ rfl (.tmp (v := .bool t3348) KR .nil) (.bool t3348) rfl ⟨rfl, HW.pick [] [] (by decide) (by decide) rfl KR⟩
                        · skip
                          replace h := ite_neg' h hp3347
                          replace ha := ha.bool 116 KR (bool_f hp3347)
                          refine stepo ha 117 KR ?_; clear ha a; intro a ha
                          refine stepp ha 118 (.bool false) KR KR ?_; clear ha a; intro a ha
                          refine stepp ha 6 (.bool false) KR KR ?_; clear ha a; intro a ha
                          refine endl ?_
                          refine thenN (hK3341 _ _ ?_); clear hK3341
                          refine wp_ret ?_
                          obtain rfl := Option.some.inj h
                          exact finv ha _ _ rfl (.tmp (v := .bool false) KR .nil) (.bool false) rfl ⟨rfl, HW.pick [] [] (by decide) (by decide) rfl KR⟩
                      · skip
                        replace h := ite_neg' h hp3342
                        replace ha := ha.bool 111 KR (ieq_f hp3342)
                        refine stepo ha 112 KR ?_; clear ha a; intro a ha
                        refine stepo ha 113 KR ?_; clear ha a; intro a ha
                        refine stepo ha 114 KR ?_; clear ha a; intro a ha
                        refine stepp ha 115 (.bool false) KR KR ?_; clear ha a; intro a ha
                        refine stepp ha 116 (.bool false) KR KR ?_; clear ha a; intro a ha
                        refine stepo ha 117 KR ?_; clear ha a; intro a ha
                        refine stepp ha 118 (.bool false) KR KR ?_; clear ha a; intro a ha
                        refine stepp ha 6 (.bool false) KR KR ?_; clear ha a; intro a ha
                        refine endl ?_
                        refine thenN (hK3341 _ _ ?_); clear hK3341
                        refine wp_ret ?_
                        obtain rfl := Option.some.inj h
                        exact finv ha _ _ rfl (.tmp (v := .bool false) KR .nil) (.bool false) rfl ⟨rfl, HW.pick [] [] (by decide) (by decide) rfl KR⟩
                    · skip
                      replace h := ite_neg' h hp3323
                      refine condT ha KR KR (t := (t3315.2 != 0)) (ineq_t hp3323) ?_
                      refine wp_seq_k (fun K3324 hK3325 => ?_)
                      refine wp_region_lit ?_
                      refine stepp ha 99 (.string t3315.1) KR KR ?_; clear ha a; intro a ha
                      refine stepp ha 100 (.bool (t3315.1.toList == (⟨#[]⟩ : ByteArray).toList)) KR KR ?_; clear ha a; intro a ha
                      refine stepp ha 101 (.bool (t3315.1.toList == (⟨#[]⟩ : ByteArray).toList)) KR KR ?_; clear ha a; intro a ha
                      by_cases hp3326 : t3315.1 = (⟨#[]⟩ : ByteArray)
                      · skip
                        replace h := ite_pos' h hp3326
                        replace ha := ha.bool 101 KR (str_eq_t hp3326)
                        obtain ⟨t3327, ht3328, h_⟩ := bind_some' h; clear h; have h := h_; clear h_
                        refine stepc ha 102 KR KR (headgatelaw05_wakes.calls K t3327 _ (HW.ca0 hG0) ht3328) ?_; clear ha a; rintro e W3329 ⟨rfl, HX3330⟩
                        refine ⟨_, rfl, ?_⟩; intro a ha; replace HW := HW.callw HX3330; clear HX3330
                        refine stepp ha 103 (.bool t3327) KR KR ?_; clear ha a; intro a ha
                        refine stepp ha 6 (.bool t3327) KR KR ?_; clear ha a; intro a ha
                        refine endl ?_
                        refine thenN (hK3325 _ _ ?_); clear hK3325
                        refine wp_ret ?_
                        refine thenR ?_
                        obtain rfl := Option.some.inj h
                        exact finv ha _ _ rfl (.tmp (v := .bool t3327) KR .nil) (.bool t3327) rfl ⟨rfl, HW.pick [] [] (by decide) (by decide) rfl KR⟩
                      · skip
                        replace h := ite_neg' h hp3326
                        replace ha := ha.bool 101 KR (str_eq_f hp3326)
                        refine stepo ha 102 KR ?_; clear ha a; intro a ha
                        refine stepp ha 103 (.bool false) KR KR ?_; clear ha a; intro a ha
                        refine stepp ha 6 (.bool false) KR KR ?_; clear ha a; intro a ha
                        refine endl ?_
                        refine thenN (hK3325 _ _ ?_); clear hK3325
                        refine wp_ret ?_
                        refine thenR ?_
                        obtain rfl := Option.some.inj h
                        exact finv ha _ _ rfl (.tmp (v := .bool false) KR .nil) (.bool false) rfl ⟨rfl, HW.pick [] [] (by decide) (by decide) rfl KR⟩
                  · skip
                    replace h := ite_neg' h hp3293
                    refine condT ha KR KR (t := (t3264.2.2.1 != (IntKind.wrap .i64 (512 * t3289)))) (ineq_t hp3293) ?_
                    refine wp_seq_k (fun K3294 hK3295 => ?_)
                    refine wp_region_lit ?_
                    refine stepp ha 6 (.bool false) KR KR ?_; clear ha a; intro a ha
                    refine endl ?_
                    refine thenN (hK3295 _ _ ?_); clear hK3295
                    refine wp_ret ?_
                    refine thenR ?_
                    obtain rfl := Option.some.inj h
                    exact finv ha _ _ rfl (.tmp (v := .bool false) KR .nil) (.bool false) rfl ⟨rfl, HW.pick [] [] (by decide) (by decide) rfl KR⟩
                · skip
                  replace h := ite_neg' h hp3288
                  replace ha := ha.bool 82 KR (ineq_t hp3288)
                  refine stepo ha 83 KR ?_; clear ha a; intro a ha
                  refine stepo ha 84 KR ?_; clear ha a; intro a ha
                  refine stepo ha 85 KR ?_; clear ha a; intro a ha
                  refine stepo ha 86 KR ?_; clear ha a; intro a ha
                  refine stepo ha 87 KR ?_; clear ha a; intro a ha
                  refine stepo ha 88 KR ?_; clear ha a; intro a ha
                  refine stepp ha 89 (.bool true) KR KR ?_; clear ha a; intro a ha
                  refine endl ?_
                  refine thenN (hK3284 _ _ ?_); clear hK3284
                  refine condT ha KR KR (t := true) (rfl) ?_
                  refine wp_seq_k (fun K3296 hK3297 => ?_)
                  refine wp_region_lit ?_
                  refine stepp ha 6 (.bool false) KR KR ?_; clear ha a; intro a ha
                  refine endl ?_
                  refine thenN (hK3297 _ _ ?_); clear hK3297
                  refine wp_ret ?_
                  refine thenR ?_
                  obtain rfl := Option.some.inj h
                  exact finv ha _ _ rfl (.tmp (v := .bool false) KR .nil) (.bool false) rfl ⟨rfl, HW.pick [] [] (by decide) (by decide) rfl KR⟩
              · skip
                replace h := ite_neg' h hp3287
                replace ha := ha.bool 76 KR (str_ne_t hp3287)
                refine stepo ha 77 KR ?_; clear ha a; intro a ha
                refine stepo ha 78 KR ?_; clear ha a; intro a ha
                refine stepo ha 79 KR ?_; clear ha a; intro a ha
                refine stepo ha 80 KR ?_; clear ha a; intro a ha
                refine stepp ha 81 (.bool true) KR KR ?_; clear ha a; intro a ha
                refine stepp ha 82 (.bool true) KR KR ?_; clear ha a; intro a ha
                refine stepo ha 83 KR ?_; clear ha a; intro a ha
                refine stepo ha 84 KR ?_; clear ha a; intro a ha
                refine stepo ha 85 KR ?_; clear ha a; intro a ha
                refine stepo ha 86 KR ?_; clear ha a; intro a ha
                refine stepo ha 87 KR ?_; clear ha a; intro a ha
                refine stepo ha 88 KR ?_; clear ha a; intro a ha
                refine stepp ha 89 (.bool true) KR KR ?_; clear ha a; intro a ha
                refine endl ?_
                refine thenN (hK3284 _ _ ?_); clear hK3284
                refine condT ha KR KR (t := true) (rfl) ?_
                refine wp_seq_k (fun K3298 hK3299 => ?_)
                refine wp_region_lit ?_
                refine stepp ha 6 (.bool false) KR KR ?_; clear ha a; intro a ha
                refine endl ?_
                refine thenN (hK3299 _ _ ?_); clear hK3299
                refine wp_ret ?_
                refine thenR ?_
                obtain rfl := Option.some.inj h
                exact finv ha _ _ rfl (.tmp (v := .bool false) KR .nil) (.bool false) rfl ⟨rfl, HW.pick [] [] (by decide) (by decide) rfl KR⟩
            · skip
              replace h := ite_neg' h hp3286
              replace ha := ha.bool 71 KR (ineq_t hp3286)
              refine stepo ha 72 KR ?_; clear ha a; intro a ha
              refine stepo ha 73 KR ?_; clear ha a; intro a ha
              refine stepo ha 74 KR ?_; clear ha a; intro a ha
              refine stepp ha 75 (.bool true) KR KR ?_; clear ha a; intro a ha
              refine stepp ha 76 (.bool true) KR KR ?_; clear ha a; intro a ha
              refine stepo ha 77 KR ?_; clear ha a; intro a ha
              refine stepo ha 78 KR ?_; clear ha a; intro a ha
              refine stepo ha 79 KR ?_; clear ha a; intro a ha
              refine stepo ha 80 KR ?_; clear ha a; intro a ha
              refine stepp ha 81 (.bool true) KR KR ?_; clear ha a; intro a ha
              refine stepp ha 82 (.bool true) KR KR ?_; clear ha a; intro a ha
              refine stepo ha 83 KR ?_; clear ha a; intro a ha
              refine stepo ha 84 KR ?_; clear ha a; intro a ha
              refine stepo ha 85 KR ?_; clear ha a; intro a ha
              refine stepo ha 86 KR ?_; clear ha a; intro a ha
              refine stepo ha 87 KR ?_; clear ha a; intro a ha
              refine stepo ha 88 KR ?_; clear ha a; intro a ha
              refine stepp ha 89 (.bool true) KR KR ?_; clear ha a; intro a ha
              refine endl ?_
              refine thenN (hK3284 _ _ ?_); clear hK3284
              refine condT ha KR KR (t := true) (rfl) ?_
              refine wp_seq_k (fun K3300 hK3301 => ?_)
              refine wp_region_lit ?_
              refine stepp ha 6 (.bool false) KR KR ?_; clear ha a; intro a ha
              refine endl ?_
              refine thenN (hK3301 _ _ ?_); clear hK3301
              refine wp_ret ?_
              refine thenR ?_
              obtain rfl := Option.some.inj h
              exact finv ha _ _ rfl (.tmp (v := .bool false) KR .nil) (.bool false) rfl ⟨rfl, HW.pick [] [] (by decide) (by decide) rfl KR⟩
          · skip
            replace h := ite_neg' h hp3285
            replace ha := ha.bool 66 KR (ineq_t hp3285)
            refine stepo ha 67 KR ?_; clear ha a; intro a ha
            refine stepo ha 68 KR ?_; clear ha a; intro a ha
            refine stepo ha 69 KR ?_; clear ha a; intro a ha
            refine stepp ha 70 (.bool true) KR KR ?_; clear ha a; intro a ha
            refine stepp ha 71 (.bool true) KR KR ?_; clear ha a; intro a ha
            refine stepo ha 72 KR ?_; clear ha a; intro a ha
            refine stepo ha 73 KR ?_; clear ha a; intro a ha
            refine stepo ha 74 KR ?_; clear ha a; intro a ha
            refine stepp ha 75 (.bool true) KR KR ?_; clear ha a; intro a ha
            refine stepp ha 76 (.bool true) KR KR ?_; clear ha a; intro a ha
            refine stepo ha 77 KR ?_; clear ha a; intro a ha
            refine stepo ha 78 KR ?_; clear ha a; intro a ha
            refine stepo ha 79 KR ?_; clear ha a; intro a ha
            refine stepo ha 80 KR ?_; clear ha a; intro a ha
            refine stepp ha 81 (.bool true) KR KR ?_; clear ha a; intro a ha
            refine stepp ha 82 (.bool true) KR KR ?_; clear ha a; intro a ha
            refine stepo ha 83 KR ?_; clear ha a; intro a ha
            refine stepo ha 84 KR ?_; clear ha a; intro a ha
            refine stepo ha 85 KR ?_; clear ha a; intro a ha
            refine stepo ha 86 KR ?_; clear ha a; intro a ha
            refine stepo ha 87 KR ?_; clear ha a; intro a ha
            refine stepo ha 88 KR ?_; clear ha a; intro a ha
            refine stepp ha 89 (.bool true) KR KR ?_; clear ha a; intro a ha
            refine endl ?_
            refine thenN (hK3284 _ _ ?_); clear hK3284
            refine condT ha KR KR (t := true) (rfl) ?_
            refine wp_seq_k (fun K3302 hK3303 => ?_)
            refine wp_region_lit ?_
            refine stepp ha 6 (.bool false) KR KR ?_; clear ha a; intro a ha
            refine endl ?_
            refine thenN (hK3303 _ _ ?_); clear hK3303
            refine wp_ret ?_
            refine thenR ?_
            obtain rfl := Option.some.inj h
            exact finv ha _ _ rfl (.tmp (v := .bool false) KR .nil) (.bool false) rfl ⟨rfl, HW.pick [] [] (by decide) (by decide) rfl KR⟩
        · skip
          replace h := ite_neg' h hp3272
          refine condT ha KR KR (t := (t3257.2 != 0)) (ineq_t hp3272) ?_
          refine wp_seq_k (fun K3273 hK3274 => ?_)
          refine wp_region_lit ?_
          refine stepp ha 54 (.string a1.f0) KR KR ?_; clear ha a; intro a ha
          refine stepp ha 55 (.int .i64 (a1.f0.size : Int)) KR KR ?_; clear ha a; intro a ha
          refine stepp ha 56 (.bool (decide ((a1.f0.size : Int) > 65536))) KR KR ?_; clear ha a; intro a ha
          refine stepp ha 57 (.bool (decide ((a1.f0.size : Int) > 65536))) KR KR ?_; clear ha a; intro a ha
          by_cases hp3275 : (a1.f0.size : Int) > 65536
          · skip
            replace h := ite_pos' h hp3275
            replace ha := ha.bool 57 KR (decide_eq_true hp3275)
            refine stepp ha 58 (.string t3257.1) KR KR ?_; clear ha a; intro a ha
            refine stepp ha 59 (.bool (t3257.1.toList == (⟨#[]⟩ : ByteArray).toList)) KR KR ?_; clear ha a; intro a ha
            refine stepp ha 60 (.bool (t3257.1.toList == (⟨#[]⟩ : ByteArray).toList)) KR KR ?_; clear ha a; intro a ha
            refine stepp ha 61 (.bool (t3257.1.toList == (⟨#[]⟩ : ByteArray).toList)) KR KR ?_; clear ha a; intro a ha
            by_cases hp3276 : t3257.1 = (⟨#[]⟩ : ByteArray)
            · skip
              replace h := ite_pos' h hp3276
              replace ha := ha.bool 61 KR (str_eq_t hp3276)
              obtain ⟨t3277, ht3278, h_⟩ := bind_some' h; clear h; have h := h_; clear h_
              refine stepc ha 62 KR KR (headgatelaw05_wakes.calls K t3277 _ (HW.ca0 hG0) ht3278) ?_; clear ha a; rintro e W3279 ⟨rfl, HX3280⟩
              refine ⟨_, rfl, ?_⟩; intro a ha; replace HW := HW.callw HX3280; clear HX3280
              refine stepp ha 63 (.bool t3277) KR KR ?_; clear ha a; intro a ha
              refine stepp ha 6 (.bool t3277) KR KR ?_; clear ha a; intro a ha
              refine endl ?_
              refine thenN (hK3274 _ _ ?_); clear hK3274
              refine wp_ret ?_
              refine thenR ?_
              obtain rfl := Option.some.inj h
              exact finv ha _ _ rfl (.tmp (v := .bool t3277) KR .nil) (.bool t3277) rfl ⟨rfl, HW.pick [] [] (by decide) (by decide) rfl KR⟩
            · skip
              replace h := ite_neg' h hp3276
              replace ha := ha.bool 61 KR (str_eq_f hp3276)
              refine stepo ha 62 KR ?_; clear ha a; intro a ha
              refine stepp ha 63 (.bool false) KR KR ?_; clear ha a; intro a ha
              refine stepp ha 6 (.bool false) KR KR ?_; clear ha a; intro a ha
              refine endl ?_
              refine thenN (hK3274 _ _ ?_); clear hK3274
              refine wp_ret ?_
              refine thenR ?_
              obtain rfl := Option.some.inj h
              exact finv ha _ _ rfl (.tmp (v := .bool false) KR .nil) (.bool false) rfl ⟨rfl, HW.pick [] [] (by decide) (by decide) rfl KR⟩
          · skip
            replace h := ite_neg' h hp3275
            replace ha := ha.bool 57 KR (decide_eq_false hp3275)
            refine stepo ha 58 KR ?_; clear ha a; intro a ha
            refine stepo ha 59 KR ?_; clear ha a; intro a ha
            refine stepp ha 60 (.bool false) KR KR ?_; clear ha a; intro a ha
            refine stepp ha 61 (.bool false) KR KR ?_; clear ha a; intro a ha
            refine stepo ha 62 KR ?_; clear ha a; intro a ha
            refine stepp ha 63 (.bool false) KR KR ?_; clear ha a; intro a ha
            refine stepp ha 6 (.bool false) KR KR ?_; clear ha a; intro a ha
            refine endl ?_
            refine thenN (hK3274 _ _ ?_); clear hK3274
            refine wp_ret ?_
            refine thenR ?_
            obtain rfl := Option.some.inj h
            exact finv ha _ _ rfl (.tmp (v := .bool false) KR .nil) (.bool false) rfl ⟨rfl, HW.pick [] [] (by decide) (by decide) rfl KR⟩
end Go.Proofs.YtdcojinnjpihaaaDoor.F
