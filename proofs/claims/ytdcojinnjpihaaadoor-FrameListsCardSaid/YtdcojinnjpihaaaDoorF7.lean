/- headgate/headgatelaw05.FrameLists: plain functions, and that the calls come to what they say. No condition. -/
import Derived.Test.YtdcojinnjpihaaaDoorFT
import Derived.Test.YtdcojinnjpihaaaDoorF9
import Derived.Test.YtdcojinnjpihaaaDoorF16
import Derived.Test.YtdcojinnjpihaaaDoorF17
namespace Go.Proofs.YtdcojinnjpihaaaDoor.F
open Go Go.RowKit Go.Proofs.YtdcojinnjpihaaaDoor.X
set_option linter.unusedVariables false
set_option linter.unusedSimpArgs false
/-! ### headgate/headgatelaw05.FrameLists: function 7 -/
def headgatelaw05_FrameLists.b0 (K : Nat) (a0 : List T_api_Write) (a1 : ByteArray) (again3148 : Int → Option Bool) (x3149 : Int) : Option Bool :=
  if x3149 < (a0.length : Int) then (asrt (0 ≤ x3149) (if (((rdL T_api_Write.z a0 x3149).f1).size : Int) > 70000 then ((headgatelaw05_wakes.f K).bind fun t3169 => (some t3169)) else (again3148 (IntKind.wrap .i64 (x3149 + 1))))) else (asrt (([] : List T_api_Write).length + a0.length ≤ 5864062014805) ((frame_Writes.f K (([] : List T_api_Write) ++ a0)).bind fun t3186 => ((headgateref05_Writes.f K a0).bind fun t3192 => ((frame_Split.f K a1).bind fun t3198 => ((headgateref05_Split.f K a1).bind fun t3207 => (if t3186.1 = t3192.1 then (if t3186.2 = t3192.2 then ((headgateref05_Same.f K t3198.1 t3207.1).bind fun t3218 => (if t3218 = true then (if t3198.2 = t3207.2 then ((headgateref05_Same.f K (([] : List T_api_Write) ++ a0) a0).bind fun t3224 => (if t3224 = true then ((headgatelaw05_wakes.f K).bind fun t3229 => (some t3229)) else (some false))) else (some false)) else (some false))) else (some false)) else (some false)))))))
def headgatelaw05_FrameLists.l0 (K : Nat) (a0 : List T_api_Write) (a1 : ByteArray) : Nat → Int → Option Bool
  | 0, _ => none
  | k_ + 1, x3149 => headgatelaw05_FrameLists.b0 K a0 a1 (headgatelaw05_FrameLists.l0 K a0 a1 k_) x3149
def headgatelaw05_FrameLists.j0 (K : Nat) (a0 : List T_api_Write) (a1 : ByteArray) (x3092 : Bool) : Option Bool :=
  if x3092 = true then ((headgatelaw05_wakes.f K).bind fun t3097 => (some t3097)) else (headgatelaw05_FrameLists.l0 K a0 a1 K 0)
def headgatelaw05_FrameLists.f (K : Nat) (a0 : List T_api_Write) (a1 : ByteArray) : Option Bool :=
  if (a0.length : Int) > 200 then (headgatelaw05_FrameLists.j0 K a0 a1 true) else (headgatelaw05_FrameLists.j0 K a0 a1 (decide ((a1.size : Int) > 70000)))
set_option maxRecDepth 100000 in
set_option maxHeartbeats 4000000 in
theorem headgatelaw05_FrameLists.calls (K : Nat) (a0 : List T_api_Write) (a1 : ByteArray) (A0_0 : Option Addr) (c0_0 : Nat) (r : Bool) (w : World) (hG0 : CA w 0 0 (encs (encIK .u32) G_crc_steps).toArray) (hr0_0 : Rd 2 w (.slice A0_0 a0.length c0_0) a0.length (encs T_api_Write.enc a0)) (h : headgatelaw05_FrameLists.f K a0 a1 = some r) :
    Calls Tryd.prog 7 #[.slice A0_0 a0.length c0_0, .string a1] w (fun e W' => e = .returned (.bool r) ∧ Wd w W' [] [] ) := by
  refine sxstart (n := 87) (l := [(0, .slice A0_0 a0.length c0_0), (1, .string a1)]) Tryd.func7 rfl rfl (Nat.le_of_ble_eq_true KR) (subsA_cons rfl (subsA_cons rfl (subsA_nil _))) ?_
  intro a ha
  have HW := Wd.refl w
  unfold headgatelaw05_FrameLists.f at h
  refine wp_seq_k (fun K3085 hK3086 => ?_)
  refine wp_region_lit ?_
  refine stepp ha 4 (.bool false) KR KR ?_; clear ha a; intro a ha
  refine endl ?_
  refine thenN (hK3086 _ _ ?_); clear hK3086
  refine wp_seq_k (fun K3087 hK3088 => ?_)
  refine wp_seq_k (fun K3089 hK3090 => ?_)
  refine cutn (fun a W3093 => ∃ (x3092 : Bool), headgatelaw05_FrameLists.j0 K a0 a1 x3092 = some r ∧ Has 87 [(0, .slice A0_0 a0.length c0_0), (1, .string a1), (22, .bool x3092)] a ∧ Wd w W3093 [] []) ?_ ?_
  · skip
    refine wp_region_lit ?_
    refine stepp ha 15 (.slice A0_0 a0.length c0_0) KR KR ?_; clear ha a; intro a ha
    refine stepp ha 16 (.int .i64 (a0.length : Int)) KR KR ?_; clear ha a; intro a ha
    refine stepp ha 17 (.bool (decide ((a0.length : Int) > 200))) KR KR ?_; clear ha a; intro a ha
    refine stepp ha 18 (.bool (decide ((a0.length : Int) > 200))) KR KR ?_; clear ha a; intro a ha
    by_cases hp3091 : (a0.length : Int) > 200
    · skip
      replace h := ite_pos' h hp3091
      replace ha := ha.bool 18 KR (decide_eq_true hp3091)
      refine stepo ha 19 KR ?_; clear ha a; intro a ha
      refine stepo ha 20 KR ?_; clear ha a; intro a ha
      refine stepo ha 21 KR ?_; clear ha a; intro a ha
      refine stepp ha 22 (.bool true) KR KR ?_; clear ha a; intro a ha
      refine endl ?_
      exact thenN ⟨true, h, ha.sub (subs_cons KR (subs_cons KR (subs_cons KR (subs_nil _)))), HW.pick [] [] (by decide) (by decide) KR KR⟩
    · skip
      replace h := ite_neg' h hp3091
      replace ha := ha.bool 18 KR (decide_eq_false hp3091)
      refine stepp ha 19 (.string a1) KR KR ?_; clear ha a; intro a ha
      refine stepp ha 20 (.int .i64 (a1.size : Int)) KR KR ?_; clear ha a; intro a ha
      refine stepp ha 21 (.bool (decide ((a1.size : Int) > 70000))) KR KR ?_; clear ha a; intro a ha
      refine stepp ha 22 (.bool (decide ((a1.size : Int) > 70000))) KR KR ?_; clear ha a; intro a ha
      refine endl ?_
      exact thenN ⟨decide ((a1.size : Int) > 70000), h, ha.sub (subs_cons KR (subs_cons KR (subs_cons KR (subs_nil _)))), HW.pick [] [] (by decide) (by decide) KR KR⟩
  · skip
    intro a W3093 hJ
    obtain ⟨x3092, h, ha, HW⟩ := hJ
    replace h : headgatelaw05_FrameLists.j0 K a0 a1 x3092 = some r := h
    unfold headgatelaw05_FrameLists.j0 at h
    refine hK3090 _ _ ?_; clear hK3090
    by_cases hp3094 : x3092 = true
    · skip
      replace h := ite_pos' h hp3094
      refine condT ha KR KR (t := x3092) (hp3094) ?_
      refine wp_seq_k (fun K3095 hK3096 => ?_)
      refine wp_region_lit ?_
      obtain ⟨t3097, ht3098, h_⟩ := bind_some' h; clear h; have h := h_; clear h_
      refine stepc ha 23 KR KR (headgatelaw05_wakes.calls K t3097 _ (HW.ca0 hG0) ht3098) ?_; clear ha a; rintro e W3099 ⟨rfl, HX3100⟩
      refine ⟨_, rfl, ?_⟩; intro a ha; replace HW := HW.callw HX3100; clear HX3100
      refine stepp ha 4 (.bool t3097) KR KR ?_; clear ha a; intro a ha
      refine endl ?_
      refine thenN (hK3096 _ _ ?_); clear hK3096
      refine wp_ret ?_
      refine thenR ?_
      obtain rfl := Option.some.inj h
      exact finv ha _ _ rfl (.tmp (v := .bool t3097) KR .nil) (.bool t3097) rfl ⟨rfl, HW.pick [] [] (by decide) (by decide) rfl KR⟩
    · skip
      replace h := ite_neg' h hp3094
      refine condF ha KR KR (t := x3092) (bool_f hp3094) ?_
      refine wp_skip ?_
      refine thenN (hK3088 _ _ ?_); clear hK3088
      refine wp_seq_k (fun K3101 hK3102 => ?_)
      refine wp_seq_k (fun K3103 hK3104 => ?_)
      refine wp_region_lit ?_
      refine stepp ha 5 (.int .i64 0) KR KR ?_; clear ha a; intro a ha
      refine endl ?_
      refine thenN (hK3104 _ _ ?_); clear hK3104
      refine wp_block ?_
      refine loopk (fun k => fun a W3150 => ∃ (x3149 : Int), headgatelaw05_FrameLists.l0 K a0 a1 k x3149 = some r ∧ Has 87 [(0, .slice A0_0 a0.length c0_0), (1, .string a1), (5, .int .i64 x3149)] a ∧ Wd w W3150 [] []) K ?_ ?_
      · skip
        exact ⟨0, h, ha.sub (subs_cons KR (subs_cons KR (subs_cons KR (subs_nil _)))), HW.pick [] [] (by decide) (by decide) KR KR⟩
      · skip
        intro k a W3150 hI
        obtain ⟨x3149, h, ha, HW⟩ := hI
        cases k with
        | zero => exact (none_some (show none = some r from h)).elim
        | succ k3151 =>
          replace h : headgatelaw05_FrameLists.b0 K a0 a1 (headgatelaw05_FrameLists.l0 K a0 a1 k3151) x3149 = some r := h
          obtain ⟨again3148, hag3152⟩ : ∃ g_, g_ = headgatelaw05_FrameLists.l0 K a0 a1 k3151 := ⟨_, rfl⟩
          rw [← hag3152] at h
          unfold headgatelaw05_FrameLists.b0 at h
          refine wp_seq_k (fun K3153 hK3154 => ?_)
          refine wp_seq_k (fun K3155 hK3156 => ?_)
          refine wp_region_lit ?_
          refine stepp ha 24 (.int .i64 x3149) KR KR ?_; clear ha a; intro a ha
          refine stepp ha 25 (.slice A0_0 a0.length c0_0) KR KR ?_; clear ha a; intro a ha
          refine stepp ha 26 (.int .i64 (a0.length : Int)) KR KR ?_; clear ha a; intro a ha
          refine stepp ha 27 (.bool (decide (x3149 < (a0.length : Int)))) KR KR ?_; clear ha a; intro a ha
          refine endl ?_
          refine thenN (hK3156 _ _ ?_); clear hK3156
          by_cases hp3157 : x3149 < (a0.length : Int)
          · skip
            replace h := ite_pos' h hp3157
            refine condT ha KR KR (t := decide (x3149 < (a0.length : Int))) (decide_eq_true hp3157) ?_
            refine wp_skip ?_
            refine thenN (hK3154 _ _ ?_); clear hK3154
            refine wp_seq_k (fun K3158 hK3159 => ?_)
            refine wp_block ?_
            refine wp_seq_k (fun K3160 hK3161 => ?_)
            refine wp_region_lit ?_
            refine stepp ha 30 (.slice A0_0 a0.length c0_0) KR KR ?_; clear ha a; intro a ha
            refine stepp ha 31 (.int .i64 x3149) KR KR ?_; clear ha a; intro a ha
            obtain ⟨hA3162, h_⟩ := asrt_some h; clear h; have h := h_; clear h_
            refine stepie T_api_Write.enc T_api_Write.z ha 32 (fun _ => rfl) (v := .slice A0_0 a0.length c0_0) (xs := a0) ((HW.rd0 hr0_0)) 44 46 (.tmp 30) (.tmp 31) .i64 x3149 rfl KR KR KR KR hA3162 (show (x3149 : Int) < ((a0).length : Int) from hp3157) KR ?_; clear ha a; intro b3163 off3164 a hC3165 ha
            refine stepp ha 33 (.pointer (some ⟨b3163, off3164 + 1, none⟩)) KR KR ?_; clear ha a; intro a ha
            refine stepl ha 34 hC3165 9 1 (.tmp 33) (.string ((rdL T_api_Write.z a0 x3149).f1)) rfl KR KR KR ?_; clear ha a; intro a ha
            refine stepp ha 35 (.int .i64 (((rdL T_api_Write.z a0 x3149).f1).size : Int)) KR KR ?_; clear ha a; intro a ha
            refine stepp ha 36 (.bool (decide ((((rdL T_api_Write.z a0 x3149).f1).size : Int) > 70000))) KR KR ?_; clear ha a; intro a ha
            refine endl ?_
            refine thenN (hK3161 _ _ ?_); clear hK3161
            by_cases hp3166 : (((rdL T_api_Write.z a0 x3149).f1).size : Int) > 70000
            · skip
              replace h := ite_pos' h hp3166
              refine condT ha KR KR (t := decide ((((rdL T_api_Write.z a0 x3149).f1).size : Int) > 70000)) (decide_eq_true hp3166) ?_
              refine wp_seq_k (fun K3167 hK3168 => ?_)
              refine wp_region_lit ?_
              obtain ⟨t3169, ht3170, h_⟩ := bind_some' h; clear h; have h := h_; clear h_
              refine stepc ha 37 KR KR (headgatelaw05_wakes.calls K t3169 _ (HW.ca0 hG0) ht3170) ?_; clear ha a; rintro e W3171 ⟨rfl, HX3172⟩
              refine ⟨_, rfl, ?_⟩; intro a ha; replace HW := HW.callw HX3172; clear HX3172
              refine stepp ha 4 (.bool t3169) KR KR ?_; clear ha a; intro a ha
              refine endl ?_
              refine thenN (hK3168 _ _ ?_); clear hK3168
              refine wp_ret ?_
              refine blkR ?_
              refine thenR ?_
              refine thenR ?_
              refine blkR ?_
              refine thenR ?_
              obtain rfl := Option.some.inj h
              exact finv ha _ _ rfl (.tmp (v := .bool t3169) KR .nil) (.bool t3169) rfl ⟨rfl, HW.pick [] [] (by decide) (by decide) rfl KR⟩
            · skip
              replace h := ite_neg' h hp3166
              refine condF ha KR KR (t := decide ((((rdL T_api_Write.z a0 x3149).f1).size : Int) > 70000)) (decide_eq_false hp3166) ?_
              refine wp_skip ?_
              refine blkN ?_
              refine thenN (hK3159 _ _ ?_); clear hK3159
              refine wp_region_lit ?_
              refine stepp ha 28 (.int .i64 x3149) KR KR ?_; clear ha a; intro a ha
              refine stepp ha 29 (.int .i64 (IntKind.wrap .i64 (x3149 + 1))) KR KR ?_; clear ha a; intro a ha
              refine stepp ha 5 (.int .i64 (IntKind.wrap .i64 (x3149 + 1))) KR KR ?_; clear ha a; intro a ha
              refine endl ?_
              exact thenN ⟨k3151, Nat.lt_succ_self k3151, IntKind.wrap .i64 (x3149 + 1), (by rw [← hag3152]; exact h), ha.sub (subs_cons KR (subs_cons KR (subs_cons KR (subs_nil _)))), HW.pick [] [] (by decide) (by decide) KR KR⟩
          · skip
            replace h := ite_neg' h hp3157
            refine condF ha KR KR (t := decide (x3149 < (a0.length : Int))) (decide_eq_false hp3157) ?_
            refine wp_exit ?_
            refine thenE ?_
            refine thenE ?_
            refine inBlk ?_
            refine thenN (hK3102 _ _ ?_); clear hK3102
            refine wp_seq_k (fun K3173 hK3174 => ?_)
            refine wp_region_lit ?_
            refine stepbs ha HW 38 46 2 0 #[] [] (by decide) KR KR KR KR ?_; clear ha HW a; intro b3175 a W3176 HW ha
            replace HW : Wd w W3176 [] [⟨46, 2, .slice (some ⟨b3175, 0, none⟩) ([] : List T_api_Write).length 0, ([] : List T_api_Write).length, encs T_api_Write.enc ([] : List T_api_Write)⟩] := HW
            replace ha := ha.turn 38 (v := .slice (some ⟨b3175, 0, none⟩) ([] : List T_api_Write).length 0) KR rfl
            refine stepp ha 39 (.slice A0_0 a0.length c0_0) KR KR ?_; clear ha a; intro a ha
            obtain ⟨hA3178, h_⟩ := asrt_some h; clear h; have h := h_; clear h_
            refine stepape T_api_Write.enc ha HW 40 0 44 46 (.tmp 38) (.tmp 39) (.agg #[.int .i64 0, .string (⟨#[]⟩ : ByteArray)]) 2 24 (.slice (some ⟨b3175, 0, none⟩) ([] : List T_api_Write).length 0) ([] : List T_api_Write) (.slice A0_0 a0.length c0_0) a0 KR rfl KR KR ((HW.rd0 hr0_0)) (fun _ => rfl) KR KR KR (by decide) (by have := hA3178; unfold maxLen; omega) (by have := hA3178; omega) KR ?_; clear ha HW a; intro A3179 c3180 a W3181 HW ha
            refine stepp ha 6 (.slice A3179 (([] : List T_api_Write) ++ a0).length c3180) KR KR ?_; clear ha a; intro a ha
            refine endl ?_
            refine thenN (hK3174 _ _ ?_); clear hK3174
            refine wp_seq_k (fun K3184 hK3185 => ?_)
            refine wp_region_lit ?_
            refine stepp ha 42 (.slice A3179 (([] : List T_api_Write) ++ a0).length c3180) KR KR ?_; clear ha a; intro a ha
            obtain ⟨t3186, ht3187, h_⟩ := bind_some' h; clear h; have h := h_; clear h_
            refine stepc ha 43 KR KR (frame_Writes.calls K (([] : List T_api_Write) ++ a0) A3179 c3180 t3186 _ (HW.rdo (i := 0) (q := ⟨46, 2, .slice A3179 (([] : List T_api_Write) ++ a0).length c3180, (([] : List T_api_Write) ++ a0).length, encs T_api_Write.enc (([] : List T_api_Write) ++ a0)⟩) KR) ht3187) ?_; clear ha a; rintro e W3188 ⟨rfl, HX3189⟩
            refine ⟨_, rfl, ?_⟩; intro a ha; replace HW := HW.callw HX3189; clear HX3189
            refine stepp ha 41 (.tuple #[.string t3186.1, .int .i64 t3186.2]) KR KR ?_; clear ha a; intro a ha
            refine stepp ha 44 (.string t3186.1) KR KR ?_; clear ha a; intro a ha
            refine stepp ha 45 (.int .i64 t3186.2) KR KR ?_; clear ha a; intro a ha
            refine stepp ha 7 (.string t3186.1) KR KR ?_; clear ha a; intro a ha
            refine stepp ha 8 (.int .i64 t3186.2) KR KR ?_; clear ha a; intro a ha
            refine endl ?_
            refine thenN (hK3185 _ _ ?_); clear hK3185
            refine wp_seq_k (fun K3190 hK3191 => ?_)
            refine wp_region_lit ?_
            refine stepp ha 47 (.slice A0_0 a0.length c0_0) KR KR ?_; clear ha a; intro a ha
            obtain ⟨t3192, ht3193, h_⟩ := bind_some' h; clear h; have h := h_; clear h_
            refine stepc ha 48 KR KR (headgateref05_Writes.calls K a0 A0_0 c0_0 t3192 _ ((HW.rd0 hr0_0)) ht3193) ?_; clear ha a; rintro e W3194 ⟨rfl, HX3195⟩
            refine ⟨_, rfl, ?_⟩; intro a ha; replace HW := HW.callw HX3195; clear HX3195
            refine stepp ha 46 (.tuple #[.string t3192.1, .int .i64 t3192.2]) KR KR ?_; clear ha a; intro a ha
            refine stepp ha 49 (.string t3192.1) KR KR ?_; clear ha a; intro a ha
            refine stepp ha 50 (.int .i64 t3192.2) KR KR ?_; clear ha a; intro a ha
            refine stepp ha 9 (.string t3192.1) KR KR ?_; clear ha a; intro a ha
            refine stepp ha 10 (.int .i64 t3192.2) KR KR ?_; clear ha a; intro a ha
            refine endl ?_
            refine thenN (hK3191 _ _ ?_); clear hK3191
            refine wp_seq_k (fun K3196 hK3197 => ?_)
            refine wp_region_lit ?_
            refine stepp ha 52 (.string a1) KR KR ?_; clear ha a; intro a ha
            obtain ⟨t3198, ht3199, h_⟩ := bind_some' h; clear h; have h := h_; clear h_
            refine stepc ha 53 KR KR (frame_Split.calls K a1 t3198 _ ht3199) ?_; clear ha a; rintro e W3203 ⟨A3200, c3201, rfl, HX3204⟩
            refine ⟨_, rfl, ?_⟩; intro a ha; replace HW := HW.callw HX3204; clear HX3204
            refine stepp ha 51 (.tuple #[.slice A3200 t3198.1.length c3201, .int .i64 t3198.2]) KR KR ?_; clear ha a; intro a ha
            refine stepp ha 54 (.slice A3200 t3198.1.length c3201) KR KR ?_; clear ha a; intro a ha
            refine stepp ha 55 (.int .i64 t3198.2) KR KR ?_; clear ha a; intro a ha
            refine stepp ha 11 (.slice A3200 t3198.1.length c3201) KR KR ?_; clear ha a; intro a ha
            refine stepp ha 12 (.int .i64 t3198.2) KR KR ?_; clear ha a; intro a ha
            refine endl ?_
            refine thenN (hK3197 _ _ ?_); clear hK3197
            refine wp_seq_k (fun K3205 hK3206 => ?_)
            refine wp_region_lit ?_
            refine stepp ha 57 (.string a1) KR KR ?_; clear ha a; intro a ha
            obtain ⟨t3207, ht3208, h_⟩ := bind_some' h; clear h; have h := h_; clear h_
            refine stepc ha 58 KR KR (headgateref05_Split.calls K a1 t3207 _ ht3208) ?_; clear ha a; rintro e W3212 ⟨A3209, c3210, rfl, HX3213⟩
            refine ⟨_, rfl, ?_⟩; intro a ha; replace HW := HW.callw HX3213; clear HX3213
            refine stepp ha 56 (.tuple #[.slice A3209 t3207.1.length c3210, .int .i64 t3207.2]) KR KR ?_; clear ha a; intro a ha
            refine stepp ha 59 (.slice A3209 t3207.1.length c3210) KR KR ?_; clear ha a; intro a ha
            refine stepp ha 60 (.int .i64 t3207.2) KR KR ?_; clear ha a; intro a ha
            refine stepp ha 13 (.slice A3209 t3207.1.length c3210) KR KR ?_; clear ha a; intro a ha
            refine stepp ha 14 (.int .i64 t3207.2) KR KR ?_; clear ha a; intro a ha
            refine endl ?_
            refine thenN (hK3206 _ _ ?_); clear hK3206
            refine wp_seq_k (fun K3214 hK3215 => ?_)
            refine wp_region_lit ?_
            refine stepp ha 61 (.string t3186.1) KR KR ?_; clear ha a; intro a ha
            refine stepp ha 62 (.string t3192.1) KR KR ?_; clear ha a; intro a ha
            refine stepp ha 63 (.bool (t3186.1.toList == t3192.1.toList)) KR KR ?_; clear ha a; intro a ha
            refine stepp ha 64 (.bool (t3186.1.toList == t3192.1.toList)) KR KR ?_; clear ha a; intro a ha
            by_cases hp3216 : t3186.1 = t3192.1
            · skip
              replace h := ite_pos' h hp3216
              replace ha := ha.bool 64 KR (str_eq_t hp3216)
              refine stepp ha 65 (.int .i64 t3186.2) KR KR ?_; clear ha a; intro a ha
              refine stepp ha 66 (.int .i64 t3192.2) KR KR ?_; clear ha a; intro a ha
              refine stepp ha 67 (.bool (t3186.2 == t3192.2)) KR KR ?_; clear ha a; intro a ha
              refine stepp ha 68 (.bool (t3186.2 == t3192.2)) KR KR ?_; clear ha a; intro a ha
              refine stepp ha 69 (.bool (t3186.2 == t3192.2)) KR KR ?_; clear ha a; intro a ha
              by_cases hp3217 : t3186.2 = t3192.2
              · skip
                replace h := ite_pos' h hp3217
                replace ha := ha.bool 69 KR (ieq_t hp3217)
                refine stepp ha 70 (.slice A3200 t3198.1.length c3201) KR KR ?_; clear ha a; intro a ha
                refine stepp ha 71 (.slice A3209 t3207.1.length c3210) KR KR ?_; clear ha a; intro a ha
                obtain ⟨t3218, ht3219, h_⟩ := bind_some' h; clear h; have h := h_; clear h_
                refine stepc ha 72 KR KR (headgateref05_Same.calls K t3198.1 t3207.1 A3200 c3201 A3209 c3210 t3218 _ (HW.rdo (i := 1) (q := ⟨46, 2, .slice A3200 t3198.1.length c3201, t3198.1.length, encs T_api_Write.enc t3198.1⟩) KR) (HW.rdo (i := 0) (q := ⟨46, 2, .slice A3209 t3207.1.length c3210, t3207.1.length, encs T_api_Write.enc t3207.1⟩) KR) ht3219) ?_; clear ha a; rintro e W3220 ⟨rfl, HX3221⟩
                refine ⟨_, rfl, ?_⟩; intro a ha; replace HW := HW.callw HX3221; clear HX3221
                refine stepp ha 73 (.bool t3218) KR KR ?_; clear ha a; intro a ha
                refine stepp ha 74 (.bool t3218) KR KR ?_; clear ha a; intro a ha
                by_cases hp3222 : t3218 = true
                · skip
                  replace h := ite_pos' h hp3222
                  replace ha := ha.bool 74 KR (hp3222)
                  refine stepp ha 75 (.int .i64 t3198.2) KR KR ?_; clear ha a; intro a ha
                  refine stepp ha 76 (.int .i64 t3207.2) KR KR ?_; clear ha a; intro a ha
                  refine stepp ha 77 (.bool (t3198.2 == t3207.2)) KR KR ?_; clear ha a; intro a ha
                  refine stepp ha 78 (.bool (t3198.2 == t3207.2)) KR KR ?_; clear ha a; intro a ha
                  refine stepp ha 79 (.bool (t3198.2 == t3207.2)) KR KR ?_; clear ha a; intro a ha
                  by_cases hp3223 : t3198.2 = t3207.2
                  · skip
                    replace h := ite_pos' h hp3223
                    replace ha := ha.bool 79 KR (ieq_t hp3223)
                    refine stepp ha 80 (.slice A3179 (([] : List T_api_Write) ++ a0).length c3180) KR KR ?_; clear ha a; intro a ha
                    refine stepp ha 81 (.slice A0_0 a0.length c0_0) KR KR ?_; clear ha a; intro a ha
                    obtain ⟨t3224, ht3225, h_⟩ := bind_some' h; clear h; have h := h_; clear h_
                    refine stepc ha 82 KR KR (headgateref05_Same.calls K (([] : List T_api_Write) ++ a0) a0 A3179 c3180 A0_0 c0_0 t3224 _ (HW.rdo (i := 2) (q := ⟨46, 2, .slice A3179 (([] : List T_api_Write) ++ a0).length c3180, (([] : List T_api_Write) ++ a0).length, encs T_api_Write.enc (([] : List T_api_Write) ++ a0)⟩) KR) ((HW.rd0 hr0_0)) ht3225) ?_; clear ha a; rintro e W3226 ⟨rfl, HX3227⟩
                    refine ⟨_, rfl, ?_⟩; intro a ha; replace HW := HW.callw HX3227; clear HX3227
                    refine stepp ha 83 (.bool t3224) KR KR ?_; clear ha a; intro a ha
                    refine stepp ha 84 (.bool t3224) KR KR ?_; clear ha a; intro a ha
                    by_cases hp3228 : t3224 = true
                    · skip
                      replace h := ite_pos' h hp3228
                      replace ha := ha.bool 84 KR (hp3228)
                      obtain ⟨t3229, ht3230, h_⟩ := bind_some' h; clear h; have h := h_; clear h_
                      refine stepc ha 85 KR KR (headgatelaw05_wakes.calls K t3229 _ (HW.ca0 hG0) ht3230) ?_; clear ha a; rintro e W3231 ⟨rfl, HX3232⟩
                      refine ⟨_, rfl, ?_⟩; intro a ha; replace HW := HW.callw HX3232; clear HX3232
                      refine stepp ha 86 (.bool t3229) KR KR ?_; clear ha a; intro a ha
                      refine stepp ha 4 (.bool t3229) KR KR ?_; clear ha a; intro a ha
                      refine endl ?_
                      refine thenN (hK3215 _ _ ?_); clear hK3215
                      refine wp_ret ?_
                      obtain rfl := Option.some.inj h
                      exact finv ha _ _ rfl (.tmp (v := .bool t3229) KR .nil) (.bool t3229) rfl ⟨rfl, HW.pick [] [] (by decide) (by decide) rfl KR⟩
                    · skip
                      replace h := ite_neg' h hp3228
                      replace ha := ha.bool 84 KR (bool_f hp3228)
                      refine stepo ha 85 KR ?_; clear ha a; intro a ha
                      refine stepp ha 86 (.bool false) KR KR ?_; clear ha a; intro a ha
                      refine stepp ha 4 (.bool false) KR KR ?_; clear ha a; intro a ha
                      refine endl ?_
                      refine thenN (hK3215 _ _ ?_); clear hK3215
                      refine wp_ret ?_
                      obtain rfl := Option.some.inj h
                      exact finv ha _ _ rfl (.tmp (v := .bool false) KR .nil) (.bool false) rfl ⟨rfl, HW.pick [] [] (by decide) (by decide) rfl KR⟩
                  · skip
                    replace h := ite_neg' h hp3223
                    replace ha := ha.bool 79 KR (ieq_f hp3223)
                    refine stepo ha 80 KR ?_; clear ha a; intro a ha
                    refine stepo ha 81 KR ?_; clear ha a; intro a ha
                    refine stepo ha 82 KR ?_; clear ha a; intro a ha
                    refine stepp ha 83 (.bool false) KR KR ?_; clear ha a; intro a ha
                    refine stepp ha 84 (.bool false) KR KR ?_; clear ha a; intro a ha
                    refine stepo ha 85 KR ?_; clear ha a; intro a ha
                    refine stepp ha 86 (.bool false) KR KR ?_; clear ha a; intro a ha
                    refine stepp ha 4 (.bool false) KR KR ?_; clear ha a; intro a ha
                    refine endl ?_
                    refine thenN (hK3215 _ _ ?_); clear hK3215
                    refine wp_ret ?_
                    obtain rfl := Option.some.inj h
                    exact finv ha _ _ rfl (.tmp (v := .bool false) KR .nil) (.bool false) rfl ⟨rfl, HW.pick [] [] (by decide) (by decide) rfl KR⟩
                · skip
                  replace h := ite_neg' h hp3222
                  replace ha := ha.bool 74 KR (bool_f hp3222)
                  refine stepo ha 75 KR ?_; clear ha a; intro a ha
                  refine stepo ha 76 KR ?_; clear ha a; intro a ha
                  refine stepo ha 77 KR ?_; clear ha a; intro a ha
                  refine stepp ha 78 (.bool false) KR KR ?_; clear ha a; intro a ha
                  refine stepp ha 79 (.bool false) KR KR ?_; clear ha a; intro a ha
                  refine stepo ha 80 KR ?_; clear ha a; intro a ha
                  refine stepo ha 81 KR ?_; clear ha a; intro a ha
                  refine stepo ha 82 KR ?_; clear ha a; intro a ha
                  refine stepp ha 83 (.bool false) KR KR ?_; clear ha a; intro a ha
                  refine stepp ha 84 (.bool false) KR KR ?_; clear ha a; intro a ha
                  refine stepo ha 85 KR ?_; clear ha a; intro a ha
                  refine stepp ha 86 (.bool false) KR KR ?_; clear ha a; intro a ha
                  refine stepp ha 4 (.bool false) KR KR ?_; clear ha a; intro a ha
                  refine endl ?_
                  refine thenN (hK3215 _ _ ?_); clear hK3215
                  refine wp_ret ?_
                  obtain rfl := Option.some.inj h
                  exact finv ha _ _ rfl (.tmp (v := .bool false) KR .nil) (.bool false) rfl ⟨rfl, HW.pick [] [] (by decide) (by decide) rfl KR⟩
              · skip
                replace h := ite_neg' h hp3217
                replace ha := ha.bool 69 KR (ieq_f hp3217)
                refine stepo ha 70 KR ?_; clear ha a; intro a ha
                refine stepo ha 71 KR ?_; clear ha a; intro a ha
                refine stepo ha 72 KR ?_; clear ha a; intro a ha
                refine stepp ha 73 (.bool false) KR KR ?_; clear ha a; intro a ha
                refine stepp ha 74 (.bool false) KR KR ?_; clear ha a; intro a ha
                refine stepo ha 75 KR ?_; clear ha a; intro a ha
                refine stepo ha 76 KR ?_; clear ha a; intro a ha
                refine stepo ha 77 KR ?_; clear ha a; intro a ha
                refine stepp ha 78 (.bool false) KR KR ?_; clear ha a; intro a ha
                refine stepp ha 79 (.bool false) KR KR ?_; clear ha a; intro a ha
                refine stepo ha 80 KR ?_; clear ha a; intro a ha
                refine stepo ha 81 KR ?_; clear ha a; intro a ha
                refine stepo ha 82 KR ?_; clear ha a; intro a ha
                refine stepp ha 83 (.bool false) KR KR ?_; clear ha a; intro a ha
                refine stepp ha 84 (.bool false) KR KR ?_; clear ha a; intro a ha
                refine stepo ha 85 KR ?_; clear ha a; intro a ha
                refine stepp ha 86 (.bool false) KR KR ?_; clear ha a; intro a ha
                refine stepp ha 4 (.bool false) KR KR ?_; clear ha a; intro a ha
                refine endl ?_
                refine thenN (hK3215 _ _ ?_); clear hK3215
                refine wp_ret ?_
                obtain rfl := Option.some.inj h
                exact finv ha _ _ rfl (.tmp (v := .bool false) KR .nil) (.bool false) rfl ⟨rfl, HW.pick [] [] (by decide) (by decide) rfl KR⟩
            · skip
              replace h := ite_neg' h hp3216
              replace ha := ha.bool 64 KR (str_eq_f hp3216)
              refine stepo ha 65 KR ?_; clear ha a; intro a ha
              refine stepo ha 66 KR ?_; clear ha a; intro a ha
              refine stepo ha 67 KR ?_; clear ha a; intro a ha
              refine stepp ha 68 (.bool false) KR KR ?_; clear ha a; intro a ha
              refine stepp ha 69 (.bool false) KR KR ?_; clear ha a; intro a ha
              refine stepo ha 70 KR ?_; clear ha a; intro a ha
              refine stepo ha 71 KR ?_; clear ha a; intro a ha
              refine stepo ha 72 KR ?_; clear ha a; intro a ha
              refine stepp ha 73 (.bool false) KR KR ?_; clear ha a; intro a ha
              refine stepp ha 74 (.bool false) KR KR ?_; clear ha a; intro a ha
              refine stepo ha 75 KR ?_; clear ha a; intro a ha
              refine stepo ha 76 KR ?_; clear ha a; intro a ha
              refine stepo ha 77 KR ?_; clear ha a; intro a ha
              refine stepp ha 78 (.bool false) KR KR ?_; clear ha a; intro a ha
              refine stepp ha 79 (.bool false) KR KR ?_; clear ha a; intro a ha
              refine stepo ha 80 KR ?_; clear ha a; intro a ha
              refine stepo ha 81 KR ?_; clear ha a; intro a ha
              refine stepo ha 82 KR ?_; clear ha a; intro a ha
              refine stepp ha 83 (.bool false) KR KR ?_; clear ha a; intro a ha
              refine stepp ha 84 (.bool false) KR KR ?_; clear ha a; intro a ha
              refine stepo ha 85 KR ?_; clear ha a; intro a ha
              refine stepp ha 86 (.bool false) KR KR ?_; clear ha a; intro a ha
              refine stepp ha 4 (.bool false) KR KR ?_; clear ha a; intro a ha
              refine endl ?_
              refine thenN (hK3215 _ _ ?_); clear hK3215
              refine wp_ret ?_
              obtain rfl := Option.some.inj h
              exact finv ha _ _ rfl (.tmp (v := .bool false) KR .nil) (.bool false) rfl ⟨rfl, HW.pick [] [] (by decide) (by decide) rfl KR⟩
end Go.Proofs.YtdcojinnjpihaaaDoor.F
