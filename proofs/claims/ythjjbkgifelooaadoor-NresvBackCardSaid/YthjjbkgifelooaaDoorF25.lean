/- headgate/headgateref27.Change: plain functions, and that the calls come to what they say. No condition. -/
import Derived.Test.YthjjbkgifelooaaDoorFT
import Derived.Test.YthjjbkgifelooaaDoorF30
import Derived.Test.YthjjbkgifelooaaDoorF50
import Derived.Test.YthjjbkgifelooaaDoorF51
namespace Go.Proofs.YthjjbkgifelooaaDoor.F
open Go Go.RowKit Go.Proofs.YthjjbkgifelooaaDoor.X
set_option linter.unusedVariables false
set_option linter.unusedSimpArgs false
/-! ### headgate/headgateref27.Change: function 25 -/
def headgateref27_Change.j1 (K : Nat) (t3135 : Int × Bool) (t3167 : Int) (t3203 : Int) (x3215 : Int) : Option (T_api_Cmd × Int) :=
  if t3167 > 0 then (some ((⟨8, 0, (⟨#[]⟩ : ByteArray), 0, 0, (⟨#[]⟩ : ByteArray), false, ([] : List T_api_Range), t3135.1, x3215, 0, 0, (t3203 == 1), IntKind.wrap .i64 (t3167 - 1)⟩ : T_api_Cmd), 0)) else (some ((⟨8, 0, (⟨#[]⟩ : ByteArray), 0, 0, (⟨#[]⟩ : ByteArray), false, ([] : List T_api_Range), t3135.1, x3215, 0, 0, (t3203 == 1), 0⟩ : T_api_Cmd), 0))
def headgateref27_Change.j0 (K : Nat) (a1 : Int) (t3135 : Int × Bool) (t3141 : Int × Bool) (t3147 : Int) (t3167 : Int) : Option (T_api_Cmd × Int) :=
  (headgateref27_bits.f K a1 3 1).bind fun t3203 => (if t3147 = 1 then (headgateref27_Change.j1 K t3135 t3167 t3203 0) else (headgateref27_Change.j1 K t3135 t3167 t3203 t3141.1))
def headgateref27_Change.j3 (K : Nat) (t3135 : Int × Bool) (t3151 : Int) (x3280 : Int) (x3281 : Int) : Option (T_api_Cmd × Int) :=
  if x3280 = 11 then (if t3151 = 0 then (some ((⟨x3280, 0, (⟨#[]⟩ : ByteArray), 0, 0, (⟨#[]⟩ : ByteArray), false, ([] : List T_api_Range), t3135.1, 0, x3281, t3151, false, 0⟩ : T_api_Cmd), 0)) else (some ((⟨0, 0, (⟨#[]⟩ : ByteArray), 0, 0, (⟨#[]⟩ : ByteArray), false, ([] : List T_api_Range), 0, 0, 0, 0, false, 0⟩ : T_api_Cmd), 180))) else ((headgateref10_Type.f t3151).bind fun t3289 => (if t3289 = true then (some ((⟨x3280, 0, (⟨#[]⟩ : ByteArray), 0, 0, (⟨#[]⟩ : ByteArray), false, ([] : List T_api_Range), t3135.1, 0, x3281, t3151, false, 0⟩ : T_api_Cmd), 0)) else (some ((⟨0, 0, (⟨#[]⟩ : ByteArray), 0, 0, (⟨#[]⟩ : ByteArray), false, ([] : List T_api_Range), 0, 0, 0, 0, false, 0⟩ : T_api_Cmd), 180))))
def headgateref27_Change.j2 (K : Nat) (a0 : Int) (t3135 : Int × Bool) (t3141 : Int × Bool) (t3147 : Int) (t3151 : Int) (x3266 : Bool) : Option (T_api_Cmd × Int) :=
  if x3266 = true then (headgateref27_Change.j3 K t3135 t3151 9 0) else (if a0 = 17 then (headgateref27_Change.j3 K t3135 t3151 12 t3141.1) else (if t3147 = 0 then (headgateref27_Change.j3 K t3135 t3151 10 0) else (headgateref27_Change.j3 K t3135 t3151 11 0)))
def headgateref27_Change.f (K : Nat) (a0 : Int) (a1 : Int) (a2 : ByteArray) : Option (T_api_Cmd × Int) :=
  (headgateref27_Size.f a0).bind fun t3115 => (if t3115 = 0 then (some ((⟨0, 0, (⟨#[]⟩ : ByteArray), 0, 0, (⟨#[]⟩ : ByteArray), false, ([] : List T_api_Range), 0, 0, 0, 0, false, 0⟩ : T_api_Cmd), 180)) else ((headgateref27_Size.f a0).bind fun t3120 => (if (a2.size : Int) = t3120 then ((headgateref01_Little.f K a2 0 8).bind fun t3135 => ((headgateref01_Little.f K a2 8 8).bind fun t3141 => ((headgateref27_bits.f K a1 0 3).bind fun t3147 => ((headgateref27_bits.f K a1 8 8).bind fun t3151 => (if a0 = 13 then ((headgateref27_bits.f K a1 30 2).bind fun t3167 => ((headgateref27_bits.f K a1 4 26).bind fun t3175 => (if t3175 = 0 then (if t3147 > 2 then (some ((⟨0, 0, (⟨#[]⟩ : ByteArray), 0, 0, (⟨#[]⟩ : ByteArray), false, ([] : List T_api_Range), 0, 0, 0, 0, false, 0⟩ : T_api_Cmd), 180)) else (if t3167 = 1 then (some ((⟨0, 0, (⟨#[]⟩ : ByteArray), 0, 0, (⟨#[]⟩ : ByteArray), false, ([] : List T_api_Range), 0, 0, 0, 0, false, 0⟩ : T_api_Cmd), 180)) else (if t3147 = 1 then (headgateref27_Change.j0 K a1 t3135 t3141 t3147 t3167) else (if t3141.1 = 0 then (some ((⟨0, 0, (⟨#[]⟩ : ByteArray), 0, 0, (⟨#[]⟩ : ByteArray), false, ([] : List T_api_Range), 0, 0, 0, 0, false, 0⟩ : T_api_Cmd), 180)) else (headgateref27_Change.j0 K a1 t3135 t3141 t3147 t3167))))) else (some ((⟨0, 0, (⟨#[]⟩ : ByteArray), 0, 0, (⟨#[]⟩ : ByteArray), false, ([] : List T_api_Range), 0, 0, 0, 0, false, 0⟩ : T_api_Cmd), 180))))) else ((headgateref27_bits.f K a1 3 5).bind fun t3235 => (if t3235 = 0 then ((headgateref27_bits.f K a1 16 16).bind fun t3240 => (if t3240 = 0 then (if t3147 > 1 then (some ((⟨0, 0, (⟨#[]⟩ : ByteArray), 0, 0, (⟨#[]⟩ : ByteArray), false, ([] : List T_api_Range), 0, 0, 0, 0, false, 0⟩ : T_api_Cmd), 180)) else (if a0 = 17 then (headgateref27_Change.j2 K a0 t3135 t3141 t3147 t3151 (t3147 == 0)) else (headgateref27_Change.j2 K a0 t3135 t3141 t3147 t3151 false))) else (some ((⟨0, 0, (⟨#[]⟩ : ByteArray), 0, 0, (⟨#[]⟩ : ByteArray), false, ([] : List T_api_Range), 0, 0, 0, 0, false, 0⟩ : T_api_Cmd), 180)))) else (some ((⟨0, 0, (⟨#[]⟩ : ByteArray), 0, 0, (⟨#[]⟩ : ByteArray), false, ([] : List T_api_Range), 0, 0, 0, 0, false, 0⟩ : T_api_Cmd), 180))))))))) else (some ((⟨0, 0, (⟨#[]⟩ : ByteArray), 0, 0, (⟨#[]⟩ : ByteArray), false, ([] : List T_api_Range), 0, 0, 0, 0, false, 0⟩ : T_api_Cmd), 180)))))
set_option maxRecDepth 100000 in
set_option maxHeartbeats 4000000 in
theorem headgateref27_Change.calls (K : Nat) (a0 : Int) (a1 : Int) (a2 : ByteArray)  (r : T_api_Cmd × Int) (w : World)  (h : headgateref27_Change.f K a0 a1 a2 = some r) :
    Calls Tryd.prog 25 #[.int .i64 a0, .int .u32 a1, .string a2] w (fun e W' => ∃ A_0 c_0, e = .returned (.tuple #[.agg #[.int .i64 r.1.f0, .int .i64 r.1.f1, .string r.1.f2, .int .i64 r.1.f3, .int .i64 r.1.f4, .string r.1.f5, .bool r.1.f6, .slice A_0 r.1.f7.length c_0, .int .u64 r.1.f8, .int .u64 r.1.f9, .int .u64 r.1.f10, .int .i64 r.1.f11, .bool r.1.f12, .int .i64 r.1.f13], .int .i64 r.2]) ∧ Wd w W' [] [⟨128, 2, .slice A_0 r.1.f7.length c_0, r.1.f7.length, encs T_api_Range.enc r.1.f7⟩] ) := by
  refine sxstart (n := 135) (l := [(0, .int .i64 a0), (1, .int .u32 a1), (2, .string a2)]) Tryd.func25 rfl rfl (Nat.le_of_ble_eq_true KR) (subsA_cons rfl (subsA_cons rfl (subsA_cons rfl (subsA_nil _)))) ?_
  intro a ha
  have HW := Wd.refl w
  unfold headgateref27_Change.f at h
  refine wp_seq_k (fun K3107 hK3108 => ?_)
  refine wp_region_lit ?_
  refine stepnew ha HW 6 #[.int .i64 0, .int .i64 0, .string (⟨#[]⟩ : ByteArray), .int .i64 0, .int .i64 0, .string (⟨#[]⟩ : ByteArray), .bool false, .slice none 0 0, .int .u64 0, .int .u64 0, .int .u64 0, .int .i64 0, .bool false, .int .i64 0] 49 KR KR ?_; clear ha HW a; intro b3109 a W3110 HW ha
  refine stepp ha 7 (.int .i64 0) KR KR ?_; clear ha a; intro a ha
  refine endl ?_
  refine thenN (hK3108 _ _ ?_); clear hK3108
  refine wp_seq_k (fun K3111 hK3112 => ?_)
  refine wp_seq_k (fun K3113 hK3114 => ?_)
  refine wp_region_lit ?_
  refine stepp ha 16 (.int .i64 a0) KR KR ?_; clear ha a; intro a ha
  obtain ⟨t3115, ht3116, h_⟩ := bind_some' h; clear h; have h := h_; clear h_
  refine stepc ha 17 KR KR (headgateref27_Size.calls a0 t3115 _ ht3116) ?_; clear ha a; rintro e W3117 ⟨rfl, HX3118⟩
  refine ⟨_, rfl, ?_⟩; intro a ha; replace HW := HW.callw HX3118; clear HX3118
  refine stepp ha 18 (.bool (t3115 == 0)) KR KR ?_; clear ha a; intro a ha
  refine stepp ha 19 (.bool (t3115 == 0)) KR KR ?_; clear ha a; intro a ha
  by_cases hp3119 : t3115 = 0
  · skip
    replace h := ite_pos' h hp3119
    replace ha := ha.bool 19 KR (ieq_t hp3119)
    refine stepo ha 20 KR ?_; clear ha a; intro a ha
    refine stepo ha 21 KR ?_; clear ha a; intro a ha
    refine stepo ha 22 KR ?_; clear ha a; intro a ha
    refine stepo ha 23 KR ?_; clear ha a; intro a ha
    refine stepo ha 24 KR ?_; clear ha a; intro a ha
    refine stepp ha 25 (.bool true) KR KR ?_; clear ha a; intro a ha
    refine endl ?_
    refine thenN (hK3114 _ _ ?_); clear hK3114
    refine condT ha KR KR (t := true) (rfl) ?_
    refine wp_seq_k (fun K3124 hK3125 => ?_)
    refine wp_region_lit ?_
    refine stepp ha 26 (.agg #[.int .i64 0, .int .i64 0, .string (⟨#[]⟩ : ByteArray), .int .i64 0, .int .i64 0, .string (⟨#[]⟩ : ByteArray), .bool false, .slice none 0 0, .int .u64 0, .int .u64 0, .int .u64 0, .int .i64 0, .bool false, .int .i64 0]) KR KR ?_; clear ha a; intro a ha
    refine stepst ha HW 0 (b := b3109) (C := #[.int .i64 0, .int .i64 0, .string (⟨#[]⟩ : ByteArray), .int .i64 0, .int .i64 0, .string (⟨#[]⟩ : ByteArray), .bool false, .slice none 0 0, .int .u64 0, .int .u64 0, .int .u64 0, .int .i64 0, .bool false, .int .i64 0]) (T := 49) KR 49 0 (.tmp 6) (.tmp 26) (.agg #[.int .i64 0, .int .i64 0, .string (⟨#[]⟩ : ByteArray), .int .i64 0, .int .i64 0, .string (⟨#[]⟩ : ByteArray), .bool false, .slice none 0 0, .int .u64 0, .int .u64 0, .int .u64 0, .int .i64 0, .bool false, .int .i64 0]) #[.int .i64 0, .int .i64 0, .string (⟨#[]⟩ : ByteArray), .int .i64 0, .int .i64 0, .string (⟨#[]⟩ : ByteArray), .bool false, .slice none 0 0, .int .u64 0, .int .u64 0, .int .u64 0, .int .i64 0, .bool false, .int .i64 0] rfl KR KR KR KR KR KR KR ?_; clear ha HW a; intro a W3126 HW ha
    refine stepp ha 7 (.int .i64 180) KR KR ?_; clear ha a; intro a ha
    refine endl ?_
    refine thenN (hK3125 _ _ ?_); clear hK3125
    refine wp_ret ?_
    refine thenR ?_
    obtain rfl := Option.some.inj h
    replace HW := HW.nilo 128 2
    exact finv ha _ _ rfl (.cell (ad := ⟨b3109, 0, none⟩) (v := .agg #[.int .i64 0, .int .i64 0, .string (⟨#[]⟩ : ByteArray), .int .i64 0, .int .i64 0, .string (⟨#[]⟩ : ByteArray), .bool false, .slice none 0 0, .int .u64 0, .int .u64 0, .int .u64 0, .int .i64 0, .bool false, .int .i64 0]) KR (run_loadVar_ca0 (HW.ca (i := 0) (b := b3109) (C := #[.int .i64 0, .int .i64 0, .string (⟨#[]⟩ : ByteArray), .int .i64 0, .int .i64 0, .string (⟨#[]⟩ : ByteArray), .bool false, .slice none 0 0, .int .u64 0, .int .u64 0, .int .u64 0, .int .i64 0, .bool false, .int .i64 0]) (T := 49) (fr := (0, 0)) KR) 49 0 (.agg #[.int .i64 0, .int .i64 0, .string (⟨#[]⟩ : ByteArray), .int .i64 0, .int .i64 0, .string (⟨#[]⟩ : ByteArray), .bool false, .slice none 0 0, .int .u64 0, .int .u64 0, .int .u64 0, .int .i64 0, .bool false, .int .i64 0]) KR) (.tmp (v := .int .i64 180) KR .nil)) (.tuple #[.agg #[.int .i64 0, .int .i64 0, .string (⟨#[]⟩ : ByteArray), .int .i64 0, .int .i64 0, .string (⟨#[]⟩ : ByteArray), .bool false, .slice none 0 0, .int .u64 0, .int .u64 0, .int .u64 0, .int .i64 0, .bool false, .int .i64 0], .int .i64 180]) rfl ⟨none, 0, rfl, HW.pick [] [0] (by decide) (by decide) rfl KR⟩
  · skip
    replace h := ite_neg' h hp3119
    replace ha := ha.bool 19 KR (ieq_f hp3119)
    refine stepp ha 20 (.string a2) KR KR ?_; clear ha a; intro a ha
    refine stepp ha 21 (.int .i64 (a2.size : Int)) KR KR ?_; clear ha a; intro a ha
    refine stepp ha 22 (.int .i64 a0) KR KR ?_; clear ha a; intro a ha
    obtain ⟨t3120, ht3121, h_⟩ := bind_some' h; clear h; have h := h_; clear h_
    refine stepc ha 23 KR KR (headgateref27_Size.calls a0 t3120 _ ht3121) ?_; clear ha a; rintro e W3122 ⟨rfl, HX3123⟩
    refine ⟨_, rfl, ?_⟩; intro a ha; replace HW := HW.callw HX3123; clear HX3123
    refine stepp ha 24 (.bool ((a2.size : Int) != t3120)) KR KR ?_; clear ha a; intro a ha
    refine stepp ha 25 (.bool ((a2.size : Int) != t3120)) KR KR ?_; clear ha a; intro a ha
    refine endl ?_
    refine thenN (hK3114 _ _ ?_); clear hK3114
    by_cases hp3128 : (a2.size : Int) = t3120
    · skip
      replace h := ite_pos' h hp3128
      refine condF ha KR KR (t := ((a2.size : Int) != t3120)) (ineq_f hp3128) ?_
      refine wp_skip ?_
      refine thenN (hK3112 _ _ ?_); clear hK3112
      refine wp_seq_k (fun K3133 hK3134 => ?_)
      refine wp_region_lit ?_
      refine stepp ha 28 (.string a2) KR KR ?_; clear ha a; intro a ha
      obtain ⟨t3135, ht3136, h_⟩ := bind_some' h; clear h; have h := h_; clear h_
      refine stepc ha 29 KR KR (headgateref01_Little.calls K a2 0 8 t3135 _ ht3136) ?_; clear ha a; rintro e W3137 ⟨rfl, HX3138⟩
      refine ⟨_, rfl, ?_⟩; intro a ha; replace HW := HW.callw HX3138; clear HX3138
      refine stepp ha 27 (.tuple #[.int .u64 t3135.1, .bool t3135.2]) KR KR ?_; clear ha a; intro a ha
      refine stepp ha 30 (.int .u64 t3135.1) KR KR ?_; clear ha a; intro a ha
      refine stepp ha 31 (.bool t3135.2) KR KR ?_; clear ha a; intro a ha
      refine stepp ha 8 (.int .u64 t3135.1) KR KR ?_; clear ha a; intro a ha
      refine stepp ha 9 (.bool t3135.2) KR KR ?_; clear ha a; intro a ha
      refine endl ?_
      refine thenN (hK3134 _ _ ?_); clear hK3134
      refine wp_seq_k (fun K3139 hK3140 => ?_)
      refine wp_region_lit ?_
      refine stepp ha 33 (.string a2) KR KR ?_; clear ha a; intro a ha
      obtain ⟨t3141, ht3142, h_⟩ := bind_some' h; clear h; have h := h_; clear h_
      refine stepc ha 34 KR KR (headgateref01_Little.calls K a2 8 8 t3141 _ ht3142) ?_; clear ha a; rintro e W3143 ⟨rfl, HX3144⟩
      refine ⟨_, rfl, ?_⟩; intro a ha; replace HW := HW.callw HX3144; clear HX3144
      refine stepp ha 32 (.tuple #[.int .u64 t3141.1, .bool t3141.2]) KR KR ?_; clear ha a; intro a ha
      refine stepp ha 35 (.int .u64 t3141.1) KR KR ?_; clear ha a; intro a ha
      refine stepp ha 36 (.bool t3141.2) KR KR ?_; clear ha a; intro a ha
      refine stepp ha 10 (.int .u64 t3141.1) KR KR ?_; clear ha a; intro a ha
      refine stepp ha 11 (.bool t3141.2) KR KR ?_; clear ha a; intro a ha
      refine endl ?_
      refine thenN (hK3140 _ _ ?_); clear hK3140
      refine wp_seq_k (fun K3145 hK3146 => ?_)
      refine wp_region_lit ?_
      refine stepp ha 37 (.int .u32 a1) KR KR ?_; clear ha a; intro a ha
      obtain ⟨t3147, ht3148, h_⟩ := bind_some' h; clear h; have h := h_; clear h_
      refine stepc ha 38 KR KR (headgateref27_bits.calls K a1 0 3 t3147 _ ht3148) ?_; clear ha a; rintro e W3149 ⟨rfl, HX3150⟩
      refine ⟨_, rfl, ?_⟩; intro a ha; replace HW := HW.callw HX3150; clear HX3150
      refine stepp ha 39 (.int .u32 a1) KR KR ?_; clear ha a; intro a ha
      obtain ⟨t3151, ht3152, h_⟩ := bind_some' h; clear h; have h := h_; clear h_
      refine stepc ha 40 KR KR (headgateref27_bits.calls K a1 8 8 t3151 _ ht3152) ?_; clear ha a; rintro e W3153 ⟨rfl, HX3154⟩
      refine ⟨_, rfl, ?_⟩; intro a ha; replace HW := HW.callw HX3154; clear HX3154
      refine stepp ha 12 (.int .i64 t3147) KR KR ?_; clear ha a; intro a ha
      refine stepp ha 13 (.int .i64 t3151) KR KR ?_; clear ha a; intro a ha
      refine endl ?_
      refine thenN (hK3146 _ _ ?_); clear hK3146
      refine wp_seq_k (fun K3155 hK3156 => ?_)
      refine wp_region_lit ?_
      refine stepp ha 41 (.int .u64 t3135.1) KR KR ?_; clear ha a; intro a ha
      refine stepp ha 42 (.agg #[.int .i64 0, .int .i64 0, .string (⟨#[]⟩ : ByteArray), .int .i64 0, .int .i64 0, .string (⟨#[]⟩ : ByteArray), .bool false, .slice none 0 0, .int .u64 t3135.1, .int .u64 0, .int .u64 0, .int .i64 0, .bool false, .int .i64 0]) KR KR ?_; clear ha a; intro a ha
      refine stepnew ha HW 14 #[.int .i64 0, .int .i64 0, .string (⟨#[]⟩ : ByteArray), .int .i64 0, .int .i64 0, .string (⟨#[]⟩ : ByteArray), .bool false, .slice none 0 0, .int .u64 0, .int .u64 0, .int .u64 0, .int .i64 0, .bool false, .int .i64 0] 49 KR KR ?_; clear ha HW a; intro b3157 a W3158 HW ha
      refine stepst ha HW 0 (b := b3157) (C := #[.int .i64 0, .int .i64 0, .string (⟨#[]⟩ : ByteArray), .int .i64 0, .int .i64 0, .string (⟨#[]⟩ : ByteArray), .bool false, .slice none 0 0, .int .u64 0, .int .u64 0, .int .u64 0, .int .i64 0, .bool false, .int .i64 0]) (T := 49) KR 49 0 (.tmp 14) (.tmp 42) (.agg #[.int .i64 0, .int .i64 0, .string (⟨#[]⟩ : ByteArray), .int .i64 0, .int .i64 0, .string (⟨#[]⟩ : ByteArray), .bool false, .slice none 0 0, .int .u64 t3135.1, .int .u64 0, .int .u64 0, .int .i64 0, .bool false, .int .i64 0]) #[.int .i64 0, .int .i64 0, .string (⟨#[]⟩ : ByteArray), .int .i64 0, .int .i64 0, .string (⟨#[]⟩ : ByteArray), .bool false, .slice none 0 0, .int .u64 t3135.1, .int .u64 0, .int .u64 0, .int .i64 0, .bool false, .int .i64 0] rfl KR KR KR KR KR KR KR ?_; clear ha HW a; intro a W3159 HW ha
      refine endl ?_
      refine thenN (hK3156 _ _ ?_); clear hK3156
      refine wp_seq_k (fun K3160 hK3161 => ?_)
      refine wp_seq_k (fun K3162 hK3163 => ?_)
      refine wp_region_lit ?_
      refine stepp ha 43 (.int .i64 a0) KR KR ?_; clear ha a; intro a ha
      refine stepp ha 44 (.bool (a0 == 13)) KR KR ?_; clear ha a; intro a ha
      refine endl ?_
      refine thenN (hK3163 _ _ ?_); clear hK3163
      by_cases hp3164 : a0 = 13
      · skip
        replace h := ite_pos' h hp3164
        refine condT ha KR KR (t := (a0 == 13)) (ieq_t hp3164) ?_
        refine wp_seq_k (fun K3165 hK3166 => ?_)
        refine wp_region_lit ?_
        refine stepp ha 45 (.int .u32 a1) KR KR ?_; clear ha a; intro a ha
        obtain ⟨t3167, ht3168, h_⟩ := bind_some' h; clear h; have h := h_; clear h_
        refine stepc ha 46 KR KR (headgateref27_bits.calls K a1 30 2 t3167 _ ht3168) ?_; clear ha a; rintro e W3169 ⟨rfl, HX3170⟩
        refine ⟨_, rfl, ?_⟩; intro a ha; replace HW := HW.callw HX3170; clear HX3170
        refine stepp ha 15 (.int .i64 t3167) KR KR ?_; clear ha a; intro a ha
        refine endl ?_
        refine thenN (hK3166 _ _ ?_); clear hK3166
        refine wp_seq_k (fun K3171 hK3172 => ?_)
        refine cutn (fun a W3200 => headgateref27_Change.j0 K a1 t3135 t3141 t3147 t3167 = some r ∧ Has 135 [(1, .int .u32 a1), (6, .pointer (some ⟨b3109, 0, none⟩)), (10, .int .u64 t3141.1), (12, .int .i64 t3147), (14, .pointer (some ⟨b3157, 0, none⟩)), (15, .int .i64 t3167)] a ∧ Wd w W3200 [(b3109, .cells #[.int .i64 0, .int .i64 0, .string (⟨#[]⟩ : ByteArray), .int .i64 0, .int .i64 0, .string (⟨#[]⟩ : ByteArray), .bool false, .slice none 0 0, .int .u64 0, .int .u64 0, .int .u64 0, .int .i64 0, .bool false, .int .i64 0] 49 (0, 0)), (b3157, .cells #[.int .i64 0, .int .i64 0, .string (⟨#[]⟩ : ByteArray), .int .i64 0, .int .i64 0, .string (⟨#[]⟩ : ByteArray), .bool false, .slice none 0 0, .int .u64 t3135.1, .int .u64 0, .int .u64 0, .int .i64 0, .bool false, .int .i64 0] 49 (0, 0))] []) ?_ ?_
        · skip
          refine wp_seq_k (fun K3173 hK3174 => ?_)
          refine wp_region_lit ?_
          refine stepp ha 47 (.int .u32 a1) KR KR ?_; clear ha a; intro a ha
          obtain ⟨t3175, ht3176, h_⟩ := bind_some' h; clear h; have h := h_; clear h_
          refine stepc ha 48 KR KR (headgateref27_bits.calls K a1 4 26 t3175 _ ht3176) ?_; clear ha a; rintro e W3177 ⟨rfl, HX3178⟩
          refine ⟨_, rfl, ?_⟩; intro a ha; replace HW := HW.callw HX3178; clear HX3178
          refine stepp ha 49 (.bool (t3175 != 0)) KR KR ?_; clear ha a; intro a ha
          refine stepp ha 50 (.bool (t3175 != 0)) KR KR ?_; clear ha a; intro a ha
          by_cases hp3179 : t3175 = 0
          · skip
            replace h := ite_pos' h hp3179
            replace ha := ha.bool 50 KR (ineq_f hp3179)
            refine stepp ha 51 (.int .i64 t3147) KR KR ?_; clear ha a; intro a ha
            refine stepp ha 52 (.bool (decide (t3147 > 2))) KR KR ?_; clear ha a; intro a ha
            refine stepp ha 53 (.bool (decide (t3147 > 2))) KR KR ?_; clear ha a; intro a ha
            refine stepp ha 54 (.bool (decide (t3147 > 2))) KR KR ?_; clear ha a; intro a ha
            by_cases hp3180 : t3147 > 2
            · skip
              replace h := ite_pos' h hp3180
              replace ha := ha.bool 54 KR (decide_eq_true hp3180)
              refine stepo ha 55 KR ?_; clear ha a; intro a ha
              refine stepo ha 56 KR ?_; clear ha a; intro a ha
              refine stepp ha 57 (.bool true) KR KR ?_; clear ha a; intro a ha
              refine stepp ha 58 (.bool true) KR KR ?_; clear ha a; intro a ha
              refine stepo ha 59 KR ?_; clear ha a; intro a ha
              refine stepo ha 60 KR ?_; clear ha a; intro a ha
              refine stepo ha 61 KR ?_; clear ha a; intro a ha
              refine stepo ha 62 KR ?_; clear ha a; intro a ha
              refine stepo ha 63 KR ?_; clear ha a; intro a ha
              refine stepo ha 64 KR ?_; clear ha a; intro a ha
              refine stepp ha 65 (.bool true) KR KR ?_; clear ha a; intro a ha
              refine endl ?_
              refine thenN (hK3174 _ _ ?_); clear hK3174
              refine condT ha KR KR (t := true) (rfl) ?_
              refine wp_seq_k (fun K3183 hK3184 => ?_)
              refine wp_region_lit ?_
              refine stepp ha 66 (.agg #[.int .i64 0, .int .i64 0, .string (⟨#[]⟩ : ByteArray), .int .i64 0, .int .i64 0, .string (⟨#[]⟩ : ByteArray), .bool false, .slice none 0 0, .int .u64 0, .int .u64 0, .int .u64 0, .int .i64 0, .bool false, .int .i64 0]) KR KR ?_; clear ha a; intro a ha
              refine stepst ha HW 1 (b := b3109) (C := #[.int .i64 0, .int .i64 0, .string (⟨#[]⟩ : ByteArray), .int .i64 0, .int .i64 0, .string (⟨#[]⟩ : ByteArray), .bool false, .slice none 0 0, .int .u64 0, .int .u64 0, .int .u64 0, .int .i64 0, .bool false, .int .i64 0]) (T := 49) KR 49 0 (.tmp 6) (.tmp 66) (.agg #[.int .i64 0, .int .i64 0, .string (⟨#[]⟩ : ByteArray), .int .i64 0, .int .i64 0, .string (⟨#[]⟩ : ByteArray), .bool false, .slice none 0 0, .int .u64 0, .int .u64 0, .int .u64 0, .int .i64 0, .bool false, .int .i64 0]) #[.int .i64 0, .int .i64 0, .string (⟨#[]⟩ : ByteArray), .int .i64 0, .int .i64 0, .string (⟨#[]⟩ : ByteArray), .bool false, .slice none 0 0, .int .u64 0, .int .u64 0, .int .u64 0, .int .i64 0, .bool false, .int .i64 0] rfl KR KR KR KR KR KR KR ?_; clear ha HW a; intro a W3185 HW ha
              refine stepp ha 7 (.int .i64 180) KR KR ?_; clear ha a; intro a ha
              refine endl ?_
              refine thenN (hK3184 _ _ ?_); clear hK3184
              refine wp_ret ?_
              refine thenR ?_
              refine thenR ?_
              obtain rfl := Option.some.inj h
              replace HW := HW.nilo 128 2
              exact finv ha _ _ rfl (.cell (ad := ⟨b3109, 0, none⟩) (v := .agg #[.int .i64 0, .int .i64 0, .string (⟨#[]⟩ : ByteArray), .int .i64 0, .int .i64 0, .string (⟨#[]⟩ : ByteArray), .bool false, .slice none 0 0, .int .u64 0, .int .u64 0, .int .u64 0, .int .i64 0, .bool false, .int .i64 0]) KR (run_loadVar_ca0 (HW.ca (i := 1) (b := b3109) (C := #[.int .i64 0, .int .i64 0, .string (⟨#[]⟩ : ByteArray), .int .i64 0, .int .i64 0, .string (⟨#[]⟩ : ByteArray), .bool false, .slice none 0 0, .int .u64 0, .int .u64 0, .int .u64 0, .int .i64 0, .bool false, .int .i64 0]) (T := 49) (fr := (0, 0)) KR) 49 0 (.agg #[.int .i64 0, .int .i64 0, .string (⟨#[]⟩ : ByteArray), .int .i64 0, .int .i64 0, .string (⟨#[]⟩ : ByteArray), .bool false, .slice none 0 0, .int .u64 0, .int .u64 0, .int .u64 0, .int .i64 0, .bool false, .int .i64 0]) KR) (.tmp (v := .int .i64 180) KR .nil)) (.tuple #[.agg #[.int .i64 0, .int .i64 0, .string (⟨#[]⟩ : ByteArray), .int .i64 0, .int .i64 0, .string (⟨#[]⟩ : ByteArray), .bool false, .slice none 0 0, .int .u64 0, .int .u64 0, .int .u64 0, .int .i64 0, .bool false, .int .i64 0], .int .i64 180]) rfl ⟨none, 0, rfl, HW.pick [] [0] (by decide) (by decide) rfl KR⟩
            · skip
              replace h := ite_neg' h hp3180
              replace ha := ha.bool 54 KR (decide_eq_false hp3180)
              refine stepp ha 55 (.int .i64 t3167) KR KR ?_; clear ha a; intro a ha
              refine stepp ha 56 (.bool (t3167 == 1)) KR KR ?_; clear ha a; intro a ha
              refine stepp ha 57 (.bool (t3167 == 1)) KR KR ?_; clear ha a; intro a ha
              refine stepp ha 58 (.bool (t3167 == 1)) KR KR ?_; clear ha a; intro a ha
              by_cases hp3181 : t3167 = 1
              · skip
                replace h := ite_pos' h hp3181
                replace ha := ha.bool 58 KR (ieq_t hp3181)
                refine stepo ha 59 KR ?_; clear ha a; intro a ha
                refine stepo ha 60 KR ?_; clear ha a; intro a ha
                refine stepo ha 61 KR ?_; clear ha a; intro a ha
                refine stepo ha 62 KR ?_; clear ha a; intro a ha
                refine stepo ha 63 KR ?_; clear ha a; intro a ha
                refine stepo ha 64 KR ?_; clear ha a; intro a ha
                refine stepp ha 65 (.bool true) KR KR ?_; clear ha a; intro a ha
                refine endl ?_
                refine thenN (hK3174 _ _ ?_); clear hK3174
                refine condT ha KR KR (t := true) (rfl) ?_
                refine wp_seq_k (fun K3187 hK3188 => ?_)
                refine wp_region_lit ?_
                refine stepp ha 66 (.agg #[.int .i64 0, .int .i64 0, .string (⟨#[]⟩ : ByteArray), .int .i64 0, .int .i64 0, .string (⟨#[]⟩ : ByteArray), .bool false, .slice none 0 0, .int .u64 0, .int .u64 0, .int .u64 0, .int .i64 0, .bool false, .int .i64 0]) KR KR ?_; clear ha a; intro a ha
                refine stepst ha HW 1 (b := b3109) (C := #[.int .i64 0, .int .i64 0, .string (⟨#[]⟩ : ByteArray), .int .i64 0, .int .i64 0, .string (⟨#[]⟩ : ByteArray), .bool false, .slice none 0 0, .int .u64 0, .int .u64 0, .int .u64 0, .int .i64 0, .bool false, .int .i64 0]) (T := 49) KR 49 0 (.tmp 6) (.tmp 66) (.agg #[.int .i64 0, .int .i64 0, .string (⟨#[]⟩ : ByteArray), .int .i64 0, .int .i64 0, .string (⟨#[]⟩ : ByteArray), .bool false, .slice none 0 0, .int .u64 0, .int .u64 0, .int .u64 0, .int .i64 0, .bool false, .int .i64 0]) #[.int .i64 0, .int .i64 0, .string (⟨#[]⟩ : ByteArray), .int .i64 0, .int .i64 0, .string (⟨#[]⟩ : ByteArray), .bool false, .slice none 0 0, .int .u64 0, .int .u64 0, .int .u64 0, .int .i64 0, .bool false, .int .i64 0] rfl KR KR KR KR KR KR KR ?_; clear ha HW a; intro a W3189 HW ha
                refine stepp ha 7 (.int .i64 180) KR KR ?_; clear ha a; intro a ha
                refine endl ?_
                refine thenN (hK3188 _ _ ?_); clear hK3188
                refine wp_ret ?_
                refine thenR ?_
                refine thenR ?_
                obtain rfl := Option.some.inj h
                replace HW := HW.nilo 128 2
                exact finv ha _ _ rfl (.cell (ad := ⟨b3109, 0, none⟩) (v := .agg #[.int .i64 0, .int .i64 0, .string (⟨#[]⟩ : ByteArray), .int .i64 0, .int .i64 0, .string (⟨#[]⟩ : ByteArray), .bool false, .slice none 0 0, .int .u64 0, .int .u64 0, .int .u64 0, .int .i64 0, .bool false, .int .i64 0]) KR (run_loadVar_ca0 (HW.ca (i := 1) (b := b3109) (C := #[.int .i64 0, .int .i64 0, .string (⟨#[]⟩ : ByteArray), .int .i64 0, .int .i64 0, .string (⟨#[]⟩ : ByteArray), .bool false, .slice none 0 0, .int .u64 0, .int .u64 0, .int .u64 0, .int .i64 0, .bool false, .int .i64 0]) (T := 49) (fr := (0, 0)) KR) 49 0 (.agg #[.int .i64 0, .int .i64 0, .string (⟨#[]⟩ : ByteArray), .int .i64 0, .int .i64 0, .string (⟨#[]⟩ : ByteArray), .bool false, .slice none 0 0, .int .u64 0, .int .u64 0, .int .u64 0, .int .i64 0, .bool false, .int .i64 0]) KR) (.tmp (v := .int .i64 180) KR .nil)) (.tuple #[.agg #[.int .i64 0, .int .i64 0, .string (⟨#[]⟩ : ByteArray), .int .i64 0, .int .i64 0, .string (⟨#[]⟩ : ByteArray), .bool false, .slice none 0 0, .int .u64 0, .int .u64 0, .int .u64 0, .int .i64 0, .bool false, .int .i64 0], .int .i64 180]) rfl ⟨none, 0, rfl, HW.pick [] [0] (by decide) (by decide) rfl KR⟩
              · skip
                replace h := ite_neg' h hp3181
                replace ha := ha.bool 58 KR (ieq_f hp3181)
                refine stepp ha 59 (.int .i64 t3147) KR KR ?_; clear ha a; intro a ha
                refine stepp ha 60 (.bool (t3147 != 1)) KR KR ?_; clear ha a; intro a ha
                refine stepp ha 61 (.bool (t3147 != 1)) KR KR ?_; clear ha a; intro a ha
                by_cases hp3182 : t3147 = 1
                · skip
                  replace h := ite_pos' h hp3182
                  replace ha := ha.bool 61 KR (ineq_f hp3182)
                  refine stepo ha 62 KR ?_; clear ha a; intro a ha
                  refine stepo ha 63 KR ?_; clear ha a; intro a ha
                  refine stepp ha 64 (.bool false) KR KR ?_; clear ha a; intro a ha
                  refine stepp ha 65 (.bool false) KR KR ?_; clear ha a; intro a ha
                  refine endl ?_
                  refine thenN (hK3174 _ _ ?_); clear hK3174
                  refine condF ha KR KR (t := false) (rfl) ?_
                  refine wp_skip ?_
                  exact thenN ⟨h, ha.sub (subs_cons KR (subs_cons KR (subs_cons KR (subs_cons KR (subs_cons KR (subs_cons KR (subs_nil _))))))), HW.pick [1, 0] [] (by decide) (by decide) KR KR⟩
                · skip
                  replace h := ite_neg' h hp3182
                  replace ha := ha.bool 61 KR (ineq_t hp3182)
                  refine stepp ha 62 (.int .u64 t3141.1) KR KR ?_; clear ha a; intro a ha
                  refine stepp ha 63 (.bool (t3141.1 == 0)) KR KR ?_; clear ha a; intro a ha
                  refine stepp ha 64 (.bool (t3141.1 == 0)) KR KR ?_; clear ha a; intro a ha
                  refine stepp ha 65 (.bool (t3141.1 == 0)) KR KR ?_; clear ha a; intro a ha
                  refine endl ?_
                  refine thenN (hK3174 _ _ ?_); clear hK3174
                  by_cases hp3191 : t3141.1 = 0
                  · skip
                    replace h := ite_pos' h hp3191
                    refine condT ha KR KR (t := (t3141.1 == 0)) (ieq_t hp3191) ?_
                    refine wp_seq_k (fun K3192 hK3193 => ?_)
                    refine wp_region_lit ?_
                    refine stepp ha 66 (.agg #[.int .i64 0, .int .i64 0, .string (⟨#[]⟩ : ByteArray), .int .i64 0, .int .i64 0, .string (⟨#[]⟩ : ByteArray), .bool false, .slice none 0 0, .int .u64 0, .int .u64 0, .int .u64 0, .int .i64 0, .bool false, .int .i64 0]) KR KR ?_; clear ha a; intro a ha
                    refine stepst ha HW 1 (b := b3109) (C := #[.int .i64 0, .int .i64 0, .string (⟨#[]⟩ : ByteArray), .int .i64 0, .int .i64 0, .string (⟨#[]⟩ : ByteArray), .bool false, .slice none 0 0, .int .u64 0, .int .u64 0, .int .u64 0, .int .i64 0, .bool false, .int .i64 0]) (T := 49) KR 49 0 (.tmp 6) (.tmp 66) (.agg #[.int .i64 0, .int .i64 0, .string (⟨#[]⟩ : ByteArray), .int .i64 0, .int .i64 0, .string (⟨#[]⟩ : ByteArray), .bool false, .slice none 0 0, .int .u64 0, .int .u64 0, .int .u64 0, .int .i64 0, .bool false, .int .i64 0]) #[.int .i64 0, .int .i64 0, .string (⟨#[]⟩ : ByteArray), .int .i64 0, .int .i64 0, .string (⟨#[]⟩ : ByteArray), .bool false, .slice none 0 0, .int .u64 0, .int .u64 0, .int .u64 0, .int .i64 0, .bool false, .int .i64 0] rfl KR KR KR KR KR KR KR ?_; clear ha HW a; intro a W3194 HW ha
                    refine stepp ha 7 (.int .i64 180) KR KR ?_; clear ha a; intro a ha
                    refine endl ?_
                    refine thenN (hK3193 _ _ ?_); clear hK3193
                    refine wp_ret ?_
                    refine thenR ?_
                    refine thenR ?_
                    obtain rfl := Option.some.inj h
                    replace HW := HW.nilo 128 2
                    exact finv ha _ _ rfl (.cell (ad := ⟨b3109, 0, none⟩) (v := .agg #[.int .i64 0, .int .i64 0, .string (⟨#[]⟩ : ByteArray), .int .i64 0, .int .i64 0, .string (⟨#[]⟩ : ByteArray), .bool false, .slice none 0 0, .int .u64 0, .int .u64 0, .int .u64 0, .int .i64 0, .bool false, .int .i64 0]) KR (run_loadVar_ca0 (HW.ca (i := 1) (b := b3109) (C := #[.int .i64 0, .int .i64 0, .string (⟨#[]⟩ : ByteArray), .int .i64 0, .int .i64 0, .string (⟨#[]⟩ : ByteArray), .bool false, .slice none 0 0, .int .u64 0, .int .u64 0, .int .u64 0, .int .i64 0, .bool false, .int .i64 0]) (T := 49) (fr := (0, 0)) KR) 49 0 (.agg #[.int .i64 0, .int .i64 0, .string (⟨#[]⟩ : ByteArray), .int .i64 0, .int .i64 0, .string (⟨#[]⟩ : ByteArray), .bool false, .slice none 0 0, .int .u64 0, .int .u64 0, .int .u64 0, .int .i64 0, .bool false, .int .i64 0]) KR) (.tmp (v := .int .i64 180) KR .nil)) (.tuple #[.agg #[.int .i64 0, .int .i64 0, .string (⟨#[]⟩ : ByteArray), .int .i64 0, .int .i64 0, .string (⟨#[]⟩ : ByteArray), .bool false, .slice none 0 0, .int .u64 0, .int .u64 0, .int .u64 0, .int .i64 0, .bool false, .int .i64 0], .int .i64 180]) rfl ⟨none, 0, rfl, HW.pick [] [0] (by decide) (by decide) rfl KR⟩
                  · skip
                    replace h := ite_neg' h hp3191
                    refine condF ha KR KR (t := (t3141.1 == 0)) (ieq_f hp3191) ?_
                    refine wp_skip ?_
                    exact thenN ⟨h, ha.sub (subs_cons KR (subs_cons KR (subs_cons KR (subs_cons KR (subs_cons KR (subs_cons KR (subs_nil _))))))), HW.pick [1, 0] [] (by decide) (by decide) KR KR⟩
          · skip
            replace h := ite_neg' h hp3179
            replace ha := ha.bool 50 KR (ineq_t hp3179)
            refine stepo ha 51 KR ?_; clear ha a; intro a ha
            refine stepo ha 52 KR ?_; clear ha a; intro a ha
            refine stepp ha 53 (.bool true) KR KR ?_; clear ha a; intro a ha
            refine stepp ha 54 (.bool true) KR KR ?_; clear ha a; intro a ha
            refine stepo ha 55 KR ?_; clear ha a; intro a ha
            refine stepo ha 56 KR ?_; clear ha a; intro a ha
            refine stepp ha 57 (.bool true) KR KR ?_; clear ha a; intro a ha
            refine stepp ha 58 (.bool true) KR KR ?_; clear ha a; intro a ha
            refine stepo ha 59 KR ?_; clear ha a; intro a ha
            refine stepo ha 60 KR ?_; clear ha a; intro a ha
            refine stepo ha 61 KR ?_; clear ha a; intro a ha
            refine stepo ha 62 KR ?_; clear ha a; intro a ha
            refine stepo ha 63 KR ?_; clear ha a; intro a ha
            refine stepo ha 64 KR ?_; clear ha a; intro a ha
            refine stepp ha 65 (.bool true) KR KR ?_; clear ha a; intro a ha
            refine endl ?_
            refine thenN (hK3174 _ _ ?_); clear hK3174
            refine condT ha KR KR (t := true) (rfl) ?_
            refine wp_seq_k (fun K3196 hK3197 => ?_)
            refine wp_region_lit ?_
            refine stepp ha 66 (.agg #[.int .i64 0, .int .i64 0, .string (⟨#[]⟩ : ByteArray), .int .i64 0, .int .i64 0, .string (⟨#[]⟩ : ByteArray), .bool false, .slice none 0 0, .int .u64 0, .int .u64 0, .int .u64 0, .int .i64 0, .bool false, .int .i64 0]) KR KR ?_; clear ha a; intro a ha
            refine stepst ha HW 1 (b := b3109) (C := #[.int .i64 0, .int .i64 0, .string (⟨#[]⟩ : ByteArray), .int .i64 0, .int .i64 0, .string (⟨#[]⟩ : ByteArray), .bool false, .slice none 0 0, .int .u64 0, .int .u64 0, .int .u64 0, .int .i64 0, .bool false, .int .i64 0]) (T := 49) KR 49 0 (.tmp 6) (.tmp 66) (.agg #[.int .i64 0, .int .i64 0, .string (⟨#[]⟩ : ByteArray), .int .i64 0, .int .i64 0, .string (⟨#[]⟩ : ByteArray), .bool false, .slice none 0 0, .int .u64 0, .int .u64 0, .int .u64 0, .int .i64 0, .bool false, .int .i64 0]) #[.int .i64 0, .int .i64 0, .string (⟨#[]⟩ : ByteArray), .int .i64 0, .int .i64 0, .string (⟨#[]⟩ : ByteArray), .bool false, .slice none 0 0, .int .u64 0, .int .u64 0, .int .u64 0, .int .i64 0, .bool false, .int .i64 0] rfl KR KR KR KR KR KR KR ?_; clear ha HW a; intro a W3198 HW ha
            refine stepp ha 7 (.int .i64 180) KR KR ?_; clear ha a; intro a ha
            refine endl ?_
            refine thenN (hK3197 _ _ ?_); clear hK3197
            refine wp_ret ?_
            refine thenR ?_
            refine thenR ?_
            obtain rfl := Option.some.inj h
            replace HW := HW.nilo 128 2
            exact finv ha _ _ rfl (.cell (ad := ⟨b3109, 0, none⟩) (v := .agg #[.int .i64 0, .int .i64 0, .string (⟨#[]⟩ : ByteArray), .int .i64 0, .int .i64 0, .string (⟨#[]⟩ : ByteArray), .bool false, .slice none 0 0, .int .u64 0, .int .u64 0, .int .u64 0, .int .i64 0, .bool false, .int .i64 0]) KR (run_loadVar_ca0 (HW.ca (i := 1) (b := b3109) (C := #[.int .i64 0, .int .i64 0, .string (⟨#[]⟩ : ByteArray), .int .i64 0, .int .i64 0, .string (⟨#[]⟩ : ByteArray), .bool false, .slice none 0 0, .int .u64 0, .int .u64 0, .int .u64 0, .int .i64 0, .bool false, .int .i64 0]) (T := 49) (fr := (0, 0)) KR) 49 0 (.agg #[.int .i64 0, .int .i64 0, .string (⟨#[]⟩ : ByteArray), .int .i64 0, .int .i64 0, .string (⟨#[]⟩ : ByteArray), .bool false, .slice none 0 0, .int .u64 0, .int .u64 0, .int .u64 0, .int .i64 0, .bool false, .int .i64 0]) KR) (.tmp (v := .int .i64 180) KR .nil)) (.tuple #[.agg #[.int .i64 0, .int .i64 0, .string (⟨#[]⟩ : ByteArray), .int .i64 0, .int .i64 0, .string (⟨#[]⟩ : ByteArray), .bool false, .slice none 0 0, .int .u64 0, .int .u64 0, .int .u64 0, .int .i64 0, .bool false, .int .i64 0], .int .i64 180]) rfl ⟨none, 0, rfl, HW.pick [] [0] (by decide) (by decide) rfl KR⟩
        · skip
          intro a W3200 hJ
          obtain ⟨h, ha, HW⟩ := hJ
          replace h : headgateref27_Change.j0 K a1 t3135 t3141 t3147 t3167 = some r := h
          unfold headgateref27_Change.j0 at h
          refine hK3172 _ _ ?_; clear hK3172
          refine wp_seq_k (fun K3201 hK3202 => ?_)
          refine wp_region_lit ?_
          refine stepp ha 67 (.int .u32 a1) KR KR ?_; clear ha a; intro a ha
          obtain ⟨t3203, ht3204, h_⟩ := bind_some' h; clear h; have h := h_; clear h_
          refine stepc ha 68 KR KR (headgateref27_bits.calls K a1 3 1 t3203 _ ht3204) ?_; clear ha a; rintro e W3205 ⟨rfl, HX3206⟩
          refine ⟨_, rfl, ?_⟩; intro a ha; replace HW := HW.callw HX3206; clear HX3206
          refine stepp ha 69 (.bool (t3203 == 1)) KR KR ?_; clear ha a; intro a ha
          refine stepp ha 70 (.pointer (some ⟨b3157, 0, none⟩)) KR KR ?_; clear ha a; intro a ha
          refine stepst ha HW 1 (b := b3157) (C := #[.int .i64 0, .int .i64 0, .string (⟨#[]⟩ : ByteArray), .int .i64 0, .int .i64 0, .string (⟨#[]⟩ : ByteArray), .bool false, .slice none 0 0, .int .u64 t3135.1, .int .u64 0, .int .u64 0, .int .i64 0, .bool false, .int .i64 0]) (T := 49) KR 3 0 (.tmp 70) (.const (.int .i64 8)) (.int .i64 8) #[.int .i64 8, .int .i64 0, .string (⟨#[]⟩ : ByteArray), .int .i64 0, .int .i64 0, .string (⟨#[]⟩ : ByteArray), .bool false, .slice none 0 0, .int .u64 t3135.1, .int .u64 0, .int .u64 0, .int .i64 0, .bool false, .int .i64 0] rfl KR KR KR KR KR KR KR ?_; clear ha HW a; intro a W3207 HW ha
          refine stepp ha 71 (.pointer (some ⟨b3157, 12, none⟩)) KR KR ?_; clear ha a; intro a ha
          refine stepst ha HW 1 (b := b3157) (C := #[.int .i64 8, .int .i64 0, .string (⟨#[]⟩ : ByteArray), .int .i64 0, .int .i64 0, .string (⟨#[]⟩ : ByteArray), .bool false, .slice none 0 0, .int .u64 t3135.1, .int .u64 0, .int .u64 0, .int .i64 0, .bool false, .int .i64 0]) (T := 49) KR 4 12 (.tmp 71) (.tmp 69) (.bool (t3203 == 1)) #[.int .i64 8, .int .i64 0, .string (⟨#[]⟩ : ByteArray), .int .i64 0, .int .i64 0, .string (⟨#[]⟩ : ByteArray), .bool false, .slice none 0 0, .int .u64 t3135.1, .int .u64 0, .int .u64 0, .int .i64 0, .bool (t3203 == 1), .int .i64 0] rfl KR KR KR KR KR KR KR ?_; clear ha HW a; intro a W3208 HW ha
          refine endl ?_
          refine thenN (hK3202 _ _ ?_); clear hK3202
          refine wp_seq_k (fun K3209 hK3210 => ?_)
          refine cutn (fun a W3216 => ∃ (x3215 : Int), headgateref27_Change.j1 K t3135 t3167 t3203 x3215 = some r ∧ Has 135 [(6, .pointer (some ⟨b3109, 0, none⟩)), (14, .pointer (some ⟨b3157, 0, none⟩)), (15, .int .i64 t3167)] a ∧ Wd w W3216 [(b3109, .cells #[.int .i64 0, .int .i64 0, .string (⟨#[]⟩ : ByteArray), .int .i64 0, .int .i64 0, .string (⟨#[]⟩ : ByteArray), .bool false, .slice none 0 0, .int .u64 0, .int .u64 0, .int .u64 0, .int .i64 0, .bool false, .int .i64 0] 49 (0, 0)), (b3157, .cells #[.int .i64 8, .int .i64 0, .string (⟨#[]⟩ : ByteArray), .int .i64 0, .int .i64 0, .string (⟨#[]⟩ : ByteArray), .bool false, .slice none 0 0, .int .u64 t3135.1, .int .u64 x3215, .int .u64 0, .int .i64 0, .bool (t3203 == 1), .int .i64 0] 49 (0, 0))] []) ?_ ?_
          · skip
            refine wp_seq_k (fun K3211 hK3212 => ?_)
            refine wp_region_lit ?_
            refine stepp ha 72 (.int .i64 t3147) KR KR ?_; clear ha a; intro a ha
            refine stepp ha 73 (.bool (t3147 != 1)) KR KR ?_; clear ha a; intro a ha
            refine endl ?_
            refine thenN (hK3212 _ _ ?_); clear hK3212
            by_cases hp3213 : t3147 = 1
            · skip
              replace h := ite_pos' h hp3213
              refine condF ha KR KR (t := (t3147 != 1)) (ineq_f hp3213) ?_
              refine wp_skip ?_
              exact thenN ⟨0, h, ha.sub (subs_cons KR (subs_cons KR (subs_cons KR (subs_nil _)))), HW.pick [0, 1] [] (by decide) (by decide) KR KR⟩
            · skip
              replace h := ite_neg' h hp3213
              refine condT ha KR KR (t := (t3147 != 1)) (ineq_t hp3213) ?_
              refine wp_region_lit ?_
              refine stepp ha 74 (.int .u64 t3141.1) KR KR ?_; clear ha a; intro a ha
              refine stepp ha 75 (.pointer (some ⟨b3157, 9, none⟩)) KR KR ?_; clear ha a; intro a ha
              refine stepst ha HW 1 (b := b3157) (C := #[.int .i64 8, .int .i64 0, .string (⟨#[]⟩ : ByteArray), .int .i64 0, .int .i64 0, .string (⟨#[]⟩ : ByteArray), .bool false, .slice none 0 0, .int .u64 t3135.1, .int .u64 0, .int .u64 0, .int .i64 0, .bool (t3203 == 1), .int .i64 0]) (T := 49) KR 42 9 (.tmp 75) (.tmp 74) (.int .u64 t3141.1) #[.int .i64 8, .int .i64 0, .string (⟨#[]⟩ : ByteArray), .int .i64 0, .int .i64 0, .string (⟨#[]⟩ : ByteArray), .bool false, .slice none 0 0, .int .u64 t3135.1, .int .u64 t3141.1, .int .u64 0, .int .i64 0, .bool (t3203 == 1), .int .i64 0] rfl KR KR KR KR KR KR KR ?_; clear ha HW a; intro a W3214 HW ha
              refine endl ?_
              exact thenN ⟨t3141.1, h, ha.sub (subs_cons KR (subs_cons KR (subs_cons KR (subs_nil _)))), HW.pick [0, 1] [] (by decide) (by decide) KR KR⟩
          · skip
            intro a W3216 hJ
            obtain ⟨x3215, h, ha, HW⟩ := hJ
            replace h : headgateref27_Change.j1 K t3135 t3167 t3203 x3215 = some r := h
            unfold headgateref27_Change.j1 at h
            refine hK3210 _ _ ?_; clear hK3210
            refine wp_seq_k (fun K3217 hK3218 => ?_)
            refine wp_seq_k (fun K3219 hK3220 => ?_)
            refine wp_region_lit ?_
            refine stepp ha 76 (.int .i64 t3167) KR KR ?_; clear ha a; intro a ha
            refine stepp ha 77 (.bool (decide (t3167 > 0))) KR KR ?_; clear ha a; intro a ha
            refine endl ?_
            refine thenN (hK3220 _ _ ?_); clear hK3220
            by_cases hp3221 : t3167 > 0
            · skip
              replace h := ite_pos' h hp3221
              refine condT ha KR KR (t := decide (t3167 > 0)) (decide_eq_true hp3221) ?_
              refine wp_region_lit ?_
              refine stepp ha 78 (.int .i64 t3167) KR KR ?_; clear ha a; intro a ha
              refine stepp ha 79 (.int .i64 (IntKind.wrap .i64 (t3167 - 1))) KR KR ?_; clear ha a; intro a ha
              refine stepp ha 80 (.pointer (some ⟨b3157, 13, none⟩)) KR KR ?_; clear ha a; intro a ha
              refine stepst ha HW 1 (b := b3157) (C := #[.int .i64 8, .int .i64 0, .string (⟨#[]⟩ : ByteArray), .int .i64 0, .int .i64 0, .string (⟨#[]⟩ : ByteArray), .bool false, .slice none 0 0, .int .u64 t3135.1, .int .u64 x3215, .int .u64 0, .int .i64 0, .bool (t3203 == 1), .int .i64 0]) (T := 49) KR 3 13 (.tmp 80) (.tmp 79) (.int .i64 (IntKind.wrap .i64 (t3167 - 1))) #[.int .i64 8, .int .i64 0, .string (⟨#[]⟩ : ByteArray), .int .i64 0, .int .i64 0, .string (⟨#[]⟩ : ByteArray), .bool false, .slice none 0 0, .int .u64 t3135.1, .int .u64 x3215, .int .u64 0, .int .i64 0, .bool (t3203 == 1), .int .i64 (IntKind.wrap .i64 (t3167 - 1))] rfl KR KR KR KR KR KR KR ?_; clear ha HW a; intro a W3222 HW ha
              refine endl ?_
              refine thenN (hK3218 _ _ ?_); clear hK3218
              refine wp_seq_k (fun K3223 hK3224 => ?_)
              refine wp_region_lit ?_
              refine stepl ha 81 (HW.ca (i := 1) (b := b3157) (C := #[.int .i64 8, .int .i64 0, .string (⟨#[]⟩ : ByteArray), .int .i64 0, .int .i64 0, .string (⟨#[]⟩ : ByteArray), .bool false, .slice none 0 0, .int .u64 t3135.1, .int .u64 x3215, .int .u64 0, .int .i64 0, .bool (t3203 == 1), .int .i64 (IntKind.wrap .i64 (t3167 - 1))]) (T := 49) (fr := (0, 0)) KR) 49 0 (.tmp 14) (.agg #[.int .i64 8, .int .i64 0, .string (⟨#[]⟩ : ByteArray), .int .i64 0, .int .i64 0, .string (⟨#[]⟩ : ByteArray), .bool false, .slice none 0 0, .int .u64 t3135.1, .int .u64 x3215, .int .u64 0, .int .i64 0, .bool (t3203 == 1), .int .i64 (IntKind.wrap .i64 (t3167 - 1))]) rfl KR KR KR ?_; clear ha a; intro a ha
              refine stepst ha HW 0 (b := b3109) (C := #[.int .i64 0, .int .i64 0, .string (⟨#[]⟩ : ByteArray), .int .i64 0, .int .i64 0, .string (⟨#[]⟩ : ByteArray), .bool false, .slice none 0 0, .int .u64 0, .int .u64 0, .int .u64 0, .int .i64 0, .bool false, .int .i64 0]) (T := 49) KR 49 0 (.tmp 6) (.tmp 81) (.agg #[.int .i64 8, .int .i64 0, .string (⟨#[]⟩ : ByteArray), .int .i64 0, .int .i64 0, .string (⟨#[]⟩ : ByteArray), .bool false, .slice none 0 0, .int .u64 t3135.1, .int .u64 x3215, .int .u64 0, .int .i64 0, .bool (t3203 == 1), .int .i64 (IntKind.wrap .i64 (t3167 - 1))]) #[.int .i64 8, .int .i64 0, .string (⟨#[]⟩ : ByteArray), .int .i64 0, .int .i64 0, .string (⟨#[]⟩ : ByteArray), .bool false, .slice none 0 0, .int .u64 t3135.1, .int .u64 x3215, .int .u64 0, .int .i64 0, .bool (t3203 == 1), .int .i64 (IntKind.wrap .i64 (t3167 - 1))] rfl KR KR KR KR KR KR KR ?_; clear ha HW a; intro a W3225 HW ha
              refine stepp ha 7 (.int .i64 0) KR KR ?_; clear ha a; intro a ha
              refine endl ?_
              refine thenN (hK3224 _ _ ?_); clear hK3224
              refine wp_ret ?_
              refine thenR ?_
              obtain rfl := Option.some.inj h
              replace HW := HW.nilo 128 2
              exact finv ha _ _ rfl (.cell (ad := ⟨b3109, 0, none⟩) (v := .agg #[.int .i64 8, .int .i64 0, .string (⟨#[]⟩ : ByteArray), .int .i64 0, .int .i64 0, .string (⟨#[]⟩ : ByteArray), .bool false, .slice none 0 0, .int .u64 t3135.1, .int .u64 x3215, .int .u64 0, .int .i64 0, .bool (t3203 == 1), .int .i64 (IntKind.wrap .i64 (t3167 - 1))]) KR (run_loadVar_ca0 (HW.ca (i := 0) (b := b3109) (C := #[.int .i64 8, .int .i64 0, .string (⟨#[]⟩ : ByteArray), .int .i64 0, .int .i64 0, .string (⟨#[]⟩ : ByteArray), .bool false, .slice none 0 0, .int .u64 t3135.1, .int .u64 x3215, .int .u64 0, .int .i64 0, .bool (t3203 == 1), .int .i64 (IntKind.wrap .i64 (t3167 - 1))]) (T := 49) (fr := (0, 0)) KR) 49 0 (.agg #[.int .i64 8, .int .i64 0, .string (⟨#[]⟩ : ByteArray), .int .i64 0, .int .i64 0, .string (⟨#[]⟩ : ByteArray), .bool false, .slice none 0 0, .int .u64 t3135.1, .int .u64 x3215, .int .u64 0, .int .i64 0, .bool (t3203 == 1), .int .i64 (IntKind.wrap .i64 (t3167 - 1))]) KR) (.tmp (v := .int .i64 0) KR .nil)) (.tuple #[.agg #[.int .i64 8, .int .i64 0, .string (⟨#[]⟩ : ByteArray), .int .i64 0, .int .i64 0, .string (⟨#[]⟩ : ByteArray), .bool false, .slice none 0 0, .int .u64 t3135.1, .int .u64 x3215, .int .u64 0, .int .i64 0, .bool (t3203 == 1), .int .i64 (IntKind.wrap .i64 (t3167 - 1))], .int .i64 0]) rfl ⟨none, 0, rfl, HW.pick [] [0] (by decide) (by decide) rfl KR⟩
            · skip
              replace h := ite_neg' h hp3221
              refine condF ha KR KR (t := decide (t3167 > 0)) (decide_eq_false hp3221) ?_
              refine wp_skip ?_
              refine thenN (hK3218 _ _ ?_); clear hK3218
              refine wp_seq_k (fun K3227 hK3228 => ?_)
              refine wp_region_lit ?_
              refine stepl ha 81 (HW.ca (i := 1) (b := b3157) (C := #[.int .i64 8, .int .i64 0, .string (⟨#[]⟩ : ByteArray), .int .i64 0, .int .i64 0, .string (⟨#[]⟩ : ByteArray), .bool false, .slice none 0 0, .int .u64 t3135.1, .int .u64 x3215, .int .u64 0, .int .i64 0, .bool (t3203 == 1), .int .i64 0]) (T := 49) (fr := (0, 0)) KR) 49 0 (.tmp 14) (.agg #[.int .i64 8, .int .i64 0, .string (⟨#[]⟩ : ByteArray), .int .i64 0, .int .i64 0, .string (⟨#[]⟩ : ByteArray), .bool false, .slice none 0 0, .int .u64 t3135.1, .int .u64 x3215, .int .u64 0, .int .i64 0, .bool (t3203 == 1), .int .i64 0]) rfl KR KR KR ?_; clear ha a; intro a ha
              refine stepst ha HW 0 (b := b3109) (C := #[.int .i64 0, .int .i64 0, .string (⟨#[]⟩ : ByteArray), .int .i64 0, .int .i64 0, .string (⟨#[]⟩ : ByteArray), .bool false, .slice none 0 0, .int .u64 0, .int .u64 0, .int .u64 0, .int .i64 0, .bool false, .int .i64 0]) (T := 49) KR 49 0 (.tmp 6) (.tmp 81) (.agg #[.int .i64 8, .int .i64 0, .string (⟨#[]⟩ : ByteArray), .int .i64 0, .int .i64 0, .string (⟨#[]⟩ : ByteArray), .bool false, .slice none 0 0, .int .u64 t3135.1, .int .u64 x3215, .int .u64 0, .int .i64 0, .bool (t3203 == 1), .int .i64 0]) #[.int .i64 8, .int .i64 0, .string (⟨#[]⟩ : ByteArray), .int .i64 0, .int .i64 0, .string (⟨#[]⟩ : ByteArray), .bool false, .slice none 0 0, .int .u64 t3135.1, .int .u64 x3215, .int .u64 0, .int .i64 0, .bool (t3203 == 1), .int .i64 0] rfl KR KR KR KR KR KR KR ?_; clear ha HW a; intro a W3229 HW ha
              refine stepp ha 7 (.int .i64 0) KR KR ?_; clear ha a; intro a ha
              refine endl ?_
              refine thenN (hK3228 _ _ ?_); clear hK3228
              refine wp_ret ?_
              refine thenR ?_
              obtain rfl := Option.some.inj h
              replace HW := HW.nilo 128 2
              exact finv ha _ _ rfl (.cell (ad := ⟨b3109, 0, none⟩) (v := .agg #[.int .i64 8, .int .i64 0, .string (⟨#[]⟩ : ByteArray), .int .i64 0, .int .i64 0, .string (⟨#[]⟩ : ByteArray), .bool false, .slice none 0 0, .int .u64 t3135.1, .int .u64 x3215, .int .u64 0, .int .i64 0, .bool (t3203 == 1), .int .i64 0]) KR (run_loadVar_ca0 (HW.ca (i := 0) (b := b3109) (C := #[.int .i64 8, .int .i64 0, .string (⟨#[]⟩ : ByteArray), .int .i64 0, .int .i64 0, .string (⟨#[]⟩ : ByteArray), .bool false, .slice none 0 0, .int .u64 t3135.1, .int .u64 x3215, .int .u64 0, .int .i64 0, .bool (t3203 == 1), .int .i64 0]) (T := 49) (fr := (0, 0)) KR) 49 0 (.agg #[.int .i64 8, .int .i64 0, .string (⟨#[]⟩ : ByteArray), .int .i64 0, .int .i64 0, .string (⟨#[]⟩ : ByteArray), .bool false, .slice none 0 0, .int .u64 t3135.1, .int .u64 x3215, .int .u64 0, .int .i64 0, .bool (t3203 == 1), .int .i64 0]) KR) (.tmp (v := .int .i64 0) KR .nil)) (.tuple #[.agg #[.int .i64 8, .int .i64 0, .string (⟨#[]⟩ : ByteArray), .int .i64 0, .int .i64 0, .string (⟨#[]⟩ : ByteArray), .bool false, .slice none 0 0, .int .u64 t3135.1, .int .u64 x3215, .int .u64 0, .int .i64 0, .bool (t3203 == 1), .int .i64 0], .int .i64 0]) rfl ⟨none, 0, rfl, HW.pick [] [0] (by decide) (by decide) rfl KR⟩
      · skip
        replace h := ite_neg' h hp3164
        refine condF ha KR KR (t := (a0 == 13)) (ieq_f hp3164) ?_
        refine wp_skip ?_
        refine thenN (hK3161 _ _ ?_); clear hK3161
        refine wp_seq_k (fun K3231 hK3232 => ?_)
        refine wp_seq_k (fun K3233 hK3234 => ?_)
        refine wp_region_lit ?_
        refine stepp ha 82 (.int .u32 a1) KR KR ?_; clear ha a; intro a ha
        obtain ⟨t3235, ht3236, h_⟩ := bind_some' h; clear h; have h := h_; clear h_
        refine stepc ha 83 KR KR (headgateref27_bits.calls K a1 3 5 t3235 _ ht3236) ?_; clear ha a; rintro e W3237 ⟨rfl, HX3238⟩
        refine ⟨_, rfl, ?_⟩; intro a ha; replace HW := HW.callw HX3238; clear HX3238
        refine stepp ha 84 (.bool (t3235 != 0)) KR KR ?_; clear ha a; intro a ha
        refine stepp ha 85 (.bool (t3235 != 0)) KR KR ?_; clear ha a; intro a ha
        by_cases hp3239 : t3235 = 0
        · skip
          replace h := ite_pos' h hp3239
          replace ha := ha.bool 85 KR (ineq_f hp3239)
          refine stepp ha 86 (.int .u32 a1) KR KR ?_; clear ha a; intro a ha
          obtain ⟨t3240, ht3241, h_⟩ := bind_some' h; clear h; have h := h_; clear h_
          refine stepc ha 87 KR KR (headgateref27_bits.calls K a1 16 16 t3240 _ ht3241) ?_; clear ha a; rintro e W3242 ⟨rfl, HX3243⟩
          refine ⟨_, rfl, ?_⟩; intro a ha; replace HW := HW.callw HX3243; clear HX3243
          refine stepp ha 88 (.bool (t3240 != 0)) KR KR ?_; clear ha a; intro a ha
          refine stepp ha 89 (.bool (t3240 != 0)) KR KR ?_; clear ha a; intro a ha
          refine stepp ha 90 (.bool (t3240 != 0)) KR KR ?_; clear ha a; intro a ha
          by_cases hp3244 : t3240 = 0
          · skip
            replace h := ite_pos' h hp3244
            replace ha := ha.bool 90 KR (ineq_f hp3244)
            refine stepp ha 91 (.int .i64 t3147) KR KR ?_; clear ha a; intro a ha
            refine stepp ha 92 (.bool (decide (t3147 > 1))) KR KR ?_; clear ha a; intro a ha
            refine stepp ha 93 (.bool (decide (t3147 > 1))) KR KR ?_; clear ha a; intro a ha
            refine endl ?_
            refine thenN (hK3234 _ _ ?_); clear hK3234
            by_cases hp3245 : t3147 > 1
            · skip
              replace h := ite_pos' h hp3245
              refine condT ha KR KR (t := decide (t3147 > 1)) (decide_eq_true hp3245) ?_
              refine wp_seq_k (fun K3246 hK3247 => ?_)
              refine wp_region_lit ?_
              refine stepp ha 94 (.agg #[.int .i64 0, .int .i64 0, .string (⟨#[]⟩ : ByteArray), .int .i64 0, .int .i64 0, .string (⟨#[]⟩ : ByteArray), .bool false, .slice none 0 0, .int .u64 0, .int .u64 0, .int .u64 0, .int .i64 0, .bool false, .int .i64 0]) KR KR ?_; clear ha a; intro a ha
              refine stepst ha HW 1 (b := b3109) (C := #[.int .i64 0, .int .i64 0, .string (⟨#[]⟩ : ByteArray), .int .i64 0, .int .i64 0, .string (⟨#[]⟩ : ByteArray), .bool false, .slice none 0 0, .int .u64 0, .int .u64 0, .int .u64 0, .int .i64 0, .bool false, .int .i64 0]) (T := 49) KR 49 0 (.tmp 6) (.tmp 94) (.agg #[.int .i64 0, .int .i64 0, .string (⟨#[]⟩ : ByteArray), .int .i64 0, .int .i64 0, .string (⟨#[]⟩ : ByteArray), .bool false, .slice none 0 0, .int .u64 0, .int .u64 0, .int .u64 0, .int .i64 0, .bool false, .int .i64 0]) #[.int .i64 0, .int .i64 0, .string (⟨#[]⟩ : ByteArray), .int .i64 0, .int .i64 0, .string (⟨#[]⟩ : ByteArray), .bool false, .slice none 0 0, .int .u64 0, .int .u64 0, .int .u64 0, .int .i64 0, .bool false, .int .i64 0] rfl KR KR KR KR KR KR KR ?_; clear ha HW a; intro a W3248 HW ha
              refine stepp ha 7 (.int .i64 180) KR KR ?_; clear ha a; intro a ha
              refine endl ?_
              refine thenN (hK3247 _ _ ?_); clear hK3247
              refine wp_ret ?_
              refine thenR ?_
              obtain rfl := Option.some.inj h
              replace HW := HW.nilo 128 2
              exact finv ha _ _ rfl (.cell (ad := ⟨b3109, 0, none⟩) (v := .agg #[.int .i64 0, .int .i64 0, .string (⟨#[]⟩ : ByteArray), .int .i64 0, .int .i64 0, .string (⟨#[]⟩ : ByteArray), .bool false, .slice none 0 0, .int .u64 0, .int .u64 0, .int .u64 0, .int .i64 0, .bool false, .int .i64 0]) KR (run_loadVar_ca0 (HW.ca (i := 1) (b := b3109) (C := #[.int .i64 0, .int .i64 0, .string (⟨#[]⟩ : ByteArray), .int .i64 0, .int .i64 0, .string (⟨#[]⟩ : ByteArray), .bool false, .slice none 0 0, .int .u64 0, .int .u64 0, .int .u64 0, .int .i64 0, .bool false, .int .i64 0]) (T := 49) (fr := (0, 0)) KR) 49 0 (.agg #[.int .i64 0, .int .i64 0, .string (⟨#[]⟩ : ByteArray), .int .i64 0, .int .i64 0, .string (⟨#[]⟩ : ByteArray), .bool false, .slice none 0 0, .int .u64 0, .int .u64 0, .int .u64 0, .int .i64 0, .bool false, .int .i64 0]) KR) (.tmp (v := .int .i64 180) KR .nil)) (.tuple #[.agg #[.int .i64 0, .int .i64 0, .string (⟨#[]⟩ : ByteArray), .int .i64 0, .int .i64 0, .string (⟨#[]⟩ : ByteArray), .bool false, .slice none 0 0, .int .u64 0, .int .u64 0, .int .u64 0, .int .i64 0, .bool false, .int .i64 0], .int .i64 180]) rfl ⟨none, 0, rfl, HW.pick [] [0] (by decide) (by decide) rfl KR⟩
            · skip
              replace h := ite_neg' h hp3245
              refine condF ha KR KR (t := decide (t3147 > 1)) (decide_eq_false hp3245) ?_
              refine wp_skip ?_
              refine thenN (hK3232 _ _ ?_); clear hK3232
              refine wp_seq_k (fun K3258 hK3259 => ?_)
              refine wp_region_lit ?_
              refine stepp ha 95 (.int .i64 t3151) KR KR ?_; clear ha a; intro a ha
              refine stepp ha 96 (.pointer (some ⟨b3157, 11, none⟩)) KR KR ?_; clear ha a; intro a ha
              refine stepst ha HW 0 (b := b3157) (C := #[.int .i64 0, .int .i64 0, .string (⟨#[]⟩ : ByteArray), .int .i64 0, .int .i64 0, .string (⟨#[]⟩ : ByteArray), .bool false, .slice none 0 0, .int .u64 t3135.1, .int .u64 0, .int .u64 0, .int .i64 0, .bool false, .int .i64 0]) (T := 49) KR 3 11 (.tmp 96) (.tmp 95) (.int .i64 t3151) #[.int .i64 0, .int .i64 0, .string (⟨#[]⟩ : ByteArray), .int .i64 0, .int .i64 0, .string (⟨#[]⟩ : ByteArray), .bool false, .slice none 0 0, .int .u64 t3135.1, .int .u64 0, .int .u64 0, .int .i64 t3151, .bool false, .int .i64 0] rfl KR KR KR KR KR KR KR ?_; clear ha HW a; intro a W3260 HW ha
              refine endl ?_
              refine thenN (hK3259 _ _ ?_); clear hK3259
              refine wp_seq_k (fun K3261 hK3262 => ?_)
              refine cutn (fun a W3282 => ∃ (x3280 : Int), ∃ (x3281 : Int), headgateref27_Change.j3 K t3135 t3151 x3280 x3281 = some r ∧ Has 135 [(6, .pointer (some ⟨b3109, 0, none⟩)), (13, .int .i64 t3151), (14, .pointer (some ⟨b3157, 0, none⟩))] a ∧ Wd w W3282 [(b3109, .cells #[.int .i64 0, .int .i64 0, .string (⟨#[]⟩ : ByteArray), .int .i64 0, .int .i64 0, .string (⟨#[]⟩ : ByteArray), .bool false, .slice none 0 0, .int .u64 0, .int .u64 0, .int .u64 0, .int .i64 0, .bool false, .int .i64 0] 49 (0, 0)), (b3157, .cells #[.int .i64 x3280, .int .i64 0, .string (⟨#[]⟩ : ByteArray), .int .i64 0, .int .i64 0, .string (⟨#[]⟩ : ByteArray), .bool false, .slice none 0 0, .int .u64 t3135.1, .int .u64 0, .int .u64 x3281, .int .i64 t3151, .bool false, .int .i64 0] 49 (0, 0))] []) ?_ ?_
              · skip
                refine wp_block ?_
                refine wp_seq_k (fun K3263 hK3264 => ?_)
                refine cutn (fun a W3267 => ∃ (x3266 : Bool), headgateref27_Change.j2 K a0 t3135 t3141 t3147 t3151 x3266 = some r ∧ Has 135 [(0, .int .i64 a0), (6, .pointer (some ⟨b3109, 0, none⟩)), (10, .int .u64 t3141.1), (12, .int .i64 t3147), (13, .int .i64 t3151), (14, .pointer (some ⟨b3157, 0, none⟩)), (98, .bool x3266)] a ∧ Wd w W3267 [(b3109, .cells #[.int .i64 0, .int .i64 0, .string (⟨#[]⟩ : ByteArray), .int .i64 0, .int .i64 0, .string (⟨#[]⟩ : ByteArray), .bool false, .slice none 0 0, .int .u64 0, .int .u64 0, .int .u64 0, .int .i64 0, .bool false, .int .i64 0] 49 (0, 0)), (b3157, .cells #[.int .i64 0, .int .i64 0, .string (⟨#[]⟩ : ByteArray), .int .i64 0, .int .i64 0, .string (⟨#[]⟩ : ByteArray), .bool false, .slice none 0 0, .int .u64 t3135.1, .int .u64 0, .int .u64 0, .int .i64 t3151, .bool false, .int .i64 0] 49 (0, 0))] []) ?_ ?_
                · skip
                  refine wp_region_lit ?_
                  refine stepp ha 99 (.int .i64 a0) KR KR ?_; clear ha a; intro a ha
                  refine stepp ha 100 (.bool (a0 == 17)) KR KR ?_; clear ha a; intro a ha
                  refine stepp ha 101 (.bool (a0 == 17)) KR KR ?_; clear ha a; intro a ha
                  by_cases hp3265 : a0 = 17
                  · skip
                    replace h := ite_pos' h hp3265
                    replace ha := ha.bool 101 KR (ieq_t hp3265)
                    refine stepp ha 102 (.int .i64 t3147) KR KR ?_; clear ha a; intro a ha
                    refine stepp ha 103 (.bool (t3147 == 0)) KR KR ?_; clear ha a; intro a ha
                    refine stepp ha 104 (.bool (t3147 == 0)) KR KR ?_; clear ha a; intro a ha
                    refine stepp ha 98 (.bool (t3147 == 0)) KR KR ?_; clear ha a; intro a ha
                    refine endl ?_
                    exact thenN ⟨(t3147 == 0), h, ha.sub (subs_cons KR (subs_cons KR (subs_cons KR (subs_cons KR (subs_cons KR (subs_cons KR (subs_cons KR (subs_nil _)))))))), HW.pick [1, 0] [] (by decide) (by decide) KR KR⟩
                  · skip
                    replace h := ite_neg' h hp3265
                    replace ha := ha.bool 101 KR (ieq_f hp3265)
                    refine stepo ha 102 KR ?_; clear ha a; intro a ha
                    refine stepo ha 103 KR ?_; clear ha a; intro a ha
                    refine stepp ha 104 (.bool false) KR KR ?_; clear ha a; intro a ha
                    refine stepp ha 98 (.bool false) KR KR ?_; clear ha a; intro a ha
                    refine endl ?_
                    exact thenN ⟨false, h, ha.sub (subs_cons KR (subs_cons KR (subs_cons KR (subs_cons KR (subs_cons KR (subs_cons KR (subs_cons KR (subs_nil _)))))))), HW.pick [1, 0] [] (by decide) (by decide) KR KR⟩
                · skip
                  intro a W3267 hJ
                  obtain ⟨x3266, h, ha, HW⟩ := hJ
                  replace h : headgateref27_Change.j2 K a0 t3135 t3141 t3147 t3151 x3266 = some r := h
                  unfold headgateref27_Change.j2 at h
                  refine hK3264 _ _ ?_; clear hK3264
                  by_cases hp3268 : x3266 = true
                  · skip
                    replace h := ite_pos' h hp3268
                    refine condT ha KR KR (t := x3266) (hp3268) ?_
                    refine wp_region_lit ?_
                    refine stepp ha 105 (.pointer (some ⟨b3157, 0, none⟩)) KR KR ?_; clear ha a; intro a ha
                    refine stepst ha HW 1 (b := b3157) (C := #[.int .i64 0, .int .i64 0, .string (⟨#[]⟩ : ByteArray), .int .i64 0, .int .i64 0, .string (⟨#[]⟩ : ByteArray), .bool false, .slice none 0 0, .int .u64 t3135.1, .int .u64 0, .int .u64 0, .int .i64 t3151, .bool false, .int .i64 0]) (T := 49) KR 3 0 (.tmp 105) (.const (.int .i64 9)) (.int .i64 9) #[.int .i64 9, .int .i64 0, .string (⟨#[]⟩ : ByteArray), .int .i64 0, .int .i64 0, .string (⟨#[]⟩ : ByteArray), .bool false, .slice none 0 0, .int .u64 t3135.1, .int .u64 0, .int .u64 0, .int .i64 t3151, .bool false, .int .i64 0] rfl KR KR KR KR KR KR KR ?_; clear ha HW a; intro a W3269 HW ha
                    refine endl ?_
                    refine blkN ?_
                    exact thenN ⟨9, 0, h, ha.sub (subs_cons KR (subs_cons KR (subs_cons KR (subs_nil _)))), HW.pick [0, 1] [] (by decide) (by decide) KR KR⟩
                  · skip
                    replace h := ite_neg' h hp3268
                    refine condF ha KR KR (t := x3266) (bool_f hp3268) ?_
                    refine wp_seq_k (fun K3270 hK3271 => ?_)
                    refine wp_region_lit ?_
                    refine stepp ha 107 (.int .i64 a0) KR KR ?_; clear ha a; intro a ha
                    refine stepp ha 108 (.bool (a0 == 17)) KR KR ?_; clear ha a; intro a ha
                    refine stepp ha 106 (.bool (a0 == 17)) KR KR ?_; clear ha a; intro a ha
                    refine endl ?_
                    refine thenN (hK3271 _ _ ?_); clear hK3271
                    by_cases hp3272 : a0 = 17
                    · skip
                      replace h := ite_pos' h hp3272
                      refine condT ha KR KR (t := (a0 == 17)) (ieq_t hp3272) ?_
                      refine wp_region_lit ?_
                      refine stepp ha 109 (.int .u64 t3141.1) KR KR ?_; clear ha a; intro a ha
                      refine stepp ha 110 (.pointer (some ⟨b3157, 0, none⟩)) KR KR ?_; clear ha a; intro a ha
                      refine stepst ha HW 1 (b := b3157) (C := #[.int .i64 0, .int .i64 0, .string (⟨#[]⟩ : ByteArray), .int .i64 0, .int .i64 0, .string (⟨#[]⟩ : ByteArray), .bool false, .slice none 0 0, .int .u64 t3135.1, .int .u64 0, .int .u64 0, .int .i64 t3151, .bool false, .int .i64 0]) (T := 49) KR 3 0 (.tmp 110) (.const (.int .i64 12)) (.int .i64 12) #[.int .i64 12, .int .i64 0, .string (⟨#[]⟩ : ByteArray), .int .i64 0, .int .i64 0, .string (⟨#[]⟩ : ByteArray), .bool false, .slice none 0 0, .int .u64 t3135.1, .int .u64 0, .int .u64 0, .int .i64 t3151, .bool false, .int .i64 0] rfl KR KR KR KR KR KR KR ?_; clear ha HW a; intro a W3273 HW ha
                      refine stepp ha 111 (.pointer (some ⟨b3157, 10, none⟩)) KR KR ?_; clear ha a; intro a ha
                      refine stepst ha HW 1 (b := b3157) (C := #[.int .i64 12, .int .i64 0, .string (⟨#[]⟩ : ByteArray), .int .i64 0, .int .i64 0, .string (⟨#[]⟩ : ByteArray), .bool false, .slice none 0 0, .int .u64 t3135.1, .int .u64 0, .int .u64 0, .int .i64 t3151, .bool false, .int .i64 0]) (T := 49) KR 42 10 (.tmp 111) (.tmp 109) (.int .u64 t3141.1) #[.int .i64 12, .int .i64 0, .string (⟨#[]⟩ : ByteArray), .int .i64 0, .int .i64 0, .string (⟨#[]⟩ : ByteArray), .bool false, .slice none 0 0, .int .u64 t3135.1, .int .u64 0, .int .u64 t3141.1, .int .i64 t3151, .bool false, .int .i64 0] rfl KR KR KR KR KR KR KR ?_; clear ha HW a; intro a W3274 HW ha
                      refine endl ?_
                      refine blkN ?_
                      exact thenN ⟨12, t3141.1, h, ha.sub (subs_cons KR (subs_cons KR (subs_cons KR (subs_nil _)))), HW.pick [0, 1] [] (by decide) (by decide) KR KR⟩
                    · skip
                      replace h := ite_neg' h hp3272
                      refine condF ha KR KR (t := (a0 == 17)) (ieq_f hp3272) ?_
                      refine wp_seq_k (fun K3275 hK3276 => ?_)
                      refine wp_region_lit ?_
                      refine stepp ha 113 (.int .i64 t3147) KR KR ?_; clear ha a; intro a ha
                      refine stepp ha 114 (.bool (t3147 == 0)) KR KR ?_; clear ha a; intro a ha
                      refine stepp ha 112 (.bool (t3147 == 0)) KR KR ?_; clear ha a; intro a ha
                      refine endl ?_
                      refine thenN (hK3276 _ _ ?_); clear hK3276
                      by_cases hp3277 : t3147 = 0
                      · skip
                        replace h := ite_pos' h hp3277
                        refine condT ha KR KR (t := (t3147 == 0)) (ieq_t hp3277) ?_
                        refine wp_region_lit ?_
                        refine stepp ha 115 (.pointer (some ⟨b3157, 0, none⟩)) KR KR ?_; clear ha a; intro a ha
                        refine stepst ha HW 1 (b := b3157) (C := #[.int .i64 0, .int .i64 0, .string (⟨#[]⟩ : ByteArray), .int .i64 0, .int .i64 0, .string (⟨#[]⟩ : ByteArray), .bool false, .slice none 0 0, .int .u64 t3135.1, .int .u64 0, .int .u64 0, .int .i64 t3151, .bool false, .int .i64 0]) (T := 49) KR 3 0 (.tmp 115) (.const (.int .i64 10)) (.int .i64 10) #[.int .i64 10, .int .i64 0, .string (⟨#[]⟩ : ByteArray), .int .i64 0, .int .i64 0, .string (⟨#[]⟩ : ByteArray), .bool false, .slice none 0 0, .int .u64 t3135.1, .int .u64 0, .int .u64 0, .int .i64 t3151, .bool false, .int .i64 0] rfl KR KR KR KR KR KR KR ?_; clear ha HW a; intro a W3278 HW ha
                        refine endl ?_
                        refine blkN ?_
                        exact thenN ⟨10, 0, h, ha.sub (subs_cons KR (subs_cons KR (subs_cons KR (subs_nil _)))), HW.pick [0, 1] [] (by decide) (by decide) KR KR⟩
                      · skip
                        replace h := ite_neg' h hp3277
                        refine condF ha KR KR (t := (t3147 == 0)) (ieq_f hp3277) ?_
                        refine wp_region_lit ?_
                        refine stepp ha 97 (.pointer (some ⟨b3157, 0, none⟩)) KR KR ?_; clear ha a; intro a ha
                        refine stepst ha HW 1 (b := b3157) (C := #[.int .i64 0, .int .i64 0, .string (⟨#[]⟩ : ByteArray), .int .i64 0, .int .i64 0, .string (⟨#[]⟩ : ByteArray), .bool false, .slice none 0 0, .int .u64 t3135.1, .int .u64 0, .int .u64 0, .int .i64 t3151, .bool false, .int .i64 0]) (T := 49) KR 3 0 (.tmp 97) (.const (.int .i64 11)) (.int .i64 11) #[.int .i64 11, .int .i64 0, .string (⟨#[]⟩ : ByteArray), .int .i64 0, .int .i64 0, .string (⟨#[]⟩ : ByteArray), .bool false, .slice none 0 0, .int .u64 t3135.1, .int .u64 0, .int .u64 0, .int .i64 t3151, .bool false, .int .i64 0] rfl KR KR KR KR KR KR KR ?_; clear ha HW a; intro a W3279 HW ha
                        refine endl ?_
                        refine blkN ?_
                        exact thenN ⟨11, 0, h, ha.sub (subs_cons KR (subs_cons KR (subs_cons KR (subs_nil _)))), HW.pick [0, 1] [] (by decide) (by decide) KR KR⟩
              · skip
                intro a W3282 hJ
                obtain ⟨x3280, x3281, h, ha, HW⟩ := hJ
                replace h : headgateref27_Change.j3 K t3135 t3151 x3280 x3281 = some r := h
                unfold headgateref27_Change.j3 at h
                refine hK3262 _ _ ?_; clear hK3262
                refine wp_seq_k (fun K3283 hK3284 => ?_)
                refine wp_seq_k (fun K3285 hK3286 => ?_)
                refine wp_region_lit ?_
                refine stepp ha 116 (.pointer (some ⟨b3157, 0, none⟩)) KR KR ?_; clear ha a; intro a ha
                refine stepl ha 117 (HW.ca (i := 1) (b := b3157) (C := #[.int .i64 x3280, .int .i64 0, .string (⟨#[]⟩ : ByteArray), .int .i64 0, .int .i64 0, .string (⟨#[]⟩ : ByteArray), .bool false, .slice none 0 0, .int .u64 t3135.1, .int .u64 0, .int .u64 x3281, .int .i64 t3151, .bool false, .int .i64 0]) (T := 49) (fr := (0, 0)) KR) 3 0 (.tmp 116) (.int .i64 x3280) rfl KR KR KR ?_; clear ha a; intro a ha
                refine stepp ha 118 (.bool (x3280 == 11)) KR KR ?_; clear ha a; intro a ha
                refine stepp ha 119 (.bool (x3280 == 11)) KR KR ?_; clear ha a; intro a ha
                by_cases hp3287 : x3280 = 11
                · skip
                  replace h := ite_pos' h hp3287
                  replace ha := ha.bool 119 KR (ieq_t hp3287)
                  refine stepp ha 120 (.int .i64 t3151) KR KR ?_; clear ha a; intro a ha
                  refine stepp ha 121 (.bool (t3151 != 0)) KR KR ?_; clear ha a; intro a ha
                  refine stepp ha 122 (.bool (t3151 != 0)) KR KR ?_; clear ha a; intro a ha
                  refine stepp ha 123 (.bool (t3151 != 0)) KR KR ?_; clear ha a; intro a ha
                  by_cases hp3288 : t3151 = 0
                  · skip
                    replace h := ite_pos' h hp3288
                    replace ha := ha.bool 123 KR (ineq_f hp3288)
                    refine stepp ha 124 (.pointer (some ⟨b3157, 0, none⟩)) KR KR ?_; clear ha a; intro a ha
                    refine stepl ha 125 (HW.ca (i := 1) (b := b3157) (C := #[.int .i64 x3280, .int .i64 0, .string (⟨#[]⟩ : ByteArray), .int .i64 0, .int .i64 0, .string (⟨#[]⟩ : ByteArray), .bool false, .slice none 0 0, .int .u64 t3135.1, .int .u64 0, .int .u64 x3281, .int .i64 t3151, .bool false, .int .i64 0]) (T := 49) (fr := (0, 0)) KR) 3 0 (.tmp 124) (.int .i64 x3280) rfl KR KR KR ?_; clear ha a; intro a ha
                    refine stepp ha 126 (.bool (x3280 != 11)) KR KR ?_; clear ha a; intro a ha
                    refine stepp ha 127 (.bool (x3280 != 11)) KR KR ?_; clear ha a; intro a ha
                    replace ha := ha.bool 127 KR (ineq_f hp3287)
                    refine stepo ha 128 KR ?_; clear ha a; intro a ha
                    refine stepo ha 129 KR ?_; clear ha a; intro a ha
                    refine stepo ha 130 KR ?_; clear ha a; intro a ha
                    refine stepp ha 131 (.bool false) KR KR ?_; clear ha a; intro a ha
                    refine stepp ha 132 (.bool false) KR KR ?_; clear ha a; intro a ha
                    refine endl ?_
                    refine thenN (hK3286 _ _ ?_); clear hK3286
                    refine condF ha KR KR (t := false) (rfl) ?_
                    refine wp_skip ?_
                    refine thenN (hK3284 _ _ ?_); clear hK3284
                    refine wp_seq_k (fun K3302 hK3303 => ?_)
                    refine wp_region_lit ?_
                    refine stepl ha 134 (HW.ca (i := 1) (b := b3157) (C := #[.int .i64 x3280, .int .i64 0, .string (⟨#[]⟩ : ByteArray), .int .i64 0, .int .i64 0, .string (⟨#[]⟩ : ByteArray), .bool false, .slice none 0 0, .int .u64 t3135.1, .int .u64 0, .int .u64 x3281, .int .i64 t3151, .bool false, .int .i64 0]) (T := 49) (fr := (0, 0)) KR) 49 0 (.tmp 14) (.agg #[.int .i64 x3280, .int .i64 0, .string (⟨#[]⟩ : ByteArray), .int .i64 0, .int .i64 0, .string (⟨#[]⟩ : ByteArray), .bool false, .slice none 0 0, .int .u64 t3135.1, .int .u64 0, .int .u64 x3281, .int .i64 t3151, .bool false, .int .i64 0]) rfl KR KR KR ?_; clear ha a; intro a ha
                    refine stepst ha HW 0 (b := b3109) (C := #[.int .i64 0, .int .i64 0, .string (⟨#[]⟩ : ByteArray), .int .i64 0, .int .i64 0, .string (⟨#[]⟩ : ByteArray), .bool false, .slice none 0 0, .int .u64 0, .int .u64 0, .int .u64 0, .int .i64 0, .bool false, .int .i64 0]) (T := 49) KR 49 0 (.tmp 6) (.tmp 134) (.agg #[.int .i64 x3280, .int .i64 0, .string (⟨#[]⟩ : ByteArray), .int .i64 0, .int .i64 0, .string (⟨#[]⟩ : ByteArray), .bool false, .slice none 0 0, .int .u64 t3135.1, .int .u64 0, .int .u64 x3281, .int .i64 t3151, .bool false, .int .i64 0]) #[.int .i64 x3280, .int .i64 0, .string (⟨#[]⟩ : ByteArray), .int .i64 0, .int .i64 0, .string (⟨#[]⟩ : ByteArray), .bool false, .slice none 0 0, .int .u64 t3135.1, .int .u64 0, .int .u64 x3281, .int .i64 t3151, .bool false, .int .i64 0] rfl KR KR KR KR KR KR KR ?_; clear ha HW a; intro a W3304 HW ha
                    refine stepp ha 7 (.int .i64 0) KR KR ?_; clear ha a; intro a ha
                    refine endl ?_
                    refine thenN (hK3303 _ _ ?_); clear hK3303
                    refine wp_ret ?_
                    obtain rfl := Option.some.inj h
                    replace HW := HW.nilo 128 2
                    exact finv ha _ _ rfl (.cell (ad := ⟨b3109, 0, none⟩) (v := .agg #[.int .i64 x3280, .int .i64 0, .string (⟨#[]⟩ : ByteArray), .int .i64 0, .int .i64 0, .string (⟨#[]⟩ : ByteArray), .bool false, .slice none 0 0, .int .u64 t3135.1, .int .u64 0, .int .u64 x3281, .int .i64 t3151, .bool false, .int .i64 0]) KR (run_loadVar_ca0 (HW.ca (i := 0) (b := b3109) (C := #[.int .i64 x3280, .int .i64 0, .string (⟨#[]⟩ : ByteArray), .int .i64 0, .int .i64 0, .string (⟨#[]⟩ : ByteArray), .bool false, .slice none 0 0, .int .u64 t3135.1, .int .u64 0, .int .u64 x3281, .int .i64 t3151, .bool false, .int .i64 0]) (T := 49) (fr := (0, 0)) KR) 49 0 (.agg #[.int .i64 x3280, .int .i64 0, .string (⟨#[]⟩ : ByteArray), .int .i64 0, .int .i64 0, .string (⟨#[]⟩ : ByteArray), .bool false, .slice none 0 0, .int .u64 t3135.1, .int .u64 0, .int .u64 x3281, .int .i64 t3151, .bool false, .int .i64 0]) KR) (.tmp (v := .int .i64 0) KR .nil)) (.tuple #[.agg #[.int .i64 x3280, .int .i64 0, .string (⟨#[]⟩ : ByteArray), .int .i64 0, .int .i64 0, .string (⟨#[]⟩ : ByteArray), .bool false, .slice none 0 0, .int .u64 t3135.1, .int .u64 0, .int .u64 x3281, .int .i64 t3151, .bool false, .int .i64 0], .int .i64 0]) rfl ⟨none, 0, rfl, HW.pick [] [0] (by decide) (by decide) rfl KR⟩
                  · skip
                    replace h := ite_neg' h hp3288
                    replace ha := ha.bool 123 KR (ineq_t hp3288)
                    refine stepo ha 124 KR ?_; clear ha a; intro a ha
                    refine stepo ha 125 KR ?_; clear ha a; intro a ha
                    refine stepo ha 126 KR ?_; clear ha a; intro a ha
                    refine stepo ha 127 KR ?_; clear ha a; intro a ha
                    refine stepo ha 128 KR ?_; clear ha a; intro a ha
                    refine stepo ha 129 KR ?_; clear ha a; intro a ha
                    refine stepo ha 130 KR ?_; clear ha a; intro a ha
                    refine stepo ha 131 KR ?_; clear ha a; intro a ha
                    refine stepp ha 132 (.bool true) KR KR ?_; clear ha a; intro a ha
                    refine endl ?_
                    refine thenN (hK3286 _ _ ?_); clear hK3286
                    refine condT ha KR KR (t := true) (rfl) ?_
                    refine wp_seq_k (fun K3293 hK3294 => ?_)
                    refine wp_region_lit ?_
                    refine stepp ha 133 (.agg #[.int .i64 0, .int .i64 0, .string (⟨#[]⟩ : ByteArray), .int .i64 0, .int .i64 0, .string (⟨#[]⟩ : ByteArray), .bool false, .slice none 0 0, .int .u64 0, .int .u64 0, .int .u64 0, .int .i64 0, .bool false, .int .i64 0]) KR KR ?_; clear ha a; intro a ha
                    refine stepst ha HW 0 (b := b3109) (C := #[.int .i64 0, .int .i64 0, .string (⟨#[]⟩ : ByteArray), .int .i64 0, .int .i64 0, .string (⟨#[]⟩ : ByteArray), .bool false, .slice none 0 0, .int .u64 0, .int .u64 0, .int .u64 0, .int .i64 0, .bool false, .int .i64 0]) (T := 49) KR 49 0 (.tmp 6) (.tmp 133) (.agg #[.int .i64 0, .int .i64 0, .string (⟨#[]⟩ : ByteArray), .int .i64 0, .int .i64 0, .string (⟨#[]⟩ : ByteArray), .bool false, .slice none 0 0, .int .u64 0, .int .u64 0, .int .u64 0, .int .i64 0, .bool false, .int .i64 0]) #[.int .i64 0, .int .i64 0, .string (⟨#[]⟩ : ByteArray), .int .i64 0, .int .i64 0, .string (⟨#[]⟩ : ByteArray), .bool false, .slice none 0 0, .int .u64 0, .int .u64 0, .int .u64 0, .int .i64 0, .bool false, .int .i64 0] rfl KR KR KR KR KR KR KR ?_; clear ha HW a; intro a W3295 HW ha
                    refine stepp ha 7 (.int .i64 180) KR KR ?_; clear ha a; intro a ha
                    refine endl ?_
                    refine thenN (hK3294 _ _ ?_); clear hK3294
                    refine wp_ret ?_
                    refine thenR ?_
                    obtain rfl := Option.some.inj h
                    replace HW := HW.nilo 128 2
                    exact finv ha _ _ rfl (.cell (ad := ⟨b3109, 0, none⟩) (v := .agg #[.int .i64 0, .int .i64 0, .string (⟨#[]⟩ : ByteArray), .int .i64 0, .int .i64 0, .string (⟨#[]⟩ : ByteArray), .bool false, .slice none 0 0, .int .u64 0, .int .u64 0, .int .u64 0, .int .i64 0, .bool false, .int .i64 0]) KR (run_loadVar_ca0 (HW.ca (i := 0) (b := b3109) (C := #[.int .i64 0, .int .i64 0, .string (⟨#[]⟩ : ByteArray), .int .i64 0, .int .i64 0, .string (⟨#[]⟩ : ByteArray), .bool false, .slice none 0 0, .int .u64 0, .int .u64 0, .int .u64 0, .int .i64 0, .bool false, .int .i64 0]) (T := 49) (fr := (0, 0)) KR) 49 0 (.agg #[.int .i64 0, .int .i64 0, .string (⟨#[]⟩ : ByteArray), .int .i64 0, .int .i64 0, .string (⟨#[]⟩ : ByteArray), .bool false, .slice none 0 0, .int .u64 0, .int .u64 0, .int .u64 0, .int .i64 0, .bool false, .int .i64 0]) KR) (.tmp (v := .int .i64 180) KR .nil)) (.tuple #[.agg #[.int .i64 0, .int .i64 0, .string (⟨#[]⟩ : ByteArray), .int .i64 0, .int .i64 0, .string (⟨#[]⟩ : ByteArray), .bool false, .slice none 0 0, .int .u64 0, .int .u64 0, .int .u64 0, .int .i64 0, .bool false, .int .i64 0], .int .i64 180]) rfl ⟨none, 0, rfl, HW.pick [] [0] (by decide) (by decide) rfl KR⟩
                · skip
                  replace h := ite_neg' h hp3287
                  replace ha := ha.bool 119 KR (ieq_f hp3287)
                  refine stepo ha 120 KR ?_; clear ha a; intro a ha
                  refine stepo ha 121 KR ?_; clear ha a; intro a ha
                  refine stepp ha 122 (.bool false) KR KR ?_; clear ha a; intro a ha
                  refine stepp ha 123 (.bool false) KR KR ?_; clear ha a; intro a ha
                  refine stepp ha 124 (.pointer (some ⟨b3157, 0, none⟩)) KR KR ?_; clear ha a; intro a ha
                  refine stepl ha 125 (HW.ca (i := 1) (b := b3157) (C := #[.int .i64 x3280, .int .i64 0, .string (⟨#[]⟩ : ByteArray), .int .i64 0, .int .i64 0, .string (⟨#[]⟩ : ByteArray), .bool false, .slice none 0 0, .int .u64 t3135.1, .int .u64 0, .int .u64 x3281, .int .i64 t3151, .bool false, .int .i64 0]) (T := 49) (fr := (0, 0)) KR) 3 0 (.tmp 124) (.int .i64 x3280) rfl KR KR KR ?_; clear ha a; intro a ha
                  refine stepp ha 126 (.bool (x3280 != 11)) KR KR ?_; clear ha a; intro a ha
                  refine stepp ha 127 (.bool (x3280 != 11)) KR KR ?_; clear ha a; intro a ha
                  replace ha := ha.bool 127 KR (ineq_t hp3287)
                  refine stepp ha 128 (.int .i64 t3151) KR KR ?_; clear ha a; intro a ha
                  obtain ⟨t3289, ht3290, h_⟩ := bind_some' h; clear h; have h := h_; clear h_
                  refine stepc ha 129 KR KR (headgateref10_Type.calls t3151 t3289 _ ht3290) ?_; clear ha a; rintro e W3291 ⟨rfl, HX3292⟩
                  refine ⟨_, rfl, ?_⟩; intro a ha; replace HW := HW.callw HX3292; clear HX3292
                  refine stepp ha 130 (.bool (!t3289)) KR KR ?_; clear ha a; intro a ha
                  refine stepp ha 131 (.bool (!t3289)) KR KR ?_; clear ha a; intro a ha
                  refine stepp ha 132 (.bool (!t3289)) KR KR ?_; clear ha a; intro a ha
                  refine endl ?_
                  refine thenN (hK3286 _ _ ?_); clear hK3286
                  by_cases hp3297 : t3289 = true
                  · skip
                    replace h := ite_pos' h hp3297
                    refine condF ha KR KR (t := (!t3289)) (not_f (hp3297)) ?_
                    refine wp_skip ?_
                    refine thenN (hK3284 _ _ ?_); clear hK3284
                    refine wp_seq_k (fun K3306 hK3307 => ?_)
                    refine wp_region_lit ?_
                    refine stepl ha 134 (HW.ca (i := 1) (b := b3157) (C := #[.int .i64 x3280, .int .i64 0, .string (⟨#[]⟩ : ByteArray), .int .i64 0, .int .i64 0, .string (⟨#[]⟩ : ByteArray), .bool false, .slice none 0 0, .int .u64 t3135.1, .int .u64 0, .int .u64 x3281, .int .i64 t3151, .bool false, .int .i64 0]) (T := 49) (fr := (0, 0)) KR) 49 0 (.tmp 14) (.agg #[.int .i64 x3280, .int .i64 0, .string (⟨#[]⟩ : ByteArray), .int .i64 0, .int .i64 0, .string (⟨#[]⟩ : ByteArray), .bool false, .slice none 0 0, .int .u64 t3135.1, .int .u64 0, .int .u64 x3281, .int .i64 t3151, .bool false, .int .i64 0]) rfl KR KR KR ?_; clear ha a; intro a ha
                    refine stepst ha HW 0 (b := b3109) (C := #[.int .i64 0, .int .i64 0, .string (⟨#[]⟩ : ByteArray), .int .i64 0, .int .i64 0, .string (⟨#[]⟩ : ByteArray), .bool false, .slice none 0 0, .int .u64 0, .int .u64 0, .int .u64 0, .int .i64 0, .bool false, .int .i64 0]) (T := 49) KR 49 0 (.tmp 6) (.tmp 134) (.agg #[.int .i64 x3280, .int .i64 0, .string (⟨#[]⟩ : ByteArray), .int .i64 0, .int .i64 0, .string (⟨#[]⟩ : ByteArray), .bool false, .slice none 0 0, .int .u64 t3135.1, .int .u64 0, .int .u64 x3281, .int .i64 t3151, .bool false, .int .i64 0]) #[.int .i64 x3280, .int .i64 0, .string (⟨#[]⟩ : ByteArray), .int .i64 0, .int .i64 0, .string (⟨#[]⟩ : ByteArray), .bool false, .slice none 0 0, .int .u64 t3135.1, .int .u64 0, .int .u64 x3281, .int .i64 t3151, .bool false, .int .i64 0] rfl KR KR KR KR KR KR KR ?_; clear ha HW a; intro a W3308 HW ha
                    refine stepp ha 7 (.int .i64 0) KR KR ?_; clear ha a; intro a ha
                    refine endl ?_
                    refine thenN (hK3307 _ _ ?_); clear hK3307
                    refine wp_ret ?_
                    obtain rfl := Option.some.inj h
                    replace HW := HW.nilo 128 2
                    exact finv ha _ _ rfl (.cell (ad := ⟨b3109, 0, none⟩) (v := .agg #[.int .i64 x3280, .int .i64 0, .string (⟨#[]⟩ : ByteArray), .int .i64 0, .int .i64 0, .string (⟨#[]⟩ : ByteArray), .bool false, .slice none 0 0, .int .u64 t3135.1, .int .u64 0, .int .u64 x3281, .int .i64 t3151, .bool false, .int .i64 0]) KR (run_loadVar_ca0 (HW.ca (i := 0) (b := b3109) (C := #[.int .i64 x3280, .int .i64 0, .string (⟨#[]⟩ : ByteArray), .int .i64 0, .int .i64 0, .string (⟨#[]⟩ : ByteArray), .bool false, .slice none 0 0, .int .u64 t3135.1, .int .u64 0, .int .u64 x3281, .int .i64 t3151, .bool false, .int .i64 0]) (T := 49) (fr := (0, 0)) KR) 49 0 (.agg #[.int .i64 x3280, .int .i64 0, .string (⟨#[]⟩ : ByteArray), .int .i64 0, .int .i64 0, .string (⟨#[]⟩ : ByteArray), .bool false, .slice none 0 0, .int .u64 t3135.1, .int .u64 0, .int .u64 x3281, .int .i64 t3151, .bool false, .int .i64 0]) KR) (.tmp (v := .int .i64 0) KR .nil)) (.tuple #[.agg #[.int .i64 x3280, .int .i64 0, .string (⟨#[]⟩ : ByteArray), .int .i64 0, .int .i64 0, .string (⟨#[]⟩ : ByteArray), .bool false, .slice none 0 0, .int .u64 t3135.1, .int .u64 0, .int .u64 x3281, .int .i64 t3151, .bool false, .int .i64 0], .int .i64 0]) rfl ⟨none, 0, rfl, HW.pick [] [0] (by decide) (by decide) rfl KR⟩
                  · skip
                    replace h := ite_neg' h hp3297
                    refine condT ha KR KR (t := (!t3289)) (not_t (bool_f hp3297)) ?_
                    refine wp_seq_k (fun K3298 hK3299 => ?_)
                    refine wp_region_lit ?_
                    refine stepp ha 133 (.agg #[.int .i64 0, .int .i64 0, .string (⟨#[]⟩ : ByteArray), .int .i64 0, .int .i64 0, .string (⟨#[]⟩ : ByteArray), .bool false, .slice none 0 0, .int .u64 0, .int .u64 0, .int .u64 0, .int .i64 0, .bool false, .int .i64 0]) KR KR ?_; clear ha a; intro a ha
                    refine stepst ha HW 0 (b := b3109) (C := #[.int .i64 0, .int .i64 0, .string (⟨#[]⟩ : ByteArray), .int .i64 0, .int .i64 0, .string (⟨#[]⟩ : ByteArray), .bool false, .slice none 0 0, .int .u64 0, .int .u64 0, .int .u64 0, .int .i64 0, .bool false, .int .i64 0]) (T := 49) KR 49 0 (.tmp 6) (.tmp 133) (.agg #[.int .i64 0, .int .i64 0, .string (⟨#[]⟩ : ByteArray), .int .i64 0, .int .i64 0, .string (⟨#[]⟩ : ByteArray), .bool false, .slice none 0 0, .int .u64 0, .int .u64 0, .int .u64 0, .int .i64 0, .bool false, .int .i64 0]) #[.int .i64 0, .int .i64 0, .string (⟨#[]⟩ : ByteArray), .int .i64 0, .int .i64 0, .string (⟨#[]⟩ : ByteArray), .bool false, .slice none 0 0, .int .u64 0, .int .u64 0, .int .u64 0, .int .i64 0, .bool false, .int .i64 0] rfl KR KR KR KR KR KR KR ?_; clear ha HW a; intro a W3300 HW ha
                    refine stepp ha 7 (.int .i64 180) KR KR ?_; clear ha a; intro a ha
                    refine endl ?_
                    refine thenN (hK3299 _ _ ?_); clear hK3299
                    refine wp_ret ?_
                    refine thenR ?_
                    obtain rfl := Option.some.inj h
                    replace HW := HW.nilo 128 2
                    exact finv ha _ _ rfl (.cell (ad := ⟨b3109, 0, none⟩) (v := .agg #[.int .i64 0, .int .i64 0, .string (⟨#[]⟩ : ByteArray), .int .i64 0, .int .i64 0, .string (⟨#[]⟩ : ByteArray), .bool false, .slice none 0 0, .int .u64 0, .int .u64 0, .int .u64 0, .int .i64 0, .bool false, .int .i64 0]) KR (run_loadVar_ca0 (HW.ca (i := 0) (b := b3109) (C := #[.int .i64 0, .int .i64 0, .string (⟨#[]⟩ : ByteArray), .int .i64 0, .int .i64 0, .string (⟨#[]⟩ : ByteArray), .bool false, .slice none 0 0, .int .u64 0, .int .u64 0, .int .u64 0, .int .i64 0, .bool false, .int .i64 0]) (T := 49) (fr := (0, 0)) KR) 49 0 (.agg #[.int .i64 0, .int .i64 0, .string (⟨#[]⟩ : ByteArray), .int .i64 0, .int .i64 0, .string (⟨#[]⟩ : ByteArray), .bool false, .slice none 0 0, .int .u64 0, .int .u64 0, .int .u64 0, .int .i64 0, .bool false, .int .i64 0]) KR) (.tmp (v := .int .i64 180) KR .nil)) (.tuple #[.agg #[.int .i64 0, .int .i64 0, .string (⟨#[]⟩ : ByteArray), .int .i64 0, .int .i64 0, .string (⟨#[]⟩ : ByteArray), .bool false, .slice none 0 0, .int .u64 0, .int .u64 0, .int .u64 0, .int .i64 0, .bool false, .int .i64 0], .int .i64 180]) rfl ⟨none, 0, rfl, HW.pick [] [0] (by decide) (by decide) rfl KR⟩
          · skip
            replace h := ite_neg' h hp3244
            replace ha := ha.bool 90 KR (ineq_t hp3244)
            refine stepo ha 91 KR ?_; clear ha a; intro a ha
            refine stepo ha 92 KR ?_; clear ha a; intro a ha
            refine stepp ha 93 (.bool true) KR KR ?_; clear ha a; intro a ha
            refine endl ?_
            refine thenN (hK3234 _ _ ?_); clear hK3234
            refine condT ha KR KR (t := true) (rfl) ?_
            refine wp_seq_k (fun K3250 hK3251 => ?_)
            refine wp_region_lit ?_
            refine stepp ha 94 (.agg #[.int .i64 0, .int .i64 0, .string (⟨#[]⟩ : ByteArray), .int .i64 0, .int .i64 0, .string (⟨#[]⟩ : ByteArray), .bool false, .slice none 0 0, .int .u64 0, .int .u64 0, .int .u64 0, .int .i64 0, .bool false, .int .i64 0]) KR KR ?_; clear ha a; intro a ha
            refine stepst ha HW 1 (b := b3109) (C := #[.int .i64 0, .int .i64 0, .string (⟨#[]⟩ : ByteArray), .int .i64 0, .int .i64 0, .string (⟨#[]⟩ : ByteArray), .bool false, .slice none 0 0, .int .u64 0, .int .u64 0, .int .u64 0, .int .i64 0, .bool false, .int .i64 0]) (T := 49) KR 49 0 (.tmp 6) (.tmp 94) (.agg #[.int .i64 0, .int .i64 0, .string (⟨#[]⟩ : ByteArray), .int .i64 0, .int .i64 0, .string (⟨#[]⟩ : ByteArray), .bool false, .slice none 0 0, .int .u64 0, .int .u64 0, .int .u64 0, .int .i64 0, .bool false, .int .i64 0]) #[.int .i64 0, .int .i64 0, .string (⟨#[]⟩ : ByteArray), .int .i64 0, .int .i64 0, .string (⟨#[]⟩ : ByteArray), .bool false, .slice none 0 0, .int .u64 0, .int .u64 0, .int .u64 0, .int .i64 0, .bool false, .int .i64 0] rfl KR KR KR KR KR KR KR ?_; clear ha HW a; intro a W3252 HW ha
            refine stepp ha 7 (.int .i64 180) KR KR ?_; clear ha a; intro a ha
            refine endl ?_
            refine thenN (hK3251 _ _ ?_); clear hK3251
            refine wp_ret ?_
            refine thenR ?_
            obtain rfl := Option.some.inj h
            replace HW := HW.nilo 128 2
            exact finv ha _ _ rfl (.cell (ad := ⟨b3109, 0, none⟩) (v := .agg #[.int .i64 0, .int .i64 0, .string (⟨#[]⟩ : ByteArray), .int .i64 0, .int .i64 0, .string (⟨#[]⟩ : ByteArray), .bool false, .slice none 0 0, .int .u64 0, .int .u64 0, .int .u64 0, .int .i64 0, .bool false, .int .i64 0]) KR (run_loadVar_ca0 (HW.ca (i := 1) (b := b3109) (C := #[.int .i64 0, .int .i64 0, .string (⟨#[]⟩ : ByteArray), .int .i64 0, .int .i64 0, .string (⟨#[]⟩ : ByteArray), .bool false, .slice none 0 0, .int .u64 0, .int .u64 0, .int .u64 0, .int .i64 0, .bool false, .int .i64 0]) (T := 49) (fr := (0, 0)) KR) 49 0 (.agg #[.int .i64 0, .int .i64 0, .string (⟨#[]⟩ : ByteArray), .int .i64 0, .int .i64 0, .string (⟨#[]⟩ : ByteArray), .bool false, .slice none 0 0, .int .u64 0, .int .u64 0, .int .u64 0, .int .i64 0, .bool false, .int .i64 0]) KR) (.tmp (v := .int .i64 180) KR .nil)) (.tuple #[.agg #[.int .i64 0, .int .i64 0, .string (⟨#[]⟩ : ByteArray), .int .i64 0, .int .i64 0, .string (⟨#[]⟩ : ByteArray), .bool false, .slice none 0 0, .int .u64 0, .int .u64 0, .int .u64 0, .int .i64 0, .bool false, .int .i64 0], .int .i64 180]) rfl ⟨none, 0, rfl, HW.pick [] [0] (by decide) (by decide) rfl KR⟩
        · skip
          replace h := ite_neg' h hp3239
          replace ha := ha.bool 85 KR (ineq_t hp3239)
          refine stepo ha 86 KR ?_; clear ha a; intro a ha
          refine stepo ha 87 KR ?_; clear ha a; intro a ha
          refine stepo ha 88 KR ?_; clear ha a; intro a ha
          refine stepp ha 89 (.bool true) KR KR ?_; clear ha a; intro a ha
          refine stepp ha 90 (.bool true) KR KR ?_; clear ha a; intro a ha
          refine stepo ha 91 KR ?_; clear ha a; intro a ha
          refine stepo ha 92 KR ?_; clear ha a; intro a ha
          refine stepp ha 93 (.bool true) KR KR ?_; clear ha a; intro a ha
          refine endl ?_
          refine thenN (hK3234 _ _ ?_); clear hK3234
          refine condT ha KR KR (t := true) (rfl) ?_
          refine wp_seq_k (fun K3254 hK3255 => ?_)
          refine wp_region_lit ?_
          refine stepp ha 94 (.agg #[.int .i64 0, .int .i64 0, .string (⟨#[]⟩ : ByteArray), .int .i64 0, .int .i64 0, .string (⟨#[]⟩ : ByteArray), .bool false, .slice none 0 0, .int .u64 0, .int .u64 0, .int .u64 0, .int .i64 0, .bool false, .int .i64 0]) KR KR ?_; clear ha a; intro a ha
          refine stepst ha HW 1 (b := b3109) (C := #[.int .i64 0, .int .i64 0, .string (⟨#[]⟩ : ByteArray), .int .i64 0, .int .i64 0, .string (⟨#[]⟩ : ByteArray), .bool false, .slice none 0 0, .int .u64 0, .int .u64 0, .int .u64 0, .int .i64 0, .bool false, .int .i64 0]) (T := 49) KR 49 0 (.tmp 6) (.tmp 94) (.agg #[.int .i64 0, .int .i64 0, .string (⟨#[]⟩ : ByteArray), .int .i64 0, .int .i64 0, .string (⟨#[]⟩ : ByteArray), .bool false, .slice none 0 0, .int .u64 0, .int .u64 0, .int .u64 0, .int .i64 0, .bool false, .int .i64 0]) #[.int .i64 0, .int .i64 0, .string (⟨#[]⟩ : ByteArray), .int .i64 0, .int .i64 0, .string (⟨#[]⟩ : ByteArray), .bool false, .slice none 0 0, .int .u64 0, .int .u64 0, .int .u64 0, .int .i64 0, .bool false, .int .i64 0] rfl KR KR KR KR KR KR KR ?_; clear ha HW a; intro a W3256 HW ha
          refine stepp ha 7 (.int .i64 180) KR KR ?_; clear ha a; intro a ha
          refine endl ?_
          refine thenN (hK3255 _ _ ?_); clear hK3255
          refine wp_ret ?_
          refine thenR ?_
          obtain rfl := Option.some.inj h
          replace HW := HW.nilo 128 2
          exact finv ha _ _ rfl (.cell (ad := ⟨b3109, 0, none⟩) (v := .agg #[.int .i64 0, .int .i64 0, .string (⟨#[]⟩ : ByteArray), .int .i64 0, .int .i64 0, .string (⟨#[]⟩ : ByteArray), .bool false, .slice none 0 0, .int .u64 0, .int .u64 0, .int .u64 0, .int .i64 0, .bool false, .int .i64 0]) KR (run_loadVar_ca0 (HW.ca (i := 1) (b := b3109) (C := #[.int .i64 0, .int .i64 0, .string (⟨#[]⟩ : ByteArray), .int .i64 0, .int .i64 0, .string (⟨#[]⟩ : ByteArray), .bool false, .slice none 0 0, .int .u64 0, .int .u64 0, .int .u64 0, .int .i64 0, .bool false, .int .i64 0]) (T := 49) (fr := (0, 0)) KR) 49 0 (.agg #[.int .i64 0, .int .i64 0, .string (⟨#[]⟩ : ByteArray), .int .i64 0, .int .i64 0, .string (⟨#[]⟩ : ByteArray), .bool false, .slice none 0 0, .int .u64 0, .int .u64 0, .int .u64 0, .int .i64 0, .bool false, .int .i64 0]) KR) (.tmp (v := .int .i64 180) KR .nil)) (.tuple #[.agg #[.int .i64 0, .int .i64 0, .string (⟨#[]⟩ : ByteArray), .int .i64 0, .int .i64 0, .string (⟨#[]⟩ : ByteArray), .bool false, .slice none 0 0, .int .u64 0, .int .u64 0, .int .u64 0, .int .i64 0, .bool false, .int .i64 0], .int .i64 180]) rfl ⟨none, 0, rfl, HW.pick [] [0] (by decide) (by decide) rfl KR⟩
    · skip
      replace h := ite_neg' h hp3128
      refine condT ha KR KR (t := ((a2.size : Int) != t3120)) (ineq_t hp3128) ?_
      refine wp_seq_k (fun K3129 hK3130 => ?_)
      refine wp_region_lit ?_
      refine stepp ha 26 (.agg #[.int .i64 0, .int .i64 0, .string (⟨#[]⟩ : ByteArray), .int .i64 0, .int .i64 0, .string (⟨#[]⟩ : ByteArray), .bool false, .slice none 0 0, .int .u64 0, .int .u64 0, .int .u64 0, .int .i64 0, .bool false, .int .i64 0]) KR KR ?_; clear ha a; intro a ha
      refine stepst ha HW 0 (b := b3109) (C := #[.int .i64 0, .int .i64 0, .string (⟨#[]⟩ : ByteArray), .int .i64 0, .int .i64 0, .string (⟨#[]⟩ : ByteArray), .bool false, .slice none 0 0, .int .u64 0, .int .u64 0, .int .u64 0, .int .i64 0, .bool false, .int .i64 0]) (T := 49) KR 49 0 (.tmp 6) (.tmp 26) (.agg #[.int .i64 0, .int .i64 0, .string (⟨#[]⟩ : ByteArray), .int .i64 0, .int .i64 0, .string (⟨#[]⟩ : ByteArray), .bool false, .slice none 0 0, .int .u64 0, .int .u64 0, .int .u64 0, .int .i64 0, .bool false, .int .i64 0]) #[.int .i64 0, .int .i64 0, .string (⟨#[]⟩ : ByteArray), .int .i64 0, .int .i64 0, .string (⟨#[]⟩ : ByteArray), .bool false, .slice none 0 0, .int .u64 0, .int .u64 0, .int .u64 0, .int .i64 0, .bool false, .int .i64 0] rfl KR KR KR KR KR KR KR ?_; clear ha HW a; intro a W3131 HW ha
      refine stepp ha 7 (.int .i64 180) KR KR ?_; clear ha a; intro a ha
      refine endl ?_
      refine thenN (hK3130 _ _ ?_); clear hK3130
      refine wp_ret ?_
      refine thenR ?_
      obtain rfl := Option.some.inj h
      replace HW := HW.nilo 128 2
      exact finv ha _ _ rfl (.cell (ad := ⟨b3109, 0, none⟩) (v := .agg #[.int .i64 0, .int .i64 0, .string (⟨#[]⟩ : ByteArray), .int .i64 0, .int .i64 0, .string (⟨#[]⟩ : ByteArray), .bool false, .slice none 0 0, .int .u64 0, .int .u64 0, .int .u64 0, .int .i64 0, .bool false, .int .i64 0]) KR (run_loadVar_ca0 (HW.ca (i := 0) (b := b3109) (C := #[.int .i64 0, .int .i64 0, .string (⟨#[]⟩ : ByteArray), .int .i64 0, .int .i64 0, .string (⟨#[]⟩ : ByteArray), .bool false, .slice none 0 0, .int .u64 0, .int .u64 0, .int .u64 0, .int .i64 0, .bool false, .int .i64 0]) (T := 49) (fr := (0, 0)) KR) 49 0 (.agg #[.int .i64 0, .int .i64 0, .string (⟨#[]⟩ : ByteArray), .int .i64 0, .int .i64 0, .string (⟨#[]⟩ : ByteArray), .bool false, .slice none 0 0, .int .u64 0, .int .u64 0, .int .u64 0, .int .i64 0, .bool false, .int .i64 0]) KR) (.tmp (v := .int .i64 180) KR .nil)) (.tuple #[.agg #[.int .i64 0, .int .i64 0, .string (⟨#[]⟩ : ByteArray), .int .i64 0, .int .i64 0, .string (⟨#[]⟩ : ByteArray), .bool false, .slice none 0 0, .int .u64 0, .int .u64 0, .int .u64 0, .int .i64 0, .bool false, .int .i64 0], .int .i64 180]) rfl ⟨none, 0, rfl, HW.pick [] [0] (by decide) (by decide) rfl KR⟩
end Go.Proofs.YthjjbkgifelooaaDoor.F
