/- headgate/headgatelaw27.NresvBack: plain functions, and that the calls come to what they say. No condition. -/
import Derived.Test.YthjjbkgifelooaaDoorFT
import Derived.Test.YthjjbkgifelooaaDoorF23
import Derived.Test.YthjjbkgifelooaaDoorF26
import Derived.Test.YthjjbkgifelooaaDoorF28
import Derived.Test.YthjjbkgifelooaaDoorF48
import Derived.Test.YthjjbkgifelooaaDoorF77
namespace Go.Proofs.YthjjbkgifelooaaDoor.F
open Go Go.RowKit Go.Proofs.YthjjbkgifelooaaDoor.X
set_option linter.unusedVariables false
set_option linter.unusedSimpArgs false
/-! ### headgate/headgatelaw27.NresvBack: function 6 -/
def headgatelaw27_NresvBack.j1 (K : Nat) (a0 : T_headgatelaw27_Word) : Option Bool :=
  (nresv_Change.f K a0.f0 a0.f1 a0.f2).bind fun t4104 => (if t4104.2 = 0 then ((nresv_Words.f K (⟨t4104.1.f0, t4104.1.f1, t4104.1.f2, t4104.1.f3, t4104.1.f4, t4104.1.f5, t4104.1.f6, t4104.1.f7, t4104.1.f8, t4104.1.f9, t4104.1.f10, t4104.1.f11, t4104.1.f12, t4104.1.f13⟩ : T_api_Cmd)).bind fun t4133 => ((nresv_Change.f K t4133.1 t4133.2.1 t4133.2.2.1).bind fun t4139 => (if t4133.2.2.2 = 0 then (if t4139.2 = 0 then (if t4133.1 = a0.f0 then ((headgatekeep_Cmds.f K (⟨t4139.1.f0, t4139.1.f1, t4139.1.f2, t4139.1.f3, t4139.1.f4, t4139.1.f5, t4139.1.f6, t4139.1.f7, t4139.1.f8, t4139.1.f9, t4139.1.f10, t4139.1.f11, t4139.1.f12, t4139.1.f13⟩ : T_api_Cmd) (⟨t4104.1.f0, t4104.1.f1, t4104.1.f2, t4104.1.f3, t4104.1.f4, t4104.1.f5, t4104.1.f6, t4104.1.f7, t4104.1.f8, t4104.1.f9, t4104.1.f10, t4104.1.f11, t4104.1.f12, t4104.1.f13⟩ : T_api_Cmd)).bind fun t4154 => (if t4154 = true then ((headgatelaw27_wakes.f K).bind fun t4159 => (some t4159)) else (some false))) else (some false)) else (some false)) else (some false)))) else (if t4104.2 = 180 then ((headgatekeep_Cmds.f K (⟨t4104.1.f0, t4104.1.f1, t4104.1.f2, t4104.1.f3, t4104.1.f4, t4104.1.f5, t4104.1.f6, t4104.1.f7, t4104.1.f8, t4104.1.f9, t4104.1.f10, t4104.1.f11, t4104.1.f12, t4104.1.f13⟩ : T_api_Cmd) (⟨0, 0, (⟨#[]⟩ : ByteArray), 0, 0, (⟨#[]⟩ : ByteArray), false, ([] : List T_api_Range), 0, 0, 0, 0, false, 0⟩ : T_api_Cmd)).bind fun t4122 => (if t4122 = true then ((headgatelaw27_wakes.f K).bind fun t4127 => (some t4127)) else (some false))) else (some false)))
def headgatelaw27_NresvBack.j0 (K : Nat) (a0 : T_headgatelaw27_Word) (a1 : T_api_Cmd) (x4050 : Bool) : Option Bool :=
  if x4050 = true then ((headgatelaw27_wakes.f K).bind fun t4055 => (some t4055)) else ((nresv_Words.f K a1).bind fun t4061 => (if t4061.2.2.2 = 0 then ((nresv_Change.f K t4061.1 t4061.2.1 t4061.2.2.1).bind fun t4072 => (if t4072.2 = 0 then ((headgatekeep_Cmds.f K (⟨t4072.1.f0, t4072.1.f1, t4072.1.f2, t4072.1.f3, t4072.1.f4, t4072.1.f5, t4072.1.f6, t4072.1.f7, t4072.1.f8, t4072.1.f9, t4072.1.f10, t4072.1.f11, t4072.1.f12, t4072.1.f13⟩ : T_api_Cmd) a1).bind fun t4085 => (if t4085 = true then ((nresv_Size.f t4061.1).bind fun t4090 => (if (t4061.2.2.1.size : Int) = t4090 then (headgatelaw27_NresvBack.j1 K a0) else (some false))) else (some false))) else (some false))) else (headgatelaw27_NresvBack.j1 K a0)))
def headgatelaw27_NresvBack.f (K : Nat) (a0 : T_headgatelaw27_Word) (a1 : T_api_Cmd) : Option Bool :=
  if (a0.f2.size : Int) > 1000 then (headgatelaw27_NresvBack.j0 K a0 a1 true) else ((headgatelaw27_large.f a1).bind fun t4046 => (headgatelaw27_NresvBack.j0 K a0 a1 t4046))
set_option maxRecDepth 100000 in
set_option maxHeartbeats 4000000 in
theorem headgatelaw27_NresvBack.calls (K : Nat) (a0 : T_headgatelaw27_Word) (a1 : T_api_Cmd) (A1_0 : Option Addr) (c1_0 : Nat) (r : Bool) (w : World) (hG0 : CA w 0 0 (encs (encI .i64) G_access_lets).toArray) (hG1 : CA w 1 0 (encs T_nresv_action.enc G_nresv_actions).toArray) (hG2 : CA w 2 0 (encs (encI .i64) G_nresv_aptpls).toArray) (hr1_0 : Rd 2 w (.slice A1_0 a1.f7.length c1_0) a1.f7.length (encs T_api_Range.enc a1.f7)) (h : headgatelaw27_NresvBack.f K a0 a1 = some r) :
    Calls Tryd.prog 6 #[.agg #[.int .i64 a0.f0, .int .u32 a0.f1, .string a0.f2], .agg #[.int .i64 a1.f0, .int .i64 a1.f1, .string a1.f2, .int .i64 a1.f3, .int .i64 a1.f4, .string a1.f5, .bool a1.f6, .slice A1_0 a1.f7.length c1_0, .int .u64 a1.f8, .int .u64 a1.f9, .int .u64 a1.f10, .int .i64 a1.f11, .bool a1.f12, .int .i64 a1.f13]] w (fun e W' => e = .returned (.bool r) ∧ Wd w W' [] [] ) := by
  refine sxstart (n := 112) (l := [(0, .agg #[.int .i64 a0.f0, .int .u32 a0.f1, .string a0.f2]), (1, .agg #[.int .i64 a1.f0, .int .i64 a1.f1, .string a1.f2, .int .i64 a1.f3, .int .i64 a1.f4, .string a1.f5, .bool a1.f6, .slice A1_0 a1.f7.length c1_0, .int .u64 a1.f8, .int .u64 a1.f9, .int .u64 a1.f10, .int .i64 a1.f11, .bool a1.f12, .int .i64 a1.f13])]) Tryd.func6 rfl rfl (Nat.le_of_ble_eq_true KR) (subsA_cons rfl (subsA_cons rfl (subsA_nil _))) ?_
  intro a ha
  have HW := Wd.refl w
  unfold headgatelaw27_NresvBack.f at h
  refine wp_seq_k (fun K4035 hK4036 => ?_)
  refine wp_region_lit ?_
  refine stepnew ha HW 2 #[.int .i64 a0.f0, .int .u32 a0.f1, .string a0.f2] 46 KR KR ?_; clear ha HW a; intro b4037 a W4038 HW ha
  refine stepnew ha HW 3 #[.int .i64 a1.f0, .int .i64 a1.f1, .string a1.f2, .int .i64 a1.f3, .int .i64 a1.f4, .string a1.f5, .bool a1.f6, .slice A1_0 a1.f7.length c1_0, .int .u64 a1.f8, .int .u64 a1.f9, .int .u64 a1.f10, .int .i64 a1.f11, .bool a1.f12, .int .i64 a1.f13] 49 KR KR ?_; clear ha HW a; intro b4039 a W4040 HW ha
  refine stepp ha 4 (.bool false) KR KR ?_; clear ha a; intro a ha
  refine endl ?_
  refine thenN (hK4036 _ _ ?_); clear hK4036
  refine wp_seq_k (fun K4041 hK4042 => ?_)
  refine wp_seq_k (fun K4043 hK4044 => ?_)
  refine cutn (fun a W4051 => ∃ (x4050 : Bool), headgatelaw27_NresvBack.j0 K a0 a1 x4050 = some r ∧ Has 112 [(2, .pointer (some ⟨b4037, 0, none⟩)), (3, .pointer (some ⟨b4039, 0, none⟩)), (23, .bool x4050)] a ∧ Wd w W4051 [(b4037, .cells #[.int .i64 a0.f0, .int .u32 a0.f1, .string a0.f2] 46 (0, 0)), (b4039, .cells #[.int .i64 a1.f0, .int .i64 a1.f1, .string a1.f2, .int .i64 a1.f3, .int .i64 a1.f4, .string a1.f5, .bool a1.f6, .slice A1_0 a1.f7.length c1_0, .int .u64 a1.f8, .int .u64 a1.f9, .int .u64 a1.f10, .int .i64 a1.f11, .bool a1.f12, .int .i64 a1.f13] 49 (0, 0))] []) ?_ ?_
  · skip
    refine wp_region_lit ?_
    refine stepp ha 16 (.pointer (some ⟨b4037, 2, none⟩)) KR KR ?_; clear ha a; intro a ha
    refine stepl ha 17 (HW.ca (i := 1) (b := b4037) (C := #[.int .i64 a0.f0, .int .u32 a0.f1, .string a0.f2]) (T := 46) (fr := (0, 0)) KR) 9 2 (.tmp 16) (.string a0.f2) rfl KR KR KR ?_; clear ha a; intro a ha
    refine stepp ha 18 (.int .i64 (a0.f2.size : Int)) KR KR ?_; clear ha a; intro a ha
    refine stepp ha 19 (.bool (decide ((a0.f2.size : Int) > 1000))) KR KR ?_; clear ha a; intro a ha
    refine stepp ha 20 (.bool (decide ((a0.f2.size : Int) > 1000))) KR KR ?_; clear ha a; intro a ha
    by_cases hp4045 : (a0.f2.size : Int) > 1000
    · skip
      replace h := ite_pos' h hp4045
      replace ha := ha.bool 20 KR (decide_eq_true hp4045)
      refine stepo ha 21 KR ?_; clear ha a; intro a ha
      refine stepo ha 22 KR ?_; clear ha a; intro a ha
      refine stepp ha 23 (.bool true) KR KR ?_; clear ha a; intro a ha
      refine endl ?_
      exact thenN ⟨true, h, ha.sub (subs_cons KR (subs_cons KR (subs_cons KR (subs_nil _)))), HW.pick [1, 0] [] (by decide) (by decide) KR KR⟩
    · skip
      replace h := ite_neg' h hp4045
      replace ha := ha.bool 20 KR (decide_eq_false hp4045)
      refine stepl ha 21 (HW.ca (i := 0) (b := b4039) (C := #[.int .i64 a1.f0, .int .i64 a1.f1, .string a1.f2, .int .i64 a1.f3, .int .i64 a1.f4, .string a1.f5, .bool a1.f6, .slice A1_0 a1.f7.length c1_0, .int .u64 a1.f8, .int .u64 a1.f9, .int .u64 a1.f10, .int .i64 a1.f11, .bool a1.f12, .int .i64 a1.f13]) (T := 49) (fr := (0, 0)) KR) 49 0 (.tmp 3) (.agg #[.int .i64 a1.f0, .int .i64 a1.f1, .string a1.f2, .int .i64 a1.f3, .int .i64 a1.f4, .string a1.f5, .bool a1.f6, .slice A1_0 a1.f7.length c1_0, .int .u64 a1.f8, .int .u64 a1.f9, .int .u64 a1.f10, .int .i64 a1.f11, .bool a1.f12, .int .i64 a1.f13]) rfl KR KR KR ?_; clear ha a; intro a ha
      obtain ⟨t4046, ht4047, h_⟩ := bind_some' h; clear h; have h := h_; clear h_
      refine stepc ha 22 KR KR (headgatelaw27_large.calls a1 A1_0 c1_0 t4046 _ ((HW.rd0 hr1_0)) ht4047) ?_; clear ha a; rintro e W4048 ⟨rfl, HX4049⟩
      refine ⟨_, rfl, ?_⟩; intro a ha; replace HW := HW.callw HX4049; clear HX4049
      refine stepp ha 23 (.bool t4046) KR KR ?_; clear ha a; intro a ha
      refine endl ?_
      exact thenN ⟨t4046, h, ha.sub (subs_cons KR (subs_cons KR (subs_cons KR (subs_nil _)))), HW.pick [1, 0] [] (by decide) (by decide) KR KR⟩
  · skip
    intro a W4051 hJ
    obtain ⟨x4050, h, ha, HW⟩ := hJ
    replace h : headgatelaw27_NresvBack.j0 K a0 a1 x4050 = some r := h
    unfold headgatelaw27_NresvBack.j0 at h
    refine hK4044 _ _ ?_; clear hK4044
    by_cases hp4052 : x4050 = true
    · skip
      replace h := ite_pos' h hp4052
      refine condT ha KR KR (t := x4050) (hp4052) ?_
      refine wp_seq_k (fun K4053 hK4054 => ?_)
      refine wp_region_lit ?_
      obtain ⟨t4055, ht4056, h_⟩ := bind_some' h; clear h; have h := h_; clear h_
      refine stepc ha 24 KR KR (headgatelaw27_wakes.calls K t4055 _ (HW.ca0 hG0) (HW.ca0 hG1) (HW.ca0 hG2) ht4056) ?_; clear ha a; rintro e W4057 ⟨rfl, HX4058⟩
      refine ⟨_, rfl, ?_⟩; intro a ha; replace HW := HW.callw HX4058; clear HX4058
      refine stepp ha 4 (.bool t4055) KR KR ?_; clear ha a; intro a ha
      refine endl ?_
      refine thenN (hK4054 _ _ ?_); clear hK4054
      refine wp_ret ?_
      refine thenR ?_
      obtain rfl := Option.some.inj h
      exact finv ha _ _ rfl (.tmp (v := .bool t4055) KR .nil) (.bool t4055) rfl ⟨rfl, HW.pick [] [] (by decide) (by decide) rfl KR⟩
    · skip
      replace h := ite_neg' h hp4052
      refine condF ha KR KR (t := x4050) (bool_f hp4052) ?_
      refine wp_skip ?_
      refine thenN (hK4042 _ _ ?_); clear hK4042
      refine wp_seq_k (fun K4059 hK4060 => ?_)
      refine wp_region_lit ?_
      refine stepl ha 26 (HW.ca (i := 1) (b := b4039) (C := #[.int .i64 a1.f0, .int .i64 a1.f1, .string a1.f2, .int .i64 a1.f3, .int .i64 a1.f4, .string a1.f5, .bool a1.f6, .slice A1_0 a1.f7.length c1_0, .int .u64 a1.f8, .int .u64 a1.f9, .int .u64 a1.f10, .int .i64 a1.f11, .bool a1.f12, .int .i64 a1.f13]) (T := 49) (fr := (0, 0)) KR) 49 0 (.tmp 3) (.agg #[.int .i64 a1.f0, .int .i64 a1.f1, .string a1.f2, .int .i64 a1.f3, .int .i64 a1.f4, .string a1.f5, .bool a1.f6, .slice A1_0 a1.f7.length c1_0, .int .u64 a1.f8, .int .u64 a1.f9, .int .u64 a1.f10, .int .i64 a1.f11, .bool a1.f12, .int .i64 a1.f13]) rfl KR KR KR ?_; clear ha a; intro a ha
      obtain ⟨t4061, ht4062, h_⟩ := bind_some' h; clear h; have h := h_; clear h_
      refine stepc ha 27 KR KR (nresv_Words.calls K a1 A1_0 c1_0 t4061 _ (HW.ca0 hG1) (HW.ca0 hG2) ((HW.rd0 hr1_0)) ht4062) ?_; clear ha a; rintro e W4063 ⟨rfl, HX4064⟩
      refine ⟨_, rfl, ?_⟩; intro a ha; replace HW := HW.callw HX4064; clear HX4064
      refine stepp ha 25 (.tuple #[.int .i64 t4061.1, .int .u32 t4061.2.1, .string t4061.2.2.1, .int .i64 t4061.2.2.2]) KR KR ?_; clear ha a; intro a ha
      refine stepp ha 28 (.int .i64 t4061.1) KR KR ?_; clear ha a; intro a ha
      refine stepp ha 29 (.int .u32 t4061.2.1) KR KR ?_; clear ha a; intro a ha
      refine stepp ha 30 (.string t4061.2.2.1) KR KR ?_; clear ha a; intro a ha
      refine stepp ha 31 (.int .i64 t4061.2.2.2) KR KR ?_; clear ha a; intro a ha
      refine stepp ha 5 (.int .i64 t4061.1) KR KR ?_; clear ha a; intro a ha
      refine stepp ha 6 (.int .u32 t4061.2.1) KR KR ?_; clear ha a; intro a ha
      refine stepp ha 7 (.string t4061.2.2.1) KR KR ?_; clear ha a; intro a ha
      refine stepp ha 8 (.int .i64 t4061.2.2.2) KR KR ?_; clear ha a; intro a ha
      refine endl ?_
      refine thenN (hK4060 _ _ ?_); clear hK4060
      refine wp_seq_k (fun K4065 hK4066 => ?_)
      refine cutn (fun a W4101 => headgatelaw27_NresvBack.j1 K a0 = some r ∧ Has 112 [(2, .pointer (some ⟨b4037, 0, none⟩))] a ∧ Wd w W4101 [(b4037, .cells #[.int .i64 a0.f0, .int .u32 a0.f1, .string a0.f2] 46 (0, 0))] []) ?_ ?_
      · skip
        refine wp_seq_k (fun K4067 hK4068 => ?_)
        refine wp_region_lit ?_
        refine stepp ha 32 (.int .i64 t4061.2.2.2) KR KR ?_; clear ha a; intro a ha
        refine stepp ha 33 (.bool (t4061.2.2.2 == 0)) KR KR ?_; clear ha a; intro a ha
        refine endl ?_
        refine thenN (hK4068 _ _ ?_); clear hK4068
        by_cases hp4069 : t4061.2.2.2 = 0
        · skip
          replace h := ite_pos' h hp4069
          refine condT ha KR KR (t := (t4061.2.2.2 == 0)) (ieq_t hp4069) ?_
          refine wp_seq_k (fun K4070 hK4071 => ?_)
          refine wp_region_lit ?_
          refine stepp ha 35 (.int .i64 t4061.1) KR KR ?_; clear ha a; intro a ha
          refine stepp ha 36 (.int .u32 t4061.2.1) KR KR ?_; clear ha a; intro a ha
          refine stepp ha 37 (.string t4061.2.2.1) KR KR ?_; clear ha a; intro a ha
          obtain ⟨t4072, ht4073, h_⟩ := bind_some' h; clear h; have h := h_; clear h_
          refine stepc ha 38 KR KR (nresv_Change.calls K t4061.1 t4061.2.1 t4061.2.2.1 t4072 _ (HW.ca0 hG1) (HW.ca0 hG2) ht4073) ?_; clear ha a; rintro e W4077 ⟨A4074, c4075, rfl, HX4078⟩
          refine ⟨_, rfl, ?_⟩; intro a ha; replace HW := HW.callw HX4078; clear HX4078
          refine stepp ha 34 (.tuple #[.agg #[.int .i64 t4072.1.f0, .int .i64 t4072.1.f1, .string t4072.1.f2, .int .i64 t4072.1.f3, .int .i64 t4072.1.f4, .string t4072.1.f5, .bool t4072.1.f6, .slice A4074 t4072.1.f7.length c4075, .int .u64 t4072.1.f8, .int .u64 t4072.1.f9, .int .u64 t4072.1.f10, .int .i64 t4072.1.f11, .bool t4072.1.f12, .int .i64 t4072.1.f13], .int .i64 t4072.2]) KR KR ?_; clear ha a; intro a ha
          refine stepp ha 39 (.agg #[.int .i64 t4072.1.f0, .int .i64 t4072.1.f1, .string t4072.1.f2, .int .i64 t4072.1.f3, .int .i64 t4072.1.f4, .string t4072.1.f5, .bool t4072.1.f6, .slice A4074 t4072.1.f7.length c4075, .int .u64 t4072.1.f8, .int .u64 t4072.1.f9, .int .u64 t4072.1.f10, .int .i64 t4072.1.f11, .bool t4072.1.f12, .int .i64 t4072.1.f13]) KR KR ?_; clear ha a; intro a ha
          refine stepp ha 40 (.int .i64 t4072.2) KR KR ?_; clear ha a; intro a ha
          refine stepnew ha HW 9 #[.int .i64 0, .int .i64 0, .string (⟨#[]⟩ : ByteArray), .int .i64 0, .int .i64 0, .string (⟨#[]⟩ : ByteArray), .bool false, .slice none 0 0, .int .u64 0, .int .u64 0, .int .u64 0, .int .i64 0, .bool false, .int .i64 0] 49 KR KR ?_; clear ha HW a; intro b4079 a W4080 HW ha
          refine stepst ha HW 0 (b := b4079) (C := #[.int .i64 0, .int .i64 0, .string (⟨#[]⟩ : ByteArray), .int .i64 0, .int .i64 0, .string (⟨#[]⟩ : ByteArray), .bool false, .slice none 0 0, .int .u64 0, .int .u64 0, .int .u64 0, .int .i64 0, .bool false, .int .i64 0]) (T := 49) KR 49 0 (.tmp 9) (.tmp 39) (.agg #[.int .i64 t4072.1.f0, .int .i64 t4072.1.f1, .string t4072.1.f2, .int .i64 t4072.1.f3, .int .i64 t4072.1.f4, .string t4072.1.f5, .bool t4072.1.f6, .slice A4074 t4072.1.f7.length c4075, .int .u64 t4072.1.f8, .int .u64 t4072.1.f9, .int .u64 t4072.1.f10, .int .i64 t4072.1.f11, .bool t4072.1.f12, .int .i64 t4072.1.f13]) #[.int .i64 t4072.1.f0, .int .i64 t4072.1.f1, .string t4072.1.f2, .int .i64 t4072.1.f3, .int .i64 t4072.1.f4, .string t4072.1.f5, .bool t4072.1.f6, .slice A4074 t4072.1.f7.length c4075, .int .u64 t4072.1.f8, .int .u64 t4072.1.f9, .int .u64 t4072.1.f10, .int .i64 t4072.1.f11, .bool t4072.1.f12, .int .i64 t4072.1.f13] rfl KR KR KR KR KR KR KR ?_; clear ha HW a; intro a W4081 HW ha
          refine stepp ha 10 (.int .i64 t4072.2) KR KR ?_; clear ha a; intro a ha
          refine endl ?_
          refine thenN (hK4071 _ _ ?_); clear hK4071
          refine wp_seq_k (fun K4082 hK4083 => ?_)
          refine wp_region_lit ?_
          refine stepp ha 41 (.int .i64 t4072.2) KR KR ?_; clear ha a; intro a ha
          refine stepp ha 42 (.bool (t4072.2 != 0)) KR KR ?_; clear ha a; intro a ha
          refine stepp ha 43 (.bool (t4072.2 != 0)) KR KR ?_; clear ha a; intro a ha
          by_cases hp4084 : t4072.2 = 0
          · skip
            replace h := ite_pos' h hp4084
            replace ha := ha.bool 43 KR (ineq_f hp4084)
            refine stepl ha 44 (HW.ca (i := 0) (b := b4079) (C := #[.int .i64 t4072.1.f0, .int .i64 t4072.1.f1, .string t4072.1.f2, .int .i64 t4072.1.f3, .int .i64 t4072.1.f4, .string t4072.1.f5, .bool t4072.1.f6, .slice A4074 t4072.1.f7.length c4075, .int .u64 t4072.1.f8, .int .u64 t4072.1.f9, .int .u64 t4072.1.f10, .int .i64 t4072.1.f11, .bool t4072.1.f12, .int .i64 t4072.1.f13]) (T := 49) (fr := (0, 0)) KR) 49 0 (.tmp 9) (.agg #[.int .i64 t4072.1.f0, .int .i64 t4072.1.f1, .string t4072.1.f2, .int .i64 t4072.1.f3, .int .i64 t4072.1.f4, .string t4072.1.f5, .bool t4072.1.f6, .slice A4074 t4072.1.f7.length c4075, .int .u64 t4072.1.f8, .int .u64 t4072.1.f9, .int .u64 t4072.1.f10, .int .i64 t4072.1.f11, .bool t4072.1.f12, .int .i64 t4072.1.f13]) rfl KR KR KR ?_; clear ha a; intro a ha
            refine stepl ha 45 (HW.ca (i := 2) (b := b4039) (C := #[.int .i64 a1.f0, .int .i64 a1.f1, .string a1.f2, .int .i64 a1.f3, .int .i64 a1.f4, .string a1.f5, .bool a1.f6, .slice A1_0 a1.f7.length c1_0, .int .u64 a1.f8, .int .u64 a1.f9, .int .u64 a1.f10, .int .i64 a1.f11, .bool a1.f12, .int .i64 a1.f13]) (T := 49) (fr := (0, 0)) KR) 49 0 (.tmp 3) (.agg #[.int .i64 a1.f0, .int .i64 a1.f1, .string a1.f2, .int .i64 a1.f3, .int .i64 a1.f4, .string a1.f5, .bool a1.f6, .slice A1_0 a1.f7.length c1_0, .int .u64 a1.f8, .int .u64 a1.f9, .int .u64 a1.f10, .int .i64 a1.f11, .bool a1.f12, .int .i64 a1.f13]) rfl KR KR KR ?_; clear ha a; intro a ha
            obtain ⟨t4085, ht4086, h_⟩ := bind_some' h; clear h; have h := h_; clear h_
            refine stepc ha 46 KR KR (headgatekeep_Cmds.calls K (⟨t4072.1.f0, t4072.1.f1, t4072.1.f2, t4072.1.f3, t4072.1.f4, t4072.1.f5, t4072.1.f6, t4072.1.f7, t4072.1.f8, t4072.1.f9, t4072.1.f10, t4072.1.f11, t4072.1.f12, t4072.1.f13⟩ : T_api_Cmd) a1 A4074 c4075 A1_0 c1_0 t4085 _ (HW.rdo (i := 0) (q := ⟨128, 2, .slice A4074 t4072.1.f7.length c4075, t4072.1.f7.length, encs T_api_Range.enc t4072.1.f7⟩) KR) ((HW.rd0 hr1_0)) ht4086) ?_; clear ha a; rintro e W4087 ⟨rfl, HX4088⟩
            refine ⟨_, rfl, ?_⟩; intro a ha; replace HW := HW.callw HX4088; clear HX4088
            refine stepp ha 47 (.bool (!t4085)) KR KR ?_; clear ha a; intro a ha
            refine stepp ha 48 (.bool (!t4085)) KR KR ?_; clear ha a; intro a ha
            refine stepp ha 49 (.bool (!t4085)) KR KR ?_; clear ha a; intro a ha
            by_cases hp4089 : t4085 = true
            · skip
              replace h := ite_pos' h hp4089
              replace ha := ha.bool 49 KR (not_f (hp4089))
              refine stepp ha 50 (.string t4061.2.2.1) KR KR ?_; clear ha a; intro a ha
              refine stepp ha 51 (.int .i64 (t4061.2.2.1.size : Int)) KR KR ?_; clear ha a; intro a ha
              refine stepp ha 52 (.int .i64 t4061.1) KR KR ?_; clear ha a; intro a ha
              obtain ⟨t4090, ht4091, h_⟩ := bind_some' h; clear h; have h := h_; clear h_
              refine stepc ha 53 KR KR (nresv_Size.calls t4061.1 t4090 _ ht4091) ?_; clear ha a; rintro e W4092 ⟨rfl, HX4093⟩
              refine ⟨_, rfl, ?_⟩; intro a ha; replace HW := HW.callw HX4093; clear HX4093
              refine stepp ha 54 (.bool ((t4061.2.2.1.size : Int) != t4090)) KR KR ?_; clear ha a; intro a ha
              refine stepp ha 55 (.bool ((t4061.2.2.1.size : Int) != t4090)) KR KR ?_; clear ha a; intro a ha
              refine endl ?_
              refine thenN (hK4083 _ _ ?_); clear hK4083
              by_cases hp4094 : (t4061.2.2.1.size : Int) = t4090
              · skip
                replace h := ite_pos' h hp4094
                refine condF ha KR KR (t := ((t4061.2.2.1.size : Int) != t4090)) (ineq_f hp4094) ?_
                refine wp_skip ?_
                exact thenN ⟨h, ha.sub (subs_cons KR (subs_nil _)), HW.pick [1] [] (by decide) (by decide) KR KR⟩
              · skip
                replace h := ite_neg' h hp4094
                refine condT ha KR KR (t := ((t4061.2.2.1.size : Int) != t4090)) (ineq_t hp4094) ?_
                refine wp_seq_k (fun K4095 hK4096 => ?_)
                refine wp_region_lit ?_
                refine stepp ha 4 (.bool false) KR KR ?_; clear ha a; intro a ha
                refine endl ?_
                refine thenN (hK4096 _ _ ?_); clear hK4096
                refine wp_ret ?_
                refine thenR ?_
                obtain rfl := Option.some.inj h
                exact finv ha _ _ rfl (.tmp (v := .bool false) KR .nil) (.bool false) rfl ⟨rfl, HW.pick [] [] (by decide) (by decide) rfl KR⟩
            · skip
              replace h := ite_neg' h hp4089
              replace ha := ha.bool 49 KR (not_t (bool_f hp4089))
              refine stepo ha 50 KR ?_; clear ha a; intro a ha
              refine stepo ha 51 KR ?_; clear ha a; intro a ha
              refine stepo ha 52 KR ?_; clear ha a; intro a ha
              refine stepo ha 53 KR ?_; clear ha a; intro a ha
              refine stepo ha 54 KR ?_; clear ha a; intro a ha
              refine stepp ha 55 (.bool true) KR KR ?_; clear ha a; intro a ha
              refine endl ?_
              refine thenN (hK4083 _ _ ?_); clear hK4083
              refine condT ha KR KR (t := true) (rfl) ?_
              refine wp_seq_k (fun K4097 hK4098 => ?_)
              refine wp_region_lit ?_
              refine stepp ha 4 (.bool false) KR KR ?_; clear ha a; intro a ha
              refine endl ?_
              refine thenN (hK4098 _ _ ?_); clear hK4098
              refine wp_ret ?_
              refine thenR ?_
              obtain rfl := Option.some.inj h
              exact finv ha _ _ rfl (.tmp (v := .bool false) KR .nil) (.bool false) rfl ⟨rfl, HW.pick [] [] (by decide) (by decide) rfl KR⟩
          · skip
            replace h := ite_neg' h hp4084
            replace ha := ha.bool 43 KR (ineq_t hp4084)
            refine stepo ha 44 KR ?_; clear ha a; intro a ha
            refine stepo ha 45 KR ?_; clear ha a; intro a ha
            refine stepo ha 46 KR ?_; clear ha a; intro a ha
            refine stepo ha 47 KR ?_; clear ha a; intro a ha
            refine stepp ha 48 (.bool true) KR KR ?_; clear ha a; intro a ha
            refine stepp ha 49 (.bool true) KR KR ?_; clear ha a; intro a ha
            refine stepo ha 50 KR ?_; clear ha a; intro a ha
            refine stepo ha 51 KR ?_; clear ha a; intro a ha
            refine stepo ha 52 KR ?_; clear ha a; intro a ha
            refine stepo ha 53 KR ?_; clear ha a; intro a ha
            refine stepo ha 54 KR ?_; clear ha a; intro a ha
            refine stepp ha 55 (.bool true) KR KR ?_; clear ha a; intro a ha
            refine endl ?_
            refine thenN (hK4083 _ _ ?_); clear hK4083
            refine condT ha KR KR (t := true) (rfl) ?_
            refine wp_seq_k (fun K4099 hK4100 => ?_)
            refine wp_region_lit ?_
            refine stepp ha 4 (.bool false) KR KR ?_; clear ha a; intro a ha
            refine endl ?_
            refine thenN (hK4100 _ _ ?_); clear hK4100
            refine wp_ret ?_
            refine thenR ?_
            obtain rfl := Option.some.inj h
            exact finv ha _ _ rfl (.tmp (v := .bool false) KR .nil) (.bool false) rfl ⟨rfl, HW.pick [] [] (by decide) (by decide) rfl KR⟩
        · skip
          replace h := ite_neg' h hp4069
          refine condF ha KR KR (t := (t4061.2.2.2 == 0)) (ieq_f hp4069) ?_
          refine wp_skip ?_
          exact thenN ⟨h, ha.sub (subs_cons KR (subs_nil _)), HW.pick [0] [] (by decide) (by decide) KR KR⟩
      · skip
        intro a W4101 hJ
        obtain ⟨h, ha, HW⟩ := hJ
        replace h : headgatelaw27_NresvBack.j1 K a0 = some r := h
        unfold headgatelaw27_NresvBack.j1 at h
        refine hK4066 _ _ ?_; clear hK4066
        refine wp_seq_k (fun K4102 hK4103 => ?_)
        refine wp_region_lit ?_
        refine stepp ha 57 (.pointer (some ⟨b4037, 0, none⟩)) KR KR ?_; clear ha a; intro a ha
        refine stepl ha 58 (HW.ca (i := 0) (b := b4037) (C := #[.int .i64 a0.f0, .int .u32 a0.f1, .string a0.f2]) (T := 46) (fr := (0, 0)) KR) 3 0 (.tmp 57) (.int .i64 a0.f0) rfl KR KR KR ?_; clear ha a; intro a ha
        refine stepp ha 59 (.pointer (some ⟨b4037, 1, none⟩)) KR KR ?_; clear ha a; intro a ha
        refine stepl ha 60 (HW.ca (i := 0) (b := b4037) (C := #[.int .i64 a0.f0, .int .u32 a0.f1, .string a0.f2]) (T := 46) (fr := (0, 0)) KR) 25 1 (.tmp 59) (.int .u32 a0.f1) rfl KR KR KR ?_; clear ha a; intro a ha
        refine stepp ha 61 (.pointer (some ⟨b4037, 2, none⟩)) KR KR ?_; clear ha a; intro a ha
        refine stepl ha 62 (HW.ca (i := 0) (b := b4037) (C := #[.int .i64 a0.f0, .int .u32 a0.f1, .string a0.f2]) (T := 46) (fr := (0, 0)) KR) 9 2 (.tmp 61) (.string a0.f2) rfl KR KR KR ?_; clear ha a; intro a ha
        obtain ⟨t4104, ht4105, h_⟩ := bind_some' h; clear h; have h := h_; clear h_
        refine stepc ha 63 KR KR (nresv_Change.calls K a0.f0 a0.f1 a0.f2 t4104 _ (HW.ca0 hG1) (HW.ca0 hG2) ht4105) ?_; clear ha a; rintro e W4109 ⟨A4106, c4107, rfl, HX4110⟩
        refine ⟨_, rfl, ?_⟩; intro a ha; replace HW := HW.callw HX4110; clear HX4110
        refine stepp ha 56 (.tuple #[.agg #[.int .i64 t4104.1.f0, .int .i64 t4104.1.f1, .string t4104.1.f2, .int .i64 t4104.1.f3, .int .i64 t4104.1.f4, .string t4104.1.f5, .bool t4104.1.f6, .slice A4106 t4104.1.f7.length c4107, .int .u64 t4104.1.f8, .int .u64 t4104.1.f9, .int .u64 t4104.1.f10, .int .i64 t4104.1.f11, .bool t4104.1.f12, .int .i64 t4104.1.f13], .int .i64 t4104.2]) KR KR ?_; clear ha a; intro a ha
        refine stepp ha 64 (.agg #[.int .i64 t4104.1.f0, .int .i64 t4104.1.f1, .string t4104.1.f2, .int .i64 t4104.1.f3, .int .i64 t4104.1.f4, .string t4104.1.f5, .bool t4104.1.f6, .slice A4106 t4104.1.f7.length c4107, .int .u64 t4104.1.f8, .int .u64 t4104.1.f9, .int .u64 t4104.1.f10, .int .i64 t4104.1.f11, .bool t4104.1.f12, .int .i64 t4104.1.f13]) KR KR ?_; clear ha a; intro a ha
        refine stepp ha 65 (.int .i64 t4104.2) KR KR ?_; clear ha a; intro a ha
        refine stepnew ha HW 11 #[.int .i64 0, .int .i64 0, .string (⟨#[]⟩ : ByteArray), .int .i64 0, .int .i64 0, .string (⟨#[]⟩ : ByteArray), .bool false, .slice none 0 0, .int .u64 0, .int .u64 0, .int .u64 0, .int .i64 0, .bool false, .int .i64 0] 49 KR KR ?_; clear ha HW a; intro b4111 a W4112 HW ha
        refine stepst ha HW 0 (b := b4111) (C := #[.int .i64 0, .int .i64 0, .string (⟨#[]⟩ : ByteArray), .int .i64 0, .int .i64 0, .string (⟨#[]⟩ : ByteArray), .bool false, .slice none 0 0, .int .u64 0, .int .u64 0, .int .u64 0, .int .i64 0, .bool false, .int .i64 0]) (T := 49) KR 49 0 (.tmp 11) (.tmp 64) (.agg #[.int .i64 t4104.1.f0, .int .i64 t4104.1.f1, .string t4104.1.f2, .int .i64 t4104.1.f3, .int .i64 t4104.1.f4, .string t4104.1.f5, .bool t4104.1.f6, .slice A4106 t4104.1.f7.length c4107, .int .u64 t4104.1.f8, .int .u64 t4104.1.f9, .int .u64 t4104.1.f10, .int .i64 t4104.1.f11, .bool t4104.1.f12, .int .i64 t4104.1.f13]) #[.int .i64 t4104.1.f0, .int .i64 t4104.1.f1, .string t4104.1.f2, .int .i64 t4104.1.f3, .int .i64 t4104.1.f4, .string t4104.1.f5, .bool t4104.1.f6, .slice A4106 t4104.1.f7.length c4107, .int .u64 t4104.1.f8, .int .u64 t4104.1.f9, .int .u64 t4104.1.f10, .int .i64 t4104.1.f11, .bool t4104.1.f12, .int .i64 t4104.1.f13] rfl KR KR KR KR KR KR KR ?_; clear ha HW a; intro a W4113 HW ha
        refine stepp ha 12 (.int .i64 t4104.2) KR KR ?_; clear ha a; intro a ha
        refine endl ?_
        refine thenN (hK4103 _ _ ?_); clear hK4103
        refine wp_seq_k (fun K4114 hK4115 => ?_)
        refine wp_seq_k (fun K4116 hK4117 => ?_)
        refine wp_region_lit ?_
        refine stepp ha 66 (.int .i64 t4104.2) KR KR ?_; clear ha a; intro a ha
        refine stepp ha 67 (.bool (t4104.2 != 0)) KR KR ?_; clear ha a; intro a ha
        refine endl ?_
        refine thenN (hK4117 _ _ ?_); clear hK4117
        by_cases hp4118 : t4104.2 = 0
        · skip
          replace h := ite_pos' h hp4118
          refine condF ha KR KR (t := (t4104.2 != 0)) (ineq_f hp4118) ?_
          refine wp_skip ?_
          refine thenN (hK4115 _ _ ?_); clear hK4115
          refine wp_seq_k (fun K4131 hK4132 => ?_)
          refine wp_region_lit ?_
          refine stepl ha 79 (HW.ca (i := 0) (b := b4111) (C := #[.int .i64 t4104.1.f0, .int .i64 t4104.1.f1, .string t4104.1.f2, .int .i64 t4104.1.f3, .int .i64 t4104.1.f4, .string t4104.1.f5, .bool t4104.1.f6, .slice A4106 t4104.1.f7.length c4107, .int .u64 t4104.1.f8, .int .u64 t4104.1.f9, .int .u64 t4104.1.f10, .int .i64 t4104.1.f11, .bool t4104.1.f12, .int .i64 t4104.1.f13]) (T := 49) (fr := (0, 0)) KR) 49 0 (.tmp 11) (.agg #[.int .i64 t4104.1.f0, .int .i64 t4104.1.f1, .string t4104.1.f2, .int .i64 t4104.1.f3, .int .i64 t4104.1.f4, .string t4104.1.f5, .bool t4104.1.f6, .slice A4106 t4104.1.f7.length c4107, .int .u64 t4104.1.f8, .int .u64 t4104.1.f9, .int .u64 t4104.1.f10, .int .i64 t4104.1.f11, .bool t4104.1.f12, .int .i64 t4104.1.f13]) rfl KR KR KR ?_; clear ha a; intro a ha
          obtain ⟨t4133, ht4134, h_⟩ := bind_some' h; clear h; have h := h_; clear h_
          refine stepc ha 80 KR KR (nresv_Words.calls K (⟨t4104.1.f0, t4104.1.f1, t4104.1.f2, t4104.1.f3, t4104.1.f4, t4104.1.f5, t4104.1.f6, t4104.1.f7, t4104.1.f8, t4104.1.f9, t4104.1.f10, t4104.1.f11, t4104.1.f12, t4104.1.f13⟩ : T_api_Cmd) A4106 c4107 t4133 _ (HW.ca0 hG1) (HW.ca0 hG2) (HW.rdo (i := 0) (q := ⟨128, 2, .slice A4106 t4104.1.f7.length c4107, t4104.1.f7.length, encs T_api_Range.enc t4104.1.f7⟩) KR) ht4134) ?_; clear ha a; rintro e W4135 ⟨rfl, HX4136⟩
          refine ⟨_, rfl, ?_⟩; intro a ha; replace HW := HW.callw HX4136; clear HX4136
          refine stepp ha 78 (.tuple #[.int .i64 t4133.1, .int .u32 t4133.2.1, .string t4133.2.2.1, .int .i64 t4133.2.2.2]) KR KR ?_; clear ha a; intro a ha
          refine stepp ha 81 (.int .i64 t4133.1) KR KR ?_; clear ha a; intro a ha
          refine stepp ha 82 (.int .u32 t4133.2.1) KR KR ?_; clear ha a; intro a ha
          refine stepp ha 83 (.string t4133.2.2.1) KR KR ?_; clear ha a; intro a ha
          refine stepp ha 84 (.int .i64 t4133.2.2.2) KR KR ?_; clear ha a; intro a ha
          refine stepp ha 5 (.int .i64 t4133.1) KR KR ?_; clear ha a; intro a ha
          refine stepp ha 6 (.int .u32 t4133.2.1) KR KR ?_; clear ha a; intro a ha
          refine stepp ha 7 (.string t4133.2.2.1) KR KR ?_; clear ha a; intro a ha
          refine stepp ha 13 (.int .i64 t4133.2.2.2) KR KR ?_; clear ha a; intro a ha
          refine endl ?_
          refine thenN (hK4132 _ _ ?_); clear hK4132
          refine wp_seq_k (fun K4137 hK4138 => ?_)
          refine wp_region_lit ?_
          refine stepp ha 86 (.int .i64 t4133.1) KR KR ?_; clear ha a; intro a ha
          refine stepp ha 87 (.int .u32 t4133.2.1) KR KR ?_; clear ha a; intro a ha
          refine stepp ha 88 (.string t4133.2.2.1) KR KR ?_; clear ha a; intro a ha
          obtain ⟨t4139, ht4140, h_⟩ := bind_some' h; clear h; have h := h_; clear h_
          refine stepc ha 89 KR KR (nresv_Change.calls K t4133.1 t4133.2.1 t4133.2.2.1 t4139 _ (HW.ca0 hG1) (HW.ca0 hG2) ht4140) ?_; clear ha a; rintro e W4144 ⟨A4141, c4142, rfl, HX4145⟩
          refine ⟨_, rfl, ?_⟩; intro a ha; replace HW := HW.callw HX4145; clear HX4145
          refine stepp ha 85 (.tuple #[.agg #[.int .i64 t4139.1.f0, .int .i64 t4139.1.f1, .string t4139.1.f2, .int .i64 t4139.1.f3, .int .i64 t4139.1.f4, .string t4139.1.f5, .bool t4139.1.f6, .slice A4141 t4139.1.f7.length c4142, .int .u64 t4139.1.f8, .int .u64 t4139.1.f9, .int .u64 t4139.1.f10, .int .i64 t4139.1.f11, .bool t4139.1.f12, .int .i64 t4139.1.f13], .int .i64 t4139.2]) KR KR ?_; clear ha a; intro a ha
          refine stepp ha 90 (.agg #[.int .i64 t4139.1.f0, .int .i64 t4139.1.f1, .string t4139.1.f2, .int .i64 t4139.1.f3, .int .i64 t4139.1.f4, .string t4139.1.f5, .bool t4139.1.f6, .slice A4141 t4139.1.f7.length c4142, .int .u64 t4139.1.f8, .int .u64 t4139.1.f9, .int .u64 t4139.1.f10, .int .i64 t4139.1.f11, .bool t4139.1.f12, .int .i64 t4139.1.f13]) KR KR ?_; clear ha a; intro a ha
          refine stepp ha 91 (.int .i64 t4139.2) KR KR ?_; clear ha a; intro a ha
          refine stepnew ha HW 14 #[.int .i64 0, .int .i64 0, .string (⟨#[]⟩ : ByteArray), .int .i64 0, .int .i64 0, .string (⟨#[]⟩ : ByteArray), .bool false, .slice none 0 0, .int .u64 0, .int .u64 0, .int .u64 0, .int .i64 0, .bool false, .int .i64 0] 49 KR KR ?_; clear ha HW a; intro b4146 a W4147 HW ha
          refine stepst ha HW 0 (b := b4146) (C := #[.int .i64 0, .int .i64 0, .string (⟨#[]⟩ : ByteArray), .int .i64 0, .int .i64 0, .string (⟨#[]⟩ : ByteArray), .bool false, .slice none 0 0, .int .u64 0, .int .u64 0, .int .u64 0, .int .i64 0, .bool false, .int .i64 0]) (T := 49) KR 49 0 (.tmp 14) (.tmp 90) (.agg #[.int .i64 t4139.1.f0, .int .i64 t4139.1.f1, .string t4139.1.f2, .int .i64 t4139.1.f3, .int .i64 t4139.1.f4, .string t4139.1.f5, .bool t4139.1.f6, .slice A4141 t4139.1.f7.length c4142, .int .u64 t4139.1.f8, .int .u64 t4139.1.f9, .int .u64 t4139.1.f10, .int .i64 t4139.1.f11, .bool t4139.1.f12, .int .i64 t4139.1.f13]) #[.int .i64 t4139.1.f0, .int .i64 t4139.1.f1, .string t4139.1.f2, .int .i64 t4139.1.f3, .int .i64 t4139.1.f4, .string t4139.1.f5, .bool t4139.1.f6, .slice A4141 t4139.1.f7.length c4142, .int .u64 t4139.1.f8, .int .u64 t4139.1.f9, .int .u64 t4139.1.f10, .int .i64 t4139.1.f11, .bool t4139.1.f12, .int .i64 t4139.1.f13] rfl KR KR KR KR KR KR KR ?_; clear ha HW a; intro a W4148 HW ha
          refine stepp ha 15 (.int .i64 t4139.2) KR KR ?_; clear ha a; intro a ha
          refine endl ?_
          refine thenN (hK4138 _ _ ?_); clear hK4138
          refine wp_seq_k (fun K4149 hK4150 => ?_)
          refine wp_region_lit ?_
          refine stepp ha 92 (.int .i64 t4133.2.2.2) KR KR ?_; clear ha a; intro a ha
          refine stepp ha 93 (.bool (t4133.2.2.2 == 0)) KR KR ?_; clear ha a; intro a ha
          refine stepp ha 94 (.bool (t4133.2.2.2 == 0)) KR KR ?_; clear ha a; intro a ha
          by_cases hp4151 : t4133.2.2.2 = 0
          · skip
            replace h := ite_pos' h hp4151
            replace ha := ha.bool 94 KR (ieq_t hp4151)
            refine stepp ha 95 (.int .i64 t4139.2) KR KR ?_; clear ha a; intro a ha
            refine stepp ha 96 (.bool (t4139.2 == 0)) KR KR ?_; clear ha a; intro a ha
            refine stepp ha 97 (.bool (t4139.2 == 0)) KR KR ?_; clear ha a; intro a ha
            refine stepp ha 98 (.bool (t4139.2 == 0)) KR KR ?_; clear ha a; intro a ha
            by_cases hp4152 : t4139.2 = 0
            · skip
              replace h := ite_pos' h hp4152
              replace ha := ha.bool 98 KR (ieq_t hp4152)
              refine stepp ha 99 (.int .i64 t4133.1) KR KR ?_; clear ha a; intro a ha
              refine stepp ha 100 (.pointer (some ⟨b4037, 0, none⟩)) KR KR ?_; clear ha a; intro a ha
              refine stepl ha 101 (HW.ca (i := 2) (b := b4037) (C := #[.int .i64 a0.f0, .int .u32 a0.f1, .string a0.f2]) (T := 46) (fr := (0, 0)) KR) 3 0 (.tmp 100) (.int .i64 a0.f0) rfl KR KR KR ?_; clear ha a; intro a ha
              refine stepp ha 102 (.bool (t4133.1 == a0.f0)) KR KR ?_; clear ha a; intro a ha
              refine stepp ha 103 (.bool (t4133.1 == a0.f0)) KR KR ?_; clear ha a; intro a ha
              refine stepp ha 104 (.bool (t4133.1 == a0.f0)) KR KR ?_; clear ha a; intro a ha
              by_cases hp4153 : t4133.1 = a0.f0
              · skip
                replace h := ite_pos' h hp4153
                replace ha := ha.bool 104 KR (ieq_t hp4153)
                refine stepl ha 105 (HW.ca (i := 0) (b := b4146) (C := #[.int .i64 t4139.1.f0, .int .i64 t4139.1.f1, .string t4139.1.f2, .int .i64 t4139.1.f3, .int .i64 t4139.1.f4, .string t4139.1.f5, .bool t4139.1.f6, .slice A4141 t4139.1.f7.length c4142, .int .u64 t4139.1.f8, .int .u64 t4139.1.f9, .int .u64 t4139.1.f10, .int .i64 t4139.1.f11, .bool t4139.1.f12, .int .i64 t4139.1.f13]) (T := 49) (fr := (0, 0)) KR) 49 0 (.tmp 14) (.agg #[.int .i64 t4139.1.f0, .int .i64 t4139.1.f1, .string t4139.1.f2, .int .i64 t4139.1.f3, .int .i64 t4139.1.f4, .string t4139.1.f5, .bool t4139.1.f6, .slice A4141 t4139.1.f7.length c4142, .int .u64 t4139.1.f8, .int .u64 t4139.1.f9, .int .u64 t4139.1.f10, .int .i64 t4139.1.f11, .bool t4139.1.f12, .int .i64 t4139.1.f13]) rfl KR KR KR ?_; clear ha a; intro a ha
                refine stepl ha 106 (HW.ca (i := 1) (b := b4111) (C := #[.int .i64 t4104.1.f0, .int .i64 t4104.1.f1, .string t4104.1.f2, .int .i64 t4104.1.f3, .int .i64 t4104.1.f4, .string t4104.1.f5, .bool t4104.1.f6, .slice A4106 t4104.1.f7.length c4107, .int .u64 t4104.1.f8, .int .u64 t4104.1.f9, .int .u64 t4104.1.f10, .int .i64 t4104.1.f11, .bool t4104.1.f12, .int .i64 t4104.1.f13]) (T := 49) (fr := (0, 0)) KR) 49 0 (.tmp 11) (.agg #[.int .i64 t4104.1.f0, .int .i64 t4104.1.f1, .string t4104.1.f2, .int .i64 t4104.1.f3, .int .i64 t4104.1.f4, .string t4104.1.f5, .bool t4104.1.f6, .slice A4106 t4104.1.f7.length c4107, .int .u64 t4104.1.f8, .int .u64 t4104.1.f9, .int .u64 t4104.1.f10, .int .i64 t4104.1.f11, .bool t4104.1.f12, .int .i64 t4104.1.f13]) rfl KR KR KR ?_; clear ha a; intro a ha
                obtain ⟨t4154, ht4155, h_⟩ := bind_some' h; clear h; have h := h_; clear h_
                refine stepc ha 107 KR KR (headgatekeep_Cmds.calls K (⟨t4139.1.f0, t4139.1.f1, t4139.1.f2, t4139.1.f3, t4139.1.f4, t4139.1.f5, t4139.1.f6, t4139.1.f7, t4139.1.f8, t4139.1.f9, t4139.1.f10, t4139.1.f11, t4139.1.f12, t4139.1.f13⟩ : T_api_Cmd) (⟨t4104.1.f0, t4104.1.f1, t4104.1.f2, t4104.1.f3, t4104.1.f4, t4104.1.f5, t4104.1.f6, t4104.1.f7, t4104.1.f8, t4104.1.f9, t4104.1.f10, t4104.1.f11, t4104.1.f12, t4104.1.f13⟩ : T_api_Cmd) A4141 c4142 A4106 c4107 t4154 _ (HW.rdo (i := 0) (q := ⟨128, 2, .slice A4141 t4139.1.f7.length c4142, t4139.1.f7.length, encs T_api_Range.enc t4139.1.f7⟩) KR) (HW.rdo (i := 1) (q := ⟨128, 2, .slice A4106 t4104.1.f7.length c4107, t4104.1.f7.length, encs T_api_Range.enc t4104.1.f7⟩) KR) ht4155) ?_; clear ha a; rintro e W4156 ⟨rfl, HX4157⟩
                refine ⟨_, rfl, ?_⟩; intro a ha; replace HW := HW.callw HX4157; clear HX4157
                refine stepp ha 108 (.bool t4154) KR KR ?_; clear ha a; intro a ha
                refine stepp ha 109 (.bool t4154) KR KR ?_; clear ha a; intro a ha
                by_cases hp4158 : t4154 = true
                · skip
                  replace h := ite_pos' h hp4158
                  replace ha := ha.bool 109 KR (hp4158)
                  obtain ⟨t4159, ht4160, h_⟩ := bind_some' h; clear h; have h := h_; clear h_
                  refine stepc ha 110 KR KR (headgatelaw27_wakes.calls K t4159 _ (HW.ca0 hG0) (HW.ca0 hG1) (HW.ca0 hG2) ht4160) ?_; clear ha a; rintro e W4161 ⟨rfl, HX4162⟩
                  refine ⟨_, rfl, ?_⟩; intro a ha; replace HW := HW.callw HX4162; clear HX4162
                  refine stepp ha 111 (.bool t4159) KR KR ?_; clear ha a; intro a ha
                  refine stepp ha 4 (.bool t4159) KR KR ?_; clear ha a; intro a ha
                  refine endl ?_
                  refine thenN (hK4150 _ _ ?_); clear hK4150
                  refine wp_ret ?_
                  obtain rfl := Option.some.inj h
                  exact finv ha _ _ rfl (.tmp (v := .bool t4159) KR .nil) (.bool t4159) rfl ⟨rfl, HW.pick [] [] (by decide) (by decide) rfl KR⟩
                · skip
                  replace h := ite_neg' h hp4158
                  replace ha := ha.bool 109 KR (bool_f hp4158)
                  refine stepo ha 110 KR ?_; clear ha a; intro a ha
                  refine stepp ha 111 (.bool false) KR KR ?_; clear ha a; intro a ha
                  refine stepp ha 4 (.bool false) KR KR ?_; clear ha a; intro a ha
                  refine endl ?_
                  refine thenN (hK4150 _ _ ?_); clear hK4150
                  refine wp_ret ?_
                  obtain rfl := Option.some.inj h
                  exact finv ha _ _ rfl (.tmp (v := .bool false) KR .nil) (.bool false) rfl ⟨rfl, HW.pick [] [] (by decide) (by decide) rfl KR⟩
              · skip
                replace h := ite_neg' h hp4153
                replace ha := ha.bool 104 KR (ieq_f hp4153)
                refine stepo ha 105 KR ?_; clear ha a; intro a ha
                refine stepo ha 106 KR ?_; clear ha a; intro a ha
                refine stepo ha 107 KR ?_; clear ha a; intro a ha
                refine stepp ha 108 (.bool false) KR KR ?_; clear ha a; intro a ha
                refine stepp ha 109 (.bool false) KR KR ?_; clear ha a; intro a ha
                refine stepo ha 110 KR ?_; clear ha a; intro a ha
                refine stepp ha 111 (.bool false) KR KR ?_; clear ha a; intro a ha
                refine stepp ha 4 (.bool false) KR KR ?_; clear ha a; intro a ha
                refine endl ?_
                refine thenN (hK4150 _ _ ?_); clear hK4150
                refine wp_ret ?_
                obtain rfl := Option.some.inj h
                exact finv ha _ _ rfl (.tmp (v := .bool false) KR .nil) (.bool false) rfl ⟨rfl, HW.pick [] [] (by decide) (by decide) rfl KR⟩
            · skip
              replace h := ite_neg' h hp4152
              replace ha := ha.bool 98 KR (ieq_f hp4152)
              refine stepo ha 99 KR ?_; clear ha a; intro a ha
              refine stepo ha 100 KR ?_; clear ha a; intro a ha
              refine stepo ha 101 KR ?_; clear ha a; intro a ha
              refine stepo ha 102 KR ?_; clear ha a; intro a ha
              refine stepp ha 103 (.bool false) KR KR ?_; clear ha a; intro a ha
              refine stepp ha 104 (.bool false) KR KR ?_; clear ha a; intro a ha
              refine stepo ha 105 KR ?_; clear ha a; intro a ha
              refine stepo ha 106 KR ?_; clear ha a; intro a ha
              refine stepo ha 107 KR ?_; clear ha a; intro a ha
              refine stepp ha 108 (.bool false) KR KR ?_; clear ha a; intro a ha
              refine stepp ha 109 (.bool false) KR KR ?_; clear ha a; intro a ha
              refine stepo ha 110 KR ?_; clear ha a; intro a ha
              refine stepp ha 111 (.bool false) KR KR ?_; clear ha a; intro a ha
              refine stepp ha 4 (.bool false) KR KR ?_; clear ha a; intro a ha
              refine endl ?_
              refine thenN (hK4150 _ _ ?_); clear hK4150
              refine wp_ret ?_
              obtain rfl := Option.some.inj h
              exact finv ha _ _ rfl (.tmp (v := .bool false) KR .nil) (.bool false) rfl ⟨rfl, HW.pick [] [] (by decide) (by decide) rfl KR⟩
          · skip
            replace h := ite_neg' h hp4151
            replace ha := ha.bool 94 KR (ieq_f hp4151)
            refine stepo ha 95 KR ?_; clear ha a; intro a ha
            refine stepo ha 96 KR ?_; clear ha a; intro a ha
            refine stepp ha 97 (.bool false) KR KR ?_; clear ha a; intro a ha
            refine stepp ha 98 (.bool false) KR KR ?_; clear ha a; intro a ha
            refine stepo ha 99 KR ?_; clear ha a; intro a ha
            refine stepo ha 100 KR ?_; clear ha a; intro a ha
            refine stepo ha 101 KR ?_; clear ha a; intro a ha
            refine stepo ha 102 KR ?_; clear ha a; intro a ha
            refine stepp ha 103 (.bool false) KR KR ?_; clear ha a; intro a ha
            refine stepp ha 104 (.bool false) KR KR ?_; clear ha a; intro a ha
            refine stepo ha 105 KR ?_; clear ha a; intro a ha
            refine stepo ha 106 KR ?_; clear ha a; intro a ha
            refine stepo ha 107 KR ?_; clear ha a; intro a ha
            refine stepp ha 108 (.bool false) KR KR ?_; clear ha a; intro a ha
            refine stepp ha 109 (.bool false) KR KR ?_; clear ha a; intro a ha
            refine stepo ha 110 KR ?_; clear ha a; intro a ha
            refine stepp ha 111 (.bool false) KR KR ?_; clear ha a; intro a ha
            refine stepp ha 4 (.bool false) KR KR ?_; clear ha a; intro a ha
            refine endl ?_
            refine thenN (hK4150 _ _ ?_); clear hK4150
            refine wp_ret ?_
            obtain rfl := Option.some.inj h
            exact finv ha _ _ rfl (.tmp (v := .bool false) KR .nil) (.bool false) rfl ⟨rfl, HW.pick [] [] (by decide) (by decide) rfl KR⟩
        · skip
          replace h := ite_neg' h hp4118
          refine condT ha KR KR (t := (t4104.2 != 0)) (ineq_t hp4118) ?_
          refine wp_seq_k (fun K4119 hK4120 => ?_)
          refine wp_region_lit ?_
          refine stepp ha 68 (.int .i64 t4104.2) KR KR ?_; clear ha a; intro a ha
          refine stepp ha 69 (.bool (t4104.2 == 180)) KR KR ?_; clear ha a; intro a ha
          refine stepp ha 70 (.bool (t4104.2 == 180)) KR KR ?_; clear ha a; intro a ha
          by_cases hp4121 : t4104.2 = 180
          · skip
            replace h := ite_pos' h hp4121
            replace ha := ha.bool 70 KR (ieq_t hp4121)
            refine stepl ha 71 (HW.ca (i := 0) (b := b4111) (C := #[.int .i64 t4104.1.f0, .int .i64 t4104.1.f1, .string t4104.1.f2, .int .i64 t4104.1.f3, .int .i64 t4104.1.f4, .string t4104.1.f5, .bool t4104.1.f6, .slice A4106 t4104.1.f7.length c4107, .int .u64 t4104.1.f8, .int .u64 t4104.1.f9, .int .u64 t4104.1.f10, .int .i64 t4104.1.f11, .bool t4104.1.f12, .int .i64 t4104.1.f13]) (T := 49) (fr := (0, 0)) KR) 49 0 (.tmp 11) (.agg #[.int .i64 t4104.1.f0, .int .i64 t4104.1.f1, .string t4104.1.f2, .int .i64 t4104.1.f3, .int .i64 t4104.1.f4, .string t4104.1.f5, .bool t4104.1.f6, .slice A4106 t4104.1.f7.length c4107, .int .u64 t4104.1.f8, .int .u64 t4104.1.f9, .int .u64 t4104.1.f10, .int .i64 t4104.1.f11, .bool t4104.1.f12, .int .i64 t4104.1.f13]) rfl KR KR KR ?_; clear ha a; intro a ha
            refine stepp ha 72 (.agg #[.int .i64 0, .int .i64 0, .string (⟨#[]⟩ : ByteArray), .int .i64 0, .int .i64 0, .string (⟨#[]⟩ : ByteArray), .bool false, .slice none 0 0, .int .u64 0, .int .u64 0, .int .u64 0, .int .i64 0, .bool false, .int .i64 0]) KR KR ?_; clear ha a; intro a ha
            obtain ⟨t4122, ht4123, h_⟩ := bind_some' h; clear h; have h := h_; clear h_
            refine stepc ha 73 KR KR (headgatekeep_Cmds.calls K (⟨t4104.1.f0, t4104.1.f1, t4104.1.f2, t4104.1.f3, t4104.1.f4, t4104.1.f5, t4104.1.f6, t4104.1.f7, t4104.1.f8, t4104.1.f9, t4104.1.f10, t4104.1.f11, t4104.1.f12, t4104.1.f13⟩ : T_api_Cmd) (⟨0, 0, (⟨#[]⟩ : ByteArray), 0, 0, (⟨#[]⟩ : ByteArray), false, ([] : List T_api_Range), 0, 0, 0, 0, false, 0⟩ : T_api_Cmd) A4106 c4107 none 0 t4122 _ (HW.rdo (i := 0) (q := ⟨128, 2, .slice A4106 t4104.1.f7.length c4107, t4104.1.f7.length, encs T_api_Range.enc t4104.1.f7⟩) KR) (Rd.nil _ _) ht4123) ?_; clear ha a; rintro e W4124 ⟨rfl, HX4125⟩
            refine ⟨_, rfl, ?_⟩; intro a ha; replace HW := HW.callw HX4125; clear HX4125
            refine stepp ha 74 (.bool t4122) KR KR ?_; clear ha a; intro a ha
            refine stepp ha 75 (.bool t4122) KR KR ?_; clear ha a; intro a ha
            by_cases hp4126 : t4122 = true
            · skip
              replace h := ite_pos' h hp4126
              replace ha := ha.bool 75 KR (hp4126)
              obtain ⟨t4127, ht4128, h_⟩ := bind_some' h; clear h; have h := h_; clear h_
              refine stepc ha 76 KR KR (headgatelaw27_wakes.calls K t4127 _ (HW.ca0 hG0) (HW.ca0 hG1) (HW.ca0 hG2) ht4128) ?_; clear ha a; rintro e W4129 ⟨rfl, HX4130⟩
              refine ⟨_, rfl, ?_⟩; intro a ha; replace HW := HW.callw HX4130; clear HX4130
              refine stepp ha 77 (.bool t4127) KR KR ?_; clear ha a; intro a ha
              refine stepp ha 4 (.bool t4127) KR KR ?_; clear ha a; intro a ha
              refine endl ?_
              refine thenN (hK4120 _ _ ?_); clear hK4120
              refine wp_ret ?_
              refine thenR ?_
              obtain rfl := Option.some.inj h
              exact finv ha _ _ rfl (.tmp (v := .bool t4127) KR .nil) (.bool t4127) rfl ⟨rfl, HW.pick [] [] (by decide) (by decide) rfl KR⟩
            · skip
              replace h := ite_neg' h hp4126
              replace ha := ha.bool 75 KR (bool_f hp4126)
              refine stepo ha 76 KR ?_; clear ha a; intro a ha
              refine stepp ha 77 (.bool false) KR KR ?_; clear ha a; intro a ha
              refine stepp ha 4 (.bool false) KR KR ?_; clear ha a; intro a ha
              refine endl ?_
              refine thenN (hK4120 _ _ ?_); clear hK4120
              refine wp_ret ?_
              refine thenR ?_
              obtain rfl := Option.some.inj h
              exact finv ha _ _ rfl (.tmp (v := .bool false) KR .nil) (.bool false) rfl ⟨rfl, HW.pick [] [] (by decide) (by decide) rfl KR⟩
          · skip
            replace h := ite_neg' h hp4121
            replace ha := ha.bool 70 KR (ieq_f hp4121)
            refine stepo ha 71 KR ?_; clear ha a; intro a ha
            refine stepo ha 72 KR ?_; clear ha a; intro a ha
            refine stepo ha 73 KR ?_; clear ha a; intro a ha
            refine stepp ha 74 (.bool false) KR KR ?_; clear ha a; intro a ha
            refine stepp ha 75 (.bool false) KR KR ?_; clear ha a; intro a ha
            refine stepo ha 76 KR ?_; clear ha a; intro a ha
            refine stepp ha 77 (.bool false) KR KR ?_; clear ha a; intro a ha
            refine stepp ha 4 (.bool false) KR KR ?_; clear ha a; intro a ha
            refine endl ?_
            refine thenN (hK4120 _ _ ?_); clear hK4120
            refine wp_ret ?_
            refine thenR ?_
            obtain rfl := Option.some.inj h
            exact finv ha _ _ rfl (.tmp (v := .bool false) KR .nil) (.bool false) rfl ⟨rfl, HW.pick [] [] (by decide) (by decide) rfl KR⟩
end Go.Proofs.YthjjbkgifelooaaDoor.F
