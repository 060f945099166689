/- headgate/headgatelaw27.NresvChanges: plain functions, and that the calls come to what they say. No condition. -/
import Derived.Test.YthjjbkgifelooaaDoorFT
import Derived.Test.YthjjbkgifelooaaDoorF23
import Derived.Test.YthjjbkgifelooaaDoorF25
import Derived.Test.YthjjbkgifelooaaDoorF26
import Derived.Test.YthjjbkgifelooaaDoorF27
import Derived.Test.YthjjbkgifelooaaDoorF28
import Derived.Test.YthjjbkgifelooaaDoorF30
import Derived.Test.YthjjbkgifelooaaDoorF48
import Derived.Test.YthjjbkgifelooaaDoorF77
namespace Go.Proofs.YthjjbkgifelooaaDoor.F
open Go Go.RowKit Go.Proofs.YthjjbkgifelooaaDoor.X
set_option linter.unusedVariables false
set_option linter.unusedSimpArgs false
/-! ### headgate/headgatelaw27.NresvChanges: function 5 -/
def headgatelaw27_NresvChanges.j0 (K : Nat) (a0 : T_headgatelaw27_Word) (a1 : T_api_Cmd) (x3954 : Bool) : Option Bool :=
  if x3954 = true then ((headgatelaw27_wakes.f K).bind fun t3959 => (some t3959)) else ((nresv_Change.f K a0.f0 a0.f1 a0.f2).bind fun t3965 => ((headgateref27_Change.f K a0.f0 a0.f1 a0.f2).bind fun t3977 => ((nresv_Words.f K a1).bind fun t3989 => ((headgateref27_Words.f K a1).bind fun t3995 => ((headgatekeep_Cmds.f K (⟨t3965.1.f0, t3965.1.f1, t3965.1.f2, t3965.1.f3, t3965.1.f4, t3965.1.f5, t3965.1.f6, t3965.1.f7, t3965.1.f8, t3965.1.f9, t3965.1.f10, t3965.1.f11, t3965.1.f12, t3965.1.f13⟩ : T_api_Cmd) (⟨t3977.1.f0, t3977.1.f1, t3977.1.f2, t3977.1.f3, t3977.1.f4, t3977.1.f5, t3977.1.f6, t3977.1.f7, t3977.1.f8, t3977.1.f9, t3977.1.f10, t3977.1.f11, t3977.1.f12, t3977.1.f13⟩ : T_api_Cmd)).bind fun t4004 => (if t4004 = true then (if t3965.2 = t3977.2 then (if t3989.1 = t3995.1.f0 then (if t3989.2.1 = t3995.1.f1 then (if t3989.2.2.1 = t3995.1.f2 then (if t3989.2.2.2 = t3995.2 then ((nresv_Size.f a0.f0).bind fun t4014 => ((headgateref27_Size.f a0.f0).bind fun t4018 => (if t4014 = t4018 then ((headgatelaw27_wakes.f K).bind fun t4023 => (some t4023)) else (some false)))) else (some false)) else (some false)) else (some false)) else (some false)) else (some false)) else (some false)))))))
def headgatelaw27_NresvChanges.f (K : Nat) (a0 : T_headgatelaw27_Word) (a1 : T_api_Cmd) : Option Bool :=
  if (a0.f2.size : Int) > 1000 then (headgatelaw27_NresvChanges.j0 K a0 a1 true) else ((headgatelaw27_large.f a1).bind fun t3950 => (headgatelaw27_NresvChanges.j0 K a0 a1 t3950))
set_option maxRecDepth 100000 in
set_option maxHeartbeats 4000000 in
theorem headgatelaw27_NresvChanges.calls (K : Nat) (a0 : T_headgatelaw27_Word) (a1 : T_api_Cmd) (A1_0 : Option Addr) (c1_0 : Nat) (r : Bool) (w : World) (hG0 : CA w 0 0 (encs (encI .i64) G_access_lets).toArray) (hG1 : CA w 1 0 (encs T_nresv_action.enc G_nresv_actions).toArray) (hG2 : CA w 2 0 (encs (encI .i64) G_nresv_aptpls).toArray) (hr1_0 : Rd 2 w (.slice A1_0 a1.f7.length c1_0) a1.f7.length (encs T_api_Range.enc a1.f7)) (h : headgatelaw27_NresvChanges.f K a0 a1 = some r) :
    Calls Tryd.prog 5 #[.agg #[.int .i64 a0.f0, .int .u32 a0.f1, .string a0.f2], .agg #[.int .i64 a1.f0, .int .i64 a1.f1, .string a1.f2, .int .i64 a1.f3, .int .i64 a1.f4, .string a1.f5, .bool a1.f6, .slice A1_0 a1.f7.length c1_0, .int .u64 a1.f8, .int .u64 a1.f9, .int .u64 a1.f10, .int .i64 a1.f11, .bool a1.f12, .int .i64 a1.f13]] w (fun e W' => e = .returned (.bool r) ∧ Wd w W' [] [] ) := by
  refine sxstart (n := 99) (l := [(0, .agg #[.int .i64 a0.f0, .int .u32 a0.f1, .string a0.f2]), (1, .agg #[.int .i64 a1.f0, .int .i64 a1.f1, .string a1.f2, .int .i64 a1.f3, .int .i64 a1.f4, .string a1.f5, .bool a1.f6, .slice A1_0 a1.f7.length c1_0, .int .u64 a1.f8, .int .u64 a1.f9, .int .u64 a1.f10, .int .i64 a1.f11, .bool a1.f12, .int .i64 a1.f13])]) Tryd.func5 rfl rfl (Nat.le_of_ble_eq_true KR) (subsA_cons rfl (subsA_cons rfl (subsA_nil _))) ?_
  intro a ha
  have HW := Wd.refl w
  unfold headgatelaw27_NresvChanges.f at h
  refine wp_seq_k (fun K3939 hK3940 => ?_)
  refine wp_region_lit ?_
  refine stepnew ha HW 2 #[.int .i64 a0.f0, .int .u32 a0.f1, .string a0.f2] 46 KR KR ?_; clear ha HW a; intro b3941 a W3942 HW ha
  refine stepnew ha HW 3 #[.int .i64 a1.f0, .int .i64 a1.f1, .string a1.f2, .int .i64 a1.f3, .int .i64 a1.f4, .string a1.f5, .bool a1.f6, .slice A1_0 a1.f7.length c1_0, .int .u64 a1.f8, .int .u64 a1.f9, .int .u64 a1.f10, .int .i64 a1.f11, .bool a1.f12, .int .i64 a1.f13] 49 KR KR ?_; clear ha HW a; intro b3943 a W3944 HW ha
  refine stepp ha 4 (.bool false) KR KR ?_; clear ha a; intro a ha
  refine endl ?_
  refine thenN (hK3940 _ _ ?_); clear hK3940
  refine wp_seq_k (fun K3945 hK3946 => ?_)
  refine wp_seq_k (fun K3947 hK3948 => ?_)
  refine cutn (fun a W3955 => ∃ (x3954 : Bool), headgatelaw27_NresvChanges.j0 K a0 a1 x3954 = some r ∧ Has 99 [(2, .pointer (some ⟨b3941, 0, none⟩)), (3, .pointer (some ⟨b3943, 0, none⟩)), (22, .bool x3954)] a ∧ Wd w W3955 [(b3941, .cells #[.int .i64 a0.f0, .int .u32 a0.f1, .string a0.f2] 46 (0, 0)), (b3943, .cells #[.int .i64 a1.f0, .int .i64 a1.f1, .string a1.f2, .int .i64 a1.f3, .int .i64 a1.f4, .string a1.f5, .bool a1.f6, .slice A1_0 a1.f7.length c1_0, .int .u64 a1.f8, .int .u64 a1.f9, .int .u64 a1.f10, .int .i64 a1.f11, .bool a1.f12, .int .i64 a1.f13] 49 (0, 0))] []) ?_ ?_
  · skip
    refine wp_region_lit ?_
    refine stepp ha 15 (.pointer (some ⟨b3941, 2, none⟩)) KR KR ?_; clear ha a; intro a ha
    refine stepl ha 16 (HW.ca (i := 1) (b := b3941) (C := #[.int .i64 a0.f0, .int .u32 a0.f1, .string a0.f2]) (T := 46) (fr := (0, 0)) KR) 9 2 (.tmp 15) (.string a0.f2) rfl KR KR KR ?_; clear ha a; intro a ha
    refine stepp ha 17 (.int .i64 (a0.f2.size : Int)) KR KR ?_; clear ha a; intro a ha
    refine stepp ha 18 (.bool (decide ((a0.f2.size : Int) > 1000))) KR KR ?_; clear ha a; intro a ha
    refine stepp ha 19 (.bool (decide ((a0.f2.size : Int) > 1000))) KR KR ?_; clear ha a; intro a ha
    by_cases hp3949 : (a0.f2.size : Int) > 1000
    · skip
      replace h := ite_pos' h hp3949
      replace ha := ha.bool 19 KR (decide_eq_true hp3949)
      refine stepo ha 20 KR ?_; clear ha a; intro a ha
      refine stepo ha 21 KR ?_; clear ha a; intro a ha
      refine stepp ha 22 (.bool true) KR KR ?_; clear ha a; intro a ha
      refine endl ?_
      exact thenN ⟨true, h, ha.sub (subs_cons KR (subs_cons KR (subs_cons KR (subs_nil _)))), HW.pick [1, 0] [] (by decide) (by decide) KR KR⟩
    · skip
      replace h := ite_neg' h hp3949
      replace ha := ha.bool 19 KR (decide_eq_false hp3949)
      refine stepl ha 20 (HW.ca (i := 0) (b := b3943) (C := #[.int .i64 a1.f0, .int .i64 a1.f1, .string a1.f2, .int .i64 a1.f3, .int .i64 a1.f4, .string a1.f5, .bool a1.f6, .slice A1_0 a1.f7.length c1_0, .int .u64 a1.f8, .int .u64 a1.f9, .int .u64 a1.f10, .int .i64 a1.f11, .bool a1.f12, .int .i64 a1.f13]) (T := 49) (fr := (0, 0)) KR) 49 0 (.tmp 3) (.agg #[.int .i64 a1.f0, .int .i64 a1.f1, .string a1.f2, .int .i64 a1.f3, .int .i64 a1.f4, .string a1.f5, .bool a1.f6, .slice A1_0 a1.f7.length c1_0, .int .u64 a1.f8, .int .u64 a1.f9, .int .u64 a1.f10, .int .i64 a1.f11, .bool a1.f12, .int .i64 a1.f13]) rfl KR KR KR ?_; clear ha a; intro a ha
      obtain ⟨t3950, ht3951, h_⟩ := bind_some' h; clear h; have h := h_; clear h_
      refine stepc ha 21 KR KR (headgatelaw27_large.calls a1 A1_0 c1_0 t3950 _ ((HW.rd0 hr1_0)) ht3951) ?_; clear ha a; rintro e W3952 ⟨rfl, HX3953⟩
      refine ⟨_, rfl, ?_⟩; intro a ha; replace HW := HW.callw HX3953; clear HX3953
      refine stepp ha 22 (.bool t3950) KR KR ?_; clear ha a; intro a ha
      refine endl ?_
      exact thenN ⟨t3950, h, ha.sub (subs_cons KR (subs_cons KR (subs_cons KR (subs_nil _)))), HW.pick [1, 0] [] (by decide) (by decide) KR KR⟩
  · skip
    intro a W3955 hJ
    obtain ⟨x3954, h, ha, HW⟩ := hJ
    replace h : headgatelaw27_NresvChanges.j0 K a0 a1 x3954 = some r := h
    unfold headgatelaw27_NresvChanges.j0 at h
    refine hK3948 _ _ ?_; clear hK3948
    by_cases hp3956 : x3954 = true
    · skip
      replace h := ite_pos' h hp3956
      refine condT ha KR KR (t := x3954) (hp3956) ?_
      refine wp_seq_k (fun K3957 hK3958 => ?_)
      refine wp_region_lit ?_
      obtain ⟨t3959, ht3960, h_⟩ := bind_some' h; clear h; have h := h_; clear h_
      refine stepc ha 23 KR KR (headgatelaw27_wakes.calls K t3959 _ (HW.ca0 hG0) (HW.ca0 hG1) (HW.ca0 hG2) ht3960) ?_; clear ha a; rintro e W3961 ⟨rfl, HX3962⟩
      refine ⟨_, rfl, ?_⟩; intro a ha; replace HW := HW.callw HX3962; clear HX3962
      refine stepp ha 4 (.bool t3959) KR KR ?_; clear ha a; intro a ha
      refine endl ?_
      refine thenN (hK3958 _ _ ?_); clear hK3958
      refine wp_ret ?_
      refine thenR ?_
      obtain rfl := Option.some.inj h
      exact finv ha _ _ rfl (.tmp (v := .bool t3959) KR .nil) (.bool t3959) rfl ⟨rfl, HW.pick [] [] (by decide) (by decide) rfl KR⟩
    · skip
      replace h := ite_neg' h hp3956
      refine condF ha KR KR (t := x3954) (bool_f hp3956) ?_
      refine wp_skip ?_
      refine thenN (hK3946 _ _ ?_); clear hK3946
      refine wp_seq_k (fun K3963 hK3964 => ?_)
      refine wp_region_lit ?_
      refine stepp ha 25 (.pointer (some ⟨b3941, 0, none⟩)) KR KR ?_; clear ha a; intro a ha
      refine stepl ha 26 (HW.ca (i := 0) (b := b3941) (C := #[.int .i64 a0.f0, .int .u32 a0.f1, .string a0.f2]) (T := 46) (fr := (0, 0)) KR) 3 0 (.tmp 25) (.int .i64 a0.f0) rfl KR KR KR ?_; clear ha a; intro a ha
      refine stepp ha 27 (.pointer (some ⟨b3941, 1, none⟩)) KR KR ?_; clear ha a; intro a ha
      refine stepl ha 28 (HW.ca (i := 0) (b := b3941) (C := #[.int .i64 a0.f0, .int .u32 a0.f1, .string a0.f2]) (T := 46) (fr := (0, 0)) KR) 25 1 (.tmp 27) (.int .u32 a0.f1) rfl KR KR KR ?_; clear ha a; intro a ha
      refine stepp ha 29 (.pointer (some ⟨b3941, 2, none⟩)) KR KR ?_; clear ha a; intro a ha
      refine stepl ha 30 (HW.ca (i := 0) (b := b3941) (C := #[.int .i64 a0.f0, .int .u32 a0.f1, .string a0.f2]) (T := 46) (fr := (0, 0)) KR) 9 2 (.tmp 29) (.string a0.f2) rfl KR KR KR ?_; clear ha a; intro a ha
      obtain ⟨t3965, ht3966, h_⟩ := bind_some' h; clear h; have h := h_; clear h_
      refine stepc ha 31 KR KR (nresv_Change.calls K a0.f0 a0.f1 a0.f2 t3965 _ (HW.ca0 hG1) (HW.ca0 hG2) ht3966) ?_; clear ha a; rintro e W3970 ⟨A3967, c3968, rfl, HX3971⟩
      refine ⟨_, rfl, ?_⟩; intro a ha; replace HW := HW.callw HX3971; clear HX3971
      refine stepp ha 24 (.tuple #[.agg #[.int .i64 t3965.1.f0, .int .i64 t3965.1.f1, .string t3965.1.f2, .int .i64 t3965.1.f3, .int .i64 t3965.1.f4, .string t3965.1.f5, .bool t3965.1.f6, .slice A3967 t3965.1.f7.length c3968, .int .u64 t3965.1.f8, .int .u64 t3965.1.f9, .int .u64 t3965.1.f10, .int .i64 t3965.1.f11, .bool t3965.1.f12, .int .i64 t3965.1.f13], .int .i64 t3965.2]) KR KR ?_; clear ha a; intro a ha
      refine stepp ha 32 (.agg #[.int .i64 t3965.1.f0, .int .i64 t3965.1.f1, .string t3965.1.f2, .int .i64 t3965.1.f3, .int .i64 t3965.1.f4, .string t3965.1.f5, .bool t3965.1.f6, .slice A3967 t3965.1.f7.length c3968, .int .u64 t3965.1.f8, .int .u64 t3965.1.f9, .int .u64 t3965.1.f10, .int .i64 t3965.1.f11, .bool t3965.1.f12, .int .i64 t3965.1.f13]) KR KR ?_; clear ha a; intro a ha
      refine stepp ha 33 (.int .i64 t3965.2) KR KR ?_; clear ha a; intro a ha
      refine stepnew ha HW 5 #[.int .i64 0, .int .i64 0, .string (⟨#[]⟩ : ByteArray), .int .i64 0, .int .i64 0, .string (⟨#[]⟩ : ByteArray), .bool false, .slice none 0 0, .int .u64 0, .int .u64 0, .int .u64 0, .int .i64 0, .bool false, .int .i64 0] 49 KR KR ?_; clear ha HW a; intro b3972 a W3973 HW ha
      refine stepst ha HW 0 (b := b3972) (C := #[.int .i64 0, .int .i64 0, .string (⟨#[]⟩ : ByteArray), .int .i64 0, .int .i64 0, .string (⟨#[]⟩ : ByteArray), .bool false, .slice none 0 0, .int .u64 0, .int .u64 0, .int .u64 0, .int .i64 0, .bool false, .int .i64 0]) (T := 49) KR 49 0 (.tmp 5) (.tmp 32) (.agg #[.int .i64 t3965.1.f0, .int .i64 t3965.1.f1, .string t3965.1.f2, .int .i64 t3965.1.f3, .int .i64 t3965.1.f4, .string t3965.1.f5, .bool t3965.1.f6, .slice A3967 t3965.1.f7.length c3968, .int .u64 t3965.1.f8, .int .u64 t3965.1.f9, .int .u64 t3965.1.f10, .int .i64 t3965.1.f11, .bool t3965.1.f12, .int .i64 t3965.1.f13]) #[.int .i64 t3965.1.f0, .int .i64 t3965.1.f1, .string t3965.1.f2, .int .i64 t3965.1.f3, .int .i64 t3965.1.f4, .string t3965.1.f5, .bool t3965.1.f6, .slice A3967 t3965.1.f7.length c3968, .int .u64 t3965.1.f8, .int .u64 t3965.1.f9, .int .u64 t3965.1.f10, .int .i64 t3965.1.f11, .bool t3965.1.f12, .int .i64 t3965.1.f13] rfl KR KR KR KR KR KR KR ?_; clear ha HW a; intro a W3974 HW ha
      refine stepp ha 6 (.int .i64 t3965.2) KR KR ?_; clear ha a; intro a ha
      refine endl ?_
      refine thenN (hK3964 _ _ ?_); clear hK3964
      refine wp_seq_k (fun K3975 hK3976 => ?_)
      refine wp_region_lit ?_
      refine stepp ha 35 (.pointer (some ⟨b3941, 0, none⟩)) KR KR ?_; clear ha a; intro a ha
      refine stepl ha 36 (HW.ca (i := 1) (b := b3941) (C := #[.int .i64 a0.f0, .int .u32 a0.f1, .string a0.f2]) (T := 46) (fr := (0, 0)) KR) 3 0 (.tmp 35) (.int .i64 a0.f0) rfl KR KR KR ?_; clear ha a; intro a ha
      refine stepp ha 37 (.pointer (some ⟨b3941, 1, none⟩)) KR KR ?_; clear ha a; intro a ha
      refine stepl ha 38 (HW.ca (i := 1) (b := b3941) (C := #[.int .i64 a0.f0, .int .u32 a0.f1, .string a0.f2]) (T := 46) (fr := (0, 0)) KR) 25 1 (.tmp 37) (.int .u32 a0.f1) rfl KR KR KR ?_; clear ha a; intro a ha
      refine stepp ha 39 (.pointer (some ⟨b3941, 2, none⟩)) KR KR ?_; clear ha a; intro a ha
      refine stepl ha 40 (HW.ca (i := 1) (b := b3941) (C := #[.int .i64 a0.f0, .int .u32 a0.f1, .string a0.f2]) (T := 46) (fr := (0, 0)) KR) 9 2 (.tmp 39) (.string a0.f2) rfl KR KR KR ?_; clear ha a; intro a ha
      obtain ⟨t3977, ht3978, h_⟩ := bind_some' h; clear h; have h := h_; clear h_
      refine stepc ha 41 KR KR (headgateref27_Change.calls K a0.f0 a0.f1 a0.f2 t3977 _ ht3978) ?_; clear ha a; rintro e W3982 ⟨A3979, c3980, rfl, HX3983⟩
      refine ⟨_, rfl, ?_⟩; intro a ha; replace HW := HW.callw HX3983; clear HX3983
      refine stepp ha 34 (.tuple #[.agg #[.int .i64 t3977.1.f0, .int .i64 t3977.1.f1, .string t3977.1.f2, .int .i64 t3977.1.f3, .int .i64 t3977.1.f4, .string t3977.1.f5, .bool t3977.1.f6, .slice A3979 t3977.1.f7.length c3980, .int .u64 t3977.1.f8, .int .u64 t3977.1.f9, .int .u64 t3977.1.f10, .int .i64 t3977.1.f11, .bool t3977.1.f12, .int .i64 t3977.1.f13], .int .i64 t3977.2]) KR KR ?_; clear ha a; intro a ha
      refine stepp ha 42 (.agg #[.int .i64 t3977.1.f0, .int .i64 t3977.1.f1, .string t3977.1.f2, .int .i64 t3977.1.f3, .int .i64 t3977.1.f4, .string t3977.1.f5, .bool t3977.1.f6, .slice A3979 t3977.1.f7.length c3980, .int .u64 t3977.1.f8, .int .u64 t3977.1.f9, .int .u64 t3977.1.f10, .int .i64 t3977.1.f11, .bool t3977.1.f12, .int .i64 t3977.1.f13]) KR KR ?_; clear ha a; intro a ha
      refine stepp ha 43 (.int .i64 t3977.2) KR KR ?_; clear ha a; intro a ha
      refine stepnew ha HW 7 #[.int .i64 0, .int .i64 0, .string (⟨#[]⟩ : ByteArray), .int .i64 0, .int .i64 0, .string (⟨#[]⟩ : ByteArray), .bool false, .slice none 0 0, .int .u64 0, .int .u64 0, .int .u64 0, .int .i64 0, .bool false, .int .i64 0] 49 KR KR ?_; clear ha HW a; intro b3984 a W3985 HW ha
      refine stepst ha HW 0 (b := b3984) (C := #[.int .i64 0, .int .i64 0, .string (⟨#[]⟩ : ByteArray), .int .i64 0, .int .i64 0, .string (⟨#[]⟩ : ByteArray), .bool false, .slice none 0 0, .int .u64 0, .int .u64 0, .int .u64 0, .int .i64 0, .bool false, .int .i64 0]) (T := 49) KR 49 0 (.tmp 7) (.tmp 42) (.agg #[.int .i64 t3977.1.f0, .int .i64 t3977.1.f1, .string t3977.1.f2, .int .i64 t3977.1.f3, .int .i64 t3977.1.f4, .string t3977.1.f5, .bool t3977.1.f6, .slice A3979 t3977.1.f7.length c3980, .int .u64 t3977.1.f8, .int .u64 t3977.1.f9, .int .u64 t3977.1.f10, .int .i64 t3977.1.f11, .bool t3977.1.f12, .int .i64 t3977.1.f13]) #[.int .i64 t3977.1.f0, .int .i64 t3977.1.f1, .string t3977.1.f2, .int .i64 t3977.1.f3, .int .i64 t3977.1.f4, .string t3977.1.f5, .bool t3977.1.f6, .slice A3979 t3977.1.f7.length c3980, .int .u64 t3977.1.f8, .int .u64 t3977.1.f9, .int .u64 t3977.1.f10, .int .i64 t3977.1.f11, .bool t3977.1.f12, .int .i64 t3977.1.f13] rfl KR KR KR KR KR KR KR ?_; clear ha HW a; intro a W3986 HW ha
      refine stepp ha 8 (.int .i64 t3977.2) KR KR ?_; clear ha a; intro a ha
      refine endl ?_
      refine thenN (hK3976 _ _ ?_); clear hK3976
      refine wp_seq_k (fun K3987 hK3988 => ?_)
      refine wp_region_lit ?_
      refine stepl ha 45 (HW.ca (i := 3) (b := b3943) (C := #[.int .i64 a1.f0, .int .i64 a1.f1, .string a1.f2, .int .i64 a1.f3, .int .i64 a1.f4, .string a1.f5, .bool a1.f6, .slice A1_0 a1.f7.length c1_0, .int .u64 a1.f8, .int .u64 a1.f9, .int .u64 a1.f10, .int .i64 a1.f11, .bool a1.f12, .int .i64 a1.f13]) (T := 49) (fr := (0, 0)) KR) 49 0 (.tmp 3) (.agg #[.int .i64 a1.f0, .int .i64 a1.f1, .string a1.f2, .int .i64 a1.f3, .int .i64 a1.f4, .string a1.f5, .bool a1.f6, .slice A1_0 a1.f7.length c1_0, .int .u64 a1.f8, .int .u64 a1.f9, .int .u64 a1.f10, .int .i64 a1.f11, .bool a1.f12, .int .i64 a1.f13]) rfl KR KR KR ?_; clear ha a; intro a ha
      obtain ⟨t3989, ht3990, h_⟩ := bind_some' h; clear h; have h := h_; clear h_
      refine stepc ha 46 KR KR (nresv_Words.calls K a1 A1_0 c1_0 t3989 _ (HW.ca0 hG1) (HW.ca0 hG2) ((HW.rd0 hr1_0)) ht3990) ?_; clear ha a; rintro e W3991 ⟨rfl, HX3992⟩
      refine ⟨_, rfl, ?_⟩; intro a ha; replace HW := HW.callw HX3992; clear HX3992
      refine stepp ha 44 (.tuple #[.int .i64 t3989.1, .int .u32 t3989.2.1, .string t3989.2.2.1, .int .i64 t3989.2.2.2]) KR KR ?_; clear ha a; intro a ha
      refine stepp ha 47 (.int .i64 t3989.1) KR KR ?_; clear ha a; intro a ha
      refine stepp ha 48 (.int .u32 t3989.2.1) KR KR ?_; clear ha a; intro a ha
      refine stepp ha 49 (.string t3989.2.2.1) KR KR ?_; clear ha a; intro a ha
      refine stepp ha 50 (.int .i64 t3989.2.2.2) KR KR ?_; clear ha a; intro a ha
      refine stepp ha 9 (.int .i64 t3989.1) KR KR ?_; clear ha a; intro a ha
      refine stepp ha 10 (.int .u32 t3989.2.1) KR KR ?_; clear ha a; intro a ha
      refine stepp ha 11 (.string t3989.2.2.1) KR KR ?_; clear ha a; intro a ha
      refine stepp ha 12 (.int .i64 t3989.2.2.2) KR KR ?_; clear ha a; intro a ha
      refine endl ?_
      refine thenN (hK3988 _ _ ?_); clear hK3988
      refine wp_seq_k (fun K3993 hK3994 => ?_)
      refine wp_region_lit ?_
      refine stepl ha 52 (HW.ca (i := 3) (b := b3943) (C := #[.int .i64 a1.f0, .int .i64 a1.f1, .string a1.f2, .int .i64 a1.f3, .int .i64 a1.f4, .string a1.f5, .bool a1.f6, .slice A1_0 a1.f7.length c1_0, .int .u64 a1.f8, .int .u64 a1.f9, .int .u64 a1.f10, .int .i64 a1.f11, .bool a1.f12, .int .i64 a1.f13]) (T := 49) (fr := (0, 0)) KR) 49 0 (.tmp 3) (.agg #[.int .i64 a1.f0, .int .i64 a1.f1, .string a1.f2, .int .i64 a1.f3, .int .i64 a1.f4, .string a1.f5, .bool a1.f6, .slice A1_0 a1.f7.length c1_0, .int .u64 a1.f8, .int .u64 a1.f9, .int .u64 a1.f10, .int .i64 a1.f11, .bool a1.f12, .int .i64 a1.f13]) rfl KR KR KR ?_; clear ha a; intro a ha
      obtain ⟨t3995, ht3996, h_⟩ := bind_some' h; clear h; have h := h_; clear h_
      refine stepc ha 53 KR KR (headgateref27_Words.calls K a1 A1_0 c1_0 t3995 _ ((HW.rd0 hr1_0)) ht3996) ?_; clear ha a; rintro e W3997 ⟨rfl, HX3998⟩
      refine ⟨_, rfl, ?_⟩; intro a ha; replace HW := HW.callw HX3998; clear HX3998
      refine stepp ha 51 (.tuple #[.agg #[.int .i64 t3995.1.f0, .int .u32 t3995.1.f1, .string t3995.1.f2], .int .i64 t3995.2]) KR KR ?_; clear ha a; intro a ha
      refine stepp ha 54 (.agg #[.int .i64 t3995.1.f0, .int .u32 t3995.1.f1, .string t3995.1.f2]) KR KR ?_; clear ha a; intro a ha
      refine stepp ha 55 (.int .i64 t3995.2) KR KR ?_; clear ha a; intro a ha
      refine stepnew ha HW 13 #[.int .i64 0, .int .u32 0, .string (⟨#[]⟩ : ByteArray)] 57 KR KR ?_; clear ha HW a; intro b3999 a W4000 HW ha
      refine stepst ha HW 0 (b := b3999) (C := #[.int .i64 0, .int .u32 0, .string (⟨#[]⟩ : ByteArray)]) (T := 57) KR 57 0 (.tmp 13) (.tmp 54) (.agg #[.int .i64 t3995.1.f0, .int .u32 t3995.1.f1, .string t3995.1.f2]) #[.int .i64 t3995.1.f0, .int .u32 t3995.1.f1, .string t3995.1.f2] rfl KR KR KR KR KR KR KR ?_; clear ha HW a; intro a W4001 HW ha
      refine stepp ha 14 (.int .i64 t3995.2) KR KR ?_; clear ha a; intro a ha
      refine endl ?_
      refine thenN (hK3994 _ _ ?_); clear hK3994
      refine wp_seq_k (fun K4002 hK4003 => ?_)
      obtain ⟨t4004, ht4005, h_⟩ := bind_some' h; clear h; have h := h_; clear h_
      by_cases hp4008 : t4004 = true
      · skip
        replace h := ite_pos' h hp4008
        by_cases hp4009 : t3965.2 = t3977.2
        · skip
          replace h := ite_pos' h hp4009
          by_cases hp4010 : t3989.1 = t3995.1.f0
          · skip
            replace h := ite_pos' h hp4010
            by_cases hp4011 : t3989.2.1 = t3995.1.f1
            · skip
              replace h := ite_pos' h hp4011
              by_cases hp4012 : t3989.2.2.1 = t3995.1.f2
              · skip
                replace h := ite_pos' h hp4012
                by_cases hp4013 : t3989.2.2.2 = t3995.2
                · skip
                  replace h := ite_pos' h hp4013
                  obtain ⟨t4014, ht4015, h_⟩ := bind_some' h; clear h; have h := h_; clear h_
                  obtain ⟨t4018, ht4019, h_⟩ := bind_some' h; clear h; have h := h_; clear h_
                  by_cases hp4022 : t4014 = t4018
                  · skip
                    replace h := ite_pos' h hp4022
                    obtain ⟨t4023, ht4024, h_⟩ := bind_some' h; clear h; have h := h_; clear h_
                    refine regionG 43 KR KR ha HW [.fix (.agg #[.int .i64 t3965.1.f0, .int .i64 t3965.1.f1, .string t3965.1.f2, .int .i64 t3965.1.f3, .int .i64 t3965.1.f4, .string t3965.1.f5, .bool t3965.1.f6, .slice A3967 t3965.1.f7.length c3968, .int .u64 t3965.1.f8, .int .u64 t3965.1.f9, .int .u64 t3965.1.f10, .int .i64 t3965.1.f11, .bool t3965.1.f12, .int .i64 t3965.1.f13]), .fix (.agg #[.int .i64 t3977.1.f0, .int .i64 t3977.1.f1, .string t3977.1.f2, .int .i64 t3977.1.f3, .int .i64 t3977.1.f4, .string t3977.1.f5, .bool t3977.1.f6, .slice A3979 t3977.1.f7.length c3980, .int .u64 t3977.1.f8, .int .u64 t3977.1.f9, .int .u64 t3977.1.f10, .int .i64 t3977.1.f11, .bool t3977.1.f12, .int .i64 t3977.1.f13]), .fix (.bool t4004), .fix (.bool t4004), .fix (.int .i64 t3965.2), .fix (.int .i64 t3977.2), .fix (.bool (t3965.2 == t3977.2)), .fix (.bool (t3965.2 == t3977.2)), .fix (.bool (t3965.2 == t3977.2)), .fix (.int .i64 t3989.1), .fix (.pointer (some ⟨b3999, 0, none⟩)), .fix (.int .i64 t3995.1.f0), .fix (.bool (t3989.1 == t3995.1.f0)), .fix (.bool (t3989.1 == t3995.1.f0)), .fix (.bool (t3989.1 == t3995.1.f0)), .fix (.int .u32 t3989.2.1), .fix (.pointer (some ⟨b3999, 1, none⟩)), .fix (.int .u32 t3995.1.f1), .fix (.bool (t3989.2.1 == t3995.1.f1)), .fix (.bool (t3989.2.1 == t3995.1.f1)), .fix (.bool (t3989.2.1 == t3995.1.f1)), .fix (.string t3989.2.2.1), .fix (.pointer (some ⟨b3999, 2, none⟩)), .fix (.string t3995.1.f2), .fix (.bool (t3989.2.2.1.toList == t3995.1.f2.toList)), .fix (.bool (t3989.2.2.1.toList == t3995.1.f2.toList)), .fix (.bool (t3989.2.2.1.toList == t3995.1.f2.toList)), .fix (.int .i64 t3989.2.2.2), .fix (.int .i64 t3995.2), .fix (.bool (t3989.2.2.2 == t3995.2)), .fix (.bool (t3989.2.2.2 == t3995.2)), .fix (.bool (t3989.2.2.2 == t3995.2)), .fix (.pointer (some ⟨b3941, 0, none⟩)), .fix (.int .i64 a0.f0), .fix (.int .i64 t4014), .fix (.pointer (some ⟨b3941, 0, none⟩)), .fix (.int .i64 a0.f0), .fix (.int .i64 t4018), .fix (.bool (t4014 == t4018)), .fix (.bool (t4014 == t4018)), .fix (.bool (t4014 == t4018)), .fix (.bool t4023), .fix (.bool t4023)] ?_ ?_
                    · skip
                      refine ⟨?_, ?_, ?_, ?_, ?_, ?_, ?_, ?_, ?_, ?_, ?_, ?_, ?_, ?_, ?_, ?_, ?_, ?_, ?_, ?_, ?_, ?_, ?_, ?_, ?_, ?_, ?_, ?_, ?_, ?_, ?_, ?_, ?_, ?_, ?_, ?_, ?_, ?_, ?_, ?_, ?_, ?_, ?_, trivial⟩
                      · skip
                        intro a wr hn hd HW hs; have ha := hasNil hn hd
                        have ha := ha.add (seeE hs 5 (.pointer (some ⟨b3972, 0, none⟩)) KR KR)
                        refine yStep ha 56 KR ?_; intro l_ ha HK
                        refine stepl ha 56 (HW.ca (i := 2) (b := b3972) (C := #[.int .i64 t3965.1.f0, .int .i64 t3965.1.f1, .string t3965.1.f2, .int .i64 t3965.1.f3, .int .i64 t3965.1.f4, .string t3965.1.f5, .bool t3965.1.f6, .slice A3967 t3965.1.f7.length c3968, .int .u64 t3965.1.f8, .int .u64 t3965.1.f9, .int .u64 t3965.1.f10, .int .i64 t3965.1.f11, .bool t3965.1.f12, .int .i64 t3965.1.f13]) (T := 49) (fr := (0, 0)) KR) 49 0 (.tmp 5) (.agg #[.int .i64 t3965.1.f0, .int .i64 t3965.1.f1, .string t3965.1.f2, .int .i64 t3965.1.f3, .int .i64 t3965.1.f4, .string t3965.1.f5, .bool t3965.1.f6, .slice A3967 t3965.1.f7.length c3968, .int .u64 t3965.1.f8, .int .u64 t3965.1.f9, .int .u64 t3965.1.f10, .int .i64 t3965.1.f11, .bool t3965.1.f12, .int .i64 t3965.1.f13]) rfl KR KR KR ?_; intro ax hax; exact HK _ _ _ hax rfl (Below.refl _ _)
                      · skip
                        intro a wr hn hd HW hs; have ha := hasNil hn hd
                        have ha := ha.add (seeE hs 7 (.pointer (some ⟨b3984, 0, none⟩)) KR KR)
                        refine yStep ha 57 KR ?_; intro l_ ha HK
                        refine stepl ha 57 (HW.ca (i := 1) (b := b3984) (C := #[.int .i64 t3977.1.f0, .int .i64 t3977.1.f1, .string t3977.1.f2, .int .i64 t3977.1.f3, .int .i64 t3977.1.f4, .string t3977.1.f5, .bool t3977.1.f6, .slice A3979 t3977.1.f7.length c3980, .int .u64 t3977.1.f8, .int .u64 t3977.1.f9, .int .u64 t3977.1.f10, .int .i64 t3977.1.f11, .bool t3977.1.f12, .int .i64 t3977.1.f13]) (T := 49) (fr := (0, 0)) KR) 49 0 (.tmp 7) (.agg #[.int .i64 t3977.1.f0, .int .i64 t3977.1.f1, .string t3977.1.f2, .int .i64 t3977.1.f3, .int .i64 t3977.1.f4, .string t3977.1.f5, .bool t3977.1.f6, .slice A3979 t3977.1.f7.length c3980, .int .u64 t3977.1.f8, .int .u64 t3977.1.f9, .int .u64 t3977.1.f10, .int .i64 t3977.1.f11, .bool t3977.1.f12, .int .i64 t3977.1.f13]) rfl KR KR KR ?_; intro ax hax; exact HK _ _ _ hax rfl (Below.refl _ _)
                      · skip
                        intro a wr hn hd HW hs; have ha := hasNil hn hd
                        have ha := ha.add (seeF hs 56 0 (.agg #[.int .i64 t3965.1.f0, .int .i64 t3965.1.f1, .string t3965.1.f2, .int .i64 t3965.1.f3, .int .i64 t3965.1.f4, .string t3965.1.f5, .bool t3965.1.f6, .slice A3967 t3965.1.f7.length c3968, .int .u64 t3965.1.f8, .int .u64 t3965.1.f9, .int .u64 t3965.1.f10, .int .i64 t3965.1.f11, .bool t3965.1.f12, .int .i64 t3965.1.f13]) KR KR)
                        have ha := ha.add (seeF hs 57 1 (.agg #[.int .i64 t3977.1.f0, .int .i64 t3977.1.f1, .string t3977.1.f2, .int .i64 t3977.1.f3, .int .i64 t3977.1.f4, .string t3977.1.f5, .bool t3977.1.f6, .slice A3979 t3977.1.f7.length c3980, .int .u64 t3977.1.f8, .int .u64 t3977.1.f9, .int .u64 t3977.1.f10, .int .i64 t3977.1.f11, .bool t3977.1.f12, .int .i64 t3977.1.f13]) KR KR)
                        refine yStep ha 58 KR ?_; intro l_ ha HK
                        refine stepc ha 58 KR KR (headgatekeep_Cmds.calls K (⟨t3965.1.f0, t3965.1.f1, t3965.1.f2, t3965.1.f3, t3965.1.f4, t3965.1.f5, t3965.1.f6, t3965.1.f7, t3965.1.f8, t3965.1.f9, t3965.1.f10, t3965.1.f11, t3965.1.f12, t3965.1.f13⟩ : T_api_Cmd) (⟨t3977.1.f0, t3977.1.f1, t3977.1.f2, t3977.1.f3, t3977.1.f4, t3977.1.f5, t3977.1.f6, t3977.1.f7, t3977.1.f8, t3977.1.f9, t3977.1.f10, t3977.1.f11, t3977.1.f12, t3977.1.f13⟩ : T_api_Cmd) A3967 c3968 A3979 c3980 t4004 _ (HW.rdo (i := 1) (q := ⟨128, 2, .slice A3967 t3965.1.f7.length c3968, t3965.1.f7.length, encs T_api_Range.enc t3965.1.f7⟩) KR) (HW.rdo (i := 0) (q := ⟨128, 2, .slice A3979 t3977.1.f7.length c3980, t3977.1.f7.length, encs T_api_Range.enc t3977.1.f7⟩) KR) ht4005) ?_; rintro e W4006 ⟨rfl, HX4007⟩
                        refine ⟨_, rfl, ?_⟩; intro ax hax; exact HK _ _ _ hax rfl HX4007.below
                      · skip
                        intro a wr hn hd HW hs; have ha := hasNil hn hd
                        have ha := ha.add (seeF hs 58 2 (.bool t4004) KR KR)
                        refine yStep ha 59 KR ?_; intro l_ ha HK
                        refine stepp ha 59 (.bool t4004) KR KR ?_; intro ax hax; exact HK _ _ _ hax rfl (Below.refl _ _)
                      · skip
                        intro a wr hn hd HW hs; have ha := hasNil hn hd
                        have ha := ha.add (seeE hs 6 (.int .i64 t3965.2) KR KR)
                        have ha := ha.add (seeF hs 59 3 (.bool t4004) KR KR)
                        have ha := ha.bool 59 KR (hp4008)
                        refine yStep ha 60 KR ?_; intro l_ ha HK
                        refine stepp ha 60 (.int .i64 t3965.2) KR KR ?_; intro ax hax; exact HK _ _ _ hax rfl (Below.refl _ _)
                      · skip
                        intro a wr hn hd HW hs; have ha := hasNil hn hd
                        have ha := ha.add (seeE hs 8 (.int .i64 t3977.2) KR KR)
                        have ha := ha.add (seeF hs 59 3 (.bool t4004) KR KR)
                        have ha := ha.bool 59 KR (hp4008)
                        refine yStep ha 61 KR ?_; intro l_ ha HK
                        refine stepp ha 61 (.int .i64 t3977.2) KR KR ?_; intro ax hax; exact HK _ _ _ hax rfl (Below.refl _ _)
                      · skip
                        intro a wr hn hd HW hs; have ha := hasNil hn hd
                        have ha := ha.add (seeF hs 60 4 (.int .i64 t3965.2) KR KR)
                        have ha := ha.add (seeF hs 61 5 (.int .i64 t3977.2) KR KR)
                        have ha := ha.add (seeF hs 59 3 (.bool t4004) KR KR)
                        have ha := ha.bool 59 KR (hp4008)
                        refine yStep ha 62 KR ?_; intro l_ ha HK
                        refine stepp ha 62 (.bool (t3965.2 == t3977.2)) KR KR ?_; intro ax hax; exact HK _ _ _ hax rfl (Below.refl _ _)
                      · skip
                        intro a wr hn hd HW hs; have ha := hasNil hn hd
                        have ha := ha.add (seeF hs 59 3 (.bool t4004) KR KR)
                        have ha := ha.bool 59 KR (hp4008)
                        have ha := ha.add (seeF hs 62 6 (.bool (t3965.2 == t3977.2)) KR KR)
                        refine yStep ha 63 KR ?_; intro l_ ha HK
                        refine stepp ha 63 (.bool (t3965.2 == t3977.2)) KR KR ?_; intro ax hax; exact HK _ _ _ hax rfl (Below.refl _ _)
                      · skip
                        intro a wr hn hd HW hs; have ha := hasNil hn hd
                        have ha := ha.add (seeF hs 63 7 (.bool (t3965.2 == t3977.2)) KR KR)
                        refine yStep ha 64 KR ?_; intro l_ ha HK
                        refine stepp ha 64 (.bool (t3965.2 == t3977.2)) KR KR ?_; intro ax hax; exact HK _ _ _ hax rfl (Below.refl _ _)
                      · skip
                        intro a wr hn hd HW hs; have ha := hasNil hn hd
                        have ha := ha.add (seeE hs 9 (.int .i64 t3989.1) KR KR)
                        have ha := ha.add (seeF hs 64 8 (.bool (t3965.2 == t3977.2)) KR KR)
                        have ha := ha.bool 64 KR (ieq_t hp4009)
                        refine yStep ha 65 KR ?_; intro l_ ha HK
                        refine stepp ha 65 (.int .i64 t3989.1) KR KR ?_; intro ax hax; exact HK _ _ _ hax rfl (Below.refl _ _)
                      · skip
                        intro a wr hn hd HW hs; have ha := hasNil hn hd
                        have ha := ha.add (seeE hs 13 (.pointer (some ⟨b3999, 0, none⟩)) KR KR)
                        have ha := ha.add (seeF hs 64 8 (.bool (t3965.2 == t3977.2)) KR KR)
                        have ha := ha.bool 64 KR (ieq_t hp4009)
                        refine yStep ha 66 KR ?_; intro l_ ha HK
                        refine stepp ha 66 (.pointer (some ⟨b3999, 0, none⟩)) KR KR ?_; intro ax hax; exact HK _ _ _ hax rfl (Below.refl _ _)
                      · skip
                        intro a wr hn hd HW hs; have ha := hasNil hn hd
                        have ha := ha.add (seeF hs 66 10 (.pointer (some ⟨b3999, 0, none⟩)) KR KR)
                        have ha := ha.add (seeF hs 64 8 (.bool (t3965.2 == t3977.2)) KR KR)
                        have ha := ha.bool 64 KR (ieq_t hp4009)
                        refine yStep ha 67 KR ?_; intro l_ ha HK
                        refine stepl ha 67 (HW.ca (i := 0) (b := b3999) (C := #[.int .i64 t3995.1.f0, .int .u32 t3995.1.f1, .string t3995.1.f2]) (T := 57) (fr := (0, 0)) KR) 3 0 (.tmp 66) (.int .i64 t3995.1.f0) rfl KR KR KR ?_; intro ax hax; exact HK _ _ _ hax rfl (Below.refl _ _)
                      · skip
                        intro a wr hn hd HW hs; have ha := hasNil hn hd
                        have ha := ha.add (seeF hs 65 9 (.int .i64 t3989.1) KR KR)
                        have ha := ha.add (seeF hs 67 11 (.int .i64 t3995.1.f0) KR KR)
                        have ha := ha.add (seeF hs 64 8 (.bool (t3965.2 == t3977.2)) KR KR)
                        have ha := ha.bool 64 KR (ieq_t hp4009)
                        refine yStep ha 68 KR ?_; intro l_ ha HK
                        refine stepp ha 68 (.bool (t3989.1 == t3995.1.f0)) KR KR ?_; intro ax hax; exact HK _ _ _ hax rfl (Below.refl _ _)
                      · skip
                        intro a wr hn hd HW hs; have ha := hasNil hn hd
                        have ha := ha.add (seeF hs 64 8 (.bool (t3965.2 == t3977.2)) KR KR)
                        have ha := ha.bool 64 KR (ieq_t hp4009)
                        have ha := ha.add (seeF hs 68 12 (.bool (t3989.1 == t3995.1.f0)) KR KR)
                        refine yStep ha 69 KR ?_; intro l_ ha HK
                        refine stepp ha 69 (.bool (t3989.1 == t3995.1.f0)) KR KR ?_; intro ax hax; exact HK _ _ _ hax rfl (Below.refl _ _)
                      · skip
                        intro a wr hn hd HW hs; have ha := hasNil hn hd
                        have ha := ha.add (seeF hs 69 13 (.bool (t3989.1 == t3995.1.f0)) KR KR)
                        refine yStep ha 70 KR ?_; intro l_ ha HK
                        refine stepp ha 70 (.bool (t3989.1 == t3995.1.f0)) KR KR ?_; intro ax hax; exact HK _ _ _ hax rfl (Below.refl _ _)
                      · skip
                        intro a wr hn hd HW hs; have ha := hasNil hn hd
                        have ha := ha.add (seeE hs 10 (.int .u32 t3989.2.1) KR KR)
                        have ha := ha.add (seeF hs 70 14 (.bool (t3989.1 == t3995.1.f0)) KR KR)
                        have ha := ha.bool 70 KR (ieq_t hp4010)
                        refine yStep ha 71 KR ?_; intro l_ ha HK
                        refine stepp ha 71 (.int .u32 t3989.2.1) KR KR ?_; intro ax hax; exact HK _ _ _ hax rfl (Below.refl _ _)
                      · skip
                        intro a wr hn hd HW hs; have ha := hasNil hn hd
                        have ha := ha.add (seeE hs 13 (.pointer (some ⟨b3999, 0, none⟩)) KR KR)
                        have ha := ha.add (seeF hs 70 14 (.bool (t3989.1 == t3995.1.f0)) KR KR)
                        have ha := ha.bool 70 KR (ieq_t hp4010)
                        refine yStep ha 72 KR ?_; intro l_ ha HK
                        refine stepp ha 72 (.pointer (some ⟨b3999, 1, none⟩)) KR KR ?_; intro ax hax; exact HK _ _ _ hax rfl (Below.refl _ _)
                      · skip
                        intro a wr hn hd HW hs; have ha := hasNil hn hd
                        have ha := ha.add (seeF hs 72 16 (.pointer (some ⟨b3999, 1, none⟩)) KR KR)
                        have ha := ha.add (seeF hs 70 14 (.bool (t3989.1 == t3995.1.f0)) KR KR)
                        have ha := ha.bool 70 KR (ieq_t hp4010)
                        refine yStep ha 73 KR ?_; intro l_ ha HK
                        refine stepl ha 73 (HW.ca (i := 0) (b := b3999) (C := #[.int .i64 t3995.1.f0, .int .u32 t3995.1.f1, .string t3995.1.f2]) (T := 57) (fr := (0, 0)) KR) 25 1 (.tmp 72) (.int .u32 t3995.1.f1) rfl KR KR KR ?_; intro ax hax; exact HK _ _ _ hax rfl (Below.refl _ _)
                      · skip
                        intro a wr hn hd HW hs; have ha := hasNil hn hd
                        have ha := ha.add (seeF hs 71 15 (.int .u32 t3989.2.1) KR KR)
                        have ha := ha.add (seeF hs 73 17 (.int .u32 t3995.1.f1) KR KR)
                        have ha := ha.add (seeF hs 70 14 (.bool (t3989.1 == t3995.1.f0)) KR KR)
                        have ha := ha.bool 70 KR (ieq_t hp4010)
                        refine yStep ha 74 KR ?_; intro l_ ha HK
                        refine stepp ha 74 (.bool (t3989.2.1 == t3995.1.f1)) KR KR ?_; intro ax hax; exact HK _ _ _ hax rfl (Below.refl _ _)
                      · skip
                        intro a wr hn hd HW hs; have ha := hasNil hn hd
                        have ha := ha.add (seeF hs 70 14 (.bool (t3989.1 == t3995.1.f0)) KR KR)
                        have ha := ha.bool 70 KR (ieq_t hp4010)
                        have ha := ha.add (seeF hs 74 18 (.bool (t3989.2.1 == t3995.1.f1)) KR KR)
                        refine yStep ha 75 KR ?_; intro l_ ha HK
                        refine stepp ha 75 (.bool (t3989.2.1 == t3995.1.f1)) KR KR ?_; intro ax hax; exact HK _ _ _ hax rfl (Below.refl _ _)
                      · skip
                        intro a wr hn hd HW hs; have ha := hasNil hn hd
                        have ha := ha.add (seeF hs 75 19 (.bool (t3989.2.1 == t3995.1.f1)) KR KR)
                        refine yStep ha 76 KR ?_; intro l_ ha HK
                        refine stepp ha 76 (.bool (t3989.2.1 == t3995.1.f1)) KR KR ?_; intro ax hax; exact HK _ _ _ hax rfl (Below.refl _ _)
                      · skip
                        intro a wr hn hd HW hs; have ha := hasNil hn hd
                        have ha := ha.add (seeE hs 11 (.string t3989.2.2.1) KR KR)
                        have ha := ha.add (seeF hs 76 20 (.bool (t3989.2.1 == t3995.1.f1)) KR KR)
                        have ha := ha.bool 76 KR (ieq_t hp4011)
                        refine yStep ha 77 KR ?_; intro l_ ha HK
                        refine stepp ha 77 (.string t3989.2.2.1) KR KR ?_; intro ax hax; exact HK _ _ _ hax rfl (Below.refl _ _)
                      · skip
                        intro a wr hn hd HW hs; have ha := hasNil hn hd
                        have ha := ha.add (seeE hs 13 (.pointer (some ⟨b3999, 0, none⟩)) KR KR)
                        have ha := ha.add (seeF hs 76 20 (.bool (t3989.2.1 == t3995.1.f1)) KR KR)
                        have ha := ha.bool 76 KR (ieq_t hp4011)
                        refine yStep ha 78 KR ?_; intro l_ ha HK
                        refine stepp ha 78 (.pointer (some ⟨b3999, 2, none⟩)) KR KR ?_; intro ax hax; exact HK _ _ _ hax rfl (Below.refl _ _)
                      · skip
                        intro a wr hn hd HW hs; have ha := hasNil hn hd
                        have ha := ha.add (seeF hs 78 22 (.pointer (some ⟨b3999, 2, none⟩)) KR KR)
                        have ha := ha.add (seeF hs 76 20 (.bool (t3989.2.1 == t3995.1.f1)) KR KR)
                        have ha := ha.bool 76 KR (ieq_t hp4011)
                        refine yStep ha 79 KR ?_; intro l_ ha HK
                        refine stepl ha 79 (HW.ca (i := 0) (b := b3999) (C := #[.int .i64 t3995.1.f0, .int .u32 t3995.1.f1, .string t3995.1.f2]) (T := 57) (fr := (0, 0)) KR) 9 2 (.tmp 78) (.string t3995.1.f2) rfl KR KR KR ?_; intro ax hax; exact HK _ _ _ hax rfl (Below.refl _ _)
                      · skip
                        intro a wr hn hd HW hs; have ha := hasNil hn hd
                        have ha := ha.add (seeF hs 77 21 (.string t3989.2.2.1) KR KR)
                        have ha := ha.add (seeF hs 79 23 (.string t3995.1.f2) KR KR)
                        have ha := ha.add (seeF hs 76 20 (.bool (t3989.2.1 == t3995.1.f1)) KR KR)
                        have ha := ha.bool 76 KR (ieq_t hp4011)
                        refine yStep ha 80 KR ?_; intro l_ ha HK
                        refine stepp ha 80 (.bool (t3989.2.2.1.toList == t3995.1.f2.toList)) KR KR ?_; intro ax hax; exact HK _ _ _ hax rfl (Below.refl _ _)
                      · skip
                        intro a wr hn hd HW hs; have ha := hasNil hn hd
                        have ha := ha.add (seeF hs 76 20 (.bool (t3989.2.1 == t3995.1.f1)) KR KR)
                        have ha := ha.bool 76 KR (ieq_t hp4011)
                        have ha := ha.add (seeF hs 80 24 (.bool (t3989.2.2.1.toList == t3995.1.f2.toList)) KR KR)
                        refine yStep ha 81 KR ?_; intro l_ ha HK
                        refine stepp ha 81 (.bool (t3989.2.2.1.toList == t3995.1.f2.toList)) KR KR ?_; intro ax hax; exact HK _ _ _ hax rfl (Below.refl _ _)
                      · skip
                        intro a wr hn hd HW hs; have ha := hasNil hn hd
                        have ha := ha.add (seeF hs 81 25 (.bool (t3989.2.2.1.toList == t3995.1.f2.toList)) KR KR)
                        refine yStep ha 82 KR ?_; intro l_ ha HK
                        refine stepp ha 82 (.bool (t3989.2.2.1.toList == t3995.1.f2.toList)) KR KR ?_; intro ax hax; exact HK _ _ _ hax rfl (Below.refl _ _)
                      · skip
                        intro a wr hn hd HW hs; have ha := hasNil hn hd
                        have ha := ha.add (seeE hs 12 (.int .i64 t3989.2.2.2) KR KR)
                        have ha := ha.add (seeF hs 82 26 (.bool (t3989.2.2.1.toList == t3995.1.f2.toList)) KR KR)
                        have ha := ha.bool 82 KR (str_eq_t hp4012)
                        refine yStep ha 83 KR ?_; intro l_ ha HK
                        refine stepp ha 83 (.int .i64 t3989.2.2.2) KR KR ?_; intro ax hax; exact HK _ _ _ hax rfl (Below.refl _ _)
                      · skip
                        intro a wr hn hd HW hs; have ha := hasNil hn hd
                        have ha := ha.add (seeE hs 14 (.int .i64 t3995.2) KR KR)
                        have ha := ha.add (seeF hs 82 26 (.bool (t3989.2.2.1.toList == t3995.1.f2.toList)) KR KR)
                        have ha := ha.bool 82 KR (str_eq_t hp4012)
                        refine yStep ha 84 KR ?_; intro l_ ha HK
                        refine stepp ha 84 (.int .i64 t3995.2) KR KR ?_; intro ax hax; exact HK _ _ _ hax rfl (Below.refl _ _)
                      · skip
                        intro a wr hn hd HW hs; have ha := hasNil hn hd
                        have ha := ha.add (seeF hs 83 27 (.int .i64 t3989.2.2.2) KR KR)
                        have ha := ha.add (seeF hs 84 28 (.int .i64 t3995.2) KR KR)
                        have ha := ha.add (seeF hs 82 26 (.bool (t3989.2.2.1.toList == t3995.1.f2.toList)) KR KR)
                        have ha := ha.bool 82 KR (str_eq_t hp4012)
                        refine yStep ha 85 KR ?_; intro l_ ha HK
                        refine stepp ha 85 (.bool (t3989.2.2.2 == t3995.2)) KR KR ?_; intro ax hax; exact HK _ _ _ hax rfl (Below.refl _ _)
                      · skip
                        intro a wr hn hd HW hs; have ha := hasNil hn hd
                        have ha := ha.add (seeF hs 82 26 (.bool (t3989.2.2.1.toList == t3995.1.f2.toList)) KR KR)
                        have ha := ha.bool 82 KR (str_eq_t hp4012)
                        have ha := ha.add (seeF hs 85 29 (.bool (t3989.2.2.2 == t3995.2)) KR KR)
                        refine yStep ha 86 KR ?_; intro l_ ha HK
                        refine stepp ha 86 (.bool (t3989.2.2.2 == t3995.2)) KR KR ?_; intro ax hax; exact HK _ _ _ hax rfl (Below.refl _ _)
                      · skip
                        intro a wr hn hd HW hs; have ha := hasNil hn hd
                        have ha := ha.add (seeF hs 86 30 (.bool (t3989.2.2.2 == t3995.2)) KR KR)
                        refine yStep ha 87 KR ?_; intro l_ ha HK
                        refine stepp ha 87 (.bool (t3989.2.2.2 == t3995.2)) KR KR ?_; intro ax hax; exact HK _ _ _ hax rfl (Below.refl _ _)
                      · skip
                        intro a wr hn hd HW hs; have ha := hasNil hn hd
                        have ha := ha.add (seeE hs 2 (.pointer (some ⟨b3941, 0, none⟩)) KR KR)
                        have ha := ha.add (seeF hs 87 31 (.bool (t3989.2.2.2 == t3995.2)) KR KR)
                        have ha := ha.bool 87 KR (ieq_t hp4013)
                        refine yStep ha 88 KR ?_; intro l_ ha HK
                        refine stepp ha 88 (.pointer (some ⟨b3941, 0, none⟩)) KR KR ?_; intro ax hax; exact HK _ _ _ hax rfl (Below.refl _ _)
                      · skip
                        intro a wr hn hd HW hs; have ha := hasNil hn hd
                        have ha := ha.add (seeF hs 88 32 (.pointer (some ⟨b3941, 0, none⟩)) KR KR)
                        have ha := ha.add (seeF hs 87 31 (.bool (t3989.2.2.2 == t3995.2)) KR KR)
                        have ha := ha.bool 87 KR (ieq_t hp4013)
                        refine yStep ha 89 KR ?_; intro l_ ha HK
                        refine stepl ha 89 (HW.ca (i := 3) (b := b3941) (C := #[.int .i64 a0.f0, .int .u32 a0.f1, .string a0.f2]) (T := 46) (fr := (0, 0)) KR) 3 0 (.tmp 88) (.int .i64 a0.f0) rfl KR KR KR ?_; intro ax hax; exact HK _ _ _ hax rfl (Below.refl _ _)
                      · skip
                        intro a wr hn hd HW hs; have ha := hasNil hn hd
                        have ha := ha.add (seeF hs 89 33 (.int .i64 a0.f0) KR KR)
                        have ha := ha.add (seeF hs 87 31 (.bool (t3989.2.2.2 == t3995.2)) KR KR)
                        have ha := ha.bool 87 KR (ieq_t hp4013)
                        refine yStep ha 90 KR ?_; intro l_ ha HK
                        refine stepc ha 90 KR KR (nresv_Size.calls a0.f0 t4014 _ ht4015) ?_; rintro e W4016 ⟨rfl, HX4017⟩
                        refine ⟨_, rfl, ?_⟩; intro ax hax; exact HK _ _ _ hax rfl HX4017.below
                      · skip
                        intro a wr hn hd HW hs; have ha := hasNil hn hd
                        have ha := ha.add (seeE hs 2 (.pointer (some ⟨b3941, 0, none⟩)) KR KR)
                        have ha := ha.add (seeF hs 87 31 (.bool (t3989.2.2.2 == t3995.2)) KR KR)
                        have ha := ha.bool 87 KR (ieq_t hp4013)
                        refine yStep ha 91 KR ?_; intro l_ ha HK
                        refine stepp ha 91 (.pointer (some ⟨b3941, 0, none⟩)) KR KR ?_; intro ax hax; exact HK _ _ _ hax rfl (Below.refl _ _)
                      · skip
                        intro a wr hn hd HW hs; have ha := hasNil hn hd
                        have ha := ha.add (seeF hs 91 35 (.pointer (some ⟨b3941, 0, none⟩)) KR KR)
                        have ha := ha.add (seeF hs 87 31 (.bool (t3989.2.2.2 == t3995.2)) KR KR)
                        have ha := ha.bool 87 KR (ieq_t hp4013)
                        refine yStep ha 92 KR ?_; intro l_ ha HK
                        refine stepl ha 92 (HW.ca (i := 3) (b := b3941) (C := #[.int .i64 a0.f0, .int .u32 a0.f1, .string a0.f2]) (T := 46) (fr := (0, 0)) KR) 3 0 (.tmp 91) (.int .i64 a0.f0) rfl KR KR KR ?_; intro ax hax; exact HK _ _ _ hax rfl (Below.refl _ _)
                      · skip
                        intro a wr hn hd HW hs; have ha := hasNil hn hd
                        have ha := ha.add (seeF hs 92 36 (.int .i64 a0.f0) KR KR)
                        have ha := ha.add (seeF hs 87 31 (.bool (t3989.2.2.2 == t3995.2)) KR KR)
                        have ha := ha.bool 87 KR (ieq_t hp4013)
                        refine yStep ha 93 KR ?_; intro l_ ha HK
                        refine stepc ha 93 KR KR (headgateref27_Size.calls a0.f0 t4018 _ ht4019) ?_; rintro e W4020 ⟨rfl, HX4021⟩
                        refine ⟨_, rfl, ?_⟩; intro ax hax; exact HK _ _ _ hax rfl HX4021.below
                      · skip
                        intro a wr hn hd HW hs; have ha := hasNil hn hd
                        have ha := ha.add (seeF hs 90 34 (.int .i64 t4014) KR KR)
                        have ha := ha.add (seeF hs 93 37 (.int .i64 t4018) KR KR)
                        have ha := ha.add (seeF hs 87 31 (.bool (t3989.2.2.2 == t3995.2)) KR KR)
                        have ha := ha.bool 87 KR (ieq_t hp4013)
                        refine yStep ha 94 KR ?_; intro l_ ha HK
                        refine stepp ha 94 (.bool (t4014 == t4018)) KR KR ?_; intro ax hax; exact HK _ _ _ hax rfl (Below.refl _ _)
                      · skip
                        intro a wr hn hd HW hs; have ha := hasNil hn hd
                        have ha := ha.add (seeF hs 87 31 (.bool (t3989.2.2.2 == t3995.2)) KR KR)
                        have ha := ha.bool 87 KR (ieq_t hp4013)
                        have ha := ha.add (seeF hs 94 38 (.bool (t4014 == t4018)) KR KR)
                        refine yStep ha 95 KR ?_; intro l_ ha HK
                        refine stepp ha 95 (.bool (t4014 == t4018)) KR KR ?_; intro ax hax; exact HK _ _ _ hax rfl (Below.refl _ _)
                      · skip
                        intro a wr hn hd HW hs; have ha := hasNil hn hd
                        have ha := ha.add (seeF hs 95 39 (.bool (t4014 == t4018)) KR KR)
                        refine yStep ha 96 KR ?_; intro l_ ha HK
                        refine stepp ha 96 (.bool (t4014 == t4018)) KR KR ?_; intro ax hax; exact HK _ _ _ hax rfl (Below.refl _ _)
                      · skip
                        intro a wr hn hd HW hs; have ha := hasNil hn hd
                        have ha := ha.add (seeF hs 96 40 (.bool (t4014 == t4018)) KR KR)
                        have ha := ha.bool 96 KR (ieq_t hp4022)
                        refine yStep ha 97 KR ?_; intro l_ ha HK
                        refine stepc ha 97 KR KR (headgatelaw27_wakes.calls K t4023 _ (HW.ca0 hG0) (HW.ca0 hG1) (HW.ca0 hG2) ht4024) ?_; rintro e W4025 ⟨rfl, HX4026⟩
                        refine ⟨_, rfl, ?_⟩; intro ax hax; exact HK _ _ _ hax rfl HX4026.below
                      · skip
                        intro a wr hn hd HW hs; have ha := hasNil hn hd
                        have ha := ha.add (seeF hs 96 40 (.bool (t4014 == t4018)) KR KR)
                        have ha := ha.bool 96 KR (ieq_t hp4022)
                        have ha := ha.add (seeF hs 97 41 (.bool t4023) KR KR)
                        refine yStep ha 98 KR ?_; intro l_ ha HK
                        refine stepp ha 98 (.bool t4023) KR KR ?_; intro ax hax; exact HK _ _ _ hax rfl (Below.refl _ _)
                    · skip
                      intro a W4027 ha HW he hf
                      replace ha := ha.add (gotF (m := 43) (j := 42) (d := 98) (v := .bool t4023) hf KR KR KR)
                      clear he hf
                      refine stepp ha 4 (.bool t4023) KR KR ?_; clear ha a; intro a ha
                      refine endl ?_
                      refine thenN (hK4003 _ _ ?_); clear hK4003
                      refine wp_ret ?_
                      obtain rfl := Option.some.inj h
                      exact finv ha _ _ rfl (.tmp (v := .bool t4023) KR .nil) (.bool t4023) rfl ⟨rfl, HW.pick [] [] (by decide) (by decide) rfl KR⟩
                  · skip
                    replace h := ite_neg' h hp4022
                    refine regionG 43 KR KR ha HW [.fix (.agg #[.int .i64 t3965.1.f0, .int .i64 t3965.1.f1, .string t3965.1.f2, .int .i64 t3965.1.f3, .int .i64 t3965.1.f4, .string t3965.1.f5, .bool t3965.1.f6, .slice A3967 t3965.1.f7.length c3968, .int .u64 t3965.1.f8, .int .u64 t3965.1.f9, .int .u64 t3965.1.f10, .int .i64 t3965.1.f11, .bool t3965.1.f12, .int .i64 t3965.1.f13]), .fix (.agg #[.int .i64 t3977.1.f0, .int .i64 t3977.1.f1, .string t3977.1.f2, .int .i64 t3977.1.f3, .int .i64 t3977.1.f4, .string t3977.1.f5, .bool t3977.1.f6, .slice A3979 t3977.1.f7.length c3980, .int .u64 t3977.1.f8, .int .u64 t3977.1.f9, .int .u64 t3977.1.f10, .int .i64 t3977.1.f11, .bool t3977.1.f12, .int .i64 t3977.1.f13]), .fix (.bool t4004), .fix (.bool t4004), .fix (.int .i64 t3965.2), .fix (.int .i64 t3977.2), .fix (.bool (t3965.2 == t3977.2)), .fix (.bool (t3965.2 == t3977.2)), .fix (.bool (t3965.2 == t3977.2)), .fix (.int .i64 t3989.1), .fix (.pointer (some ⟨b3999, 0, none⟩)), .fix (.int .i64 t3995.1.f0), .fix (.bool (t3989.1 == t3995.1.f0)), .fix (.bool (t3989.1 == t3995.1.f0)), .fix (.bool (t3989.1 == t3995.1.f0)), .fix (.int .u32 t3989.2.1), .fix (.pointer (some ⟨b3999, 1, none⟩)), .fix (.int .u32 t3995.1.f1), .fix (.bool (t3989.2.1 == t3995.1.f1)), .fix (.bool (t3989.2.1 == t3995.1.f1)), .fix (.bool (t3989.2.1 == t3995.1.f1)), .fix (.string t3989.2.2.1), .fix (.pointer (some ⟨b3999, 2, none⟩)), .fix (.string t3995.1.f2), .fix (.bool (t3989.2.2.1.toList == t3995.1.f2.toList)), .fix (.bool (t3989.2.2.1.toList == t3995.1.f2.toList)), .fix (.bool (t3989.2.2.1.toList == t3995.1.f2.toList)), .fix (.int .i64 t3989.2.2.2), .fix (.int .i64 t3995.2), .fix (.bool (t3989.2.2.2 == t3995.2)), .fix (.bool (t3989.2.2.2 == t3995.2)), .fix (.bool (t3989.2.2.2 == t3995.2)), .fix (.pointer (some ⟨b3941, 0, none⟩)), .fix (.int .i64 a0.f0), .fix (.int .i64 t4014), .fix (.pointer (some ⟨b3941, 0, none⟩)), .fix (.int .i64 a0.f0), .fix (.int .i64 t4018), .fix (.bool (t4014 == t4018)), .fix (.bool (t4014 == t4018)), .fix (.bool (t4014 == t4018)), .fix undef, .fix (.bool false)] ?_ ?_
                    · skip
                      refine ⟨?_, ?_, ?_, ?_, ?_, ?_, ?_, ?_, ?_, ?_, ?_, ?_, ?_, ?_, ?_, ?_, ?_, ?_, ?_, ?_, ?_, ?_, ?_, ?_, ?_, ?_, ?_, ?_, ?_, ?_, ?_, ?_, ?_, ?_, ?_, ?_, ?_, ?_, ?_, ?_, ?_, ?_, ?_, trivial⟩
                      · skip
                        intro a wr hn hd HW hs; have ha := hasNil hn hd
                        have ha := ha.add (seeE hs 5 (.pointer (some ⟨b3972, 0, none⟩)) KR KR)
                        refine yStep ha 56 KR ?_; intro l_ ha HK
                        refine stepl ha 56 (HW.ca (i := 2) (b := b3972) (C := #[.int .i64 t3965.1.f0, .int .i64 t3965.1.f1, .string t3965.1.f2, .int .i64 t3965.1.f3, .int .i64 t3965.1.f4, .string t3965.1.f5, .bool t3965.1.f6, .slice A3967 t3965.1.f7.length c3968, .int .u64 t3965.1.f8, .int .u64 t3965.1.f9, .int .u64 t3965.1.f10, .int .i64 t3965.1.f11, .bool t3965.1.f12, .int .i64 t3965.1.f13]) (T := 49) (fr := (0, 0)) KR) 49 0 (.tmp 5) (.agg #[.int .i64 t3965.1.f0, .int .i64 t3965.1.f1, .string t3965.1.f2, .int .i64 t3965.1.f3, .int .i64 t3965.1.f4, .string t3965.1.f5, .bool t3965.1.f6, .slice A3967 t3965.1.f7.length c3968, .int .u64 t3965.1.f8, .int .u64 t3965.1.f9, .int .u64 t3965.1.f10, .int .i64 t3965.1.f11, .bool t3965.1.f12, .int .i64 t3965.1.f13]) rfl KR KR KR ?_; intro ax hax; exact HK _ _ _ hax rfl (Below.refl _ _)
                      · skip
                        intro a wr hn hd HW hs; have ha := hasNil hn hd
                        have ha := ha.add (seeE hs 7 (.pointer (some ⟨b3984, 0, none⟩)) KR KR)
                        refine yStep ha 57 KR ?_; intro l_ ha HK
                        refine stepl ha 57 (HW.ca (i := 1) (b := b3984) (C := #[.int .i64 t3977.1.f0, .int .i64 t3977.1.f1, .string t3977.1.f2, .int .i64 t3977.1.f3, .int .i64 t3977.1.f4, .string t3977.1.f5, .bool t3977.1.f6, .slice A3979 t3977.1.f7.length c3980, .int .u64 t3977.1.f8, .int .u64 t3977.1.f9, .int .u64 t3977.1.f10, .int .i64 t3977.1.f11, .bool t3977.1.f12, .int .i64 t3977.1.f13]) (T := 49) (fr := (0, 0)) KR) 49 0 (.tmp 7) (.agg #[.int .i64 t3977.1.f0, .int .i64 t3977.1.f1, .string t3977.1.f2, .int .i64 t3977.1.f3, .int .i64 t3977.1.f4, .string t3977.1.f5, .bool t3977.1.f6, .slice A3979 t3977.1.f7.length c3980, .int .u64 t3977.1.f8, .int .u64 t3977.1.f9, .int .u64 t3977.1.f10, .int .i64 t3977.1.f11, .bool t3977.1.f12, .int .i64 t3977.1.f13]) rfl KR KR KR ?_; intro ax hax; exact HK _ _ _ hax rfl (Below.refl _ _)
                      · skip
                        intro a wr hn hd HW hs; have ha := hasNil hn hd
                        have ha := ha.add (seeF hs 56 0 (.agg #[.int .i64 t3965.1.f0, .int .i64 t3965.1.f1, .string t3965.1.f2, .int .i64 t3965.1.f3, .int .i64 t3965.1.f4, .string t3965.1.f5, .bool t3965.1.f6, .slice A3967 t3965.1.f7.length c3968, .int .u64 t3965.1.f8, .int .u64 t3965.1.f9, .int .u64 t3965.1.f10, .int .i64 t3965.1.f11, .bool t3965.1.f12, .int .i64 t3965.1.f13]) KR KR)
                        have ha := ha.add (seeF hs 57 1 (.agg #[.int .i64 t3977.1.f0, .int .i64 t3977.1.f1, .string t3977.1.f2, .int .i64 t3977.1.f3, .int .i64 t3977.1.f4, .string t3977.1.f5, .bool t3977.1.f6, .slice A3979 t3977.1.f7.length c3980, .int .u64 t3977.1.f8, .int .u64 t3977.1.f9, .int .u64 t3977.1.f10, .int .i64 t3977.1.f11, .bool t3977.1.f12, .int .i64 t3977.1.f13]) KR KR)
                        refine yStep ha 58 KR ?_; intro l_ ha HK
                        refine stepc ha 58 KR KR (headgatekeep_Cmds.calls K (⟨t3965.1.f0, t3965.1.f1, t3965.1.f2, t3965.1.f3, t3965.1.f4, t3965.1.f5, t3965.1.f6, t3965.1.f7, t3965.1.f8, t3965.1.f9, t3965.1.f10, t3965.1.f11, t3965.1.f12, t3965.1.f13⟩ : T_api_Cmd) (⟨t3977.1.f0, t3977.1.f1, t3977.1.f2, t3977.1.f3, t3977.1.f4, t3977.1.f5, t3977.1.f6, t3977.1.f7, t3977.1.f8, t3977.1.f9, t3977.1.f10, t3977.1.f11, t3977.1.f12, t3977.1.f13⟩ : T_api_Cmd) A3967 c3968 A3979 c3980 t4004 _ (HW.rdo (i := 1) (q := ⟨128, 2, .slice A3967 t3965.1.f7.length c3968, t3965.1.f7.length, encs T_api_Range.enc t3965.1.f7⟩) KR) (HW.rdo (i := 0) (q := ⟨128, 2, .slice A3979 t3977.1.f7.length c3980, t3977.1.f7.length, encs T_api_Range.enc t3977.1.f7⟩) KR) ht4005) ?_; rintro e W4006 ⟨rfl, HX4007⟩
                        refine ⟨_, rfl, ?_⟩; intro ax hax; exact HK _ _ _ hax rfl HX4007.below
                      · skip
                        intro a wr hn hd HW hs; have ha := hasNil hn hd
                        have ha := ha.add (seeF hs 58 2 (.bool t4004) KR KR)
                        refine yStep ha 59 KR ?_; intro l_ ha HK
                        refine stepp ha 59 (.bool t4004) KR KR ?_; intro ax hax; exact HK _ _ _ hax rfl (Below.refl _ _)
                      · skip
                        intro a wr hn hd HW hs; have ha := hasNil hn hd
                        have ha := ha.add (seeE hs 6 (.int .i64 t3965.2) KR KR)
                        have ha := ha.add (seeF hs 59 3 (.bool t4004) KR KR)
                        have ha := ha.bool 59 KR (hp4008)
                        refine yStep ha 60 KR ?_; intro l_ ha HK
                        refine stepp ha 60 (.int .i64 t3965.2) KR KR ?_; intro ax hax; exact HK _ _ _ hax rfl (Below.refl _ _)
                      · skip
                        intro a wr hn hd HW hs; have ha := hasNil hn hd
                        have ha := ha.add (seeE hs 8 (.int .i64 t3977.2) KR KR)
                        have ha := ha.add (seeF hs 59 3 (.bool t4004) KR KR)
                        have ha := ha.bool 59 KR (hp4008)
                        refine yStep ha 61 KR ?_; intro l_ ha HK
                        refine stepp ha 61 (.int .i64 t3977.2) KR KR ?_; intro ax hax; exact HK _ _ _ hax rfl (Below.refl _ _)
                      · skip
                        intro a wr hn hd HW hs; have ha := hasNil hn hd
                        have ha := ha.add (seeF hs 60 4 (.int .i64 t3965.2) KR KR)
                        have ha := ha.add (seeF hs 61 5 (.int .i64 t3977.2) KR KR)
                        have ha := ha.add (seeF hs 59 3 (.bool t4004) KR KR)
                        have ha := ha.bool 59 KR (hp4008)
                        refine yStep ha 62 KR ?_; intro l_ ha HK
                        refine stepp ha 62 (.bool (t3965.2 == t3977.2)) KR KR ?_; intro ax hax; exact HK _ _ _ hax rfl (Below.refl _ _)
                      · skip
                        intro a wr hn hd HW hs; have ha := hasNil hn hd
                        have ha := ha.add (seeF hs 59 3 (.bool t4004) KR KR)
                        have ha := ha.bool 59 KR (hp4008)
                        have ha := ha.add (seeF hs 62 6 (.bool (t3965.2 == t3977.2)) KR KR)
                        refine yStep ha 63 KR ?_; intro l_ ha HK
                        refine stepp ha 63 (.bool (t3965.2 == t3977.2)) KR KR ?_; intro ax hax; exact HK _ _ _ hax rfl (Below.refl _ _)
                      · skip
                        intro a wr hn hd HW hs; have ha := hasNil hn hd
                        have ha := ha.add (seeF hs 63 7 (.bool (t3965.2 == t3977.2)) KR KR)
                        refine yStep ha 64 KR ?_; intro l_ ha HK
                        refine stepp ha 64 (.bool (t3965.2 == t3977.2)) KR KR ?_; intro ax hax; exact HK _ _ _ hax rfl (Below.refl _ _)
                      · skip
                        intro a wr hn hd HW hs; have ha := hasNil hn hd
                        have ha := ha.add (seeE hs 9 (.int .i64 t3989.1) KR KR)
                        have ha := ha.add (seeF hs 64 8 (.bool (t3965.2 == t3977.2)) KR KR)
                        have ha := ha.bool 64 KR (ieq_t hp4009)
                        refine yStep ha 65 KR ?_; intro l_ ha HK
                        refine stepp ha 65 (.int .i64 t3989.1) KR KR ?_; intro ax hax; exact HK _ _ _ hax rfl (Below.refl _ _)
                      · skip
                        intro a wr hn hd HW hs; have ha := hasNil hn hd
                        have ha := ha.add (seeE hs 13 (.pointer (some ⟨b3999, 0, none⟩)) KR KR)
                        have ha := ha.add (seeF hs 64 8 (.bool (t3965.2 == t3977.2)) KR KR)
                        have ha := ha.bool 64 KR (ieq_t hp4009)
                        refine yStep ha 66 KR ?_; intro l_ ha HK
                        refine stepp ha 66 (.pointer (some ⟨b3999, 0, none⟩)) KR KR ?_; intro ax hax; exact HK _ _ _ hax rfl (Below.refl _ _)
                      · skip
                        intro a wr hn hd HW hs; have ha := hasNil hn hd
                        have ha := ha.add (seeF hs 66 10 (.pointer (some ⟨b3999, 0, none⟩)) KR KR)
                        have ha := ha.add (seeF hs 64 8 (.bool (t3965.2 == t3977.2)) KR KR)
                        have ha := ha.bool 64 KR (ieq_t hp4009)
                        refine yStep ha 67 KR ?_; intro l_ ha HK
                        refine stepl ha 67 (HW.ca (i := 0) (b := b3999) (C := #[.int .i64 t3995.1.f0, .int .u32 t3995.1.f1, .string t3995.1.f2]) (T := 57) (fr := (0, 0)) KR) 3 0 (.tmp 66) (.int .i64 t3995.1.f0) rfl KR KR KR ?_; intro ax hax; exact HK _ _ _ hax rfl (Below.refl _ _)
                      · skip
                        intro a wr hn hd HW hs; have ha := hasNil hn hd
                        have ha := ha.add (seeF hs 65 9 (.int .i64 t3989.1) KR KR)
                        have ha := ha.add (seeF hs 67 11 (.int .i64 t3995.1.f0) KR KR)
                        have ha := ha.add (seeF hs 64 8 (.bool (t3965.2 == t3977.2)) KR KR)
                        have ha := ha.bool 64 KR (ieq_t hp4009)
                        refine yStep ha 68 KR ?_; intro l_ ha HK
                        refine stepp ha 68 (.bool (t3989.1 == t3995.1.f0)) KR KR ?_; intro ax hax; exact HK _ _ _ hax rfl (Below.refl _ _)
                      · skip
                        intro a wr hn hd HW hs; have ha := hasNil hn hd
                        have ha := ha.add (seeF hs 64 8 (.bool (t3965.2 == t3977.2)) KR KR)
                        have ha := ha.bool 64 KR (ieq_t hp4009)
                        have ha := ha.add (seeF hs 68 12 (.bool (t3989.1 == t3995.1.f0)) KR KR)
                        refine yStep ha 69 KR ?_; intro l_ ha HK
                        refine stepp ha 69 (.bool (t3989.1 == t3995.1.f0)) KR KR ?_; intro ax hax; exact HK _ _ _ hax rfl (Below.refl _ _)
                      · skip
                        intro a wr hn hd HW hs; have ha := hasNil hn hd
                        have ha := ha.add (seeF hs 69 13 (.bool (t3989.1 == t3995.1.f0)) KR KR)
                        refine yStep ha 70 KR ?_; intro l_ ha HK
                        refine stepp ha 70 (.bool (t3989.1 == t3995.1.f0)) KR KR ?_; intro ax hax; exact HK _ _ _ hax rfl (Below.refl _ _)
                      · skip
                        intro a wr hn hd HW hs; have ha := hasNil hn hd
                        have ha := ha.add (seeE hs 10 (.int .u32 t3989.2.1) KR KR)
                        have ha := ha.add (seeF hs 70 14 (.bool (t3989.1 == t3995.1.f0)) KR KR)
                        have ha := ha.bool 70 KR (ieq_t hp4010)
                        refine yStep ha 71 KR ?_; intro l_ ha HK
                        refine stepp ha 71 (.int .u32 t3989.2.1) KR KR ?_; intro ax hax; exact HK _ _ _ hax rfl (Below.refl _ _)
                      · skip
                        intro a wr hn hd HW hs; have ha := hasNil hn hd
                        have ha := ha.add (seeE hs 13 (.pointer (some ⟨b3999, 0, none⟩)) KR KR)
                        have ha := ha.add (seeF hs 70 14 (.bool (t3989.1 == t3995.1.f0)) KR KR)
                        have ha := ha.bool 70 KR (ieq_t hp4010)
                        refine yStep ha 72 KR ?_; intro l_ ha HK
                        refine stepp ha 72 (.pointer (some ⟨b3999, 1, none⟩)) KR KR ?_; intro ax hax; exact HK _ _ _ hax rfl (Below.refl _ _)
                      · skip
                        intro a wr hn hd HW hs; have ha := hasNil hn hd
                        have ha := ha.add (seeF hs 72 16 (.pointer (some ⟨b3999, 1, none⟩)) KR KR)
                        have ha := ha.add (seeF hs 70 14 (.bool (t3989.1 == t3995.1.f0)) KR KR)
                        have ha := ha.bool 70 KR (ieq_t hp4010)
                        refine yStep ha 73 KR ?_; intro l_ ha HK
                        refine stepl ha 73 (HW.ca (i := 0) (b := b3999) (C := #[.int .i64 t3995.1.f0, .int .u32 t3995.1.f1, .string t3995.1.f2]) (T := 57) (fr := (0, 0)) KR) 25 1 (.tmp 72) (.int .u32 t3995.1.f1) rfl KR KR KR ?_; intro ax hax; exact HK _ _ _ hax rfl (Below.refl _ _)
                      · skip
                        intro a wr hn hd HW hs; have ha := hasNil hn hd
                        have ha := ha.add (seeF hs 71 15 (.int .u32 t3989.2.1) KR KR)
                        have ha := ha.add (seeF hs 73 17 (.int .u32 t3995.1.f1) KR KR)
                        have ha := ha.add (seeF hs 70 14 (.bool (t3989.1 == t3995.1.f0)) KR KR)
                        have ha := ha.bool 70 KR (ieq_t hp4010)
                        refine yStep ha 74 KR ?_; intro l_ ha HK
                        refine stepp ha 74 (.bool (t3989.2.1 == t3995.1.f1)) KR KR ?_; intro ax hax; exact HK _ _ _ hax rfl (Below.refl _ _)
                      · skip
                        intro a wr hn hd HW hs; have ha := hasNil hn hd
                        have ha := ha.add (seeF hs 70 14 (.bool (t3989.1 == t3995.1.f0)) KR KR)
                        have ha := ha.bool 70 KR (ieq_t hp4010)
                        have ha := ha.add (seeF hs 74 18 (.bool (t3989.2.1 == t3995.1.f1)) KR KR)
                        refine yStep ha 75 KR ?_; intro l_ ha HK
                        refine stepp ha 75 (.bool (t3989.2.1 == t3995.1.f1)) KR KR ?_; intro ax hax; exact HK _ _ _ hax rfl (Below.refl _ _)
                      · skip
                        intro a wr hn hd HW hs; have ha := hasNil hn hd
                        have ha := ha.add (seeF hs 75 19 (.bool (t3989.2.1 == t3995.1.f1)) KR KR)
                        refine yStep ha 76 KR ?_; intro l_ ha HK
                        refine stepp ha 76 (.bool (t3989.2.1 == t3995.1.f1)) KR KR ?_; intro ax hax; exact HK _ _ _ hax rfl (Below.refl _ _)
                      · skip
                        intro a wr hn hd HW hs; have ha := hasNil hn hd
                        have ha := ha.add (seeE hs 11 (.string t3989.2.2.1) KR KR)
                        have ha := ha.add (seeF hs 76 20 (.bool (t3989.2.1 == t3995.1.f1)) KR KR)
                        have ha := ha.bool 76 KR (ieq_t hp4011)
                        refine yStep ha 77 KR ?_; intro l_ ha HK
                        refine stepp ha 77 (.string t3989.2.2.1) KR KR ?_; intro ax hax; exact HK _ _ _ hax rfl (Below.refl _ _)
                      · skip
                        intro a wr hn hd HW hs; have ha := hasNil hn hd
                        have ha := ha.add (seeE hs 13 (.pointer (some ⟨b3999, 0, none⟩)) KR KR)
                        have ha := ha.add (seeF hs 76 20 (.bool (t3989.2.1 == t3995.1.f1)) KR KR)
                        have ha := ha.bool 76 KR (ieq_t hp4011)
                        refine yStep ha 78 KR ?_; intro l_ ha HK
                        refine stepp ha 78 (.pointer (some ⟨b3999, 2, none⟩)) KR KR ?_; intro ax hax; exact HK _ _ _ hax rfl (Below.refl _ _)
                      · skip
                        intro a wr hn hd HW hs; have ha := hasNil hn hd
                        have ha := ha.add (seeF hs 78 22 (.pointer (some ⟨b3999, 2, none⟩)) KR KR)
                        have ha := ha.add (seeF hs 76 20 (.bool (t3989.2.1 == t3995.1.f1)) KR KR)
                        have ha := ha.bool 76 KR (ieq_t hp4011)
                        refine yStep ha 79 KR ?_; intro l_ ha HK
                        refine stepl ha 79 (HW.ca (i := 0) (b := b3999) (C := #[.int .i64 t3995.1.f0, .int .u32 t3995.1.f1, .string t3995.1.f2]) (T := 57) (fr := (0, 0)) KR) 9 2 (.tmp 78) (.string t3995.1.f2) rfl KR KR KR ?_; intro ax hax; exact HK _ _ _ hax rfl (Below.refl _ _)
                      · skip
                        intro a wr hn hd HW hs; have ha := hasNil hn hd
                        have ha := ha.add (seeF hs 77 21 (.string t3989.2.2.1) KR KR)
                        have ha := ha.add (seeF hs 79 23 (.string t3995.1.f2) KR KR)
                        have ha := ha.add (seeF hs 76 20 (.bool (t3989.2.1 == t3995.1.f1)) KR KR)
                        have ha := ha.bool 76 KR (ieq_t hp4011)
                        refine yStep ha 80 KR ?_; intro l_ ha HK
                        refine stepp ha 80 (.bool (t3989.2.2.1.toList == t3995.1.f2.toList)) KR KR ?_; intro ax hax; exact HK _ _ _ hax rfl (Below.refl _ _)
                      · skip
                        intro a wr hn hd HW hs; have ha := hasNil hn hd
                        have ha := ha.add (seeF hs 76 20 (.bool (t3989.2.1 == t3995.1.f1)) KR KR)
                        have ha := ha.bool 76 KR (ieq_t hp4011)
                        have ha := ha.add (seeF hs 80 24 (.bool (t3989.2.2.1.toList == t3995.1.f2.toList)) KR KR)
                        refine yStep ha 81 KR ?_; intro l_ ha HK
                        refine stepp ha 81 (.bool (t3989.2.2.1.toList == t3995.1.f2.toList)) KR KR ?_; intro ax hax; exact HK _ _ _ hax rfl (Below.refl _ _)
                      · skip
                        intro a wr hn hd HW hs; have ha := hasNil hn hd
                        have ha := ha.add (seeF hs 81 25 (.bool (t3989.2.2.1.toList == t3995.1.f2.toList)) KR KR)
                        refine yStep ha 82 KR ?_; intro l_ ha HK
                        refine stepp ha 82 (.bool (t3989.2.2.1.toList == t3995.1.f2.toList)) KR KR ?_; intro ax hax; exact HK _ _ _ hax rfl (Below.refl _ _)
                      · skip
                        intro a wr hn hd HW hs; have ha := hasNil hn hd
                        have ha := ha.add (seeE hs 12 (.int .i64 t3989.2.2.2) KR KR)
                        have ha := ha.add (seeF hs 82 26 (.bool (t3989.2.2.1.toList == t3995.1.f2.toList)) KR KR)
                        have ha := ha.bool 82 KR (str_eq_t hp4012)
                        refine yStep ha 83 KR ?_; intro l_ ha HK
                        refine stepp ha 83 (.int .i64 t3989.2.2.2) KR KR ?_; intro ax hax; exact HK _ _ _ hax rfl (Below.refl _ _)
                      · skip
                        intro a wr hn hd HW hs; have ha := hasNil hn hd
                        have ha := ha.add (seeE hs 14 (.int .i64 t3995.2) KR KR)
                        have ha := ha.add (seeF hs 82 26 (.bool (t3989.2.2.1.toList == t3995.1.f2.toList)) KR KR)
                        have ha := ha.bool 82 KR (str_eq_t hp4012)
                        refine yStep ha 84 KR ?_; intro l_ ha HK
                        refine stepp ha 84 (.int .i64 t3995.2) KR KR ?_; intro ax hax; exact HK _ _ _ hax rfl (Below.refl _ _)
                      · skip
                        intro a wr hn hd HW hs; have ha := hasNil hn hd
                        have ha := ha.add (seeF hs 83 27 (.int .i64 t3989.2.2.2) KR KR)
                        have ha := ha.add (seeF hs 84 28 (.int .i64 t3995.2) KR KR)
                        have ha := ha.add (seeF hs 82 26 (.bool (t3989.2.2.1.toList == t3995.1.f2.toList)) KR KR)
                        have ha := ha.bool 82 KR (str_eq_t hp4012)
                        refine yStep ha 85 KR ?_; intro l_ ha HK
                        refine stepp ha 85 (.bool (t3989.2.2.2 == t3995.2)) KR KR ?_; intro ax hax; exact HK _ _ _ hax rfl (Below.refl _ _)
                      · skip
                        intro a wr hn hd HW hs; have ha := hasNil hn hd
                        have ha := ha.add (seeF hs 82 26 (.bool (t3989.2.2.1.toList == t3995.1.f2.toList)) KR KR)
                        have ha := ha.bool 82 KR (str_eq_t hp4012)
                        have ha := ha.add (seeF hs 85 29 (.bool (t3989.2.2.2 == t3995.2)) KR KR)
                        refine yStep ha 86 KR ?_; intro l_ ha HK
                        refine stepp ha 86 (.bool (t3989.2.2.2 == t3995.2)) KR KR ?_; intro ax hax; exact HK _ _ _ hax rfl (Below.refl _ _)
                      · skip
                        intro a wr hn hd HW hs; have ha := hasNil hn hd
                        have ha := ha.add (seeF hs 86 30 (.bool (t3989.2.2.2 == t3995.2)) KR KR)
                        refine yStep ha 87 KR ?_; intro l_ ha HK
                        refine stepp ha 87 (.bool (t3989.2.2.2 == t3995.2)) KR KR ?_; intro ax hax; exact HK _ _ _ hax rfl (Below.refl _ _)
                      · skip
                        intro a wr hn hd HW hs; have ha := hasNil hn hd
                        have ha := ha.add (seeE hs 2 (.pointer (some ⟨b3941, 0, none⟩)) KR KR)
                        have ha := ha.add (seeF hs 87 31 (.bool (t3989.2.2.2 == t3995.2)) KR KR)
                        have ha := ha.bool 87 KR (ieq_t hp4013)
                        refine yStep ha 88 KR ?_; intro l_ ha HK
                        refine stepp ha 88 (.pointer (some ⟨b3941, 0, none⟩)) KR KR ?_; intro ax hax; exact HK _ _ _ hax rfl (Below.refl _ _)
                      · skip
                        intro a wr hn hd HW hs; have ha := hasNil hn hd
                        have ha := ha.add (seeF hs 88 32 (.pointer (some ⟨b3941, 0, none⟩)) KR KR)
                        have ha := ha.add (seeF hs 87 31 (.bool (t3989.2.2.2 == t3995.2)) KR KR)
                        have ha := ha.bool 87 KR (ieq_t hp4013)
                        refine yStep ha 89 KR ?_; intro l_ ha HK
                        refine stepl ha 89 (HW.ca (i := 3) (b := b3941) (C := #[.int .i64 a0.f0, .int .u32 a0.f1, .string a0.f2]) (T := 46) (fr := (0, 0)) KR) 3 0 (.tmp 88) (.int .i64 a0.f0) rfl KR KR KR ?_; intro ax hax; exact HK _ _ _ hax rfl (Below.refl _ _)
                      · skip
                        intro a wr hn hd HW hs; have ha := hasNil hn hd
                        have ha := ha.add (seeF hs 89 33 (.int .i64 a0.f0) KR KR)
                        have ha := ha.add (seeF hs 87 31 (.bool (t3989.2.2.2 == t3995.2)) KR KR)
                        have ha := ha.bool 87 KR (ieq_t hp4013)
                        refine yStep ha 90 KR ?_; intro l_ ha HK
                        refine stepc ha 90 KR KR (nresv_Size.calls a0.f0 t4014 _ ht4015) ?_; rintro e W4016 ⟨rfl, HX4017⟩
                        refine ⟨_, rfl, ?_⟩; intro ax hax; exact HK _ _ _ hax rfl HX4017.below
                      · skip
                        intro a wr hn hd HW hs; have ha := hasNil hn hd
                        have ha := ha.add (seeE hs 2 (.pointer (some ⟨b3941, 0, none⟩)) KR KR)
                        have ha := ha.add (seeF hs 87 31 (.bool (t3989.2.2.2 == t3995.2)) KR KR)
                        have ha := ha.bool 87 KR (ieq_t hp4013)
                        refine yStep ha 91 KR ?_; intro l_ ha HK
                        refine stepp ha 91 (.pointer (some ⟨b3941, 0, none⟩)) KR KR ?_; intro ax hax; exact HK _ _ _ hax rfl (Below.refl _ _)
                      · skip
                        intro a wr hn hd HW hs; have ha := hasNil hn hd
                        have ha := ha.add (seeF hs 91 35 (.pointer (some ⟨b3941, 0, none⟩)) KR KR)
                        have ha := ha.add (seeF hs 87 31 (.bool (t3989.2.2.2 == t3995.2)) KR KR)
                        have ha := ha.bool 87 KR (ieq_t hp4013)
                        refine yStep ha 92 KR ?_; intro l_ ha HK
                        refine stepl ha 92 (HW.ca (i := 3) (b := b3941) (C := #[.int .i64 a0.f0, .int .u32 a0.f1, .string a0.f2]) (T := 46) (fr := (0, 0)) KR) 3 0 (.tmp 91) (.int .i64 a0.f0) rfl KR KR KR ?_; intro ax hax; exact HK _ _ _ hax rfl (Below.refl _ _)
                      · skip
                        intro a wr hn hd HW hs; have ha := hasNil hn hd
                        have ha := ha.add (seeF hs 92 36 (.int .i64 a0.f0) KR KR)
                        have ha := ha.add (seeF hs 87 31 (.bool (t3989.2.2.2 == t3995.2)) KR KR)
                        have ha := ha.bool 87 KR (ieq_t hp4013)
                        refine yStep ha 93 KR ?_; intro l_ ha HK
                        refine stepc ha 93 KR KR (headgateref27_Size.calls a0.f0 t4018 _ ht4019) ?_; rintro e W4020 ⟨rfl, HX4021⟩
                        refine ⟨_, rfl, ?_⟩; intro ax hax; exact HK _ _ _ hax rfl HX4021.below
                      · skip
                        intro a wr hn hd HW hs; have ha := hasNil hn hd
                        have ha := ha.add (seeF hs 90 34 (.int .i64 t4014) KR KR)
                        have ha := ha.add (seeF hs 93 37 (.int .i64 t4018) KR KR)
                        have ha := ha.add (seeF hs 87 31 (.bool (t3989.2.2.2 == t3995.2)) KR KR)
                        have ha := ha.bool 87 KR (ieq_t hp4013)
                        refine yStep ha 94 KR ?_; intro l_ ha HK
                        refine stepp ha 94 (.bool (t4014 == t4018)) KR KR ?_; intro ax hax; exact HK _ _ _ hax rfl (Below.refl _ _)
                      · skip
                        intro a wr hn hd HW hs; have ha := hasNil hn hd
                        have ha := ha.add (seeF hs 87 31 (.bool (t3989.2.2.2 == t3995.2)) KR KR)
                        have ha := ha.bool 87 KR (ieq_t hp4013)
                        have ha := ha.add (seeF hs 94 38 (.bool (t4014 == t4018)) KR KR)
                        refine yStep ha 95 KR ?_; intro l_ ha HK
                        refine stepp ha 95 (.bool (t4014 == t4018)) KR KR ?_; intro ax hax; exact HK _ _ _ hax rfl (Below.refl _ _)
                      · skip
                        intro a wr hn hd HW hs; have ha := hasNil hn hd
                        have ha := ha.add (seeF hs 95 39 (.bool (t4014 == t4018)) KR KR)
                        refine yStep ha 96 KR ?_; intro l_ ha HK
                        refine stepp ha 96 (.bool (t4014 == t4018)) KR KR ?_; intro ax hax; exact HK _ _ _ hax rfl (Below.refl _ _)
                      · skip
                        intro a wr hn hd HW hs; have ha := hasNil hn hd
                        have ha := ha.add (seeF hs 96 40 (.bool (t4014 == t4018)) KR KR)
                        have ha := ha.bool 96 KR (ieq_f hp4022)
                        exact yo ha KR rfl
                      · skip
                        intro a wr hn hd HW hs; have ha := hasNil hn hd
                        have ha := ha.add (seeF hs 96 40 (.bool (t4014 == t4018)) KR KR)
                        have ha := ha.bool 96 KR (ieq_f hp4022)
                        have ha := ha.add (seeF hs 97 41 (undef) KR KR)
                        refine yStep ha 98 KR ?_; intro l_ ha HK
                        refine stepp ha 98 (.bool false) KR KR ?_; intro ax hax; exact HK _ _ _ hax rfl (Below.refl _ _)
                    · skip
                      intro a W4028 ha HW he hf
                      replace ha := ha.add (gotF (m := 43) (j := 42) (d := 98) (v := .bool false) hf KR KR KR)
                      clear he hf
                      refine stepp ha 4 (.bool false) KR KR ?_; clear ha a; intro a ha
                      refine endl ?_
                      refine thenN (hK4003 _ _ ?_); clear hK4003
                      refine wp_ret ?_
                      obtain rfl := Option.some.inj h
                      exact finv ha _ _ rfl (.tmp (v := .bool false) KR .nil) (.bool false) rfl ⟨rfl, HW.pick [] [] (by decide) (by decide) rfl KR⟩
                · skip
                  replace h := ite_neg' h hp4013
                  refine regionG 43 KR KR ha HW [.fix (.agg #[.int .i64 t3965.1.f0, .int .i64 t3965.1.f1, .string t3965.1.f2, .int .i64 t3965.1.f3, .int .i64 t3965.1.f4, .string t3965.1.f5, .bool t3965.1.f6, .slice A3967 t3965.1.f7.length c3968, .int .u64 t3965.1.f8, .int .u64 t3965.1.f9, .int .u64 t3965.1.f10, .int .i64 t3965.1.f11, .bool t3965.1.f12, .int .i64 t3965.1.f13]), .fix (.agg #[.int .i64 t3977.1.f0, .int .i64 t3977.1.f1, .string t3977.1.f2, .int .i64 t3977.1.f3, .int .i64 t3977.1.f4, .string t3977.1.f5, .bool t3977.1.f6, .slice A3979 t3977.1.f7.length c3980, .int .u64 t3977.1.f8, .int .u64 t3977.1.f9, .int .u64 t3977.1.f10, .int .i64 t3977.1.f11, .bool t3977.1.f12, .int .i64 t3977.1.f13]), .fix (.bool t4004), .fix (.bool t4004), .fix (.int .i64 t3965.2), .fix (.int .i64 t3977.2), .fix (.bool (t3965.2 == t3977.2)), .fix (.bool (t3965.2 == t3977.2)), .fix (.bool (t3965.2 == t3977.2)), .fix (.int .i64 t3989.1), .fix (.pointer (some ⟨b3999, 0, none⟩)), .fix (.int .i64 t3995.1.f0), .fix (.bool (t3989.1 == t3995.1.f0)), .fix (.bool (t3989.1 == t3995.1.f0)), .fix (.bool (t3989.1 == t3995.1.f0)), .fix (.int .u32 t3989.2.1), .fix (.pointer (some ⟨b3999, 1, none⟩)), .fix (.int .u32 t3995.1.f1), .fix (.bool (t3989.2.1 == t3995.1.f1)), .fix (.bool (t3989.2.1 == t3995.1.f1)), .fix (.bool (t3989.2.1 == t3995.1.f1)), .fix (.string t3989.2.2.1), .fix (.pointer (some ⟨b3999, 2, none⟩)), .fix (.string t3995.1.f2), .fix (.bool (t3989.2.2.1.toList == t3995.1.f2.toList)), .fix (.bool (t3989.2.2.1.toList == t3995.1.f2.toList)), .fix (.bool (t3989.2.2.1.toList == t3995.1.f2.toList)), .fix (.int .i64 t3989.2.2.2), .fix (.int .i64 t3995.2), .fix (.bool (t3989.2.2.2 == t3995.2)), .fix (.bool (t3989.2.2.2 == t3995.2)), .fix (.bool (t3989.2.2.2 == t3995.2)), .fix undef, .fix undef, .fix undef, .fix undef, .fix undef, .fix undef, .fix undef, .fix (.bool false), .fix (.bool false), .fix undef, .fix (.bool false)] ?_ ?_
                  · skip
                    refine ⟨?_, ?_, ?_, ?_, ?_, ?_, ?_, ?_, ?_, ?_, ?_, ?_, ?_, ?_, ?_, ?_, ?_, ?_, ?_, ?_, ?_, ?_, ?_, ?_, ?_, ?_, ?_, ?_, ?_, ?_, ?_, ?_, ?_, ?_, ?_, ?_, ?_, ?_, ?_, ?_, ?_, ?_, ?_, trivial⟩
                    · skip
                      intro a wr hn hd HW hs; have ha := hasNil hn hd
                      have ha := ha.add (seeE hs 5 (.pointer (some ⟨b3972, 0, none⟩)) KR KR)
                      refine yStep ha 56 KR ?_; intro l_ ha HK
                      refine stepl ha 56 (HW.ca (i := 2) (b := b3972) (C := #[.int .i64 t3965.1.f0, .int .i64 t3965.1.f1, .string t3965.1.f2, .int .i64 t3965.1.f3, .int .i64 t3965.1.f4, .string t3965.1.f5, .bool t3965.1.f6, .slice A3967 t3965.1.f7.length c3968, .int .u64 t3965.1.f8, .int .u64 t3965.1.f9, .int .u64 t3965.1.f10, .int .i64 t3965.1.f11, .bool t3965.1.f12, .int .i64 t3965.1.f13]) (T := 49) (fr := (0, 0)) KR) 49 0 (.tmp 5) (.agg #[.int .i64 t3965.1.f0, .int .i64 t3965.1.f1, .string t3965.1.f2, .int .i64 t3965.1.f3, .int .i64 t3965.1.f4, .string t3965.1.f5, .bool t3965.1.f6, .slice A3967 t3965.1.f7.length c3968, .int .u64 t3965.1.f8, .int .u64 t3965.1.f9, .int .u64 t3965.1.f10, .int .i64 t3965.1.f11, .bool t3965.1.f12, .int .i64 t3965.1.f13]) rfl KR KR KR ?_; intro ax hax; exact HK _ _ _ hax rfl (Below.refl _ _)
                    · skip
                      intro a wr hn hd HW hs; have ha := hasNil hn hd
                      have ha := ha.add (seeE hs 7 (.pointer (some ⟨b3984, 0, none⟩)) KR KR)
                      refine yStep ha 57 KR ?_; intro l_ ha HK
                      refine stepl ha 57 (HW.ca (i := 1) (b := b3984) (C := #[.int .i64 t3977.1.f0, .int .i64 t3977.1.f1, .string t3977.1.f2, .int .i64 t3977.1.f3, .int .i64 t3977.1.f4, .string t3977.1.f5, .bool t3977.1.f6, .slice A3979 t3977.1.f7.length c3980, .int .u64 t3977.1.f8, .int .u64 t3977.1.f9, .int .u64 t3977.1.f10, .int .i64 t3977.1.f11, .bool t3977.1.f12, .int .i64 t3977.1.f13]) (T := 49) (fr := (0, 0)) KR) 49 0 (.tmp 7) (.agg #[.int .i64 t3977.1.f0, .int .i64 t3977.1.f1, .string t3977.1.f2, .int .i64 t3977.1.f3, .int .i64 t3977.1.f4, .string t3977.1.f5, .bool t3977.1.f6, .slice A3979 t3977.1.f7.length c3980, .int .u64 t3977.1.f8, .int .u64 t3977.1.f9, .int .u64 t3977.1.f10, .int .i64 t3977.1.f11, .bool t3977.1.f12, .int .i64 t3977.1.f13]) rfl KR KR KR ?_; intro ax hax; exact HK _ _ _ hax rfl (Below.refl _ _)
                    · skip
                      intro a wr hn hd HW hs; have ha := hasNil hn hd
                      have ha := ha.add (seeF hs 56 0 (.agg #[.int .i64 t3965.1.f0, .int .i64 t3965.1.f1, .string t3965.1.f2, .int .i64 t3965.1.f3, .int .i64 t3965.1.f4, .string t3965.1.f5, .bool t3965.1.f6, .slice A3967 t3965.1.f7.length c3968, .int .u64 t3965.1.f8, .int .u64 t3965.1.f9, .int .u64 t3965.1.f10, .int .i64 t3965.1.f11, .bool t3965.1.f12, .int .i64 t3965.1.f13]) KR KR)
                      have ha := ha.add (seeF hs 57 1 (.agg #[.int .i64 t3977.1.f0, .int .i64 t3977.1.f1, .string t3977.1.f2, .int .i64 t3977.1.f3, .int .i64 t3977.1.f4, .string t3977.1.f5, .bool t3977.1.f6, .slice A3979 t3977.1.f7.length c3980, .int .u64 t3977.1.f8, .int .u64 t3977.1.f9, .int .u64 t3977.1.f10, .int .i64 t3977.1.f11, .bool t3977.1.f12, .int .i64 t3977.1.f13]) KR KR)
                      refine yStep ha 58 KR ?_; intro l_ ha HK
                      refine stepc ha 58 KR KR (headgatekeep_Cmds.calls K (⟨t3965.1.f0, t3965.1.f1, t3965.1.f2, t3965.1.f3, t3965.1.f4, t3965.1.f5, t3965.1.f6, t3965.1.f7, t3965.1.f8, t3965.1.f9, t3965.1.f10, t3965.1.f11, t3965.1.f12, t3965.1.f13⟩ : T_api_Cmd) (⟨t3977.1.f0, t3977.1.f1, t3977.1.f2, t3977.1.f3, t3977.1.f4, t3977.1.f5, t3977.1.f6, t3977.1.f7, t3977.1.f8, t3977.1.f9, t3977.1.f10, t3977.1.f11, t3977.1.f12, t3977.1.f13⟩ : T_api_Cmd) A3967 c3968 A3979 c3980 t4004 _ (HW.rdo (i := 1) (q := ⟨128, 2, .slice A3967 t3965.1.f7.length c3968, t3965.1.f7.length, encs T_api_Range.enc t3965.1.f7⟩) KR) (HW.rdo (i := 0) (q := ⟨128, 2, .slice A3979 t3977.1.f7.length c3980, t3977.1.f7.length, encs T_api_Range.enc t3977.1.f7⟩) KR) ht4005) ?_; rintro e W4006 ⟨rfl, HX4007⟩
                      refine ⟨_, rfl, ?_⟩; intro ax hax; exact HK _ _ _ hax rfl HX4007.below
                    · skip
                      intro a wr hn hd HW hs; have ha := hasNil hn hd
                      have ha := ha.add (seeF hs 58 2 (.bool t4004) KR KR)
                      refine yStep ha 59 KR ?_; intro l_ ha HK
                      refine stepp ha 59 (.bool t4004) KR KR ?_; intro ax hax; exact HK _ _ _ hax rfl (Below.refl _ _)
                    · skip
                      intro a wr hn hd HW hs; have ha := hasNil hn hd
                      have ha := ha.add (seeE hs 6 (.int .i64 t3965.2) KR KR)
                      have ha := ha.add (seeF hs 59 3 (.bool t4004) KR KR)
                      have ha := ha.bool 59 KR (hp4008)
                      refine yStep ha 60 KR ?_; intro l_ ha HK
                      refine stepp ha 60 (.int .i64 t3965.2) KR KR ?_; intro ax hax; exact HK _ _ _ hax rfl (Below.refl _ _)
                    · skip
                      intro a wr hn hd HW hs; have ha := hasNil hn hd
                      have ha := ha.add (seeE hs 8 (.int .i64 t3977.2) KR KR)
                      have ha := ha.add (seeF hs 59 3 (.bool t4004) KR KR)
                      have ha := ha.bool 59 KR (hp4008)
                      refine yStep ha 61 KR ?_; intro l_ ha HK
                      refine stepp ha 61 (.int .i64 t3977.2) KR KR ?_; intro ax hax; exact HK _ _ _ hax rfl (Below.refl _ _)
                    · skip
                      intro a wr hn hd HW hs; have ha := hasNil hn hd
                      have ha := ha.add (seeF hs 60 4 (.int .i64 t3965.2) KR KR)
                      have ha := ha.add (seeF hs 61 5 (.int .i64 t3977.2) KR KR)
                      have ha := ha.add (seeF hs 59 3 (.bool t4004) KR KR)
                      have ha := ha.bool 59 KR (hp4008)
                      refine yStep ha 62 KR ?_; intro l_ ha HK
                      refine stepp ha 62 (.bool (t3965.2 == t3977.2)) KR KR ?_; intro ax hax; exact HK _ _ _ hax rfl (Below.refl _ _)
                    · skip
                      intro a wr hn hd HW hs; have ha := hasNil hn hd
                      have ha := ha.add (seeF hs 59 3 (.bool t4004) KR KR)
                      have ha := ha.bool 59 KR (hp4008)
                      have ha := ha.add (seeF hs 62 6 (.bool (t3965.2 == t3977.2)) KR KR)
                      refine yStep ha 63 KR ?_; intro l_ ha HK
                      refine stepp ha 63 (.bool (t3965.2 == t3977.2)) KR KR ?_; intro ax hax; exact HK _ _ _ hax rfl (Below.refl _ _)
                    · skip
                      intro a wr hn hd HW hs; have ha := hasNil hn hd
                      have ha := ha.add (seeF hs 63 7 (.bool (t3965.2 == t3977.2)) KR KR)
                      refine yStep ha 64 KR ?_; intro l_ ha HK
                      refine stepp ha 64 (.bool (t3965.2 == t3977.2)) KR KR ?_; intro ax hax; exact HK _ _ _ hax rfl (Below.refl _ _)
                    · skip
                      intro a wr hn hd HW hs; have ha := hasNil hn hd
                      have ha := ha.add (seeE hs 9 (.int .i64 t3989.1) KR KR)
                      have ha := ha.add (seeF hs 64 8 (.bool (t3965.2 == t3977.2)) KR KR)
                      have ha := ha.bool 64 KR (ieq_t hp4009)
                      refine yStep ha 65 KR ?_; intro l_ ha HK
                      refine stepp ha 65 (.int .i64 t3989.1) KR KR ?_; intro ax hax; exact HK _ _ _ hax rfl (Below.refl _ _)
                    · skip
                      intro a wr hn hd HW hs; have ha := hasNil hn hd
                      have ha := ha.add (seeE hs 13 (.pointer (some ⟨b3999, 0, none⟩)) KR KR)
                      have ha := ha.add (seeF hs 64 8 (.bool (t3965.2 == t3977.2)) KR KR)
                      have ha := ha.bool 64 KR (ieq_t hp4009)
                      refine yStep ha 66 KR ?_; intro l_ ha HK
                      refine stepp ha 66 (.pointer (some ⟨b3999, 0, none⟩)) KR KR ?_; intro ax hax; exact HK _ _ _ hax rfl (Below.refl _ _)
                    · skip
                      intro a wr hn hd HW hs; have ha := hasNil hn hd
                      have ha := ha.add (seeF hs 66 10 (.pointer (some ⟨b3999, 0, none⟩)) KR KR)
                      have ha := ha.add (seeF hs 64 8 (.bool (t3965.2 == t3977.2)) KR KR)
                      have ha := ha.bool 64 KR (ieq_t hp4009)
                      refine yStep ha 67 KR ?_; intro l_ ha HK
                      refine stepl ha 67 (HW.ca (i := 0) (b := b3999) (C := #[.int .i64 t3995.1.f0, .int .u32 t3995.1.f1, .string t3995.1.f2]) (T := 57) (fr := (0, 0)) KR) 3 0 (.tmp 66) (.int .i64 t3995.1.f0) rfl KR KR KR ?_; intro ax hax; exact HK _ _ _ hax rfl (Below.refl _ _)
                    · skip
                      intro a wr hn hd HW hs; have ha := hasNil hn hd
                      have ha := ha.add (seeF hs 65 9 (.int .i64 t3989.1) KR KR)
                      have ha := ha.add (seeF hs 67 11 (.int .i64 t3995.1.f0) KR KR)
                      have ha := ha.add (seeF hs 64 8 (.bool (t3965.2 == t3977.2)) KR KR)
                      have ha := ha.bool 64 KR (ieq_t hp4009)
                      refine yStep ha 68 KR ?_; intro l_ ha HK
                      refine stepp ha 68 (.bool (t3989.1 == t3995.1.f0)) KR KR ?_; intro ax hax; exact HK _ _ _ hax rfl (Below.refl _ _)
                    · skip
                      intro a wr hn hd HW hs; have ha := hasNil hn hd
                      have ha := ha.add (seeF hs 64 8 (.bool (t3965.2 == t3977.2)) KR KR)
                      have ha := ha.bool 64 KR (ieq_t hp4009)
                      have ha := ha.add (seeF hs 68 12 (.bool (t3989.1 == t3995.1.f0)) KR KR)
                      refine yStep ha 69 KR ?_; intro l_ ha HK
                      refine stepp ha 69 (.bool (t3989.1 == t3995.1.f0)) KR KR ?_; intro ax hax; exact HK _ _ _ hax rfl (Below.refl _ _)
                    · skip
                      intro a wr hn hd HW hs; have ha := hasNil hn hd
                      have ha := ha.add (seeF hs 69 13 (.bool (t3989.1 == t3995.1.f0)) KR KR)
                      refine yStep ha 70 KR ?_; intro l_ ha HK
                      refine stepp ha 70 (.bool (t3989.1 == t3995.1.f0)) KR KR ?_; intro ax hax; exact HK _ _ _ hax rfl (Below.refl _ _)
                    · skip
                      intro a wr hn hd HW hs; have ha := hasNil hn hd
                      have ha := ha.add (seeE hs 10 (.int .u32 t3989.2.1) KR KR)
                      have ha := ha.add (seeF hs 70 14 (.bool (t3989.1 == t3995.1.f0)) KR KR)
                      have ha := ha.bool 70 KR (ieq_t hp4010)
                      refine yStep ha 71 KR ?_; intro l_ ha HK
                      refine stepp ha 71 (.int .u32 t3989.2.1) KR KR ?_; intro ax hax; exact HK _ _ _ hax rfl (Below.refl _ _)
                    · skip
                      intro a wr hn hd HW hs; have ha := hasNil hn hd
                      have ha := ha.add (seeE hs 13 (.pointer (some ⟨b3999, 0, none⟩)) KR KR)
                      have ha := ha.add (seeF hs 70 14 (.bool (t3989.1 == t3995.1.f0)) KR KR)
                      have ha := ha.bool 70 KR (ieq_t hp4010)
                      refine yStep ha 72 KR ?_; intro l_ ha HK
                      refine stepp ha 72 (.pointer (some ⟨b3999, 1, none⟩)) KR KR ?_; intro ax hax; exact HK _ _ _ hax rfl (Below.refl _ _)
                    · skip
                      intro a wr hn hd HW hs; have ha := hasNil hn hd
                      have ha := ha.add (seeF hs 72 16 (.pointer (some ⟨b3999, 1, none⟩)) KR KR)
                      have ha := ha.add (seeF hs 70 14 (.bool (t3989.1 == t3995.1.f0)) KR KR)
                      have ha := ha.bool 70 KR (ieq_t hp4010)
                      refine yStep ha 73 KR ?_; intro l_ ha HK
                      refine stepl ha 73 (HW.ca (i := 0) (b := b3999) (C := #[.int .i64 t3995.1.f0, .int .u32 t3995.1.f1, .string t3995.1.f2]) (T := 57) (fr := (0, 0)) KR) 25 1 (.tmp 72) (.int .u32 t3995.1.f1) rfl KR KR KR ?_; intro ax hax; exact HK _ _ _ hax rfl (Below.refl _ _)
                    · skip
                      intro a wr hn hd HW hs; have ha := hasNil hn hd
                      have ha := ha.add (seeF hs 71 15 (.int .u32 t3989.2.1) KR KR)
                      have ha := ha.add (seeF hs 73 17 (.int .u32 t3995.1.f1) KR KR)
                      have ha := ha.add (seeF hs 70 14 (.bool (t3989.1 == t3995.1.f0)) KR KR)
                      have ha := ha.bool 70 KR (ieq_t hp4010)
                      refine yStep ha 74 KR ?_; intro l_ ha HK
                      refine stepp ha 74 (.bool (t3989.2.1 == t3995.1.f1)) KR KR ?_; intro ax hax; exact HK _ _ _ hax rfl (Below.refl _ _)
                    · skip
                      intro a wr hn hd HW hs; have ha := hasNil hn hd
                      have ha := ha.add (seeF hs 70 14 (.bool (t3989.1 == t3995.1.f0)) KR KR)
                      have ha := ha.bool 70 KR (ieq_t hp4010)
                      have ha := ha.add (seeF hs 74 18 (.bool (t3989.2.1 == t3995.1.f1)) KR KR)
                      refine yStep ha 75 KR ?_; intro l_ ha HK
                      refine stepp ha 75 (.bool (t3989.2.1 == t3995.1.f1)) KR KR ?_; intro ax hax; exact HK _ _ _ hax rfl (Below.refl _ _)
                    · skip
                      intro a wr hn hd HW hs; have ha := hasNil hn hd
                      have ha := ha.add (seeF hs 75 19 (.bool (t3989.2.1 == t3995.1.f1)) KR KR)
                      refine yStep ha 76 KR ?_; intro l_ ha HK
                      refine stepp ha 76 (.bool (t3989.2.1 == t3995.1.f1)) KR KR ?_; intro ax hax; exact HK _ _ _ hax rfl (Below.refl _ _)
                    · skip
                      intro a wr hn hd HW hs; have ha := hasNil hn hd
                      have ha := ha.add (seeE hs 11 (.string t3989.2.2.1) KR KR)
                      have ha := ha.add (seeF hs 76 20 (.bool (t3989.2.1 == t3995.1.f1)) KR KR)
                      have ha := ha.bool 76 KR (ieq_t hp4011)
                      refine yStep ha 77 KR ?_; intro l_ ha HK
                      refine stepp ha 77 (.string t3989.2.2.1) KR KR ?_; intro ax hax; exact HK _ _ _ hax rfl (Below.refl _ _)
                    · skip
                      intro a wr hn hd HW hs; have ha := hasNil hn hd
                      have ha := ha.add (seeE hs 13 (.pointer (some ⟨b3999, 0, none⟩)) KR KR)
                      have ha := ha.add (seeF hs 76 20 (.bool (t3989.2.1 == t3995.1.f1)) KR KR)
                      have ha := ha.bool 76 KR (ieq_t hp4011)
                      refine yStep ha 78 KR ?_; intro l_ ha HK
                      refine stepp ha 78 (.pointer (some ⟨b3999, 2, none⟩)) KR KR ?_; intro ax hax; exact HK _ _ _ hax rfl (Below.refl _ _)
                    · skip
                      intro a wr hn hd HW hs; have ha := hasNil hn hd
                      have ha := ha.add (seeF hs 78 22 (.pointer (some ⟨b3999, 2, none⟩)) KR KR)
                      have ha := ha.add (seeF hs 76 20 (.bool (t3989.2.1 == t3995.1.f1)) KR KR)
                      have ha := ha.bool 76 KR (ieq_t hp4011)
                      refine yStep ha 79 KR ?_; intro l_ ha HK
                      refine stepl ha 79 (HW.ca (i := 0) (b := b3999) (C := #[.int .i64 t3995.1.f0, .int .u32 t3995.1.f1, .string t3995.1.f2]) (T := 57) (fr := (0, 0)) KR) 9 2 (.tmp 78) (.string t3995.1.f2) rfl KR KR KR ?_; intro ax hax; exact HK _ _ _ hax rfl (Below.refl _ _)
                    · skip
                      intro a wr hn hd HW hs; have ha := hasNil hn hd
                      have ha := ha.add (seeF hs 77 21 (.string t3989.2.2.1) KR KR)
                      have ha := ha.add (seeF hs 79 23 (.string t3995.1.f2) KR KR)
                      have ha := ha.add (seeF hs 76 20 (.bool (t3989.2.1 == t3995.1.f1)) KR KR)
                      have ha := ha.bool 76 KR (ieq_t hp4011)
                      refine yStep ha 80 KR ?_; intro l_ ha HK
                      refine stepp ha 80 (.bool (t3989.2.2.1.toList == t3995.1.f2.toList)) KR KR ?_; intro ax hax; exact HK _ _ _ hax rfl (Below.refl _ _)
                    · skip
                      intro a wr hn hd HW hs; have ha := hasNil hn hd
                      have ha := ha.add (seeF hs 76 20 (.bool (t3989.2.1 == t3995.1.f1)) KR KR)
                      have ha := ha.bool 76 KR (ieq_t hp4011)
                      have ha := ha.add (seeF hs 80 24 (.bool (t3989.2.2.1.toList == t3995.1.f2.toList)) KR KR)
                      refine yStep ha 81 KR ?_; intro l_ ha HK
                      refine stepp ha 81 (.bool (t3989.2.2.1.toList == t3995.1.f2.toList)) KR KR ?_; intro ax hax; exact HK _ _ _ hax rfl (Below.refl _ _)
                    · skip
                      intro a wr hn hd HW hs; have ha := hasNil hn hd
                      have ha := ha.add (seeF hs 81 25 (.bool (t3989.2.2.1.toList == t3995.1.f2.toList)) KR KR)
                      refine yStep ha 82 KR ?_; intro l_ ha HK
                      refine stepp ha 82 (.bool (t3989.2.2.1.toList == t3995.1.f2.toList)) KR KR ?_; intro ax hax; exact HK _ _ _ hax rfl (Below.refl _ _)
                    · skip
                      intro a wr hn hd HW hs; have ha := hasNil hn hd
                      have ha := ha.add (seeE hs 12 (.int .i64 t3989.2.2.2) KR KR)
                      have ha := ha.add (seeF hs 82 26 (.bool (t3989.2.2.1.toList == t3995.1.f2.toList)) KR KR)
                      have ha := ha.bool 82 KR (str_eq_t hp4012)
                      refine yStep ha 83 KR ?_; intro l_ ha HK
                      refine stepp ha 83 (.int .i64 t3989.2.2.2) KR KR ?_; intro ax hax; exact HK _ _ _ hax rfl (Below.refl _ _)
                    · skip
                      intro a wr hn hd HW hs; have ha := hasNil hn hd
                      have ha := ha.add (seeE hs 14 (.int .i64 t3995.2) KR KR)
                      have ha := ha.add (seeF hs 82 26 (.bool (t3989.2.2.1.toList == t3995.1.f2.toList)) KR KR)
                      have ha := ha.bool 82 KR (str_eq_t hp4012)
                      refine yStep ha 84 KR ?_; intro l_ ha HK
                      refine stepp ha 84 (.int .i64 t3995.2) KR KR ?_; intro ax hax; exact HK _ _ _ hax rfl (Below.refl _ _)
                    · skip
                      intro a wr hn hd HW hs; have ha := hasNil hn hd
                      have ha := ha.add (seeF hs 83 27 (.int .i64 t3989.2.2.2) KR KR)
                      have ha := ha.add (seeF hs 84 28 (.int .i64 t3995.2) KR KR)
                      have ha := ha.add (seeF hs 82 26 (.bool (t3989.2.2.1.toList == t3995.1.f2.toList)) KR KR)
                      have ha := ha.bool 82 KR (str_eq_t hp4012)
                      refine yStep ha 85 KR ?_; intro l_ ha HK
                      refine stepp ha 85 (.bool (t3989.2.2.2 == t3995.2)) KR KR ?_; intro ax hax; exact HK _ _ _ hax rfl (Below.refl _ _)
                    · skip
                      intro a wr hn hd HW hs; have ha := hasNil hn hd
                      have ha := ha.add (seeF hs 82 26 (.bool (t3989.2.2.1.toList == t3995.1.f2.toList)) KR KR)
                      have ha := ha.bool 82 KR (str_eq_t hp4012)
                      have ha := ha.add (seeF hs 85 29 (.bool (t3989.2.2.2 == t3995.2)) KR KR)
                      refine yStep ha 86 KR ?_; intro l_ ha HK
                      refine stepp ha 86 (.bool (t3989.2.2.2 == t3995.2)) KR KR ?_; intro ax hax; exact HK _ _ _ hax rfl (Below.refl _ _)
                    · skip
                      intro a wr hn hd HW hs; have ha := hasNil hn hd
                      have ha := ha.add (seeF hs 86 30 (.bool (t3989.2.2.2 == t3995.2)) KR KR)
                      refine yStep ha 87 KR ?_; intro l_ ha HK
                      refine stepp ha 87 (.bool (t3989.2.2.2 == t3995.2)) KR KR ?_; intro ax hax; exact HK _ _ _ hax rfl (Below.refl _ _)
                    · skip
                      intro a wr hn hd HW hs; have ha := hasNil hn hd
                      have ha := ha.add (seeE hs 2 (.pointer (some ⟨b3941, 0, none⟩)) KR KR)
                      have ha := ha.add (seeF hs 87 31 (.bool (t3989.2.2.2 == t3995.2)) KR KR)
                      have ha := ha.bool 87 KR (ieq_f hp4013)
                      exact yo ha KR rfl
                    · skip
                      intro a wr hn hd HW hs; have ha := hasNil hn hd
                      have ha := ha.add (seeF hs 88 32 (undef) KR KR)
                      have ha := ha.add (seeF hs 87 31 (.bool (t3989.2.2.2 == t3995.2)) KR KR)
                      have ha := ha.bool 87 KR (ieq_f hp4013)
                      exact yo ha KR rfl
                    · skip
                      intro a wr hn hd HW hs; have ha := hasNil hn hd
                      have ha := ha.add (seeF hs 89 33 (undef) KR KR)
                      have ha := ha.add (seeF hs 87 31 (.bool (t3989.2.2.2 == t3995.2)) KR KR)
                      have ha := ha.bool 87 KR (ieq_f hp4013)
                      exact yo ha KR rfl
                    · skip
                      intro a wr hn hd HW hs; have ha := hasNil hn hd
                      have ha := ha.add (seeE hs 2 (.pointer (some ⟨b3941, 0, none⟩)) KR KR)
                      have ha := ha.add (seeF hs 87 31 (.bool (t3989.2.2.2 == t3995.2)) KR KR)
                      have ha := ha.bool 87 KR (ieq_f hp4013)
                      exact yo ha KR rfl
                    · skip
                      intro a wr hn hd HW hs; have ha := hasNil hn hd
                      have ha := ha.add (seeF hs 91 35 (undef) KR KR)
                      have ha := ha.add (seeF hs 87 31 (.bool (t3989.2.2.2 == t3995.2)) KR KR)
                      have ha := ha.bool 87 KR (ieq_f hp4013)
                      exact yo ha KR rfl
                    · skip
                      intro a wr hn hd HW hs; have ha := hasNil hn hd
                      have ha := ha.add (seeF hs 92 36 (undef) KR KR)
                      have ha := ha.add (seeF hs 87 31 (.bool (t3989.2.2.2 == t3995.2)) KR KR)
                      have ha := ha.bool 87 KR (ieq_f hp4013)
                      exact yo ha KR rfl
                    · skip
                      intro a wr hn hd HW hs; have ha := hasNil hn hd
                      have ha := ha.add (seeF hs 90 34 (undef) KR KR)
                      have ha := ha.add (seeF hs 93 37 (undef) KR KR)
                      have ha := ha.add (seeF hs 87 31 (.bool (t3989.2.2.2 == t3995.2)) KR KR)
                      have ha := ha.bool 87 KR (ieq_f hp4013)
                      exact yo ha KR rfl
                    · skip
                      intro a wr hn hd HW hs; have ha := hasNil hn hd
                      have ha := ha.add (seeF hs 87 31 (.bool (t3989.2.2.2 == t3995.2)) KR KR)
                      have ha := ha.bool 87 KR (ieq_f hp4013)
                      have ha := ha.add (seeF hs 94 38 (undef) KR KR)
                      refine yStep ha 95 KR ?_; intro l_ ha HK
                      refine stepp ha 95 (.bool false) KR KR ?_; intro ax hax; exact HK _ _ _ hax rfl (Below.refl _ _)
                    · skip
                      intro a wr hn hd HW hs; have ha := hasNil hn hd
                      have ha := ha.add (seeF hs 95 39 (.bool false) KR KR)
                      refine yStep ha 96 KR ?_; intro l_ ha HK
                      refine stepp ha 96 (.bool false) KR KR ?_; intro ax hax; exact HK _ _ _ hax rfl (Below.refl _ _)
                    · skip
                      intro a wr hn hd HW hs; have ha := hasNil hn hd
                      have ha := ha.add (seeF hs 96 40 (.bool false) KR KR)
                      exact yo ha KR rfl
                    · skip
                      intro a wr hn hd HW hs; have ha := hasNil hn hd
                      have ha := ha.add (seeF hs 96 40 (.bool false) KR KR)
                      have ha := ha.add (seeF hs 97 41 (undef) KR KR)
                      refine yStep ha 98 KR ?_; intro l_ ha HK
                      refine stepp ha 98 (.bool false) KR KR ?_; intro ax hax; exact HK _ _ _ hax rfl (Below.refl _ _)
                  · skip
                    intro a W4029 ha HW he hf
                    replace ha := ha.add (gotF (m := 43) (j := 42) (d := 98) (v := .bool false) hf KR KR KR)
                    clear he hf
                    refine stepp ha 4 (.bool false) KR KR ?_; clear ha a; intro a ha
                    refine endl ?_
                    refine thenN (hK4003 _ _ ?_); clear hK4003
                    refine wp_ret ?_
                    obtain rfl := Option.some.inj h
                    exact finv ha _ _ rfl (.tmp (v := .bool false) KR .nil) (.bool false) rfl ⟨rfl, HW.pick [] [] (by decide) (by decide) rfl KR⟩
              · skip
                replace h := ite_neg' h hp4012
                refine regionG 43 KR KR ha HW [.fix (.agg #[.int .i64 t3965.1.f0, .int .i64 t3965.1.f1, .string t3965.1.f2, .int .i64 t3965.1.f3, .int .i64 t3965.1.f4, .string t3965.1.f5, .bool t3965.1.f6, .slice A3967 t3965.1.f7.length c3968, .int .u64 t3965.1.f8, .int .u64 t3965.1.f9, .int .u64 t3965.1.f10, .int .i64 t3965.1.f11, .bool t3965.1.f12, .int .i64 t3965.1.f13]), .fix (.agg #[.int .i64 t3977.1.f0, .int .i64 t3977.1.f1, .string t3977.1.f2, .int .i64 t3977.1.f3, .int .i64 t3977.1.f4, .string t3977.1.f5, .bool t3977.1.f6, .slice A3979 t3977.1.f7.length c3980, .int .u64 t3977.1.f8, .int .u64 t3977.1.f9, .int .u64 t3977.1.f10, .int .i64 t3977.1.f11, .bool t3977.1.f12, .int .i64 t3977.1.f13]), .fix (.bool t4004), .fix (.bool t4004), .fix (.int .i64 t3965.2), .fix (.int .i64 t3977.2), .fix (.bool (t3965.2 == t3977.2)), .fix (.bool (t3965.2 == t3977.2)), .fix (.bool (t3965.2 == t3977.2)), .fix (.int .i64 t3989.1), .fix (.pointer (some ⟨b3999, 0, none⟩)), .fix (.int .i64 t3995.1.f0), .fix (.bool (t3989.1 == t3995.1.f0)), .fix (.bool (t3989.1 == t3995.1.f0)), .fix (.bool (t3989.1 == t3995.1.f0)), .fix (.int .u32 t3989.2.1), .fix (.pointer (some ⟨b3999, 1, none⟩)), .fix (.int .u32 t3995.1.f1), .fix (.bool (t3989.2.1 == t3995.1.f1)), .fix (.bool (t3989.2.1 == t3995.1.f1)), .fix (.bool (t3989.2.1 == t3995.1.f1)), .fix (.string t3989.2.2.1), .fix (.pointer (some ⟨b3999, 2, none⟩)), .fix (.string t3995.1.f2), .fix (.bool (t3989.2.2.1.toList == t3995.1.f2.toList)), .fix (.bool (t3989.2.2.1.toList == t3995.1.f2.toList)), .fix (.bool (t3989.2.2.1.toList == t3995.1.f2.toList)), .fix undef, .fix undef, .fix undef, .fix (.bool false), .fix (.bool false), .fix undef, .fix undef, .fix undef, .fix undef, .fix undef, .fix undef, .fix undef, .fix (.bool false), .fix (.bool false), .fix undef, .fix (.bool false)] ?_ ?_
                · skip
                  refine ⟨?_, ?_, ?_, ?_, ?_, ?_, ?_, ?_, ?_, ?_, ?_, ?_, ?_, ?_, ?_, ?_, ?_, ?_, ?_, ?_, ?_, ?_, ?_, ?_, ?_, ?_, ?_, ?_, ?_, ?_, ?_, ?_, ?_, ?_, ?_, ?_, ?_, ?_, ?_, ?_, ?_, ?_, ?_, trivial⟩
                  · skip
                    intro a wr hn hd HW hs; have ha := hasNil hn hd
                    have ha := ha.add (seeE hs 5 (.pointer (some ⟨b3972, 0, none⟩)) KR KR)
                    refine yStep ha 56 KR ?_; intro l_ ha HK
                    refine stepl ha 56 (HW.ca (i := 2) (b := b3972) (C := #[.int .i64 t3965.1.f0, .int .i64 t3965.1.f1, .string t3965.1.f2, .int .i64 t3965.1.f3, .int .i64 t3965.1.f4, .string t3965.1.f5, .bool t3965.1.f6, .slice A3967 t3965.1.f7.length c3968, .int .u64 t3965.1.f8, .int .u64 t3965.1.f9, .int .u64 t3965.1.f10, .int .i64 t3965.1.f11, .bool t3965.1.f12, .int .i64 t3965.1.f13]) (T := 49) (fr := (0, 0)) KR) 49 0 (.tmp 5) (.agg #[.int .i64 t3965.1.f0, .int .i64 t3965.1.f1, .string t3965.1.f2, .int .i64 t3965.1.f3, .int .i64 t3965.1.f4, .string t3965.1.f5, .bool t3965.1.f6, .slice A3967 t3965.1.f7.length c3968, .int .u64 t3965.1.f8, .int .u64 t3965.1.f9, .int .u64 t3965.1.f10, .int .i64 t3965.1.f11, .bool t3965.1.f12, .int .i64 t3965.1.f13]) rfl KR KR KR ?_; intro ax hax; exact HK _ _ _ hax rfl (Below.refl _ _)
                  · skip
                    intro a wr hn hd HW hs; have ha := hasNil hn hd
                    have ha := ha.add (seeE hs 7 (.pointer (some ⟨b3984, 0, none⟩)) KR KR)
                    refine yStep ha 57 KR ?_; intro l_ ha HK
                    refine stepl ha 57 (HW.ca (i := 1) (b := b3984) (C := #[.int .i64 t3977.1.f0, .int .i64 t3977.1.f1, .string t3977.1.f2, .int .i64 t3977.1.f3, .int .i64 t3977.1.f4, .string t3977.1.f5, .bool t3977.1.f6, .slice A3979 t3977.1.f7.length c3980, .int .u64 t3977.1.f8, .int .u64 t3977.1.f9, .int .u64 t3977.1.f10, .int .i64 t3977.1.f11, .bool t3977.1.f12, .int .i64 t3977.1.f13]) (T := 49) (fr := (0, 0)) KR) 49 0 (.tmp 7) (.agg #[.int .i64 t3977.1.f0, .int .i64 t3977.1.f1, .string t3977.1.f2, .int .i64 t3977.1.f3, .int .i64 t3977.1.f4, .string t3977.1.f5, .bool t3977.1.f6, .slice A3979 t3977.1.f7.length c3980, .int .u64 t3977.1.f8, .int .u64 t3977.1.f9, .int .u64 t3977.1.f10, .int .i64 t3977.1.f11, .bool t3977.1.f12, .int .i64 t3977.1.f13]) rfl KR KR KR ?_; intro ax hax; exact HK _ _ _ hax rfl (Below.refl _ _)
                  · skip
                    intro a wr hn hd HW hs; have ha := hasNil hn hd
                    have ha := ha.add (seeF hs 56 0 (.agg #[.int .i64 t3965.1.f0, .int .i64 t3965.1.f1, .string t3965.1.f2, .int .i64 t3965.1.f3, .int .i64 t3965.1.f4, .string t3965.1.f5, .bool t3965.1.f6, .slice A3967 t3965.1.f7.length c3968, .int .u64 t3965.1.f8, .int .u64 t3965.1.f9, .int .u64 t3965.1.f10, .int .i64 t3965.1.f11, .bool t3965.1.f12, .int .i64 t3965.1.f13]) KR KR)
                    have ha := ha.add (seeF hs 57 1 (.agg #[.int .i64 t3977.1.f0, .int .i64 t3977.1.f1, .string t3977.1.f2, .int .i64 t3977.1.f3, .int .i64 t3977.1.f4, .string t3977.1.f5, .bool t3977.1.f6, .slice A3979 t3977.1.f7.length c3980, .int .u64 t3977.1.f8, .int .u64 t3977.1.f9, .int .u64 t3977.1.f10, .int .i64 t3977.1.f11, .bool t3977.1.f12, .int .i64 t3977.1.f13]) KR KR)
                    refine yStep ha 58 KR ?_; intro l_ ha HK
                    refine stepc ha 58 KR KR (headgatekeep_Cmds.calls K (⟨t3965.1.f0, t3965.1.f1, t3965.1.f2, t3965.1.f3, t3965.1.f4, t3965.1.f5, t3965.1.f6, t3965.1.f7, t3965.1.f8, t3965.1.f9, t3965.1.f10, t3965.1.f11, t3965.1.f12, t3965.1.f13⟩ : T_api_Cmd) (⟨t3977.1.f0, t3977.1.f1, t3977.1.f2, t3977.1.f3, t3977.1.f4, t3977.1.f5, t3977.1.f6, t3977.1.f7, t3977.1.f8, t3977.1.f9, t3977.1.f10, t3977.1.f11, t3977.1.f12, t3977.1.f13⟩ : T_api_Cmd) A3967 c3968 A3979 c3980 t4004 _ (HW.rdo (i := 1) (q := ⟨128, 2, .slice A3967 t3965.1.f7.length c3968, t3965.1.f7.length, encs T_api_Range.enc t3965.1.f7⟩) KR) (HW.rdo (i := 0) (q := ⟨128, 2, .slice A3979 t3977.1.f7.length c3980, t3977.1.f7.length, encs T_api_Range.enc t3977.1.f7⟩) KR) ht4005) ?_; rintro e W4006 ⟨rfl, HX4007⟩
                    refine ⟨_, rfl, ?_⟩; intro ax hax; exact HK _ _ _ hax rfl HX4007.below
                  · skip
                    intro a wr hn hd HW hs; have ha := hasNil hn hd
                    have ha := ha.add (seeF hs 58 2 (.bool t4004) KR KR)
                    refine yStep ha 59 KR ?_; intro l_ ha HK
                    refine stepp ha 59 (.bool t4004) KR KR ?_; intro ax hax; exact HK _ _ _ hax rfl (Below.refl _ _)
                  · skip
                    intro a wr hn hd HW hs; have ha := hasNil hn hd
                    have ha := ha.add (seeE hs 6 (.int .i64 t3965.2) KR KR)
                    have ha := ha.add (seeF hs 59 3 (.bool t4004) KR KR)
                    have ha := ha.bool 59 KR (hp4008)
                    refine yStep ha 60 KR ?_; intro l_ ha HK
                    refine stepp ha 60 (.int .i64 t3965.2) KR KR ?_; intro ax hax; exact HK _ _ _ hax rfl (Below.refl _ _)
                  · skip
                    intro a wr hn hd HW hs; have ha := hasNil hn hd
                    have ha := ha.add (seeE hs 8 (.int .i64 t3977.2) KR KR)
                    have ha := ha.add (seeF hs 59 3 (.bool t4004) KR KR)
                    have ha := ha.bool 59 KR (hp4008)
                    refine yStep ha 61 KR ?_; intro l_ ha HK
                    refine stepp ha 61 (.int .i64 t3977.2) KR KR ?_; intro ax hax; exact HK _ _ _ hax rfl (Below.refl _ _)
                  · skip
                    intro a wr hn hd HW hs; have ha := hasNil hn hd
                    have ha := ha.add (seeF hs 60 4 (.int .i64 t3965.2) KR KR)
                    have ha := ha.add (seeF hs 61 5 (.int .i64 t3977.2) KR KR)
                    have ha := ha.add (seeF hs 59 3 (.bool t4004) KR KR)
                    have ha := ha.bool 59 KR (hp4008)
                    refine yStep ha 62 KR ?_; intro l_ ha HK
                    refine stepp ha 62 (.bool (t3965.2 == t3977.2)) KR KR ?_; intro ax hax; exact HK _ _ _ hax rfl (Below.refl _ _)
                  · skip
                    intro a wr hn hd HW hs; have ha := hasNil hn hd
                    have ha := ha.add (seeF hs 59 3 (.bool t4004) KR KR)
                    have ha := ha.bool 59 KR (hp4008)
                    have ha := ha.add (seeF hs 62 6 (.bool (t3965.2 == t3977.2)) KR KR)
                    refine yStep ha 63 KR ?_; intro l_ ha HK
                    refine stepp ha 63 (.bool (t3965.2 == t3977.2)) KR KR ?_; intro ax hax; exact HK _ _ _ hax rfl (Below.refl _ _)
                  · skip
                    intro a wr hn hd HW hs; have ha := hasNil hn hd
                    have ha := ha.add (seeF hs 63 7 (.bool (t3965.2 == t3977.2)) KR KR)
                    refine yStep ha 64 KR ?_; intro l_ ha HK
                    refine stepp ha 64 (.bool (t3965.2 == t3977.2)) KR KR ?_; intro ax hax; exact HK _ _ _ hax rfl (Below.refl _ _)
                  · skip
                    intro a wr hn hd HW hs; have ha := hasNil hn hd
                    have ha := ha.add (seeE hs 9 (.int .i64 t3989.1) KR KR)
                    have ha := ha.add (seeF hs 64 8 (.bool (t3965.2 == t3977.2)) KR KR)
                    have ha := ha.bool 64 KR (ieq_t hp4009)
                    refine yStep ha 65 KR ?_; intro l_ ha HK
                    refine stepp ha 65 (.int .i64 t3989.1) KR KR ?_; intro ax hax; exact HK _ _ _ hax rfl (Below.refl _ _)
                  · skip
                    intro a wr hn hd HW hs; have ha := hasNil hn hd
                    have ha := ha.add (seeE hs 13 (.pointer (some ⟨b3999, 0, none⟩)) KR KR)
                    have ha := ha.add (seeF hs 64 8 (.bool (t3965.2 == t3977.2)) KR KR)
                    have ha := ha.bool 64 KR (ieq_t hp4009)
                    refine yStep ha 66 KR ?_; intro l_ ha HK
                    refine stepp ha 66 (.pointer (some ⟨b3999, 0, none⟩)) KR KR ?_; intro ax hax; exact HK _ _ _ hax rfl (Below.refl _ _)
                  · skip
                    intro a wr hn hd HW hs; have ha := hasNil hn hd
                    have ha := ha.add (seeF hs 66 10 (.pointer (some ⟨b3999, 0, none⟩)) KR KR)
                    have ha := ha.add (seeF hs 64 8 (.bool (t3965.2 == t3977.2)) KR KR)
                    have ha := ha.bool 64 KR (ieq_t hp4009)
                    refine yStep ha 67 KR ?_; intro l_ ha HK
                    refine stepl ha 67 (HW.ca (i := 0) (b := b3999) (C := #[.int .i64 t3995.1.f0, .int .u32 t3995.1.f1, .string t3995.1.f2]) (T := 57) (fr := (0, 0)) KR) 3 0 (.tmp 66) (.int .i64 t3995.1.f0) rfl KR KR KR ?_; intro ax hax; exact HK _ _ _ hax rfl (Below.refl _ _)
                  · skip
                    intro a wr hn hd HW hs; have ha := hasNil hn hd
                    have ha := ha.add (seeF hs 65 9 (.int .i64 t3989.1) KR KR)
                    have ha := ha.add (seeF hs 67 11 (.int .i64 t3995.1.f0) KR KR)
                    have ha := ha.add (seeF hs 64 8 (.bool (t3965.2 == t3977.2)) KR KR)
                    have ha := ha.bool 64 KR (ieq_t hp4009)
                    refine yStep ha 68 KR ?_; intro l_ ha HK
                    refine stepp ha 68 (.bool (t3989.1 == t3995.1.f0)) KR KR ?_; intro ax hax; exact HK _ _ _ hax rfl (Below.refl _ _)
                  · skip
                    intro a wr hn hd HW hs; have ha := hasNil hn hd
                    have ha := ha.add (seeF hs 64 8 (.bool (t3965.2 == t3977.2)) KR KR)
                    have ha := ha.bool 64 KR (ieq_t hp4009)
                    have ha := ha.add (seeF hs 68 12 (.bool (t3989.1 == t3995.1.f0)) KR KR)
                    refine yStep ha 69 KR ?_; intro l_ ha HK
                    refine stepp ha 69 (.bool (t3989.1 == t3995.1.f0)) KR KR ?_; intro ax hax; exact HK _ _ _ hax rfl (Below.refl _ _)
                  · skip
                    intro a wr hn hd HW hs; have ha := hasNil hn hd
                    have ha := ha.add (seeF hs 69 13 (.bool (t3989.1 == t3995.1.f0)) KR KR)
                    refine yStep ha 70 KR ?_; intro l_ ha HK
                    refine stepp ha 70 (.bool (t3989.1 == t3995.1.f0)) KR KR ?_; intro ax hax; exact HK _ _ _ hax rfl (Below.refl _ _)
                  · skip
                    intro a wr hn hd HW hs; have ha := hasNil hn hd
                    have ha := ha.add (seeE hs 10 (.int .u32 t3989.2.1) KR KR)
                    have ha := ha.add (seeF hs 70 14 (.bool (t3989.1 == t3995.1.f0)) KR KR)
                    have ha := ha.bool 70 KR (ieq_t hp4010)
                    refine yStep ha 71 KR ?_; intro l_ ha HK
                    refine stepp ha 71 (.int .u32 t3989.2.1) KR KR ?_; intro ax hax; exact HK _ _ _ hax rfl (Below.refl _ _)
                  · skip
                    intro a wr hn hd HW hs; have ha := hasNil hn hd
                    have ha := ha.add (seeE hs 13 (.pointer (some ⟨b3999, 0, none⟩)) KR KR)
                    have ha := ha.add (seeF hs 70 14 (.bool (t3989.1 == t3995.1.f0)) KR KR)
                    have ha := ha.bool 70 KR (ieq_t hp4010)
                    refine yStep ha 72 KR ?_; intro l_ ha HK
                    refine stepp ha 72 (.pointer (some ⟨b3999, 1, none⟩)) KR KR ?_; intro ax hax; exact HK _ _ _ hax rfl (Below.refl _ _)
                  · skip
                    intro a wr hn hd HW hs; have ha := hasNil hn hd
                    have ha := ha.add (seeF hs 72 16 (.pointer (some ⟨b3999, 1, none⟩)) KR KR)
                    have ha := ha.add (seeF hs 70 14 (.bool (t3989.1 == t3995.1.f0)) KR KR)
                    have ha := ha.bool 70 KR (ieq_t hp4010)
                    refine yStep ha 73 KR ?_; intro l_ ha HK
                    refine stepl ha 73 (HW.ca (i := 0) (b := b3999) (C := #[.int .i64 t3995.1.f0, .int .u32 t3995.1.f1, .string t3995.1.f2]) (T := 57) (fr := (0, 0)) KR) 25 1 (.tmp 72) (.int .u32 t3995.1.f1) rfl KR KR KR ?_; intro ax hax; exact HK _ _ _ hax rfl (Below.refl _ _)
                  · skip
                    intro a wr hn hd HW hs; have ha := hasNil hn hd
                    have ha := ha.add (seeF hs 71 15 (.int .u32 t3989.2.1) KR KR)
                    have ha := ha.add (seeF hs 73 17 (.int .u32 t3995.1.f1) KR KR)
                    have ha := ha.add (seeF hs 70 14 (.bool (t3989.1 == t3995.1.f0)) KR KR)
                    have ha := ha.bool 70 KR (ieq_t hp4010)
                    refine yStep ha 74 KR ?_; intro l_ ha HK
                    refine stepp ha 74 (.bool (t3989.2.1 == t3995.1.f1)) KR KR ?_; intro ax hax; exact HK _ _ _ hax rfl (Below.refl _ _)
                  · skip
                    intro a wr hn hd HW hs; have ha := hasNil hn hd
                    have ha := ha.add (seeF hs 70 14 (.bool (t3989.1 == t3995.1.f0)) KR KR)
                    have ha := ha.bool 70 KR (ieq_t hp4010)
                    have ha := ha.add (seeF hs 74 18 (.bool (t3989.2.1 == t3995.1.f1)) KR KR)
                    refine yStep ha 75 KR ?_; intro l_ ha HK
                    refine stepp ha 75 (.bool (t3989.2.1 == t3995.1.f1)) KR KR ?_; intro ax hax; exact HK _ _ _ hax rfl (Below.refl _ _)
                  · skip
                    intro a wr hn hd HW hs; have ha := hasNil hn hd
                    have ha := ha.add (seeF hs 75 19 (.bool (t3989.2.1 == t3995.1.f1)) KR KR)
                    refine yStep ha 76 KR ?_; intro l_ ha HK
                    refine stepp ha 76 (.bool (t3989.2.1 == t3995.1.f1)) KR KR ?_; intro ax hax; exact HK _ _ _ hax rfl (Below.refl _ _)
                  · skip
                    intro a wr hn hd HW hs; have ha := hasNil hn hd
                    have ha := ha.add (seeE hs 11 (.string t3989.2.2.1) KR KR)
                    have ha := ha.add (seeF hs 76 20 (.bool (t3989.2.1 == t3995.1.f1)) KR KR)
                    have ha := ha.bool 76 KR (ieq_t hp4011)
                    refine yStep ha 77 KR ?_; intro l_ ha HK
                    refine stepp ha 77 (.string t3989.2.2.1) KR KR ?_; intro ax hax; exact HK _ _ _ hax rfl (Below.refl _ _)
                  · skip
                    intro a wr hn hd HW hs; have ha := hasNil hn hd
                    have ha := ha.add (seeE hs 13 (.pointer (some ⟨b3999, 0, none⟩)) KR KR)
                    have ha := ha.add (seeF hs 76 20 (.bool (t3989.2.1 == t3995.1.f1)) KR KR)
                    have ha := ha.bool 76 KR (ieq_t hp4011)
                    refine yStep ha 78 KR ?_; intro l_ ha HK
                    refine stepp ha 78 (.pointer (some ⟨b3999, 2, none⟩)) KR KR ?_; intro ax hax; exact HK _ _ _ hax rfl (Below.refl _ _)
                  · skip
                    intro a wr hn hd HW hs; have ha := hasNil hn hd
                    have ha := ha.add (seeF hs 78 22 (.pointer (some ⟨b3999, 2, none⟩)) KR KR)
                    have ha := ha.add (seeF hs 76 20 (.bool (t3989.2.1 == t3995.1.f1)) KR KR)
                    have ha := ha.bool 76 KR (ieq_t hp4011)
                    refine yStep ha 79 KR ?_; intro l_ ha HK
                    refine stepl ha 79 (HW.ca (i := 0) (b := b3999) (C := #[.int .i64 t3995.1.f0, .int .u32 t3995.1.f1, .string t3995.1.f2]) (T := 57) (fr := (0, 0)) KR) 9 2 (.tmp 78) (.string t3995.1.f2) rfl KR KR KR ?_; intro ax hax; exact HK _ _ _ hax rfl (Below.refl _ _)
                  · skip
                    intro a wr hn hd HW hs; have ha := hasNil hn hd
                    have ha := ha.add (seeF hs 77 21 (.string t3989.2.2.1) KR KR)
                    have ha := ha.add (seeF hs 79 23 (.string t3995.1.f2) KR KR)
                    have ha := ha.add (seeF hs 76 20 (.bool (t3989.2.1 == t3995.1.f1)) KR KR)
                    have ha := ha.bool 76 KR (ieq_t hp4011)
                    refine yStep ha 80 KR ?_; intro l_ ha HK
                    refine stepp ha 80 (.bool (t3989.2.2.1.toList == t3995.1.f2.toList)) KR KR ?_; intro ax hax; exact HK _ _ _ hax rfl (Below.refl _ _)
                  · skip
                    intro a wr hn hd HW hs; have ha := hasNil hn hd
                    have ha := ha.add (seeF hs 76 20 (.bool (t3989.2.1 == t3995.1.f1)) KR KR)
                    have ha := ha.bool 76 KR (ieq_t hp4011)
                    have ha := ha.add (seeF hs 80 24 (.bool (t3989.2.2.1.toList == t3995.1.f2.toList)) KR KR)
                    refine yStep ha 81 KR ?_; intro l_ ha HK
                    refine stepp ha 81 (.bool (t3989.2.2.1.toList == t3995.1.f2.toList)) KR KR ?_; intro ax hax; exact HK _ _ _ hax rfl (Below.refl _ _)
                  · skip
                    intro a wr hn hd HW hs; have ha := hasNil hn hd
                    have ha := ha.add (seeF hs 81 25 (.bool (t3989.2.2.1.toList == t3995.1.f2.toList)) KR KR)
                    refine yStep ha 82 KR ?_; intro l_ ha HK
                    refine stepp ha 82 (.bool (t3989.2.2.1.toList == t3995.1.f2.toList)) KR KR ?_; intro ax hax; exact HK _ _ _ hax rfl (Below.refl _ _)
                  · skip
                    intro a wr hn hd HW hs; have ha := hasNil hn hd
                    have ha := ha.add (seeE hs 12 (.int .i64 t3989.2.2.2) KR KR)
                    have ha := ha.add (seeF hs 82 26 (.bool (t3989.2.2.1.toList == t3995.1.f2.toList)) KR KR)
                    have ha := ha.bool 82 KR (str_eq_f hp4012)
                    exact yo ha KR rfl
                  · skip
                    intro a wr hn hd HW hs; have ha := hasNil hn hd
                    have ha := ha.add (seeE hs 14 (.int .i64 t3995.2) KR KR)
                    have ha := ha.add (seeF hs 82 26 (.bool (t3989.2.2.1.toList == t3995.1.f2.toList)) KR KR)
                    have ha := ha.bool 82 KR (str_eq_f hp4012)
                    exact yo ha KR rfl
                  · skip
                    intro a wr hn hd HW hs; have ha := hasNil hn hd
                    have ha := ha.add (seeF hs 83 27 (undef) KR KR)
                    have ha := ha.add (seeF hs 84 28 (undef) KR KR)
                    have ha := ha.add (seeF hs 82 26 (.bool (t3989.2.2.1.toList == t3995.1.f2.toList)) KR KR)
                    have ha := ha.bool 82 KR (str_eq_f hp4012)
                    exact yo ha KR rfl
                  · skip
                    intro a wr hn hd HW hs; have ha := hasNil hn hd
                    have ha := ha.add (seeF hs 82 26 (.bool (t3989.2.2.1.toList == t3995.1.f2.toList)) KR KR)
                    have ha := ha.bool 82 KR (str_eq_f hp4012)
                    have ha := ha.add (seeF hs 85 29 (undef) KR KR)
                    refine yStep ha 86 KR ?_; intro l_ ha HK
                    refine stepp ha 86 (.bool false) KR KR ?_; intro ax hax; exact HK _ _ _ hax rfl (Below.refl _ _)
                  · skip
                    intro a wr hn hd HW hs; have ha := hasNil hn hd
                    have ha := ha.add (seeF hs 86 30 (.bool false) KR KR)
                    refine yStep ha 87 KR ?_; intro l_ ha HK
                    refine stepp ha 87 (.bool false) KR KR ?_; intro ax hax; exact HK _ _ _ hax rfl (Below.refl _ _)
                  · skip
                    intro a wr hn hd HW hs; have ha := hasNil hn hd
                    have ha := ha.add (seeE hs 2 (.pointer (some ⟨b3941, 0, none⟩)) KR KR)
                    have ha := ha.add (seeF hs 87 31 (.bool false) KR KR)
                    exact yo ha KR rfl
                  · skip
                    intro a wr hn hd HW hs; have ha := hasNil hn hd
                    have ha := ha.add (seeF hs 88 32 (undef) KR KR)
                    have ha := ha.add (seeF hs 87 31 (.bool false) KR KR)
                    exact yo ha KR rfl
                  · skip
                    intro a wr hn hd HW hs; have ha := hasNil hn hd
                    have ha := ha.add (seeF hs 89 33 (undef) KR KR)
                    have ha := ha.add (seeF hs 87 31 (.bool false) KR KR)
                    exact yo ha KR rfl
                  · skip
                    intro a wr hn hd HW hs; have ha := hasNil hn hd
                    have ha := ha.add (seeE hs 2 (.pointer (some ⟨b3941, 0, none⟩)) KR KR)
                    have ha := ha.add (seeF hs 87 31 (.bool false) KR KR)
                    exact yo ha KR rfl
                  · skip
                    intro a wr hn hd HW hs; have ha := hasNil hn hd
                    have ha := ha.add (seeF hs 91 35 (undef) KR KR)
                    have ha := ha.add (seeF hs 87 31 (.bool false) KR KR)
                    exact yo ha KR rfl
                  · skip
                    intro a wr hn hd HW hs; have ha := hasNil hn hd
                    have ha := ha.add (seeF hs 92 36 (undef) KR KR)
                    have ha := ha.add (seeF hs 87 31 (.bool false) KR KR)
                    exact yo ha KR rfl
                  · skip
                    intro a wr hn hd HW hs; have ha := hasNil hn hd
                    have ha := ha.add (seeF hs 90 34 (undef) KR KR)
                    have ha := ha.add (seeF hs 93 37 (undef) KR KR)
                    have ha := ha.add (seeF hs 87 31 (.bool false) KR KR)
                    exact yo ha KR rfl
                  · skip
                    intro a wr hn hd HW hs; have ha := hasNil hn hd
                    have ha := ha.add (seeF hs 87 31 (.bool false) KR KR)
                    have ha := ha.add (seeF hs 94 38 (undef) KR KR)
                    refine yStep ha 95 KR ?_; intro l_ ha HK
                    refine stepp ha 95 (.bool false) KR KR ?_; intro ax hax; exact HK _ _ _ hax rfl (Below.refl _ _)
                  · skip
                    intro a wr hn hd HW hs; have ha := hasNil hn hd
                    have ha := ha.add (seeF hs 95 39 (.bool false) KR KR)
                    refine yStep ha 96 KR ?_; intro l_ ha HK
                    refine stepp ha 96 (.bool false) KR KR ?_; intro ax hax; exact HK _ _ _ hax rfl (Below.refl _ _)
                  · skip
                    intro a wr hn hd HW hs; have ha := hasNil hn hd
                    have ha := ha.add (seeF hs 96 40 (.bool false) KR KR)
                    exact yo ha KR rfl
                  · skip
                    intro a wr hn hd HW hs; have ha := hasNil hn hd
                    have ha := ha.add (seeF hs 96 40 (.bool false) KR KR)
                    have ha := ha.add (seeF hs 97 41 (undef) KR KR)
                    refine yStep ha 98 KR ?_; intro l_ ha HK
                    refine stepp ha 98 (.bool false) KR KR ?_; intro ax hax; exact HK _ _ _ hax rfl (Below.refl _ _)
                · skip
                  intro a W4030 ha HW he hf
                  replace ha := ha.add (gotF (m := 43) (j := 42) (d := 98) (v := .bool false) hf KR KR KR)
                  clear he hf
                  refine stepp ha 4 (.bool false) KR KR ?_; clear ha a; intro a ha
                  refine endl ?_
                  refine thenN (hK4003 _ _ ?_); clear hK4003
                  refine wp_ret ?_
                  obtain rfl := Option.some.inj h
                  exact finv ha _ _ rfl (.tmp (v := .bool false) KR .nil) (.bool false) rfl ⟨rfl, HW.pick [] [] (by decide) (by decide) rfl KR⟩
            · skip
              replace h := ite_neg' h hp4011
              refine regionG 43 KR KR ha HW [.fix (.agg #[.int .i64 t3965.1.f0, .int .i64 t3965.1.f1, .string t3965.1.f2, .int .i64 t3965.1.f3, .int .i64 t3965.1.f4, .string t3965.1.f5, .bool t3965.1.f6, .slice A3967 t3965.1.f7.length c3968, .int .u64 t3965.1.f8, .int .u64 t3965.1.f9, .int .u64 t3965.1.f10, .int .i64 t3965.1.f11, .bool t3965.1.f12, .int .i64 t3965.1.f13]), .fix (.agg #[.int .i64 t3977.1.f0, .int .i64 t3977.1.f1, .string t3977.1.f2, .int .i64 t3977.1.f3, .int .i64 t3977.1.f4, .string t3977.1.f5, .bool t3977.1.f6, .slice A3979 t3977.1.f7.length c3980, .int .u64 t3977.1.f8, .int .u64 t3977.1.f9, .int .u64 t3977.1.f10, .int .i64 t3977.1.f11, .bool t3977.1.f12, .int .i64 t3977.1.f13]), .fix (.bool t4004), .fix (.bool t4004), .fix (.int .i64 t3965.2), .fix (.int .i64 t3977.2), .fix (.bool (t3965.2 == t3977.2)), .fix (.bool (t3965.2 == t3977.2)), .fix (.bool (t3965.2 == t3977.2)), .fix (.int .i64 t3989.1), .fix (.pointer (some ⟨b3999, 0, none⟩)), .fix (.int .i64 t3995.1.f0), .fix (.bool (t3989.1 == t3995.1.f0)), .fix (.bool (t3989.1 == t3995.1.f0)), .fix (.bool (t3989.1 == t3995.1.f0)), .fix (.int .u32 t3989.2.1), .fix (.pointer (some ⟨b3999, 1, none⟩)), .fix (.int .u32 t3995.1.f1), .fix (.bool (t3989.2.1 == t3995.1.f1)), .fix (.bool (t3989.2.1 == t3995.1.f1)), .fix (.bool (t3989.2.1 == t3995.1.f1)), .fix undef, .fix undef, .fix undef, .fix undef, .fix (.bool false), .fix (.bool false), .fix undef, .fix undef, .fix undef, .fix (.bool false), .fix (.bool false), .fix undef, .fix undef, .fix undef, .fix undef, .fix undef, .fix undef, .fix undef, .fix (.bool false), .fix (.bool false), .fix undef, .fix (.bool false)] ?_ ?_
              · skip
                refine ⟨?_, ?_, ?_, ?_, ?_, ?_, ?_, ?_, ?_, ?_, ?_, ?_, ?_, ?_, ?_, ?_, ?_, ?_, ?_, ?_, ?_, ?_, ?_, ?_, ?_, ?_, ?_, ?_, ?_, ?_, ?_, ?_, ?_, ?_, ?_, ?_, ?_, ?_, ?_, ?_, ?_, ?_, ?_, trivial⟩
                · skip
                  intro a wr hn hd HW hs; have ha := hasNil hn hd
                  have ha := ha.add (seeE hs 5 (.pointer (some ⟨b3972, 0, none⟩)) KR KR)
                  refine yStep ha 56 KR ?_; intro l_ ha HK
                  refine stepl ha 56 (HW.ca (i := 2) (b := b3972) (C := #[.int .i64 t3965.1.f0, .int .i64 t3965.1.f1, .string t3965.1.f2, .int .i64 t3965.1.f3, .int .i64 t3965.1.f4, .string t3965.1.f5, .bool t3965.1.f6, .slice A3967 t3965.1.f7.length c3968, .int .u64 t3965.1.f8, .int .u64 t3965.1.f9, .int .u64 t3965.1.f10, .int .i64 t3965.1.f11, .bool t3965.1.f12, .int .i64 t3965.1.f13]) (T := 49) (fr := (0, 0)) KR) 49 0 (.tmp 5) (.agg #[.int .i64 t3965.1.f0, .int .i64 t3965.1.f1, .string t3965.1.f2, .int .i64 t3965.1.f3, .int .i64 t3965.1.f4, .string t3965.1.f5, .bool t3965.1.f6, .slice A3967 t3965.1.f7.length c3968, .int .u64 t3965.1.f8, .int .u64 t3965.1.f9, .int .u64 t3965.1.f10, .int .i64 t3965.1.f11, .bool t3965.1.f12, .int .i64 t3965.1.f13]) rfl KR KR KR ?_; intro ax hax; exact HK _ _ _ hax rfl (Below.refl _ _)
                · skip
                  intro a wr hn hd HW hs; have ha := hasNil hn hd
                  have ha := ha.add (seeE hs 7 (.pointer (some ⟨b3984, 0, none⟩)) KR KR)
                  refine yStep ha 57 KR ?_; intro l_ ha HK
                  refine stepl ha 57 (HW.ca (i := 1) (b := b3984) (C := #[.int .i64 t3977.1.f0, .int .i64 t3977.1.f1, .string t3977.1.f2, .int .i64 t3977.1.f3, .int .i64 t3977.1.f4, .string t3977.1.f5, .bool t3977.1.f6, .slice A3979 t3977.1.f7.length c3980, .int .u64 t3977.1.f8, .int .u64 t3977.1.f9, .int .u64 t3977.1.f10, .int .i64 t3977.1.f11, .bool t3977.1.f12, .int .i64 t3977.1.f13]) (T := 49) (fr := (0, 0)) KR) 49 0 (.tmp 7) (.agg #[.int .i64 t3977.1.f0, .int .i64 t3977.1.f1, .string t3977.1.f2, .int .i64 t3977.1.f3, .int .i64 t3977.1.f4, .string t3977.1.f5, .bool t3977.1.f6, .slice A3979 t3977.1.f7.length c3980, .int .u64 t3977.1.f8, .int .u64 t3977.1.f9, .int .u64 t3977.1.f10, .int .i64 t3977.1.f11, .bool t3977.1.f12, .int .i64 t3977.1.f13]) rfl KR KR KR ?_; intro ax hax; exact HK _ _ _ hax rfl (Below.refl _ _)
                · skip
                  intro a wr hn hd HW hs; have ha := hasNil hn hd
                  have ha := ha.add (seeF hs 56 0 (.agg #[.int .i64 t3965.1.f0, .int .i64 t3965.1.f1, .string t3965.1.f2, .int .i64 t3965.1.f3, .int .i64 t3965.1.f4, .string t3965.1.f5, .bool t3965.1.f6, .slice A3967 t3965.1.f7.length c3968, .int .u64 t3965.1.f8, .int .u64 t3965.1.f9, .int .u64 t3965.1.f10, .int .i64 t3965.1.f11, .bool t3965.1.f12, .int .i64 t3965.1.f13]) KR KR)
                  have ha := ha.add (seeF hs 57 1 (.agg #[.int .i64 t3977.1.f0, .int .i64 t3977.1.f1, .string t3977.1.f2, .int .i64 t3977.1.f3, .int .i64 t3977.1.f4, .string t3977.1.f5, .bool t3977.1.f6, .slice A3979 t3977.1.f7.length c3980, .int .u64 t3977.1.f8, .int .u64 t3977.1.f9, .int .u64 t3977.1.f10, .int .i64 t3977.1.f11, .bool t3977.1.f12, .int .i64 t3977.1.f13]) KR KR)
                  refine yStep ha 58 KR ?_; intro l_ ha HK
                  refine stepc ha 58 KR KR (headgatekeep_Cmds.calls K (⟨t3965.1.f0, t3965.1.f1, t3965.1.f2, t3965.1.f3, t3965.1.f4, t3965.1.f5, t3965.1.f6, t3965.1.f7, t3965.1.f8, t3965.1.f9, t3965.1.f10, t3965.1.f11, t3965.1.f12, t3965.1.f13⟩ : T_api_Cmd) (⟨t3977.1.f0, t3977.1.f1, t3977.1.f2, t3977.1.f3, t3977.1.f4, t3977.1.f5, t3977.1.f6, t3977.1.f7, t3977.1.f8, t3977.1.f9, t3977.1.f10, t3977.1.f11, t3977.1.f12, t3977.1.f13⟩ : T_api_Cmd) A3967 c3968 A3979 c3980 t4004 _ (HW.rdo (i := 1) (q := ⟨128, 2, .slice A3967 t3965.1.f7.length c3968, t3965.1.f7.length, encs T_api_Range.enc t3965.1.f7⟩) KR) (HW.rdo (i := 0) (q := ⟨128, 2, .slice A3979 t3977.1.f7.length c3980, t3977.1.f7.length, encs T_api_Range.enc t3977.1.f7⟩) KR) ht4005) ?_; rintro e W4006 ⟨rfl, HX4007⟩
                  refine ⟨_, rfl, ?_⟩; intro ax hax; exact HK _ _ _ hax rfl HX4007.below
                · skip
                  intro a wr hn hd HW hs; have ha := hasNil hn hd
                  have ha := ha.add (seeF hs 58 2 (.bool t4004) KR KR)
                  refine yStep ha 59 KR ?_; intro l_ ha HK
                  refine stepp ha 59 (.bool t4004) KR KR ?_; intro ax hax; exact HK _ _ _ hax rfl (Below.refl _ _)
                · skip
                  intro a wr hn hd HW hs; have ha := hasNil hn hd
                  have ha := ha.add (seeE hs 6 (.int .i64 t3965.2) KR KR)
                  have ha := ha.add (seeF hs 59 3 (.bool t4004) KR KR)
                  have ha := ha.bool 59 KR (hp4008)
                  refine yStep ha 60 KR ?_; intro l_ ha HK
                  refine stepp ha 60 (.int .i64 t3965.2) KR KR ?_; intro ax hax; exact HK _ _ _ hax rfl (Below.refl _ _)
                · skip
                  intro a wr hn hd HW hs; have ha := hasNil hn hd
                  have ha := ha.add (seeE hs 8 (.int .i64 t3977.2) KR KR)
                  have ha := ha.add (seeF hs 59 3 (.bool t4004) KR KR)
                  have ha := ha.bool 59 KR (hp4008)
                  refine yStep ha 61 KR ?_; intro l_ ha HK
                  refine stepp ha 61 (.int .i64 t3977.2) KR KR ?_; intro ax hax; exact HK _ _ _ hax rfl (Below.refl _ _)
                · skip
                  intro a wr hn hd HW hs; have ha := hasNil hn hd
                  have ha := ha.add (seeF hs 60 4 (.int .i64 t3965.2) KR KR)
                  have ha := ha.add (seeF hs 61 5 (.int .i64 t3977.2) KR KR)
                  have ha := ha.add (seeF hs 59 3 (.bool t4004) KR KR)
                  have ha := ha.bool 59 KR (hp4008)
                  refine yStep ha 62 KR ?_; intro l_ ha HK
                  refine stepp ha 62 (.bool (t3965.2 == t3977.2)) KR KR ?_; intro ax hax; exact HK _ _ _ hax rfl (Below.refl _ _)
                · skip
                  intro a wr hn hd HW hs; have ha := hasNil hn hd
                  have ha := ha.add (seeF hs 59 3 (.bool t4004) KR KR)
                  have ha := ha.bool 59 KR (hp4008)
                  have ha := ha.add (seeF hs 62 6 (.bool (t3965.2 == t3977.2)) KR KR)
                  refine yStep ha 63 KR ?_; intro l_ ha HK
                  refine stepp ha 63 (.bool (t3965.2 == t3977.2)) KR KR ?_; intro ax hax; exact HK _ _ _ hax rfl (Below.refl _ _)
                · skip
                  intro a wr hn hd HW hs; have ha := hasNil hn hd
                  have ha := ha.add (seeF hs 63 7 (.bool (t3965.2 == t3977.2)) KR KR)
                  refine yStep ha 64 KR ?_; intro l_ ha HK
                  refine stepp ha 64 (.bool (t3965.2 == t3977.2)) KR KR ?_; intro ax hax; exact HK _ _ _ hax rfl (Below.refl _ _)
                · skip
                  intro a wr hn hd HW hs; have ha := hasNil hn hd
                  have ha := ha.add (seeE hs 9 (.int .i64 t3989.1) KR KR)
                  have ha := ha.add (seeF hs 64 8 (.bool (t3965.2 == t3977.2)) KR KR)
                  have ha := ha.bool 64 KR (ieq_t hp4009)
                  refine yStep ha 65 KR ?_; intro l_ ha HK
                  refine stepp ha 65 (.int .i64 t3989.1) KR KR ?_; intro ax hax; exact HK _ _ _ hax rfl (Below.refl _ _)
                · skip
                  intro a wr hn hd HW hs; have ha := hasNil hn hd
                  have ha := ha.add (seeE hs 13 (.pointer (some ⟨b3999, 0, none⟩)) KR KR)
                  have ha := ha.add (seeF hs 64 8 (.bool (t3965.2 == t3977.2)) KR KR)
                  have ha := ha.bool 64 KR (ieq_t hp4009)
                  refine yStep ha 66 KR ?_; intro l_ ha HK
                  refine stepp ha 66 (.pointer (some ⟨b3999, 0, none⟩)) KR KR ?_; intro ax hax; exact HK _ _ _ hax rfl (Below.refl _ _)
                · skip
                  intro a wr hn hd HW hs; have ha := hasNil hn hd
                  have ha := ha.add (seeF hs 66 10 (.pointer (some ⟨b3999, 0, none⟩)) KR KR)
                  have ha := ha.add (seeF hs 64 8 (.bool (t3965.2 == t3977.2)) KR KR)
                  have ha := ha.bool 64 KR (ieq_t hp4009)
                  refine yStep ha 67 KR ?_; intro l_ ha HK
                  refine stepl ha 67 (HW.ca (i := 0) (b := b3999) (C := #[.int .i64 t3995.1.f0, .int .u32 t3995.1.f1, .string t3995.1.f2]) (T := 57) (fr := (0, 0)) KR) 3 0 (.tmp 66) (.int .i64 t3995.1.f0) rfl KR KR KR ?_; intro ax hax; exact HK _ _ _ hax rfl (Below.refl _ _)
                · skip
                  intro a wr hn hd HW hs; have ha := hasNil hn hd
                  have ha := ha.add (seeF hs 65 9 (.int .i64 t3989.1) KR KR)
                  have ha := ha.add (seeF hs 67 11 (.int .i64 t3995.1.f0) KR KR)
                  have ha := ha.add (seeF hs 64 8 (.bool (t3965.2 == t3977.2)) KR KR)
                  have ha := ha.bool 64 KR (ieq_t hp4009)
                  refine yStep ha 68 KR ?_; intro l_ ha HK
                  refine stepp ha 68 (.bool (t3989.1 == t3995.1.f0)) KR KR ?_; intro ax hax; exact HK _ _ _ hax rfl (Below.refl _ _)
                · skip
                  intro a wr hn hd HW hs; have ha := hasNil hn hd
                  have ha := ha.add (seeF hs 64 8 (.bool (t3965.2 == t3977.2)) KR KR)
                  have ha := ha.bool 64 KR (ieq_t hp4009)
                  have ha := ha.add (seeF hs 68 12 (.bool (t3989.1 == t3995.1.f0)) KR KR)
                  refine yStep ha 69 KR ?_; intro l_ ha HK
                  refine stepp ha 69 (.bool (t3989.1 == t3995.1.f0)) KR KR ?_; intro ax hax; exact HK _ _ _ hax rfl (Below.refl _ _)
                · skip
                  intro a wr hn hd HW hs; have ha := hasNil hn hd
                  have ha := ha.add (seeF hs 69 13 (.bool (t3989.1 == t3995.1.f0)) KR KR)
                  refine yStep ha 70 KR ?_; intro l_ ha HK
                  refine stepp ha 70 (.bool (t3989.1 == t3995.1.f0)) KR KR ?_; intro ax hax; exact HK _ _ _ hax rfl (Below.refl _ _)
                · skip
                  intro a wr hn hd HW hs; have ha := hasNil hn hd
                  have ha := ha.add (seeE hs 10 (.int .u32 t3989.2.1) KR KR)
                  have ha := ha.add (seeF hs 70 14 (.bool (t3989.1 == t3995.1.f0)) KR KR)
                  have ha := ha.bool 70 KR (ieq_t hp4010)
                  refine yStep ha 71 KR ?_; intro l_ ha HK
                  refine stepp ha 71 (.int .u32 t3989.2.1) KR KR ?_; intro ax hax; exact HK _ _ _ hax rfl (Below.refl _ _)
                · skip
                  intro a wr hn hd HW hs; have ha := hasNil hn hd
                  have ha := ha.add (seeE hs 13 (.pointer (some ⟨b3999, 0, none⟩)) KR KR)
                  have ha := ha.add (seeF hs 70 14 (.bool (t3989.1 == t3995.1.f0)) KR KR)
                  have ha := ha.bool 70 KR (ieq_t hp4010)
                  refine yStep ha 72 KR ?_; intro l_ ha HK
                  refine stepp ha 72 (.pointer (some ⟨b3999, 1, none⟩)) KR KR ?_; intro ax hax; exact HK _ _ _ hax rfl (Below.refl _ _)
                · skip
                  intro a wr hn hd HW hs; have ha := hasNil hn hd
                  have ha := ha.add (seeF hs 72 16 (.pointer (some ⟨b3999, 1, none⟩)) KR KR)
                  have ha := ha.add (seeF hs 70 14 (.bool (t3989.1 == t3995.1.f0)) KR KR)
                  have ha := ha.bool 70 KR (ieq_t hp4010)
                  refine yStep ha 73 KR ?_; intro l_ ha HK
                  refine stepl ha 73 (HW.ca (i := 0) (b := b3999) (C := #[.int .i64 t3995.1.f0, .int .u32 t3995.1.f1, .string t3995.1.f2]) (T := 57) (fr := (0, 0)) KR) 25 1 (.tmp 72) (.int .u32 t3995.1.f1) rfl KR KR KR ?_; intro ax hax; exact HK _ _ _ hax rfl (Below.refl _ _)
                · skip
                  intro a wr hn hd HW hs; have ha := hasNil hn hd
                  have ha := ha.add (seeF hs 71 15 (.int .u32 t3989.2.1) KR KR)
                  have ha := ha.add (seeF hs 73 17 (.int .u32 t3995.1.f1) KR KR)
                  have ha := ha.add (seeF hs 70 14 (.bool (t3989.1 == t3995.1.f0)) KR KR)
                  have ha := ha.bool 70 KR (ieq_t hp4010)
                  refine yStep ha 74 KR ?_; intro l_ ha HK
                  refine stepp ha 74 (.bool (t3989.2.1 == t3995.1.f1)) KR KR ?_; intro ax hax; exact HK _ _ _ hax rfl (Below.refl _ _)
                · skip
                  intro a wr hn hd HW hs; have ha := hasNil hn hd
                  have ha := ha.add (seeF hs 70 14 (.bool (t3989.1 == t3995.1.f0)) KR KR)
                  have ha := ha.bool 70 KR (ieq_t hp4010)
                  have ha := ha.add (seeF hs 74 18 (.bool (t3989.2.1 == t3995.1.f1)) KR KR)
                  refine yStep ha 75 KR ?_; intro l_ ha HK
                  refine stepp ha 75 (.bool (t3989.2.1 == t3995.1.f1)) KR KR ?_; intro ax hax; exact HK _ _ _ hax rfl (Below.refl _ _)
                · skip
                  intro a wr hn hd HW hs; have ha := hasNil hn hd
                  have ha := ha.add (seeF hs 75 19 (.bool (t3989.2.1 == t3995.1.f1)) KR KR)
                  refine yStep ha 76 KR ?_; intro l_ ha HK
                  refine stepp ha 76 (.bool (t3989.2.1 == t3995.1.f1)) KR KR ?_; intro ax hax; exact HK _ _ _ hax rfl (Below.refl _ _)
                · skip
                  intro a wr hn hd HW hs; have ha := hasNil hn hd
                  have ha := ha.add (seeE hs 11 (.string t3989.2.2.1) KR KR)
                  have ha := ha.add (seeF hs 76 20 (.bool (t3989.2.1 == t3995.1.f1)) KR KR)
                  have ha := ha.bool 76 KR (ieq_f hp4011)
                  exact yo ha KR rfl
                · skip
                  intro a wr hn hd HW hs; have ha := hasNil hn hd
                  have ha := ha.add (seeE hs 13 (.pointer (some ⟨b3999, 0, none⟩)) KR KR)
                  have ha := ha.add (seeF hs 76 20 (.bool (t3989.2.1 == t3995.1.f1)) KR KR)
                  have ha := ha.bool 76 KR (ieq_f hp4011)
                  exact yo ha KR rfl
                · skip
                  intro a wr hn hd HW hs; have ha := hasNil hn hd
                  have ha := ha.add (seeF hs 78 22 (undef) KR KR)
                  have ha := ha.add (seeF hs 76 20 (.bool (t3989.2.1 == t3995.1.f1)) KR KR)
                  have ha := ha.bool 76 KR (ieq_f hp4011)
                  exact yo ha KR rfl
                · skip
                  intro a wr hn hd HW hs; have ha := hasNil hn hd
                  have ha := ha.add (seeF hs 77 21 (undef) KR KR)
                  have ha := ha.add (seeF hs 79 23 (undef) KR KR)
                  have ha := ha.add (seeF hs 76 20 (.bool (t3989.2.1 == t3995.1.f1)) KR KR)
                  have ha := ha.bool 76 KR (ieq_f hp4011)
                  exact yo ha KR rfl
                · skip
                  intro a wr hn hd HW hs; have ha := hasNil hn hd
                  have ha := ha.add (seeF hs 76 20 (.bool (t3989.2.1 == t3995.1.f1)) KR KR)
                  have ha := ha.bool 76 KR (ieq_f hp4011)
                  have ha := ha.add (seeF hs 80 24 (undef) KR KR)
                  refine yStep ha 81 KR ?_; intro l_ ha HK
                  refine stepp ha 81 (.bool false) KR KR ?_; intro ax hax; exact HK _ _ _ hax rfl (Below.refl _ _)
                · skip
                  intro a wr hn hd HW hs; have ha := hasNil hn hd
                  have ha := ha.add (seeF hs 81 25 (.bool false) KR KR)
                  refine yStep ha 82 KR ?_; intro l_ ha HK
                  refine stepp ha 82 (.bool false) KR KR ?_; intro ax hax; exact HK _ _ _ hax rfl (Below.refl _ _)
                · skip
                  intro a wr hn hd HW hs; have ha := hasNil hn hd
                  have ha := ha.add (seeE hs 12 (.int .i64 t3989.2.2.2) KR KR)
                  have ha := ha.add (seeF hs 82 26 (.bool false) KR KR)
                  exact yo ha KR rfl
                · skip
                  intro a wr hn hd HW hs; have ha := hasNil hn hd
                  have ha := ha.add (seeE hs 14 (.int .i64 t3995.2) KR KR)
                  have ha := ha.add (seeF hs 82 26 (.bool false) KR KR)
                  exact yo ha KR rfl
                · skip
                  intro a wr hn hd HW hs; have ha := hasNil hn hd
                  have ha := ha.add (seeF hs 83 27 (undef) KR KR)
                  have ha := ha.add (seeF hs 84 28 (undef) KR KR)
                  have ha := ha.add (seeF hs 82 26 (.bool false) KR KR)
                  exact yo ha KR rfl
                · skip
                  intro a wr hn hd HW hs; have ha := hasNil hn hd
                  have ha := ha.add (seeF hs 82 26 (.bool false) KR KR)
                  have ha := ha.add (seeF hs 85 29 (undef) KR KR)
                  refine yStep ha 86 KR ?_; intro l_ ha HK
                  refine stepp ha 86 (.bool false) KR KR ?_; intro ax hax; exact HK _ _ _ hax rfl (Below.refl _ _)
                · skip
                  intro a wr hn hd HW hs; have ha := hasNil hn hd
                  have ha := ha.add (seeF hs 86 30 (.bool false) KR KR)
                  refine yStep ha 87 KR ?_; intro l_ ha HK
                  refine stepp ha 87 (.bool false) KR KR ?_; intro ax hax; exact HK _ _ _ hax rfl (Below.refl _ _)
                · skip
                  intro a wr hn hd HW hs; have ha := hasNil hn hd
                  have ha := ha.add (seeE hs 2 (.pointer (some ⟨b3941, 0, none⟩)) KR KR)
                  have ha := ha.add (seeF hs 87 31 (.bool false) KR KR)
                  exact yo ha KR rfl
                · skip
                  intro a wr hn hd HW hs; have ha := hasNil hn hd
                  have ha := ha.add (seeF hs 88 32 (undef) KR KR)
                  have ha := ha.add (seeF hs 87 31 (.bool false) KR KR)
                  exact yo ha KR rfl
                · skip
                  intro a wr hn hd HW hs; have ha := hasNil hn hd
                  have ha := ha.add (seeF hs 89 33 (undef) KR KR)
                  have ha := ha.add (seeF hs 87 31 (.bool false) KR KR)
                  exact yo ha KR rfl
                · skip
                  intro a wr hn hd HW hs; have ha := hasNil hn hd
                  have ha := ha.add (seeE hs 2 (.pointer (some ⟨b3941, 0, none⟩)) KR KR)
                  have ha := ha.add (seeF hs 87 31 (.bool false) KR KR)
                  exact yo ha KR rfl
                · skip
                  intro a wr hn hd HW hs; have ha := hasNil hn hd
                  have ha := ha.add (seeF hs 91 35 (undef) KR KR)
                  have ha := ha.add (seeF hs 87 31 (.bool false) KR KR)
                  exact yo ha KR rfl
                · skip
                  intro a wr hn hd HW hs; have ha := hasNil hn hd
                  have ha := ha.add (seeF hs 92 36 (undef) KR KR)
                  have ha := ha.add (seeF hs 87 31 (.bool false) KR KR)
                  exact yo ha KR rfl
                · skip
                  intro a wr hn hd HW hs; have ha := hasNil hn hd
                  have ha := ha.add (seeF hs 90 34 (undef) KR KR)
                  have ha := ha.add (seeF hs 93 37 (undef) KR KR)
                  have ha := ha.add (seeF hs 87 31 (.bool false) KR KR)
                  exact yo ha KR rfl
                · skip
                  intro a wr hn hd HW hs; have ha := hasNil hn hd
                  have ha := ha.add (seeF hs 87 31 (.bool false) KR KR)
                  have ha := ha.add (seeF hs 94 38 (undef) KR KR)
                  refine yStep ha 95 KR ?_; intro l_ ha HK
                  refine stepp ha 95 (.bool false) KR KR ?_; intro ax hax; exact HK _ _ _ hax rfl (Below.refl _ _)
                · skip
                  intro a wr hn hd HW hs; have ha := hasNil hn hd
                  have ha := ha.add (seeF hs 95 39 (.bool false) KR KR)
                  refine yStep ha 96 KR ?_; intro l_ ha HK
                  refine stepp ha 96 (.bool false) KR KR ?_; intro ax hax; exact HK _ _ _ hax rfl (Below.refl _ _)
                · skip
                  intro a wr hn hd HW hs; have ha := hasNil hn hd
                  have ha := ha.add (seeF hs 96 40 (.bool false) KR KR)
                  exact yo ha KR rfl
                · skip
                  intro a wr hn hd HW hs; have ha := hasNil hn hd
                  have ha := ha.add (seeF hs 96 40 (.bool false) KR KR)
                  have ha := ha.add (seeF hs 97 41 (undef) KR KR)
                  refine yStep ha 98 KR ?_; intro l_ ha HK
                  refine stepp ha 98 (.bool false) KR KR ?_; intro ax hax; exact HK _ _ _ hax rfl (Below.refl _ _)
              · skip
                intro a W4031 ha HW he hf
                replace ha := ha.add (gotF (m := 43) (j := 42) (d := 98) (v := .bool false) hf KR KR KR)
                clear he hf
                refine stepp ha 4 (.bool false) KR KR ?_; clear ha a; intro a ha
                refine endl ?_
                refine thenN (hK4003 _ _ ?_); clear hK4003
                refine wp_ret ?_
                obtain rfl := Option.some.inj h
                exact finv ha _ _ rfl (.tmp (v := .bool false) KR .nil) (.bool false) rfl ⟨rfl, HW.pick [] [] (by decide) (by decide) rfl KR⟩
          · skip
            replace h := ite_neg' h hp4010
            refine regionG 43 KR KR ha HW [.fix (.agg #[.int .i64 t3965.1.f0, .int .i64 t3965.1.f1, .string t3965.1.f2, .int .i64 t3965.1.f3, .int .i64 t3965.1.f4, .string t3965.1.f5, .bool t3965.1.f6, .slice A3967 t3965.1.f7.length c3968, .int .u64 t3965.1.f8, .int .u64 t3965.1.f9, .int .u64 t3965.1.f10, .int .i64 t3965.1.f11, .bool t3965.1.f12, .int .i64 t3965.1.f13]), .fix (.agg #[.int .i64 t3977.1.f0, .int .i64 t3977.1.f1, .string t3977.1.f2, .int .i64 t3977.1.f3, .int .i64 t3977.1.f4, .string t3977.1.f5, .bool t3977.1.f6, .slice A3979 t3977.1.f7.length c3980, .int .u64 t3977.1.f8, .int .u64 t3977.1.f9, .int .u64 t3977.1.f10, .int .i64 t3977.1.f11, .bool t3977.1.f12, .int .i64 t3977.1.f13]), .fix (.bool t4004), .fix (.bool t4004), .fix (.int .i64 t3965.2), .fix (.int .i64 t3977.2), .fix (.bool (t3965.2 == t3977.2)), .fix (.bool (t3965.2 == t3977.2)), .fix (.bool (t3965.2 == t3977.2)), .fix (.int .i64 t3989.1), .fix (.pointer (some ⟨b3999, 0, none⟩)), .fix (.int .i64 t3995.1.f0), .fix (.bool (t3989.1 == t3995.1.f0)), .fix (.bool (t3989.1 == t3995.1.f0)), .fix (.bool (t3989.1 == t3995.1.f0)), .fix undef, .fix undef, .fix undef, .fix undef, .fix (.bool false), .fix (.bool false), .fix undef, .fix undef, .fix undef, .fix undef, .fix (.bool false), .fix (.bool false), .fix undef, .fix undef, .fix undef, .fix (.bool false), .fix (.bool false), .fix undef, .fix undef, .fix undef, .fix undef, .fix undef, .fix undef, .fix undef, .fix (.bool false), .fix (.bool false), .fix undef, .fix (.bool false)] ?_ ?_
            · skip
              refine ⟨?_, ?_, ?_, ?_, ?_, ?_, ?_, ?_, ?_, ?_, ?_, ?_, ?_, ?_, ?_, ?_, ?_, ?_, ?_, ?_, ?_, ?_, ?_, ?_, ?_, ?_, ?_, ?_, ?_, ?_, ?_, ?_, ?_, ?_, ?_, ?_, ?_, ?_, ?_, ?_, ?_, ?_, ?_, trivial⟩
              · skip
                intro a wr hn hd HW hs; have ha := hasNil hn hd
                have ha := ha.add (seeE hs 5 (.pointer (some ⟨b3972, 0, none⟩)) KR KR)
                refine yStep ha 56 KR ?_; intro l_ ha HK
                refine stepl ha 56 (HW.ca (i := 2) (b := b3972) (C := #[.int .i64 t3965.1.f0, .int .i64 t3965.1.f1, .string t3965.1.f2, .int .i64 t3965.1.f3, .int .i64 t3965.1.f4, .string t3965.1.f5, .bool t3965.1.f6, .slice A3967 t3965.1.f7.length c3968, .int .u64 t3965.1.f8, .int .u64 t3965.1.f9, .int .u64 t3965.1.f10, .int .i64 t3965.1.f11, .bool t3965.1.f12, .int .i64 t3965.1.f13]) (T := 49) (fr := (0, 0)) KR) 49 0 (.tmp 5) (.agg #[.int .i64 t3965.1.f0, .int .i64 t3965.1.f1, .string t3965.1.f2, .int .i64 t3965.1.f3, .int .i64 t3965.1.f4, .string t3965.1.f5, .bool t3965.1.f6, .slice A3967 t3965.1.f7.length c3968, .int .u64 t3965.1.f8, .int .u64 t3965.1.f9, .int .u64 t3965.1.f10, .int .i64 t3965.1.f11, .bool t3965.1.f12, .int .i64 t3965.1.f13]) rfl KR KR KR ?_; intro ax hax; exact HK _ _ _ hax rfl (Below.refl _ _)
              · skip
                intro a wr hn hd HW hs; have ha := hasNil hn hd
                have ha := ha.add (seeE hs 7 (.pointer (some ⟨b3984, 0, none⟩)) KR KR)
                refine yStep ha 57 KR ?_; intro l_ ha HK
                refine stepl ha 57 (HW.ca (i := 1) (b := b3984) (C := #[.int .i64 t3977.1.f0, .int .i64 t3977.1.f1, .string t3977.1.f2, .int .i64 t3977.1.f3, .int .i64 t3977.1.f4, .string t3977.1.f5, .bool t3977.1.f6, .slice A3979 t3977.1.f7.length c3980, .int .u64 t3977.1.f8, .int .u64 t3977.1.f9, .int .u64 t3977.1.f10, .int .i64 t3977.1.f11, .bool t3977.1.f12, .int .i64 t3977.1.f13]) (T := 49) (fr := (0, 0)) KR) 49 0 (.tmp 7) (.agg #[.int .i64 t3977.1.f0, .int .i64 t3977.1.f1, .string t3977.1.f2, .int .i64 t3977.1.f3, .int .i64 t3977.1.f4, .string t3977.1.f5, .bool t3977.1.f6, .slice A3979 t3977.1.f7.length c3980, .int .u64 t3977.1.f8, .int .u64 t3977.1.f9, .int .u64 t3977.1.f10, .int .i64 t3977.1.f11, .bool t3977.1.f12, .int .i64 t3977.1.f13]) rfl KR KR KR ?_; intro ax hax; exact HK _ _ _ hax rfl (Below.refl _ _)
              · skip
                intro a wr hn hd HW hs; have ha := hasNil hn hd
                have ha := ha.add (seeF hs 56 0 (.agg #[.int .i64 t3965.1.f0, .int .i64 t3965.1.f1, .string t3965.1.f2, .int .i64 t3965.1.f3, .int .i64 t3965.1.f4, .string t3965.1.f5, .bool t3965.1.f6, .slice A3967 t3965.1.f7.length c3968, .int .u64 t3965.1.f8, .int .u64 t3965.1.f9, .int .u64 t3965.1.f10, .int .i64 t3965.1.f11, .bool t3965.1.f12, .int .i64 t3965.1.f13]) KR KR)
                have ha := ha.add (seeF hs 57 1 (.agg #[.int .i64 t3977.1.f0, .int .i64 t3977.1.f1, .string t3977.1.f2, .int .i64 t3977.1.f3, .int .i64 t3977.1.f4, .string t3977.1.f5, .bool t3977.1.f6, .slice A3979 t3977.1.f7.length c3980, .int .u64 t3977.1.f8, .int .u64 t3977.1.f9, .int .u64 t3977.1.f10, .int .i64 t3977.1.f11, .bool t3977.1.f12, .int .i64 t3977.1.f13]) KR KR)
                refine yStep ha 58 KR ?_; intro l_ ha HK
                refine stepc ha 58 KR KR (headgatekeep_Cmds.calls K (⟨t3965.1.f0, t3965.1.f1, t3965.1.f2, t3965.1.f3, t3965.1.f4, t3965.1.f5, t3965.1.f6, t3965.1.f7, t3965.1.f8, t3965.1.f9, t3965.1.f10, t3965.1.f11, t3965.1.f12, t3965.1.f13⟩ : T_api_Cmd) (⟨t3977.1.f0, t3977.1.f1, t3977.1.f2, t3977.1.f3, t3977.1.f4, t3977.1.f5, t3977.1.f6, t3977.1.f7, t3977.1.f8, t3977.1.f9, t3977.1.f10, t3977.1.f11, t3977.1.f12, t3977.1.f13⟩ : T_api_Cmd) A3967 c3968 A3979 c3980 t4004 _ (HW.rdo (i := 1) (q := ⟨128, 2, .slice A3967 t3965.1.f7.length c3968, t3965.1.f7.length, encs T_api_Range.enc t3965.1.f7⟩) KR) (HW.rdo (i := 0) (q := ⟨128, 2, .slice A3979 t3977.1.f7.length c3980, t3977.1.f7.length, encs T_api_Range.enc t3977.1.f7⟩) KR) ht4005) ?_; rintro e W4006 ⟨rfl, HX4007⟩
                refine ⟨_, rfl, ?_⟩; intro ax hax; exact HK _ _ _ hax rfl HX4007.below
              · skip
                intro a wr hn hd HW hs; have ha := hasNil hn hd
                have ha := ha.add (seeF hs 58 2 (.bool t4004) KR KR)
                refine yStep ha 59 KR ?_; intro l_ ha HK
                refine stepp ha 59 (.bool t4004) KR KR ?_; intro ax hax; exact HK _ _ _ hax rfl (Below.refl _ _)
              · skip
                intro a wr hn hd HW hs; have ha := hasNil hn hd
                have ha := ha.add (seeE hs 6 (.int .i64 t3965.2) KR KR)
                have ha := ha.add (seeF hs 59 3 (.bool t4004) KR KR)
                have ha := ha.bool 59 KR (hp4008)
                refine yStep ha 60 KR ?_; intro l_ ha HK
                refine stepp ha 60 (.int .i64 t3965.2) KR KR ?_; intro ax hax; exact HK _ _ _ hax rfl (Below.refl _ _)
              · skip
                intro a wr hn hd HW hs; have ha := hasNil hn hd
                have ha := ha.add (seeE hs 8 (.int .i64 t3977.2) KR KR)
                have ha := ha.add (seeF hs 59 3 (.bool t4004) KR KR)
                have ha := ha.bool 59 KR (hp4008)
                refine yStep ha 61 KR ?_; intro l_ ha HK
                refine stepp ha 61 (.int .i64 t3977.2) KR KR ?_; intro ax hax; exact HK _ _ _ hax rfl (Below.refl _ _)
              · skip
                intro a wr hn hd HW hs; have ha := hasNil hn hd
                have ha := ha.add (seeF hs 60 4 (.int .i64 t3965.2) KR KR)
                have ha := ha.add (seeF hs 61 5 (.int .i64 t3977.2) KR KR)
                have ha := ha.add (seeF hs 59 3 (.bool t4004) KR KR)
                have ha := ha.bool 59 KR (hp4008)
                refine yStep ha 62 KR ?_; intro l_ ha HK
                refine stepp ha 62 (.bool (t3965.2 == t3977.2)) KR KR ?_; intro ax hax; exact HK _ _ _ hax rfl (Below.refl _ _)
              · skip
                intro a wr hn hd HW hs; have ha := hasNil hn hd
                have ha := ha.add (seeF hs 59 3 (.bool t4004) KR KR)
                have ha := ha.bool 59 KR (hp4008)
                have ha := ha.add (seeF hs 62 6 (.bool (t3965.2 == t3977.2)) KR KR)
                refine yStep ha 63 KR ?_; intro l_ ha HK
                refine stepp ha 63 (.bool (t3965.2 == t3977.2)) KR KR ?_; intro ax hax; exact HK _ _ _ hax rfl (Below.refl _ _)
              · skip
                intro a wr hn hd HW hs; have ha := hasNil hn hd
                have ha := ha.add (seeF hs 63 7 (.bool (t3965.2 == t3977.2)) KR KR)
                refine yStep ha 64 KR ?_; intro l_ ha HK
                refine stepp ha 64 (.bool (t3965.2 == t3977.2)) KR KR ?_; intro ax hax; exact HK _ _ _ hax rfl (Below.refl _ _)
              · skip
                intro a wr hn hd HW hs; have ha := hasNil hn hd
                have ha := ha.add (seeE hs 9 (.int .i64 t3989.1) KR KR)
                have ha := ha.add (seeF hs 64 8 (.bool (t3965.2 == t3977.2)) KR KR)
                have ha := ha.bool 64 KR (ieq_t hp4009)
                refine yStep ha 65 KR ?_; intro l_ ha HK
                refine stepp ha 65 (.int .i64 t3989.1) KR KR ?_; intro ax hax; exact HK _ _ _ hax rfl (Below.refl _ _)
              · skip
                intro a wr hn hd HW hs; have ha := hasNil hn hd
                have ha := ha.add (seeE hs 13 (.pointer (some ⟨b3999, 0, none⟩)) KR KR)
                have ha := ha.add (seeF hs 64 8 (.bool (t3965.2 == t3977.2)) KR KR)
                have ha := ha.bool 64 KR (ieq_t hp4009)
                refine yStep ha 66 KR ?_; intro l_ ha HK
                refine stepp ha 66 (.pointer (some ⟨b3999, 0, none⟩)) KR KR ?_; intro ax hax; exact HK _ _ _ hax rfl (Below.refl _ _)
              · skip
                intro a wr hn hd HW hs; have ha := hasNil hn hd
                have ha := ha.add (seeF hs 66 10 (.pointer (some ⟨b3999, 0, none⟩)) KR KR)
                have ha := ha.add (seeF hs 64 8 (.bool (t3965.2 == t3977.2)) KR KR)
                have ha := ha.bool 64 KR (ieq_t hp4009)
                refine yStep ha 67 KR ?_; intro l_ ha HK
                refine stepl ha 67 (HW.ca (i := 0) (b := b3999) (C := #[.int .i64 t3995.1.f0, .int .u32 t3995.1.f1, .string t3995.1.f2]) (T := 57) (fr := (0, 0)) KR) 3 0 (.tmp 66) (.int .i64 t3995.1.f0) rfl KR KR KR ?_; intro ax hax; exact HK _ _ _ hax rfl (Below.refl _ _)
              · skip
                intro a wr hn hd HW hs; have ha := hasNil hn hd
                have ha := ha.add (seeF hs 65 9 (.int .i64 t3989.1) KR KR)
                have ha := ha.add (seeF hs 67 11 (.int .i64 t3995.1.f0) KR KR)
                have ha := ha.add (seeF hs 64 8 (.bool (t3965.2 == t3977.2)) KR KR)
                have ha := ha.bool 64 KR (ieq_t hp4009)
                refine yStep ha 68 KR ?_; intro l_ ha HK
                refine stepp ha 68 (.bool (t3989.1 == t3995.1.f0)) KR KR ?_; intro ax hax; exact HK _ _ _ hax rfl (Below.refl _ _)
              · skip
                intro a wr hn hd HW hs; have ha := hasNil hn hd
                have ha := ha.add (seeF hs 64 8 (.bool (t3965.2 == t3977.2)) KR KR)
                have ha := ha.bool 64 KR (ieq_t hp4009)
                have ha := ha.add (seeF hs 68 12 (.bool (t3989.1 == t3995.1.f0)) KR KR)
                refine yStep ha 69 KR ?_; intro l_ ha HK
                refine stepp ha 69 (.bool (t3989.1 == t3995.1.f0)) KR KR ?_; intro ax hax; exact HK _ _ _ hax rfl (Below.refl _ _)
              · skip
                intro a wr hn hd HW hs; have ha := hasNil hn hd
                have ha := ha.add (seeF hs 69 13 (.bool (t3989.1 == t3995.1.f0)) KR KR)
                refine yStep ha 70 KR ?_; intro l_ ha HK
                refine stepp ha 70 (.bool (t3989.1 == t3995.1.f0)) KR KR ?_; intro ax hax; exact HK _ _ _ hax rfl (Below.refl _ _)
              · skip
                intro a wr hn hd HW hs; have ha := hasNil hn hd
                have ha := ha.add (seeE hs 10 (.int .u32 t3989.2.1) KR KR)
                have ha := ha.add (seeF hs 70 14 (.bool (t3989.1 == t3995.1.f0)) KR KR)
                have ha := ha.bool 70 KR (ieq_f hp4010)
                exact yo ha KR rfl
              · skip
                intro a wr hn hd HW hs; have ha := hasNil hn hd
                have ha := ha.add (seeE hs 13 (.pointer (some ⟨b3999, 0, none⟩)) KR KR)
                have ha := ha.add (seeF hs 70 14 (.bool (t3989.1 == t3995.1.f0)) KR KR)
                have ha := ha.bool 70 KR (ieq_f hp4010)
                exact yo ha KR rfl
              · skip
                intro a wr hn hd HW hs; have ha := hasNil hn hd
                have ha := ha.add (seeF hs 72 16 (undef) KR KR)
                have ha := ha.add (seeF hs 70 14 (.bool (t3989.1 == t3995.1.f0)) KR KR)
                have ha := ha.bool 70 KR (ieq_f hp4010)
                exact yo ha KR rfl
              · skip
                intro a wr hn hd HW hs; have ha := hasNil hn hd
                have ha := ha.add (seeF hs 71 15 (undef) KR KR)
                have ha := ha.add (seeF hs 73 17 (undef) KR KR)
                have ha := ha.add (seeF hs 70 14 (.bool (t3989.1 == t3995.1.f0)) KR KR)
                have ha := ha.bool 70 KR (ieq_f hp4010)
                exact yo ha KR rfl
              · skip
                intro a wr hn hd HW hs; have ha := hasNil hn hd
                have ha := ha.add (seeF hs 70 14 (.bool (t3989.1 == t3995.1.f0)) KR KR)
                have ha := ha.bool 70 KR (ieq_f hp4010)
                have ha := ha.add (seeF hs 74 18 (undef) KR KR)
                refine yStep ha 75 KR ?_; intro l_ ha HK
                refine stepp ha 75 (.bool false) KR KR ?_; intro ax hax; exact HK _ _ _ hax rfl (Below.refl _ _)
              · skip
                intro a wr hn hd HW hs; have ha := hasNil hn hd
                have ha := ha.add (seeF hs 75 19 (.bool false) KR KR)
                refine yStep ha 76 KR ?_; intro l_ ha HK
                refine stepp ha 76 (.bool false) KR KR ?_; intro ax hax; exact HK _ _ _ hax rfl (Below.refl _ _)
              · skip
                intro a wr hn hd HW hs; have ha := hasNil hn hd
                have ha := ha.add (seeE hs 11 (.string t3989.2.2.1) KR KR)
                have ha := ha.add (seeF hs 76 20 (.bool false) KR KR)
                exact yo ha KR rfl
              · skip
                intro a wr hn hd HW hs; have ha := hasNil hn hd
                have ha := ha.add (seeE hs 13 (.pointer (some ⟨b3999, 0, none⟩)) KR KR)
                have ha := ha.add (seeF hs 76 20 (.bool false) KR KR)
                exact yo ha KR rfl
              · skip
                intro a wr hn hd HW hs; have ha := hasNil hn hd
                have ha := ha.add (seeF hs 78 22 (undef) KR KR)
                have ha := ha.add (seeF hs 76 20 (.bool false) KR KR)
                exact yo ha KR rfl
              · skip
                intro a wr hn hd HW hs; have ha := hasNil hn hd
                have ha := ha.add (seeF hs 77 21 (undef) KR KR)
                have ha := ha.add (seeF hs 79 23 (undef) KR KR)
                have ha := ha.add (seeF hs 76 20 (.bool false) KR KR)
                exact yo ha KR rfl
              · skip
                intro a wr hn hd HW hs; have ha := hasNil hn hd
                have ha := ha.add (seeF hs 76 20 (.bool false) KR KR)
                have ha := ha.add (seeF hs 80 24 (undef) KR KR)
                refine yStep ha 81 KR ?_; intro l_ ha HK
                refine stepp ha 81 (.bool false) KR KR ?_; intro ax hax; exact HK _ _ _ hax rfl (Below.refl _ _)
              · skip
                intro a wr hn hd HW hs; have ha := hasNil hn hd
                have ha := ha.add (seeF hs 81 25 (.bool false) KR KR)
                refine yStep ha 82 KR ?_; intro l_ ha HK
                refine stepp ha 82 (.bool false) KR KR ?_; intro ax hax; exact HK _ _ _ hax rfl (Below.refl _ _)
              · skip
                intro a wr hn hd HW hs; have ha := hasNil hn hd
                have ha := ha.add (seeE hs 12 (.int .i64 t3989.2.2.2) KR KR)
                have ha := ha.add (seeF hs 82 26 (.bool false) KR KR)
                exact yo ha KR rfl
              · skip
                intro a wr hn hd HW hs; have ha := hasNil hn hd
                have ha := ha.add (seeE hs 14 (.int .i64 t3995.2) KR KR)
                have ha := ha.add (seeF hs 82 26 (.bool false) KR KR)
                exact yo ha KR rfl
              · skip
                intro a wr hn hd HW hs; have ha := hasNil hn hd
                have ha := ha.add (seeF hs 83 27 (undef) KR KR)
                have ha := ha.add (seeF hs 84 28 (undef) KR KR)
                have ha := ha.add (seeF hs 82 26 (.bool false) KR KR)
                exact yo ha KR rfl
              · skip
                intro a wr hn hd HW hs; have ha := hasNil hn hd
                have ha := ha.add (seeF hs 82 26 (.bool false) KR KR)
                have ha := ha.add (seeF hs 85 29 (undef) KR KR)
                refine yStep ha 86 KR ?_; intro l_ ha HK
                refine stepp ha 86 (.bool false) KR KR ?_; intro ax hax; exact HK _ _ _ hax rfl (Below.refl _ _)
              · skip
                intro a wr hn hd HW hs; have ha := hasNil hn hd
                have ha := ha.add (seeF hs 86 30 (.bool false) KR KR)
                refine yStep ha 87 KR ?_; intro l_ ha HK
                refine stepp ha 87 (.bool false) KR KR ?_; intro ax hax; exact HK _ _ _ hax rfl (Below.refl _ _)
              · skip
                intro a wr hn hd HW hs; have ha := hasNil hn hd
                have ha := ha.add (seeE hs 2 (.pointer (some ⟨b3941, 0, none⟩)) KR KR)
                have ha := ha.add (seeF hs 87 31 (.bool false) KR KR)
                exact yo ha KR rfl
              · skip
                intro a wr hn hd HW hs; have ha := hasNil hn hd
                have ha := ha.add (seeF hs 88 32 (undef) KR KR)
                have ha := ha.add (seeF hs 87 31 (.bool false) KR KR)
                exact yo ha KR rfl
              · skip
                intro a wr hn hd HW hs; have ha := hasNil hn hd
                have ha := ha.add (seeF hs 89 33 (undef) KR KR)
                have ha := ha.add (seeF hs 87 31 (.bool false) KR KR)
                exact yo ha KR rfl
              · skip
                intro a wr hn hd HW hs; have ha := hasNil hn hd
                have ha := ha.add (seeE hs 2 (.pointer (some ⟨b3941, 0, none⟩)) KR KR)
                have ha := ha.add (seeF hs 87 31 (.bool false) KR KR)
                exact yo ha KR rfl
              · skip
                intro a wr hn hd HW hs; have ha := hasNil hn hd
                have ha := ha.add (seeF hs 91 35 (undef) KR KR)
                have ha := ha.add (seeF hs 87 31 (.bool false) KR KR)
                exact yo ha KR rfl
              · skip
                intro a wr hn hd HW hs; have ha := hasNil hn hd
                have ha := ha.add (seeF hs 92 36 (undef) KR KR)
                have ha := ha.add (seeF hs 87 31 (.bool false) KR KR)
                exact yo ha KR rfl
              · skip
                intro a wr hn hd HW hs; have ha := hasNil hn hd
                have ha := ha.add (seeF hs 90 34 (undef) KR KR)
                have ha := ha.add (seeF hs 93 37 (undef) KR KR)
                have ha := ha.add (seeF hs 87 31 (.bool false) KR KR)
                exact yo ha KR rfl
              · skip
                intro a wr hn hd HW hs; have ha := hasNil hn hd
                have ha := ha.add (seeF hs 87 31 (.bool false) KR KR)
                have ha := ha.add (seeF hs 94 38 (undef) KR KR)
                refine yStep ha 95 KR ?_; intro l_ ha HK
                refine stepp ha 95 (.bool false) KR KR ?_; intro ax hax; exact HK _ _ _ hax rfl (Below.refl _ _)
              · skip
                intro a wr hn hd HW hs; have ha := hasNil hn hd
                have ha := ha.add (seeF hs 95 39 (.bool false) KR KR)
                refine yStep ha 96 KR ?_; intro l_ ha HK
                refine stepp ha 96 (.bool false) KR KR ?_; intro ax hax; exact HK _ _ _ hax rfl (Below.refl _ _)
              · skip
                intro a wr hn hd HW hs; have ha := hasNil hn hd
                have ha := ha.add (seeF hs 96 40 (.bool false) KR KR)
                exact yo ha KR rfl
              · skip
                intro a wr hn hd HW hs; have ha := hasNil hn hd
                have ha := ha.add (seeF hs 96 40 (.bool false) KR KR)
                have ha := ha.add (seeF hs 97 41 (undef) KR KR)
                refine yStep ha 98 KR ?_; intro l_ ha HK
                refine stepp ha 98 (.bool false) KR KR ?_; intro ax hax; exact HK _ _ _ hax rfl (Below.refl _ _)
            · skip
              intro a W4032 ha HW he hf
              replace ha := ha.add (gotF (m := 43) (j := 42) (d := 98) (v := .bool false) hf KR KR KR)
              clear he hf
              refine stepp ha 4 (.bool false) KR KR ?_; clear ha a; intro a ha
              refine endl ?_
              refine thenN (hK4003 _ _ ?_); clear hK4003
              refine wp_ret ?_
              obtain rfl := Option.some.inj h
              exact finv ha _ _ rfl (.tmp (v := .bool false) KR .nil) (.bool false) rfl ⟨rfl, HW.pick [] [] (by decide) (by decide) rfl KR⟩
        · skip
          replace h := ite_neg' h hp4009
          refine regionG 43 KR KR ha HW [.fix (.agg #[.int .i64 t3965.1.f0, .int .i64 t3965.1.f1, .string t3965.1.f2, .int .i64 t3965.1.f3, .int .i64 t3965.1.f4, .string t3965.1.f5, .bool t3965.1.f6, .slice A3967 t3965.1.f7.length c3968, .int .u64 t3965.1.f8, .int .u64 t3965.1.f9, .int .u64 t3965.1.f10, .int .i64 t3965.1.f11, .bool t3965.1.f12, .int .i64 t3965.1.f13]), .fix (.agg #[.int .i64 t3977.1.f0, .int .i64 t3977.1.f1, .string t3977.1.f2, .int .i64 t3977.1.f3, .int .i64 t3977.1.f4, .string t3977.1.f5, .bool t3977.1.f6, .slice A3979 t3977.1.f7.length c3980, .int .u64 t3977.1.f8, .int .u64 t3977.1.f9, .int .u64 t3977.1.f10, .int .i64 t3977.1.f11, .bool t3977.1.f12, .int .i64 t3977.1.f13]), .fix (.bool t4004), .fix (.bool t4004), .fix (.int .i64 t3965.2), .fix (.int .i64 t3977.2), .fix (.bool (t3965.2 == t3977.2)), .fix (.bool (t3965.2 == t3977.2)), .fix (.bool (t3965.2 == t3977.2)), .fix undef, .fix undef, .fix undef, .fix undef, .fix (.bool false), .fix (.bool false), .fix undef, .fix undef, .fix undef, .fix undef, .fix (.bool false), .fix (.bool false), .fix undef, .fix undef, .fix undef, .fix undef, .fix (.bool false), .fix (.bool false), .fix undef, .fix undef, .fix undef, .fix (.bool false), .fix (.bool false), .fix undef, .fix undef, .fix undef, .fix undef, .fix undef, .fix undef, .fix undef, .fix (.bool false), .fix (.bool false), .fix undef, .fix (.bool false)] ?_ ?_
          · skip
            refine ⟨?_, ?_, ?_, ?_, ?_, ?_, ?_, ?_, ?_, ?_, ?_, ?_, ?_, ?_, ?_, ?_, ?_, ?_, ?_, ?_, ?_, ?_, ?_, ?_, ?_, ?_, ?_, ?_, ?_, ?_, ?_, ?_, ?_, ?_, ?_, ?_, ?_, ?_, ?_, ?_, ?_, ?_, ?_, trivial⟩
            · skip
              intro a wr hn hd HW hs; have ha := hasNil hn hd
              have ha := ha.add (seeE hs 5 (.pointer (some ⟨b3972, 0, none⟩)) KR KR)
              refine yStep ha 56 KR ?_; intro l_ ha HK
              refine stepl ha 56 (HW.ca (i := 2) (b := b3972) (C := #[.int .i64 t3965.1.f0, .int .i64 t3965.1.f1, .string t3965.1.f2, .int .i64 t3965.1.f3, .int .i64 t3965.1.f4, .string t3965.1.f5, .bool t3965.1.f6, .slice A3967 t3965.1.f7.length c3968, .int .u64 t3965.1.f8, .int .u64 t3965.1.f9, .int .u64 t3965.1.f10, .int .i64 t3965.1.f11, .bool t3965.1.f12, .int .i64 t3965.1.f13]) (T := 49) (fr := (0, 0)) KR) 49 0 (.tmp 5) (.agg #[.int .i64 t3965.1.f0, .int .i64 t3965.1.f1, .string t3965.1.f2, .int .i64 t3965.1.f3, .int .i64 t3965.1.f4, .string t3965.1.f5, .bool t3965.1.f6, .slice A3967 t3965.1.f7.length c3968, .int .u64 t3965.1.f8, .int .u64 t3965.1.f9, .int .u64 t3965.1.f10, .int .i64 t3965.1.f11, .bool t3965.1.f12, .int .i64 t3965.1.f13]) rfl KR KR KR ?_; intro ax hax; exact HK _ _ _ hax rfl (Below.refl _ _)
            · skip
              intro a wr hn hd HW hs; have ha := hasNil hn hd
              have ha := ha.add (seeE hs 7 (.pointer (some ⟨b3984, 0, none⟩)) KR KR)
              refine yStep ha 57 KR ?_; intro l_ ha HK
              refine stepl ha 57 (HW.ca (i := 1) (b := b3984) (C := #[.int .i64 t3977.1.f0, .int .i64 t3977.1.f1, .string t3977.1.f2, .int .i64 t3977.1.f3, .int .i64 t3977.1.f4, .string t3977.1.f5, .bool t3977.1.f6, .slice A3979 t3977.1.f7.length c3980, .int .u64 t3977.1.f8, .int .u64 t3977.1.f9, .int .u64 t3977.1.f10, .int .i64 t3977.1.f11, .bool t3977.1.f12, .int .i64 t3977.1.f13]) (T := 49) (fr := (0, 0)) KR) 49 0 (.tmp 7) (.agg #[.int .i64 t3977.1.f0, .int .i64 t3977.1.f1, .string t3977.1.f2, .int .i64 t3977.1.f3, .int .i64 t3977.1.f4, .string t3977.1.f5, .bool t3977.1.f6, .slice A3979 t3977.1.f7.length c3980, .int .u64 t3977.1.f8, .int .u64 t3977.1.f9, .int .u64 t3977.1.f10, .int .i64 t3977.1.f11, .bool t3977.1.f12, .int .i64 t3977.1.f13]) rfl KR KR KR ?_; intro ax hax; exact HK _ _ _ hax rfl (Below.refl _ _)
            · skip
              intro a wr hn hd HW hs; have ha := hasNil hn hd
              have ha := ha.add (seeF hs 56 0 (.agg #[.int .i64 t3965.1.f0, .int .i64 t3965.1.f1, .string t3965.1.f2, .int .i64 t3965.1.f3, .int .i64 t3965.1.f4, .string t3965.1.f5, .bool t3965.1.f6, .slice A3967 t3965.1.f7.length c3968, .int .u64 t3965.1.f8, .int .u64 t3965.1.f9, .int .u64 t3965.1.f10, .int .i64 t3965.1.f11, .bool t3965.1.f12, .int .i64 t3965.1.f13]) KR KR)
              have ha := ha.add (seeF hs 57 1 (.agg #[.int .i64 t3977.1.f0, .int .i64 t3977.1.f1, .string t3977.1.f2, .int .i64 t3977.1.f3, .int .i64 t3977.1.f4, .string t3977.1.f5, .bool t3977.1.f6, .slice A3979 t3977.1.f7.length c3980, .int .u64 t3977.1.f8, .int .u64 t3977.1.f9, .int .u64 t3977.1.f10, .int .i64 t3977.1.f11, .bool t3977.1.f12, .int .i64 t3977.1.f13]) KR KR)
              refine yStep ha 58 KR ?_; intro l_ ha HK
              refine stepc ha 58 KR KR (headgatekeep_Cmds.calls K (⟨t3965.1.f0, t3965.1.f1, t3965.1.f2, t3965.1.f3, t3965.1.f4, t3965.1.f5, t3965.1.f6, t3965.1.f7, t3965.1.f8, t3965.1.f9, t3965.1.f10, t3965.1.f11, t3965.1.f12, t3965.1.f13⟩ : T_api_Cmd) (⟨t3977.1.f0, t3977.1.f1, t3977.1.f2, t3977.1.f3, t3977.1.f4, t3977.1.f5, t3977.1.f6, t3977.1.f7, t3977.1.f8, t3977.1.f9, t3977.1.f10, t3977.1.f11, t3977.1.f12, t3977.1.f13⟩ : T_api_Cmd) A3967 c3968 A3979 c3980 t4004 _ (HW.rdo (i := 1) (q := ⟨128, 2, .slice A3967 t3965.1.f7.length c3968, t3965.1.f7.length, encs T_api_Range.enc t3965.1.f7⟩) KR) (HW.rdo (i := 0) (q := ⟨128, 2, .slice A3979 t3977.1.f7.length c3980, t3977.1.f7.length, encs T_api_Range.enc t3977.1.f7⟩) KR) ht4005) ?_; rintro e W4006 ⟨rfl, HX4007⟩
              refine ⟨_, rfl, ?_⟩; intro ax hax; exact HK _ _ _ hax rfl HX4007.below
            · skip
              intro a wr hn hd HW hs; have ha := hasNil hn hd
              have ha := ha.add (seeF hs 58 2 (.bool t4004) KR KR)
              refine yStep ha 59 KR ?_; intro l_ ha HK
              refine stepp ha 59 (.bool t4004) KR KR ?_; intro ax hax; exact HK _ _ _ hax rfl (Below.refl _ _)
            · skip
              intro a wr hn hd HW hs; have ha := hasNil hn hd
              have ha := ha.add (seeE hs 6 (.int .i64 t3965.2) KR KR)
              have ha := ha.add (seeF hs 59 3 (.bool t4004) KR KR)
              have ha := ha.bool 59 KR (hp4008)
              refine yStep ha 60 KR ?_; intro l_ ha HK
              refine stepp ha 60 (.int .i64 t3965.2) KR KR ?_; intro ax hax; exact HK _ _ _ hax rfl (Below.refl _ _)
            · skip
              intro a wr hn hd HW hs; have ha := hasNil hn hd
              have ha := ha.add (seeE hs 8 (.int .i64 t3977.2) KR KR)
              have ha := ha.add (seeF hs 59 3 (.bool t4004) KR KR)
              have ha := ha.bool 59 KR (hp4008)
              refine yStep ha 61 KR ?_; intro l_ ha HK
              refine stepp ha 61 (.int .i64 t3977.2) KR KR ?_; intro ax hax; exact HK _ _ _ hax rfl (Below.refl _ _)
            · skip
              intro a wr hn hd HW hs; have ha := hasNil hn hd
              have ha := ha.add (seeF hs 60 4 (.int .i64 t3965.2) KR KR)
              have ha := ha.add (seeF hs 61 5 (.int .i64 t3977.2) KR KR)
              have ha := ha.add (seeF hs 59 3 (.bool t4004) KR KR)
              have ha := ha.bool 59 KR (hp4008)
              refine yStep ha 62 KR ?_; intro l_ ha HK
              refine stepp ha 62 (.bool (t3965.2 == t3977.2)) KR KR ?_; intro ax hax; exact HK _ _ _ hax rfl (Below.refl _ _)
            · skip
              intro a wr hn hd HW hs; have ha := hasNil hn hd
              have ha := ha.add (seeF hs 59 3 (.bool t4004) KR KR)
              have ha := ha.bool 59 KR (hp4008)
              have ha := ha.add (seeF hs 62 6 (.bool (t3965.2 == t3977.2)) KR KR)
              refine yStep ha 63 KR ?_; intro l_ ha HK
              refine stepp ha 63 (.bool (t3965.2 == t3977.2)) KR KR ?_; intro ax hax; exact HK _ _ _ hax rfl (Below.refl _ _)
            · skip
              intro a wr hn hd HW hs; have ha := hasNil hn hd
              have ha := ha.add (seeF hs 63 7 (.bool (t3965.2 == t3977.2)) KR KR)
              refine yStep ha 64 KR ?_; intro l_ ha HK
              refine stepp ha 64 (.bool (t3965.2 == t3977.2)) KR KR ?_; intro ax hax; exact HK _ _ _ hax rfl (Below.refl _ _)
            · skip
              intro a wr hn hd HW hs; have ha := hasNil hn hd
              have ha := ha.add (seeE hs 9 (.int .i64 t3989.1) KR KR)
              have ha := ha.add (seeF hs 64 8 (.bool (t3965.2 == t3977.2)) KR KR)
              have ha := ha.bool 64 KR (ieq_f hp4009)
              exact yo ha KR rfl
            · skip
              intro a wr hn hd HW hs; have ha := hasNil hn hd
              have ha := ha.add (seeE hs 13 (.pointer (some ⟨b3999, 0, none⟩)) KR KR)
              have ha := ha.add (seeF hs 64 8 (.bool (t3965.2 == t3977.2)) KR KR)
              have ha := ha.bool 64 KR (ieq_f hp4009)
              exact yo ha KR rfl
            · skip
              intro a wr hn hd HW hs; have ha := hasNil hn hd
              have ha := ha.add (seeF hs 66 10 (undef) KR KR)
              have ha := ha.add (seeF hs 64 8 (.bool (t3965.2 == t3977.2)) KR KR)
              have ha := ha.bool 64 KR (ieq_f hp4009)
              exact yo ha KR rfl
            · skip
              intro a wr hn hd HW hs; have ha := hasNil hn hd
              have ha := ha.add (seeF hs 65 9 (undef) KR KR)
              have ha := ha.add (seeF hs 67 11 (undef) KR KR)
              have ha := ha.add (seeF hs 64 8 (.bool (t3965.2 == t3977.2)) KR KR)
              have ha := ha.bool 64 KR (ieq_f hp4009)
              exact yo ha KR rfl
            · skip
              intro a wr hn hd HW hs; have ha := hasNil hn hd
              have ha := ha.add (seeF hs 64 8 (.bool (t3965.2 == t3977.2)) KR KR)
              have ha := ha.bool 64 KR (ieq_f hp4009)
              have ha := ha.add (seeF hs 68 12 (undef) KR KR)
              refine yStep ha 69 KR ?_; intro l_ ha HK
              refine stepp ha 69 (.bool false) KR KR ?_; intro ax hax; exact HK _ _ _ hax rfl (Below.refl _ _)
            · skip
              intro a wr hn hd HW hs; have ha := hasNil hn hd
              have ha := ha.add (seeF hs 69 13 (.bool false) KR KR)
              refine yStep ha 70 KR ?_; intro l_ ha HK
              refine stepp ha 70 (.bool false) KR KR ?_; intro ax hax; exact HK _ _ _ hax rfl (Below.refl _ _)
            · skip
              intro a wr hn hd HW hs; have ha := hasNil hn hd
              have ha := ha.add (seeE hs 10 (.int .u32 t3989.2.1) KR KR)
              have ha := ha.add (seeF hs 70 14 (.bool false) KR KR)
              exact yo ha KR rfl
            · skip
              intro a wr hn hd HW hs; have ha := hasNil hn hd
              have ha := ha.add (seeE hs 13 (.pointer (some ⟨b3999, 0, none⟩)) KR KR)
              have ha := ha.add (seeF hs 70 14 (.bool false) KR KR)
              exact yo ha KR rfl
            · skip
              intro a wr hn hd HW hs; have ha := hasNil hn hd
              have ha := ha.add (seeF hs 72 16 (undef) KR KR)
              have ha := ha.add (seeF hs 70 14 (.bool false) KR KR)
              exact yo ha KR rfl
            · skip
              intro a wr hn hd HW hs; have ha := hasNil hn hd
              have ha := ha.add (seeF hs 71 15 (undef) KR KR)
              have ha := ha.add (seeF hs 73 17 (undef) KR KR)
              have ha := ha.add (seeF hs 70 14 (.bool false) KR KR)
              exact yo ha KR rfl
            · skip
              intro a wr hn hd HW hs; have ha := hasNil hn hd
              have ha := ha.add (seeF hs 70 14 (.bool false) KR KR)
              have ha := ha.add (seeF hs 74 18 (undef) KR KR)
              refine yStep ha 75 KR ?_; intro l_ ha HK
              refine stepp ha 75 (.bool false) KR KR ?_; intro ax hax; exact HK _ _ _ hax rfl (Below.refl _ _)
            · skip
              intro a wr hn hd HW hs; have ha := hasNil hn hd
              have ha := ha.add (seeF hs 75 19 (.bool false) KR KR)
              refine yStep ha 76 KR ?_; intro l_ ha HK
              refine stepp ha 76 (.bool false) KR KR ?_; intro ax hax; exact HK _ _ _ hax rfl (Below.refl _ _)
            · skip
              intro a wr hn hd HW hs; have ha := hasNil hn hd
              have ha := ha.add (seeE hs 11 (.string t3989.2.2.1) KR KR)
              have ha := ha.add (seeF hs 76 20 (.bool false) KR KR)
              exact yo ha KR rfl
            · skip
              intro a wr hn hd HW hs; have ha := hasNil hn hd
              have ha := ha.add (seeE hs 13 (.pointer (some ⟨b3999, 0, none⟩)) KR KR)
              have ha := ha.add (seeF hs 76 20 (.bool false) KR KR)
              exact yo ha KR rfl
            · skip
              intro a wr hn hd HW hs; have ha := hasNil hn hd
              have ha := ha.add (seeF hs 78 22 (undef) KR KR)
              have ha := ha.add (seeF hs 76 20 (.bool false) KR KR)
              exact yo ha KR rfl
            · skip
              intro a wr hn hd HW hs; have ha := hasNil hn hd
              have ha := ha.add (seeF hs 77 21 (undef) KR KR)
              have ha := ha.add (seeF hs 79 23 (undef) KR KR)
              have ha := ha.add (seeF hs 76 20 (.bool false) KR KR)
              exact yo ha KR rfl
            · skip
              intro a wr hn hd HW hs; have ha := hasNil hn hd
              have ha := ha.add (seeF hs 76 20 (.bool false) KR KR)
              have ha := ha.add (seeF hs 80 24 (undef) KR KR)
              refine yStep ha 81 KR ?_; intro l_ ha HK
              refine stepp ha 81 (.bool false) KR KR ?_; intro ax hax; exact HK _ _ _ hax rfl (Below.refl _ _)
            · skip
              intro a wr hn hd HW hs; have ha := hasNil hn hd
              have ha := ha.add (seeF hs 81 25 (.bool false) KR KR)
              refine yStep ha 82 KR ?_; intro l_ ha HK
              refine stepp ha 82 (.bool false) KR KR ?_; intro ax hax; exact HK _ _ _ hax rfl (Below.refl _ _)
            · skip
              intro a wr hn hd HW hs; have ha := hasNil hn hd
              have ha := ha.add (seeE hs 12 (.int .i64 t3989.2.2.2) KR KR)
              have ha := ha.add (seeF hs 82 26 (.bool false) KR KR)
              exact yo ha KR rfl
            · skip
              intro a wr hn hd HW hs; have ha := hasNil hn hd
              have ha := ha.add (seeE hs 14 (.int .i64 t3995.2) KR KR)
              have ha := ha.add (seeF hs 82 26 (.bool false) KR KR)
              exact yo ha KR rfl
            · skip
              intro a wr hn hd HW hs; have ha := hasNil hn hd
              have ha := ha.add (seeF hs 83 27 (undef) KR KR)
              have ha := ha.add (seeF hs 84 28 (undef) KR KR)
              have ha := ha.add (seeF hs 82 26 (.bool false) KR KR)
              exact yo ha KR rfl
            · skip
              intro a wr hn hd HW hs; have ha := hasNil hn hd
              have ha := ha.add (seeF hs 82 26 (.bool false) KR KR)
              have ha := ha.add (seeF hs 85 29 (undef) KR KR)
              refine yStep ha 86 KR ?_; intro l_ ha HK
              refine stepp ha 86 (.bool false) KR KR ?_; intro ax hax; exact HK _ _ _ hax rfl (Below.refl _ _)
            · skip
              intro a wr hn hd HW hs; have ha := hasNil hn hd
              have ha := ha.add (seeF hs 86 30 (.bool false) KR KR)
              refine yStep ha 87 KR ?_; intro l_ ha HK
              refine stepp ha 87 (.bool false) KR KR ?_; intro ax hax; exact HK _ _ _ hax rfl (Below.refl _ _)
            · skip
              intro a wr hn hd HW hs; have ha := hasNil hn hd
              have ha := ha.add (seeE hs 2 (.pointer (some ⟨b3941, 0, none⟩)) KR KR)
              have ha := ha.add (seeF hs 87 31 (.bool false) KR KR)
              exact yo ha KR rfl
            · skip
              intro a wr hn hd HW hs; have ha := hasNil hn hd
              have ha := ha.add (seeF hs 88 32 (undef) KR KR)
              have ha := ha.add (seeF hs 87 31 (.bool false) KR KR)
              exact yo ha KR rfl
            · skip
              intro a wr hn hd HW hs; have ha := hasNil hn hd
              have ha := ha.add (seeF hs 89 33 (undef) KR KR)
              have ha := ha.add (seeF hs 87 31 (.bool false) KR KR)
              exact yo ha KR rfl
            · skip
              intro a wr hn hd HW hs; have ha := hasNil hn hd
              have ha := ha.add (seeE hs 2 (.pointer (some ⟨b3941, 0, none⟩)) KR KR)
              have ha := ha.add (seeF hs 87 31 (.bool false) KR KR)
              exact yo ha KR rfl
            · skip
              intro a wr hn hd HW hs; have ha := hasNil hn hd
              have ha := ha.add (seeF hs 91 35 (undef) KR KR)
              have ha := ha.add (seeF hs 87 31 (.bool false) KR KR)
              exact yo ha KR rfl
            · skip
              intro a wr hn hd HW hs; have ha := hasNil hn hd
              have ha := ha.add (seeF hs 92 36 (undef) KR KR)
              have ha := ha.add (seeF hs 87 31 (.bool false) KR KR)
              exact yo ha KR rfl
            · skip
              intro a wr hn hd HW hs; have ha := hasNil hn hd
              have ha := ha.add (seeF hs 90 34 (undef) KR KR)
              have ha := ha.add (seeF hs 93 37 (undef) KR KR)
              have ha := ha.add (seeF hs 87 31 (.bool false) KR KR)
              exact yo ha KR rfl
            · skip
              intro a wr hn hd HW hs; have ha := hasNil hn hd
              have ha := ha.add (seeF hs 87 31 (.bool false) KR KR)
              have ha := ha.add (seeF hs 94 38 (undef) KR KR)
              refine yStep ha 95 KR ?_; intro l_ ha HK
              refine stepp ha 95 (.bool false) KR KR ?_; intro ax hax; exact HK _ _ _ hax rfl (Below.refl _ _)
            · skip
              intro a wr hn hd HW hs; have ha := hasNil hn hd
              have ha := ha.add (seeF hs 95 39 (.bool false) KR KR)
              refine yStep ha 96 KR ?_; intro l_ ha HK
              refine stepp ha 96 (.bool false) KR KR ?_; intro ax hax; exact HK _ _ _ hax rfl (Below.refl _ _)
            · skip
              intro a wr hn hd HW hs; have ha := hasNil hn hd
              have ha := ha.add (seeF hs 96 40 (.bool false) KR KR)
              exact yo ha KR rfl
            · skip
              intro a wr hn hd HW hs; have ha := hasNil hn hd
              have ha := ha.add (seeF hs 96 40 (.bool false) KR KR)
              have ha := ha.add (seeF hs 97 41 (undef) KR KR)
              refine yStep ha 98 KR ?_; intro l_ ha HK
              refine stepp ha 98 (.bool false) KR KR ?_; intro ax hax; exact HK _ _ _ hax rfl (Below.refl _ _)
          · skip
            intro a W4033 ha HW he hf
            replace ha := ha.add (gotF (m := 43) (j := 42) (d := 98) (v := .bool false) hf KR KR KR)
            clear he hf
            refine stepp ha 4 (.bool false) KR KR ?_; clear ha a; intro a ha
            refine endl ?_
            refine thenN (hK4003 _ _ ?_); clear hK4003
            refine wp_ret ?_
            obtain rfl := Option.some.inj h
            exact finv ha _ _ rfl (.tmp (v := .bool false) KR .nil) (.bool false) rfl ⟨rfl, HW.pick [] [] (by decide) (by decide) rfl KR⟩
      · skip
        replace h := ite_neg' h hp4008
        refine regionG 43 KR KR ha HW [.fix (.agg #[.int .i64 t3965.1.f0, .int .i64 t3965.1.f1, .string t3965.1.f2, .int .i64 t3965.1.f3, .int .i64 t3965.1.f4, .string t3965.1.f5, .bool t3965.1.f6, .slice A3967 t3965.1.f7.length c3968, .int .u64 t3965.1.f8, .int .u64 t3965.1.f9, .int .u64 t3965.1.f10, .int .i64 t3965.1.f11, .bool t3965.1.f12, .int .i64 t3965.1.f13]), .fix (.agg #[.int .i64 t3977.1.f0, .int .i64 t3977.1.f1, .string t3977.1.f2, .int .i64 t3977.1.f3, .int .i64 t3977.1.f4, .string t3977.1.f5, .bool t3977.1.f6, .slice A3979 t3977.1.f7.length c3980, .int .u64 t3977.1.f8, .int .u64 t3977.1.f9, .int .u64 t3977.1.f10, .int .i64 t3977.1.f11, .bool t3977.1.f12, .int .i64 t3977.1.f13]), .fix (.bool t4004), .fix (.bool t4004), .fix undef, .fix undef, .fix undef, .fix (.bool false), .fix (.bool false), .fix undef, .fix undef, .fix undef, .fix undef, .fix (.bool false), .fix (.bool false), .fix undef, .fix undef, .fix undef, .fix undef, .fix (.bool false), .fix (.bool false), .fix undef, .fix undef, .fix undef, .fix undef, .fix (.bool false), .fix (.bool false), .fix undef, .fix undef, .fix undef, .fix (.bool false), .fix (.bool false), .fix undef, .fix undef, .fix undef, .fix undef, .fix undef, .fix undef, .fix undef, .fix (.bool false), .fix (.bool false), .fix undef, .fix (.bool false)] ?_ ?_
        · skip
          refine ⟨?_, ?_, ?_, ?_, ?_, ?_, ?_, ?_, ?_, ?_, ?_, ?_, ?_, ?_, ?_, ?_, ?_, ?_, ?_, ?_, ?_, ?_, ?_, ?_, ?_, ?_, ?_, ?_, ?_, ?_, ?_, ?_, ?_, ?_, ?_, ?_, ?_, ?_, ?_, ?_, ?_, ?_, ?_, trivial⟩
          · skip
            intro a wr hn hd HW hs; have ha := hasNil hn hd
            have ha := ha.add (seeE hs 5 (.pointer (some ⟨b3972, 0, none⟩)) KR KR)
            refine yStep ha 56 KR ?_; intro l_ ha HK
            refine stepl ha 56 (HW.ca (i := 2) (b := b3972) (C := #[.int .i64 t3965.1.f0, .int .i64 t3965.1.f1, .string t3965.1.f2, .int .i64 t3965.1.f3, .int .i64 t3965.1.f4, .string t3965.1.f5, .bool t3965.1.f6, .slice A3967 t3965.1.f7.length c3968, .int .u64 t3965.1.f8, .int .u64 t3965.1.f9, .int .u64 t3965.1.f10, .int .i64 t3965.1.f11, .bool t3965.1.f12, .int .i64 t3965.1.f13]) (T := 49) (fr := (0, 0)) KR) 49 0 (.tmp 5) (.agg #[.int .i64 t3965.1.f0, .int .i64 t3965.1.f1, .string t3965.1.f2, .int .i64 t3965.1.f3, .int .i64 t3965.1.f4, .string t3965.1.f5, .bool t3965.1.f6, .slice A3967 t3965.1.f7.length c3968, .int .u64 t3965.1.f8, .int .u64 t3965.1.f9, .int .u64 t3965.1.f10, .int .i64 t3965.1.f11, .bool t3965.1.f12, .int .i64 t3965.1.f13]) rfl KR KR KR ?_; intro ax hax; exact HK _ _ _ hax rfl (Below.refl _ _)
          · skip
            intro a wr hn hd HW hs; have ha := hasNil hn hd
            have ha := ha.add (seeE hs 7 (.pointer (some ⟨b3984, 0, none⟩)) KR KR)
            refine yStep ha 57 KR ?_; intro l_ ha HK
            refine stepl ha 57 (HW.ca (i := 1) (b := b3984) (C := #[.int .i64 t3977.1.f0, .int .i64 t3977.1.f1, .string t3977.1.f2, .int .i64 t3977.1.f3, .int .i64 t3977.1.f4, .string t3977.1.f5, .bool t3977.1.f6, .slice A3979 t3977.1.f7.length c3980, .int .u64 t3977.1.f8, .int .u64 t3977.1.f9, .int .u64 t3977.1.f10, .int .i64 t3977.1.f11, .bool t3977.1.f12, .int .i64 t3977.1.f13]) (T := 49) (fr := (0, 0)) KR) 49 0 (.tmp 7) (.agg #[.int .i64 t3977.1.f0, .int .i64 t3977.1.f1, .string t3977.1.f2, .int .i64 t3977.1.f3, .int .i64 t3977.1.f4, .string t3977.1.f5, .bool t3977.1.f6, .slice A3979 t3977.1.f7.length c3980, .int .u64 t3977.1.f8, .int .u64 t3977.1.f9, .int .u64 t3977.1.f10, .int .i64 t3977.1.f11, .bool t3977.1.f12, .int .i64 t3977.1.f13]) rfl KR KR KR ?_; intro ax hax; exact HK _ _ _ hax rfl (Below.refl _ _)
          · skip
            intro a wr hn hd HW hs; have ha := hasNil hn hd
            have ha := ha.add (seeF hs 56 0 (.agg #[.int .i64 t3965.1.f0, .int .i64 t3965.1.f1, .string t3965.1.f2, .int .i64 t3965.1.f3, .int .i64 t3965.1.f4, .string t3965.1.f5, .bool t3965.1.f6, .slice A3967 t3965.1.f7.length c3968, .int .u64 t3965.1.f8, .int .u64 t3965.1.f9, .int .u64 t3965.1.f10, .int .i64 t3965.1.f11, .bool t3965.1.f12, .int .i64 t3965.1.f13]) KR KR)
            have ha := ha.add (seeF hs 57 1 (.agg #[.int .i64 t3977.1.f0, .int .i64 t3977.1.f1, .string t3977.1.f2, .int .i64 t3977.1.f3, .int .i64 t3977.1.f4, .string t3977.1.f5, .bool t3977.1.f6, .slice A3979 t3977.1.f7.length c3980, .int .u64 t3977.1.f8, .int .u64 t3977.1.f9, .int .u64 t3977.1.f10, .int .i64 t3977.1.f11, .bool t3977.1.f12, .int .i64 t3977.1.f13]) KR KR)
            refine yStep ha 58 KR ?_; intro l_ ha HK
            refine stepc ha 58 KR KR (headgatekeep_Cmds.calls K (⟨t3965.1.f0, t3965.1.f1, t3965.1.f2, t3965.1.f3, t3965.1.f4, t3965.1.f5, t3965.1.f6, t3965.1.f7, t3965.1.f8, t3965.1.f9, t3965.1.f10, t3965.1.f11, t3965.1.f12, t3965.1.f13⟩ : T_api_Cmd) (⟨t3977.1.f0, t3977.1.f1, t3977.1.f2, t3977.1.f3, t3977.1.f4, t3977.1.f5, t3977.1.f6, t3977.1.f7, t3977.1.f8, t3977.1.f9, t3977.1.f10, t3977.1.f11, t3977.1.f12, t3977.1.f13⟩ : T_api_Cmd) A3967 c3968 A3979 c3980 t4004 _ (HW.rdo (i := 1) (q := ⟨128, 2, .slice A3967 t3965.1.f7.length c3968, t3965.1.f7.length, encs T_api_Range.enc t3965.1.f7⟩) KR) (HW.rdo (i := 0) (q := ⟨128, 2, .slice A3979 t3977.1.f7.length c3980, t3977.1.f7.length, encs T_api_Range.enc t3977.1.f7⟩) KR) ht4005) ?_; rintro e W4006 ⟨rfl, HX4007⟩
            refine ⟨_, rfl, ?_⟩; intro ax hax; exact HK _ _ _ hax rfl HX4007.below
          · skip
            intro a wr hn hd HW hs; have ha := hasNil hn hd
            have ha := ha.add (seeF hs 58 2 (.bool t4004) KR KR)
            refine yStep ha 59 KR ?_; intro l_ ha HK
            refine stepp ha 59 (.bool t4004) KR KR ?_; intro ax hax; exact HK _ _ _ hax rfl (Below.refl _ _)
          · skip
            intro a wr hn hd HW hs; have ha := hasNil hn hd
            have ha := ha.add (seeE hs 6 (.int .i64 t3965.2) KR KR)
            have ha := ha.add (seeF hs 59 3 (.bool t4004) KR KR)
            have ha := ha.bool 59 KR (bool_f hp4008)
            exact yo ha KR rfl
          · skip
            intro a wr hn hd HW hs; have ha := hasNil hn hd
            have ha := ha.add (seeE hs 8 (.int .i64 t3977.2) KR KR)
            have ha := ha.add (seeF hs 59 3 (.bool t4004) KR KR)
            have ha := ha.bool 59 KR (bool_f hp4008)
            exact yo ha KR rfl
          · skip
            intro a wr hn hd HW hs; have ha := hasNil hn hd
            have ha := ha.add (seeF hs 60 4 (undef) KR KR)
            have ha := ha.add (seeF hs 61 5 (undef) KR KR)
            have ha := ha.add (seeF hs 59 3 (.bool t4004) KR KR)
            have ha := ha.bool 59 KR (bool_f hp4008)
            exact yo ha KR rfl
          · skip
            intro a wr hn hd HW hs; have ha := hasNil hn hd
            have ha := ha.add (seeF hs 59 3 (.bool t4004) KR KR)
            have ha := ha.bool 59 KR (bool_f hp4008)
            have ha := ha.add (seeF hs 62 6 (undef) KR KR)
            refine yStep ha 63 KR ?_; intro l_ ha HK
            refine stepp ha 63 (.bool false) KR KR ?_; intro ax hax; exact HK _ _ _ hax rfl (Below.refl _ _)
          · skip
            intro a wr hn hd HW hs; have ha := hasNil hn hd
            have ha := ha.add (seeF hs 63 7 (.bool false) KR KR)
            refine yStep ha 64 KR ?_; intro l_ ha HK
            refine stepp ha 64 (.bool false) KR KR ?_; intro ax hax; exact HK _ _ _ hax rfl (Below.refl _ _)
          · skip
            intro a wr hn hd HW hs; have ha := hasNil hn hd
            have ha := ha.add (seeE hs 9 (.int .i64 t3989.1) KR KR)
            have ha := ha.add (seeF hs 64 8 (.bool false) KR KR)
            exact yo ha KR rfl
          · skip
            intro a wr hn hd HW hs; have ha := hasNil hn hd
            have ha := ha.add (seeE hs 13 (.pointer (some ⟨b3999, 0, none⟩)) KR KR)
            have ha := ha.add (seeF hs 64 8 (.bool false) KR KR)
            exact yo ha KR rfl
          · skip
            intro a wr hn hd HW hs; have ha := hasNil hn hd
            have ha := ha.add (seeF hs 66 10 (undef) KR KR)
            have ha := ha.add (seeF hs 64 8 (.bool false) KR KR)
            exact yo ha KR rfl
          · skip
            intro a wr hn hd HW hs; have ha := hasNil hn hd
            have ha := ha.add (seeF hs 65 9 (undef) KR KR)
            have ha := ha.add (seeF hs 67 11 (undef) KR KR)
            have ha := ha.add (seeF hs 64 8 (.bool false) KR KR)
            exact yo ha KR rfl
          · skip
            intro a wr hn hd HW hs; have ha := hasNil hn hd
            have ha := ha.add (seeF hs 64 8 (.bool false) KR KR)
            have ha := ha.add (seeF hs 68 12 (undef) KR KR)
            refine yStep ha 69 KR ?_; intro l_ ha HK
            refine stepp ha 69 (.bool false) KR KR ?_; intro ax hax; exact HK _ _ _ hax rfl (Below.refl _ _)
          · skip
            intro a wr hn hd HW hs; have ha := hasNil hn hd
            have ha := ha.add (seeF hs 69 13 (.bool false) KR KR)
            refine yStep ha 70 KR ?_; intro l_ ha HK
            refine stepp ha 70 (.bool false) KR KR ?_; intro ax hax; exact HK _ _ _ hax rfl (Below.refl _ _)
          · skip
            intro a wr hn hd HW hs; have ha := hasNil hn hd
            have ha := ha.add (seeE hs 10 (.int .u32 t3989.2.1) KR KR)
            have ha := ha.add (seeF hs 70 14 (.bool false) KR KR)
            exact yo ha KR rfl
          · skip
            intro a wr hn hd HW hs; have ha := hasNil hn hd
            have ha := ha.add (seeE hs 13 (.pointer (some ⟨b3999, 0, none⟩)) KR KR)
            have ha := ha.add (seeF hs 70 14 (.bool false) KR KR)
            exact yo ha KR rfl
          · skip
            intro a wr hn hd HW hs; have ha := hasNil hn hd
            have ha := ha.add (seeF hs 72 16 (undef) KR KR)
            have ha := ha.add (seeF hs 70 14 (.bool false) KR KR)
            exact yo ha KR rfl
          · skip
            intro a wr hn hd HW hs; have ha := hasNil hn hd
            have ha := ha.add (seeF hs 71 15 (undef) KR KR)
            have ha := ha.add (seeF hs 73 17 (undef) KR KR)
            have ha := ha.add (seeF hs 70 14 (.bool false) KR KR)
            exact yo ha KR rfl
          · skip
            intro a wr hn hd HW hs; have ha := hasNil hn hd
            have ha := ha.add (seeF hs 70 14 (.bool false) KR KR)
            have ha := ha.add (seeF hs 74 18 (undef) KR KR)
            refine yStep ha 75 KR ?_; intro l_ ha HK
            refine stepp ha 75 (.bool false) KR KR ?_; intro ax hax; exact HK _ _ _ hax rfl (Below.refl _ _)
          · skip
            intro a wr hn hd HW hs; have ha := hasNil hn hd
            have ha := ha.add (seeF hs 75 19 (.bool false) KR KR)
            refine yStep ha 76 KR ?_; intro l_ ha HK
            refine stepp ha 76 (.bool false) KR KR ?_; intro ax hax; exact HK _ _ _ hax rfl (Below.refl _ _)
          · skip
            intro a wr hn hd HW hs; have ha := hasNil hn hd
            have ha := ha.add (seeE hs 11 (.string t3989.2.2.1) KR KR)
            have ha := ha.add (seeF hs 76 20 (.bool false) KR KR)
            exact yo ha KR rfl
          · skip
            intro a wr hn hd HW hs; have ha := hasNil hn hd
            have ha := ha.add (seeE hs 13 (.pointer (some ⟨b3999, 0, none⟩)) KR KR)
            have ha := ha.add (seeF hs 76 20 (.bool false) KR KR)
            exact yo ha KR rfl
          · skip
            intro a wr hn hd HW hs; have ha := hasNil hn hd
            have ha := ha.add (seeF hs 78 22 (undef) KR KR)
            have ha := ha.add (seeF hs 76 20 (.bool false) KR KR)
            exact yo ha KR rfl
          · skip
            intro a wr hn hd HW hs; have ha := hasNil hn hd
            have ha := ha.add (seeF hs 77 21 (undef) KR KR)
            have ha := ha.add (seeF hs 79 23 (undef) KR KR)
            have ha := ha.add (seeF hs 76 20 (.bool false) KR KR)
            exact yo ha KR rfl
          · skip
            intro a wr hn hd HW hs; have ha := hasNil hn hd
            have ha := ha.add (seeF hs 76 20 (.bool false) KR KR)
            have ha := ha.add (seeF hs 80 24 (undef) KR KR)
            refine yStep ha 81 KR ?_; intro l_ ha HK
            refine stepp ha 81 (.bool false) KR KR ?_; intro ax hax; exact HK _ _ _ hax rfl (Below.refl _ _)
          · skip
            intro a wr hn hd HW hs; have ha := hasNil hn hd
            have ha := ha.add (seeF hs 81 25 (.bool false) KR KR)
            refine yStep ha 82 KR ?_; intro l_ ha HK
            refine stepp ha 82 (.bool false) KR KR ?_; intro ax hax; exact HK _ _ _ hax rfl (Below.refl _ _)
          · skip
            intro a wr hn hd HW hs; have ha := hasNil hn hd
            have ha := ha.add (seeE hs 12 (.int .i64 t3989.2.2.2) KR KR)
            have ha := ha.add (seeF hs 82 26 (.bool false) KR KR)
            exact yo ha KR rfl
          · skip
            intro a wr hn hd HW hs; have ha := hasNil hn hd
            have ha := ha.add (seeE hs 14 (.int .i64 t3995.2) KR KR)
            have ha := ha.add (seeF hs 82 26 (.bool false) KR KR)
            exact yo ha KR rfl
          · skip
            intro a wr hn hd HW hs; have ha := hasNil hn hd
            have ha := ha.add (seeF hs 83 27 (undef) KR KR)
            have ha := ha.add (seeF hs 84 28 (undef) KR KR)
            have ha := ha.add (seeF hs 82 26 (.bool false) KR KR)
            exact yo ha KR rfl
          · skip
            intro a wr hn hd HW hs; have ha := hasNil hn hd
            have ha := ha.add (seeF hs 82 26 (.bool false) KR KR)
            have ha := ha.add (seeF hs 85 29 (undef) KR KR)
            refine yStep ha 86 KR ?_; intro l_ ha HK
            refine stepp ha 86 (.bool false) KR KR ?_; intro ax hax; exact HK _ _ _ hax rfl (Below.refl _ _)
          · skip
            intro a wr hn hd HW hs; have ha := hasNil hn hd
            have ha := ha.add (seeF hs 86 30 (.bool false) KR KR)
            refine yStep ha 87 KR ?_; intro l_ ha HK
            refine stepp ha 87 (.bool false) KR KR ?_; intro ax hax; exact HK _ _ _ hax rfl (Below.refl _ _)
          · skip
            intro a wr hn hd HW hs; have ha := hasNil hn hd
            have ha := ha.add (seeE hs 2 (.pointer (some ⟨b3941, 0, none⟩)) KR KR)
            have ha := ha.add (seeF hs 87 31 (.bool false) KR KR)
            exact yo ha KR rfl
          · skip
            intro a wr hn hd HW hs; have ha := hasNil hn hd
            have ha := ha.add (seeF hs 88 32 (undef) KR KR)
            have ha := ha.add (seeF hs 87 31 (.bool false) KR KR)
            exact yo ha KR rfl
          · skip
            intro a wr hn hd HW hs; have ha := hasNil hn hd
            have ha := ha.add (seeF hs 89 33 (undef) KR KR)
            have ha := ha.add (seeF hs 87 31 (.bool false) KR KR)
            exact yo ha KR rfl
          · skip
            intro a wr hn hd HW hs; have ha := hasNil hn hd
            have ha := ha.add (seeE hs 2 (.pointer (some ⟨b3941, 0, none⟩)) KR KR)
            have ha := ha.add (seeF hs 87 31 (.bool false) KR KR)
            exact yo ha KR rfl
          · skip
            intro a wr hn hd HW hs; have ha := hasNil hn hd
            have ha := ha.add (seeF hs 91 35 (undef) KR KR)
            have ha := ha.add (seeF hs 87 31 (.bool false) KR KR)
            exact yo ha KR rfl
          · skip
            intro a wr hn hd HW hs; have ha := hasNil hn hd
            have ha := ha.add (seeF hs 92 36 (undef) KR KR)
            have ha := ha.add (seeF hs 87 31 (.bool false) KR KR)
            exact yo ha KR rfl
          · skip
            intro a wr hn hd HW hs; have ha := hasNil hn hd
            have ha := ha.add (seeF hs 90 34 (undef) KR KR)
            have ha := ha.add (seeF hs 93 37 (undef) KR KR)
            have ha := ha.add (seeF hs 87 31 (.bool false) KR KR)
            exact yo ha KR rfl
          · skip
            intro a wr hn hd HW hs; have ha := hasNil hn hd
            have ha := ha.add (seeF hs 87 31 (.bool false) KR KR)
            have ha := ha.add (seeF hs 94 38 (undef) KR KR)
            refine yStep ha 95 KR ?_; intro l_ ha HK
            refine stepp ha 95 (.bool false) KR KR ?_; intro ax hax; exact HK _ _ _ hax rfl (Below.refl _ _)
          · skip
            intro a wr hn hd HW hs; have ha := hasNil hn hd
            have ha := ha.add (seeF hs 95 39 (.bool false) KR KR)
            refine yStep ha 96 KR ?_; intro l_ ha HK
            refine stepp ha 96 (.bool false) KR KR ?_; intro ax hax; exact HK _ _ _ hax rfl (Below.refl _ _)
          · skip
            intro a wr hn hd HW hs; have ha := hasNil hn hd
            have ha := ha.add (seeF hs 96 40 (.bool false) KR KR)
            exact yo ha KR rfl
          · skip
            intro a wr hn hd HW hs; have ha := hasNil hn hd
            have ha := ha.add (seeF hs 96 40 (.bool false) KR KR)
            have ha := ha.add (seeF hs 97 41 (undef) KR KR)
            refine yStep ha 98 KR ?_; intro l_ ha HK
            refine stepp ha 98 (.bool false) KR KR ?_; intro ax hax; exact HK _ _ _ hax rfl (Below.refl _ _)
        · skip
          intro a W4034 ha HW he hf
          replace ha := ha.add (gotF (m := 43) (j := 42) (d := 98) (v := .bool false) hf KR KR KR)
          clear he hf
          refine stepp ha 4 (.bool false) KR KR ?_; clear ha a; intro a ha
          refine endl ?_
          refine thenN (hK4003 _ _ ?_); clear hK4003
          refine wp_ret ?_
          obtain rfl := Option.some.inj h
          exact finv ha _ _ rfl (.tmp (v := .bool false) KR .nil) (.bool false) rfl ⟨rfl, HW.pick [] [] (by decide) (by decide) rfl KR⟩
end Go.Proofs.YthjjbkgifelooaaDoor.F
