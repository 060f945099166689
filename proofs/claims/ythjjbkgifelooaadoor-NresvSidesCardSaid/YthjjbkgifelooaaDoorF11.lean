/- headgate/headgatelaw27.NresvSides: plain functions, and that the calls come to what they say. No condition. -/
import Derived.Test.YthjjbkgifelooaaDoorFT
import Derived.Test.YthjjbkgifelooaaDoorF23
import Derived.Test.YthjjbkgifelooaaDoorF26
import Derived.Test.YthjjbkgifelooaaDoorF28
import Derived.Test.YthjjbkgifelooaaDoorF68
import Derived.Test.YthjjbkgifelooaaDoorF76
import Derived.Test.YthjjbkgifelooaaDoorF77
namespace Go.Proofs.YthjjbkgifelooaaDoor.F
open Go Go.RowKit Go.Proofs.YthjjbkgifelooaaDoor.X
set_option linter.unusedVariables false
set_option linter.unusedSimpArgs false
/-! ### headgate/headgatelaw27.NresvSides: function 11 -/
def headgatelaw27_NresvSides.j0 (K : Nat) (a0 : T_api_Cmd) (t5325 : Int × ByteArray × Int) (t5331 : Int × Int × ByteArray × Int) (x5340 : Bool) : Option Bool :=
  if x5340 = true then ((headgatelaw27_wakes.f K).bind fun t5345 => (some t5345)) else ((prout_Change.f K t5325.1 a0.f11 t5325.2.1).bind fun t5351 => ((nresv_Change.f K t5331.1 t5331.2.1 t5331.2.2.1).bind fun t5363 => (if t5351.2 = 0 then (if t5363.2 = 0 then ((headgatekeep_Cmds.f K (⟨t5351.1.f0, t5351.1.f1, t5351.1.f2, t5351.1.f3, t5351.1.f4, t5351.1.f5, t5351.1.f6, t5351.1.f7, t5351.1.f8, t5351.1.f9, t5351.1.f10, t5351.1.f11, t5351.1.f12, t5351.1.f13⟩ : T_api_Cmd) (⟨t5363.1.f0, t5363.1.f1, t5363.1.f2, t5363.1.f3, t5363.1.f4, t5363.1.f5, t5363.1.f6, t5363.1.f7, t5363.1.f8, t5363.1.f9, t5363.1.f10, t5363.1.f11, t5363.1.f12, t5363.1.f13⟩ : T_api_Cmd)).bind fun t5377 => (if t5377 = true then ((headgatekeep_Cmds.f K (⟨t5351.1.f0, t5351.1.f1, t5351.1.f2, t5351.1.f3, t5351.1.f4, t5351.1.f5, t5351.1.f6, t5351.1.f7, t5351.1.f8, t5351.1.f9, t5351.1.f10, t5351.1.f11, t5351.1.f12, t5351.1.f13⟩ : T_api_Cmd) a0).bind fun t5382 => (if t5382 = true then ((headgatelaw27_wakes.f K).bind fun t5387 => (some t5387)) else (some false))) else (some false))) else (some false)) else (some false))))
def headgatelaw27_NresvSides.f (K : Nat) (a0 : T_api_Cmd) : Option Bool :=
  (headgatelaw27_large.f a0).bind fun t5312 => (if t5312 = true then ((headgatelaw27_wakes.f K).bind fun t5319 => (some t5319)) else ((prout_List.f K a0).bind fun t5325 => ((nresv_Words.f K a0).bind fun t5331 => (if t5325.2.2 = 0 then (headgatelaw27_NresvSides.j0 K a0 t5325 t5331 (t5331.2.2.2 != 0)) else (headgatelaw27_NresvSides.j0 K a0 t5325 t5331 true)))))
set_option maxRecDepth 100000 in
set_option maxHeartbeats 4000000 in
theorem headgatelaw27_NresvSides.calls (K : Nat) (a0 : T_api_Cmd) (A0_0 : Option Addr) (c0_0 : Nat) (r : Bool) (w : World) (hG0 : CA w 0 0 (encs (encI .i64) G_access_lets).toArray) (hG1 : CA w 1 0 (encs T_nresv_action.enc G_nresv_actions).toArray) (hG2 : CA w 2 0 (encs (encI .i64) G_nresv_aptpls).toArray) (hr0_0 : Rd 2 w (.slice A0_0 a0.f7.length c0_0) a0.f7.length (encs T_api_Range.enc a0.f7)) (h : headgatelaw27_NresvSides.f K a0 = some r) :
    Calls Tryd.prog 11 #[.agg #[.int .i64 a0.f0, .int .i64 a0.f1, .string a0.f2, .int .i64 a0.f3, .int .i64 a0.f4, .string a0.f5, .bool a0.f6, .slice A0_0 a0.f7.length c0_0, .int .u64 a0.f8, .int .u64 a0.f9, .int .u64 a0.f10, .int .i64 a0.f11, .bool a0.f12, .int .i64 a0.f13]] w (fun e W' => e = .returned (.bool r) ∧ Wd w W' [] [] ) := by
  refine sxstart (n := 71) (l := [(0, .agg #[.int .i64 a0.f0, .int .i64 a0.f1, .string a0.f2, .int .i64 a0.f3, .int .i64 a0.f4, .string a0.f5, .bool a0.f6, .slice A0_0 a0.f7.length c0_0, .int .u64 a0.f8, .int .u64 a0.f9, .int .u64 a0.f10, .int .i64 a0.f11, .bool a0.f12, .int .i64 a0.f13])]) Tryd.func11 rfl rfl (Nat.le_of_ble_eq_true KR) (subsA_cons rfl (subsA_nil _)) ?_
  intro a ha
  have HW := Wd.refl w
  unfold headgatelaw27_NresvSides.f at h
  refine wp_seq_k (fun K5304 hK5305 => ?_)
  refine wp_region_lit ?_
  refine stepnew ha HW 1 #[.int .i64 a0.f0, .int .i64 a0.f1, .string a0.f2, .int .i64 a0.f3, .int .i64 a0.f4, .string a0.f5, .bool a0.f6, .slice A0_0 a0.f7.length c0_0, .int .u64 a0.f8, .int .u64 a0.f9, .int .u64 a0.f10, .int .i64 a0.f11, .bool a0.f12, .int .i64 a0.f13] 49 KR KR ?_; clear ha HW a; intro b5306 a W5307 HW ha
  refine stepp ha 2 (.bool false) KR KR ?_; clear ha a; intro a ha
  refine endl ?_
  refine thenN (hK5305 _ _ ?_); clear hK5305
  refine wp_seq_k (fun K5308 hK5309 => ?_)
  refine wp_seq_k (fun K5310 hK5311 => ?_)
  refine wp_region_lit ?_
  refine stepl ha 14 (HW.ca (i := 0) (b := b5306) (C := #[.int .i64 a0.f0, .int .i64 a0.f1, .string a0.f2, .int .i64 a0.f3, .int .i64 a0.f4, .string a0.f5, .bool a0.f6, .slice A0_0 a0.f7.length c0_0, .int .u64 a0.f8, .int .u64 a0.f9, .int .u64 a0.f10, .int .i64 a0.f11, .bool a0.f12, .int .i64 a0.f13]) (T := 49) (fr := (0, 0)) KR) 49 0 (.tmp 1) (.agg #[.int .i64 a0.f0, .int .i64 a0.f1, .string a0.f2, .int .i64 a0.f3, .int .i64 a0.f4, .string a0.f5, .bool a0.f6, .slice A0_0 a0.f7.length c0_0, .int .u64 a0.f8, .int .u64 a0.f9, .int .u64 a0.f10, .int .i64 a0.f11, .bool a0.f12, .int .i64 a0.f13]) rfl KR KR KR ?_; clear ha a; intro a ha
  obtain ⟨t5312, ht5313, h_⟩ := bind_some' h; clear h; have h := h_; clear h_
  refine stepc ha 15 KR KR (headgatelaw27_large.calls a0 A0_0 c0_0 t5312 _ ((HW.rd0 hr0_0)) ht5313) ?_; clear ha a; rintro e W5314 ⟨rfl, HX5315⟩
  refine ⟨_, rfl, ?_⟩; intro a ha; replace HW := HW.callw HX5315; clear HX5315
  refine endl ?_
  refine thenN (hK5311 _ _ ?_); clear hK5311
  by_cases hp5316 : t5312 = true
  · skip
    replace h := ite_pos' h hp5316
    refine condT ha KR KR (t := t5312) (hp5316) ?_
    refine wp_seq_k (fun K5317 hK5318 => ?_)
    refine wp_region_lit ?_
    obtain ⟨t5319, ht5320, h_⟩ := bind_some' h; clear h; have h := h_; clear h_
    refine stepc ha 16 KR KR (headgatelaw27_wakes.calls K t5319 _ (HW.ca0 hG0) (HW.ca0 hG1) (HW.ca0 hG2) ht5320) ?_; clear ha a; rintro e W5321 ⟨rfl, HX5322⟩
    refine ⟨_, rfl, ?_⟩; intro a ha; replace HW := HW.callw HX5322; clear HX5322
    refine stepp ha 2 (.bool t5319) KR KR ?_; clear ha a; intro a ha
    refine endl ?_
    refine thenN (hK5318 _ _ ?_); clear hK5318
    refine wp_ret ?_
    refine thenR ?_
    obtain rfl := Option.some.inj h
    exact finv ha _ _ rfl (.tmp (v := .bool t5319) KR .nil) (.bool t5319) rfl ⟨rfl, HW.pick [] [] (by decide) (by decide) rfl KR⟩
  · skip
    replace h := ite_neg' h hp5316
    refine condF ha KR KR (t := t5312) (bool_f hp5316) ?_
    refine wp_skip ?_
    refine thenN (hK5309 _ _ ?_); clear hK5309
    refine wp_seq_k (fun K5323 hK5324 => ?_)
    refine wp_region_lit ?_
    refine stepl ha 18 (HW.ca (i := 0) (b := b5306) (C := #[.int .i64 a0.f0, .int .i64 a0.f1, .string a0.f2, .int .i64 a0.f3, .int .i64 a0.f4, .string a0.f5, .bool a0.f6, .slice A0_0 a0.f7.length c0_0, .int .u64 a0.f8, .int .u64 a0.f9, .int .u64 a0.f10, .int .i64 a0.f11, .bool a0.f12, .int .i64 a0.f13]) (T := 49) (fr := (0, 0)) KR) 49 0 (.tmp 1) (.agg #[.int .i64 a0.f0, .int .i64 a0.f1, .string a0.f2, .int .i64 a0.f3, .int .i64 a0.f4, .string a0.f5, .bool a0.f6, .slice A0_0 a0.f7.length c0_0, .int .u64 a0.f8, .int .u64 a0.f9, .int .u64 a0.f10, .int .i64 a0.f11, .bool a0.f12, .int .i64 a0.f13]) rfl KR KR KR ?_; clear ha a; intro a ha
    obtain ⟨t5325, ht5326, h_⟩ := bind_some' h; clear h; have h := h_; clear h_
    refine stepc ha 19 KR KR (prout_List.calls K a0 A0_0 c0_0 t5325 _ ((HW.rd0 hr0_0)) ht5326) ?_; clear ha a; rintro e W5327 ⟨rfl, HX5328⟩
    refine ⟨_, rfl, ?_⟩; intro a ha; replace HW := HW.callw HX5328; clear HX5328
    refine stepp ha 17 (.tuple #[.int .i64 t5325.1, .string t5325.2.1, .int .i64 t5325.2.2]) KR KR ?_; clear ha a; intro a ha
    refine stepp ha 20 (.int .i64 t5325.1) KR KR ?_; clear ha a; intro a ha
    refine stepp ha 21 (.string t5325.2.1) KR KR ?_; clear ha a; intro a ha
    refine stepp ha 22 (.int .i64 t5325.2.2) KR KR ?_; clear ha a; intro a ha
    refine stepp ha 3 (.int .i64 t5325.1) KR KR ?_; clear ha a; intro a ha
    refine stepp ha 4 (.string t5325.2.1) KR KR ?_; clear ha a; intro a ha
    refine stepp ha 5 (.int .i64 t5325.2.2) KR KR ?_; clear ha a; intro a ha
    refine endl ?_
    refine thenN (hK5324 _ _ ?_); clear hK5324
    refine wp_seq_k (fun K5329 hK5330 => ?_)
    refine wp_region_lit ?_
    refine stepl ha 24 (HW.ca (i := 0) (b := b5306) (C := #[.int .i64 a0.f0, .int .i64 a0.f1, .string a0.f2, .int .i64 a0.f3, .int .i64 a0.f4, .string a0.f5, .bool a0.f6, .slice A0_0 a0.f7.length c0_0, .int .u64 a0.f8, .int .u64 a0.f9, .int .u64 a0.f10, .int .i64 a0.f11, .bool a0.f12, .int .i64 a0.f13]) (T := 49) (fr := (0, 0)) KR) 49 0 (.tmp 1) (.agg #[.int .i64 a0.f0, .int .i64 a0.f1, .string a0.f2, .int .i64 a0.f3, .int .i64 a0.f4, .string a0.f5, .bool a0.f6, .slice A0_0 a0.f7.length c0_0, .int .u64 a0.f8, .int .u64 a0.f9, .int .u64 a0.f10, .int .i64 a0.f11, .bool a0.f12, .int .i64 a0.f13]) rfl KR KR KR ?_; clear ha a; intro a ha
    obtain ⟨t5331, ht5332, h_⟩ := bind_some' h; clear h; have h := h_; clear h_
    refine stepc ha 25 KR KR (nresv_Words.calls K a0 A0_0 c0_0 t5331 _ (HW.ca0 hG1) (HW.ca0 hG2) ((HW.rd0 hr0_0)) ht5332) ?_; clear ha a; rintro e W5333 ⟨rfl, HX5334⟩
    refine ⟨_, rfl, ?_⟩; intro a ha; replace HW := HW.callw HX5334; clear HX5334
    refine stepp ha 23 (.tuple #[.int .i64 t5331.1, .int .u32 t5331.2.1, .string t5331.2.2.1, .int .i64 t5331.2.2.2]) KR KR ?_; clear ha a; intro a ha
    refine stepp ha 26 (.int .i64 t5331.1) KR KR ?_; clear ha a; intro a ha
    refine stepp ha 27 (.int .u32 t5331.2.1) KR KR ?_; clear ha a; intro a ha
    refine stepp ha 28 (.string t5331.2.2.1) KR KR ?_; clear ha a; intro a ha
    refine stepp ha 29 (.int .i64 t5331.2.2.2) KR KR ?_; clear ha a; intro a ha
    refine stepp ha 6 (.int .i64 t5331.1) KR KR ?_; clear ha a; intro a ha
    refine stepp ha 7 (.int .u32 t5331.2.1) KR KR ?_; clear ha a; intro a ha
    refine stepp ha 8 (.string t5331.2.2.1) KR KR ?_; clear ha a; intro a ha
    refine stepp ha 9 (.int .i64 t5331.2.2.2) KR KR ?_; clear ha a; intro a ha
    refine endl ?_
    refine thenN (hK5330 _ _ ?_); clear hK5330
    refine wp_seq_k (fun K5335 hK5336 => ?_)
    refine wp_seq_k (fun K5337 hK5338 => ?_)
    refine cutn (fun a W5341 => ∃ (x5340 : Bool), headgatelaw27_NresvSides.j0 K a0 t5325 t5331 x5340 = some r ∧ Has 71 [(1, .pointer (some ⟨b5306, 0, none⟩)), (3, .int .i64 t5325.1), (4, .string t5325.2.1), (6, .int .i64 t5331.1), (7, .int .u32 t5331.2.1), (8, .string t5331.2.2.1), (35, .bool x5340)] a ∧ Wd w W5341 [(b5306, .cells #[.int .i64 a0.f0, .int .i64 a0.f1, .string a0.f2, .int .i64 a0.f3, .int .i64 a0.f4, .string a0.f5, .bool a0.f6, .slice A0_0 a0.f7.length c0_0, .int .u64 a0.f8, .int .u64 a0.f9, .int .u64 a0.f10, .int .i64 a0.f11, .bool a0.f12, .int .i64 a0.f13] 49 (0, 0))] []) ?_ ?_
    · skip
      refine wp_region_lit ?_
      refine stepp ha 30 (.int .i64 t5325.2.2) KR KR ?_; clear ha a; intro a ha
      refine stepp ha 31 (.bool (t5325.2.2 != 0)) KR KR ?_; clear ha a; intro a ha
      refine stepp ha 32 (.bool (t5325.2.2 != 0)) KR KR ?_; clear ha a; intro a ha
      by_cases hp5339 : t5325.2.2 = 0
      · skip
        replace h := ite_pos' h hp5339
        replace ha := ha.bool 32 KR (ineq_f hp5339)
        refine stepp ha 33 (.int .i64 t5331.2.2.2) KR KR ?_; clear ha a; intro a ha
        refine stepp ha 34 (.bool (t5331.2.2.2 != 0)) KR KR ?_; clear ha a; intro a ha
        refine stepp ha 35 (.bool (t5331.2.2.2 != 0)) KR KR ?_; clear ha a; intro a ha
        refine endl ?_
        exact thenN ⟨(t5331.2.2.2 != 0), h, ha.sub (subs_cons KR (subs_cons KR (subs_cons KR (subs_cons KR (subs_cons KR (subs_cons KR (subs_cons KR (subs_nil _)))))))), HW.pick [0] [] (by decide) (by decide) KR KR⟩
      · skip
        replace h := ite_neg' h hp5339
        replace ha := ha.bool 32 KR (ineq_t hp5339)
        refine stepo ha 33 KR ?_; clear ha a; intro a ha
        refine stepo ha 34 KR ?_; clear ha a; intro a ha
        refine stepp ha 35 (.bool true) KR KR ?_; clear ha a; intro a ha
        refine endl ?_
        exact thenN ⟨true, h, ha.sub (subs_cons KR (subs_cons KR (subs_cons KR (subs_cons KR (subs_cons KR (subs_cons KR (subs_cons KR (subs_nil _)))))))), HW.pick [0] [] (by decide) (by decide) KR KR⟩
    · skip
      intro a W5341 hJ
      obtain ⟨x5340, h, ha, HW⟩ := hJ
      replace h : headgatelaw27_NresvSides.j0 K a0 t5325 t5331 x5340 = some r := h
      unfold headgatelaw27_NresvSides.j0 at h
      refine hK5338 _ _ ?_; clear hK5338
      by_cases hp5342 : x5340 = true
      · skip
        replace h := ite_pos' h hp5342
        refine condT ha KR KR (t := x5340) (hp5342) ?_
        refine wp_seq_k (fun K5343 hK5344 => ?_)
        refine wp_region_lit ?_
        obtain ⟨t5345, ht5346, h_⟩ := bind_some' h; clear h; have h := h_; clear h_
        refine stepc ha 36 KR KR (headgatelaw27_wakes.calls K t5345 _ (HW.ca0 hG0) (HW.ca0 hG1) (HW.ca0 hG2) ht5346) ?_; clear ha a; rintro e W5347 ⟨rfl, HX5348⟩
        refine ⟨_, rfl, ?_⟩; intro a ha; replace HW := HW.callw HX5348; clear HX5348
        refine stepp ha 2 (.bool t5345) KR KR ?_; clear ha a; intro a ha
        refine endl ?_
        refine thenN (hK5344 _ _ ?_); clear hK5344
        refine wp_ret ?_
        refine thenR ?_
        obtain rfl := Option.some.inj h
        exact finv ha _ _ rfl (.tmp (v := .bool t5345) KR .nil) (.bool t5345) rfl ⟨rfl, HW.pick [] [] (by decide) (by decide) rfl KR⟩
      · skip
        replace h := ite_neg' h hp5342
        refine condF ha KR KR (t := x5340) (bool_f hp5342) ?_
        refine wp_skip ?_
        refine thenN (hK5336 _ _ ?_); clear hK5336
        refine wp_seq_k (fun K5349 hK5350 => ?_)
        refine wp_region_lit ?_
        refine stepp ha 38 (.int .i64 t5325.1) KR KR ?_; clear ha a; intro a ha
        refine stepp ha 39 (.pointer (some ⟨b5306, 11, none⟩)) KR KR ?_; clear ha a; intro a ha
        refine stepl ha 40 (HW.ca (i := 0) (b := b5306) (C := #[.int .i64 a0.f0, .int .i64 a0.f1, .string a0.f2, .int .i64 a0.f3, .int .i64 a0.f4, .string a0.f5, .bool a0.f6, .slice A0_0 a0.f7.length c0_0, .int .u64 a0.f8, .int .u64 a0.f9, .int .u64 a0.f10, .int .i64 a0.f11, .bool a0.f12, .int .i64 a0.f13]) (T := 49) (fr := (0, 0)) KR) 3 11 (.tmp 39) (.int .i64 a0.f11) rfl KR KR KR ?_; clear ha a; intro a ha
        refine stepp ha 41 (.string t5325.2.1) KR KR ?_; clear ha a; intro a ha
        obtain ⟨t5351, ht5352, h_⟩ := bind_some' h; clear h; have h := h_; clear h_
        refine stepc ha 42 KR KR (prout_Change.calls K t5325.1 a0.f11 t5325.2.1 t5351 _ ht5352) ?_; clear ha a; rintro e W5356 ⟨A5353, c5354, rfl, HX5357⟩
        refine ⟨_, rfl, ?_⟩; intro a ha; replace HW := HW.callw HX5357; clear HX5357
        refine stepp ha 37 (.tuple #[.agg #[.int .i64 t5351.1.f0, .int .i64 t5351.1.f1, .string t5351.1.f2, .int .i64 t5351.1.f3, .int .i64 t5351.1.f4, .string t5351.1.f5, .bool t5351.1.f6, .slice A5353 t5351.1.f7.length c5354, .int .u64 t5351.1.f8, .int .u64 t5351.1.f9, .int .u64 t5351.1.f10, .int .i64 t5351.1.f11, .bool t5351.1.f12, .int .i64 t5351.1.f13], .int .i64 t5351.2]) KR KR ?_; clear ha a; intro a ha
        refine stepp ha 43 (.agg #[.int .i64 t5351.1.f0, .int .i64 t5351.1.f1, .string t5351.1.f2, .int .i64 t5351.1.f3, .int .i64 t5351.1.f4, .string t5351.1.f5, .bool t5351.1.f6, .slice A5353 t5351.1.f7.length c5354, .int .u64 t5351.1.f8, .int .u64 t5351.1.f9, .int .u64 t5351.1.f10, .int .i64 t5351.1.f11, .bool t5351.1.f12, .int .i64 t5351.1.f13]) KR KR ?_; clear ha a; intro a ha
        refine stepp ha 44 (.int .i64 t5351.2) KR KR ?_; clear ha a; intro a ha
        refine stepnew ha HW 10 #[.int .i64 0, .int .i64 0, .string (⟨#[]⟩ : ByteArray), .int .i64 0, .int .i64 0, .string (⟨#[]⟩ : ByteArray), .bool false, .slice none 0 0, .int .u64 0, .int .u64 0, .int .u64 0, .int .i64 0, .bool false, .int .i64 0] 49 KR KR ?_; clear ha HW a; intro b5358 a W5359 HW ha
        refine stepst ha HW 0 (b := b5358) (C := #[.int .i64 0, .int .i64 0, .string (⟨#[]⟩ : ByteArray), .int .i64 0, .int .i64 0, .string (⟨#[]⟩ : ByteArray), .bool false, .slice none 0 0, .int .u64 0, .int .u64 0, .int .u64 0, .int .i64 0, .bool false, .int .i64 0]) (T := 49) KR 49 0 (.tmp 10) (.tmp 43) (.agg #[.int .i64 t5351.1.f0, .int .i64 t5351.1.f1, .string t5351.1.f2, .int .i64 t5351.1.f3, .int .i64 t5351.1.f4, .string t5351.1.f5, .bool t5351.1.f6, .slice A5353 t5351.1.f7.length c5354, .int .u64 t5351.1.f8, .int .u64 t5351.1.f9, .int .u64 t5351.1.f10, .int .i64 t5351.1.f11, .bool t5351.1.f12, .int .i64 t5351.1.f13]) #[.int .i64 t5351.1.f0, .int .i64 t5351.1.f1, .string t5351.1.f2, .int .i64 t5351.1.f3, .int .i64 t5351.1.f4, .string t5351.1.f5, .bool t5351.1.f6, .slice A5353 t5351.1.f7.length c5354, .int .u64 t5351.1.f8, .int .u64 t5351.1.f9, .int .u64 t5351.1.f10, .int .i64 t5351.1.f11, .bool t5351.1.f12, .int .i64 t5351.1.f13] rfl KR KR KR KR KR KR KR ?_; clear ha HW a; intro a W5360 HW ha
        refine stepp ha 11 (.int .i64 t5351.2) KR KR ?_; clear ha a; intro a ha
        refine endl ?_
        refine thenN (hK5350 _ _ ?_); clear hK5350
        refine wp_seq_k (fun K5361 hK5362 => ?_)
        refine wp_region_lit ?_
        refine stepp ha 46 (.int .i64 t5331.1) KR KR ?_; clear ha a; intro a ha
        refine stepp ha 47 (.int .u32 t5331.2.1) KR KR ?_; clear ha a; intro a ha
        refine stepp ha 48 (.string t5331.2.2.1) KR KR ?_; clear ha a; intro a ha
        obtain ⟨t5363, ht5364, h_⟩ := bind_some' h; clear h; have h := h_; clear h_
        refine stepc ha 49 KR KR (nresv_Change.calls K t5331.1 t5331.2.1 t5331.2.2.1 t5363 _ (HW.ca0 hG1) (HW.ca0 hG2) ht5364) ?_; clear ha a; rintro e W5368 ⟨A5365, c5366, rfl, HX5369⟩
        refine ⟨_, rfl, ?_⟩; intro a ha; replace HW := HW.callw HX5369; clear HX5369
        refine stepp ha 45 (.tuple #[.agg #[.int .i64 t5363.1.f0, .int .i64 t5363.1.f1, .string t5363.1.f2, .int .i64 t5363.1.f3, .int .i64 t5363.1.f4, .string t5363.1.f5, .bool t5363.1.f6, .slice A5365 t5363.1.f7.length c5366, .int .u64 t5363.1.f8, .int .u64 t5363.1.f9, .int .u64 t5363.1.f10, .int .i64 t5363.1.f11, .bool t5363.1.f12, .int .i64 t5363.1.f13], .int .i64 t5363.2]) KR KR ?_; clear ha a; intro a ha
        refine stepp ha 50 (.agg #[.int .i64 t5363.1.f0, .int .i64 t5363.1.f1, .string t5363.1.f2, .int .i64 t5363.1.f3, .int .i64 t5363.1.f4, .string t5363.1.f5, .bool t5363.1.f6, .slice A5365 t5363.1.f7.length c5366, .int .u64 t5363.1.f8, .int .u64 t5363.1.f9, .int .u64 t5363.1.f10, .int .i64 t5363.1.f11, .bool t5363.1.f12, .int .i64 t5363.1.f13]) KR KR ?_; clear ha a; intro a ha
        refine stepp ha 51 (.int .i64 t5363.2) KR KR ?_; clear ha a; intro a ha
        refine stepnew ha HW 12 #[.int .i64 0, .int .i64 0, .string (⟨#[]⟩ : ByteArray), .int .i64 0, .int .i64 0, .string (⟨#[]⟩ : ByteArray), .bool false, .slice none 0 0, .int .u64 0, .int .u64 0, .int .u64 0, .int .i64 0, .bool false, .int .i64 0] 49 KR KR ?_; clear ha HW a; intro b5370 a W5371 HW ha
        refine stepst ha HW 0 (b := b5370) (C := #[.int .i64 0, .int .i64 0, .string (⟨#[]⟩ : ByteArray), .int .i64 0, .int .i64 0, .string (⟨#[]⟩ : ByteArray), .bool false, .slice none 0 0, .int .u64 0, .int .u64 0, .int .u64 0, .int .i64 0, .bool false, .int .i64 0]) (T := 49) KR 49 0 (.tmp 12) (.tmp 50) (.agg #[.int .i64 t5363.1.f0, .int .i64 t5363.1.f1, .string t5363.1.f2, .int .i64 t5363.1.f3, .int .i64 t5363.1.f4, .string t5363.1.f5, .bool t5363.1.f6, .slice A5365 t5363.1.f7.length c5366, .int .u64 t5363.1.f8, .int .u64 t5363.1.f9, .int .u64 t5363.1.f10, .int .i64 t5363.1.f11, .bool t5363.1.f12, .int .i64 t5363.1.f13]) #[.int .i64 t5363.1.f0, .int .i64 t5363.1.f1, .string t5363.1.f2, .int .i64 t5363.1.f3, .int .i64 t5363.1.f4, .string t5363.1.f5, .bool t5363.1.f6, .slice A5365 t5363.1.f7.length c5366, .int .u64 t5363.1.f8, .int .u64 t5363.1.f9, .int .u64 t5363.1.f10, .int .i64 t5363.1.f11, .bool t5363.1.f12, .int .i64 t5363.1.f13] rfl KR KR KR KR KR KR KR ?_; clear ha HW a; intro a W5372 HW ha
        refine stepp ha 13 (.int .i64 t5363.2) KR KR ?_; clear ha a; intro a ha
        refine endl ?_
        refine thenN (hK5362 _ _ ?_); clear hK5362
        refine wp_seq_k (fun K5373 hK5374 => ?_)
        refine wp_region_lit ?_
        refine stepp ha 52 (.int .i64 t5351.2) KR KR ?_; clear ha a; intro a ha
        refine stepp ha 53 (.bool (t5351.2 == 0)) KR KR ?_; clear ha a; intro a ha
        refine stepp ha 54 (.bool (t5351.2 == 0)) KR KR ?_; clear ha a; intro a ha
        by_cases hp5375 : t5351.2 = 0
        · skip
          replace h := ite_pos' h hp5375
          replace ha := ha.bool 54 KR (ieq_t hp5375)
          refine stepp ha 55 (.int .i64 t5363.2) KR KR ?_; clear ha a; intro a ha
          refine stepp ha 56 (.bool (t5363.2 == 0)) KR KR ?_; clear ha a; intro a ha
          refine stepp ha 57 (.bool (t5363.2 == 0)) KR KR ?_; clear ha a; intro a ha
          refine stepp ha 58 (.bool (t5363.2 == 0)) KR KR ?_; clear ha a; intro a ha
          by_cases hp5376 : t5363.2 = 0
          · skip
            replace h := ite_pos' h hp5376
            replace ha := ha.bool 58 KR (ieq_t hp5376)
            refine stepl ha 59 (HW.ca (i := 1) (b := b5358) (C := #[.int .i64 t5351.1.f0, .int .i64 t5351.1.f1, .string t5351.1.f2, .int .i64 t5351.1.f3, .int .i64 t5351.1.f4, .string t5351.1.f5, .bool t5351.1.f6, .slice A5353 t5351.1.f7.length c5354, .int .u64 t5351.1.f8, .int .u64 t5351.1.f9, .int .u64 t5351.1.f10, .int .i64 t5351.1.f11, .bool t5351.1.f12, .int .i64 t5351.1.f13]) (T := 49) (fr := (0, 0)) KR) 49 0 (.tmp 10) (.agg #[.int .i64 t5351.1.f0, .int .i64 t5351.1.f1, .string t5351.1.f2, .int .i64 t5351.1.f3, .int .i64 t5351.1.f4, .string t5351.1.f5, .bool t5351.1.f6, .slice A5353 t5351.1.f7.length c5354, .int .u64 t5351.1.f8, .int .u64 t5351.1.f9, .int .u64 t5351.1.f10, .int .i64 t5351.1.f11, .bool t5351.1.f12, .int .i64 t5351.1.f13]) rfl KR KR KR ?_; clear ha a; intro a ha
            refine stepl ha 60 (HW.ca (i := 0) (b := b5370) (C := #[.int .i64 t5363.1.f0, .int .i64 t5363.1.f1, .string t5363.1.f2, .int .i64 t5363.1.f3, .int .i64 t5363.1.f4, .string t5363.1.f5, .bool t5363.1.f6, .slice A5365 t5363.1.f7.length c5366, .int .u64 t5363.1.f8, .int .u64 t5363.1.f9, .int .u64 t5363.1.f10, .int .i64 t5363.1.f11, .bool t5363.1.f12, .int .i64 t5363.1.f13]) (T := 49) (fr := (0, 0)) KR) 49 0 (.tmp 12) (.agg #[.int .i64 t5363.1.f0, .int .i64 t5363.1.f1, .string t5363.1.f2, .int .i64 t5363.1.f3, .int .i64 t5363.1.f4, .string t5363.1.f5, .bool t5363.1.f6, .slice A5365 t5363.1.f7.length c5366, .int .u64 t5363.1.f8, .int .u64 t5363.1.f9, .int .u64 t5363.1.f10, .int .i64 t5363.1.f11, .bool t5363.1.f12, .int .i64 t5363.1.f13]) rfl KR KR KR ?_; clear ha a; intro a ha
            obtain ⟨t5377, ht5378, h_⟩ := bind_some' h; clear h; have h := h_; clear h_
            refine stepc ha 61 KR KR (headgatekeep_Cmds.calls K (⟨t5351.1.f0, t5351.1.f1, t5351.1.f2, t5351.1.f3, t5351.1.f4, t5351.1.f5, t5351.1.f6, t5351.1.f7, t5351.1.f8, t5351.1.f9, t5351.1.f10, t5351.1.f11, t5351.1.f12, t5351.1.f13⟩ : T_api_Cmd) (⟨t5363.1.f0, t5363.1.f1, t5363.1.f2, t5363.1.f3, t5363.1.f4, t5363.1.f5, t5363.1.f6, t5363.1.f7, t5363.1.f8, t5363.1.f9, t5363.1.f10, t5363.1.f11, t5363.1.f12, t5363.1.f13⟩ : T_api_Cmd) A5353 c5354 A5365 c5366 t5377 _ (HW.rdo (i := 1) (q := ⟨128, 2, .slice A5353 t5351.1.f7.length c5354, t5351.1.f7.length, encs T_api_Range.enc t5351.1.f7⟩) KR) (HW.rdo (i := 0) (q := ⟨128, 2, .slice A5365 t5363.1.f7.length c5366, t5363.1.f7.length, encs T_api_Range.enc t5363.1.f7⟩) KR) ht5378) ?_; clear ha a; rintro e W5379 ⟨rfl, HX5380⟩
            refine ⟨_, rfl, ?_⟩; intro a ha; replace HW := HW.callw HX5380; clear HX5380
            refine stepp ha 62 (.bool t5377) KR KR ?_; clear ha a; intro a ha
            refine stepp ha 63 (.bool t5377) KR KR ?_; clear ha a; intro a ha
            by_cases hp5381 : t5377 = true
            · skip
              replace h := ite_pos' h hp5381
              replace ha := ha.bool 63 KR (hp5381)
              refine stepl ha 64 (HW.ca (i := 1) (b := b5358) (C := #[.int .i64 t5351.1.f0, .int .i64 t5351.1.f1, .string t5351.1.f2, .int .i64 t5351.1.f3, .int .i64 t5351.1.f4, .string t5351.1.f5, .bool t5351.1.f6, .slice A5353 t5351.1.f7.length c5354, .int .u64 t5351.1.f8, .int .u64 t5351.1.f9, .int .u64 t5351.1.f10, .int .i64 t5351.1.f11, .bool t5351.1.f12, .int .i64 t5351.1.f13]) (T := 49) (fr := (0, 0)) KR) 49 0 (.tmp 10) (.agg #[.int .i64 t5351.1.f0, .int .i64 t5351.1.f1, .string t5351.1.f2, .int .i64 t5351.1.f3, .int .i64 t5351.1.f4, .string t5351.1.f5, .bool t5351.1.f6, .slice A5353 t5351.1.f7.length c5354, .int .u64 t5351.1.f8, .int .u64 t5351.1.f9, .int .u64 t5351.1.f10, .int .i64 t5351.1.f11, .bool t5351.1.f12, .int .i64 t5351.1.f13]) rfl KR KR KR ?_; clear ha a; intro a ha
              refine stepl ha 65 (HW.ca (i := 2) (b := b5306) (C := #[.int .i64 a0.f0, .int .i64 a0.f1, .string a0.f2, .int .i64 a0.f3, .int .i64 a0.f4, .string a0.f5, .bool a0.f6, .slice A0_0 a0.f7.length c0_0, .int .u64 a0.f8, .int .u64 a0.f9, .int .u64 a0.f10, .int .i64 a0.f11, .bool a0.f12, .int .i64 a0.f13]) (T := 49) (fr := (0, 0)) KR) 49 0 (.tmp 1) (.agg #[.int .i64 a0.f0, .int .i64 a0.f1, .string a0.f2, .int .i64 a0.f3, .int .i64 a0.f4, .string a0.f5, .bool a0.f6, .slice A0_0 a0.f7.length c0_0, .int .u64 a0.f8, .int .u64 a0.f9, .int .u64 a0.f10, .int .i64 a0.f11, .bool a0.f12, .int .i64 a0.f13]) rfl KR KR KR ?_; clear ha a; intro a ha
              obtain ⟨t5382, ht5383, h_⟩ := bind_some' h; clear h; have h := h_; clear h_
              refine stepc ha 66 KR KR (headgatekeep_Cmds.calls K (⟨t5351.1.f0, t5351.1.f1, t5351.1.f2, t5351.1.f3, t5351.1.f4, t5351.1.f5, t5351.1.f6, t5351.1.f7, t5351.1.f8, t5351.1.f9, t5351.1.f10, t5351.1.f11, t5351.1.f12, t5351.1.f13⟩ : T_api_Cmd) a0 A5353 c5354 A0_0 c0_0 t5382 _ (HW.rdo (i := 1) (q := ⟨128, 2, .slice A5353 t5351.1.f7.length c5354, t5351.1.f7.length, encs T_api_Range.enc t5351.1.f7⟩) KR) ((HW.rd0 hr0_0)) ht5383) ?_; clear ha a; rintro e W5384 ⟨rfl, HX5385⟩
              refine ⟨_, rfl, ?_⟩; intro a ha; replace HW := HW.callw HX5385; clear HX5385
              refine stepp ha 67 (.bool t5382) KR KR ?_; clear ha a; intro a ha
              refine stepp ha 68 (.bool t5382) KR KR ?_; clear ha a; intro a ha
              by_cases hp5386 : t5382 = true
              · skip
                replace h := ite_pos' h hp5386
                replace ha := ha.bool 68 KR (hp5386)
                obtain ⟨t5387, ht5388, h_⟩ := bind_some' h; clear h; have h := h_; clear h_
                refine stepc ha 69 KR KR (headgatelaw27_wakes.calls K t5387 _ (HW.ca0 hG0) (HW.ca0 hG1) (HW.ca0 hG2) ht5388) ?_; clear ha a; rintro e W5389 ⟨rfl, HX5390⟩
                refine ⟨_, rfl, ?_⟩; intro a ha; replace HW := HW.callw HX5390; clear HX5390
                refine stepp ha 70 (.bool t5387) KR KR ?_; clear ha a; intro a ha
                refine stepp ha 2 (.bool t5387) KR KR ?_; clear ha a; intro a ha
                refine endl ?_
                refine thenN (hK5374 _ _ ?_); clear hK5374
                refine wp_ret ?_
                obtain rfl := Option.some.inj h
                exact finv ha _ _ rfl (.tmp (v := .bool t5387) KR .nil) (.bool t5387) rfl ⟨rfl, HW.pick [] [] (by decide) (by decide) rfl KR⟩
              · skip
                replace h := ite_neg' h hp5386
                replace ha := ha.bool 68 KR (bool_f hp5386)
                refine stepo ha 69 KR ?_; clear ha a; intro a ha
                refine stepp ha 70 (.bool false) KR KR ?_; clear ha a; intro a ha
                refine stepp ha 2 (.bool false) KR KR ?_; clear ha a; intro a ha
                refine endl ?_
                refine thenN (hK5374 _ _ ?_); clear hK5374
                refine wp_ret ?_
                obtain rfl := Option.some.inj h
                exact finv ha _ _ rfl (.tmp (v := .bool false) KR .nil) (.bool false) rfl ⟨rfl, HW.pick [] [] (by decide) (by decide) rfl KR⟩
            · skip
              replace h := ite_neg' h hp5381
              replace ha := ha.bool 63 KR (bool_f hp5381)
              refine stepo ha 64 KR ?_; clear ha a; intro a ha
              refine stepo ha 65 KR ?_; clear ha a; intro a ha
              refine stepo ha 66 KR ?_; clear ha a; intro a ha
              refine stepp ha 67 (.bool false) KR KR ?_; clear ha a; intro a ha
              refine stepp ha 68 (.bool false) KR KR ?_; clear ha a; intro a ha
              refine stepo ha 69 KR ?_; clear ha a; intro a ha
              refine stepp ha 70 (.bool false) KR KR ?_; clear ha a; intro a ha
              refine stepp ha 2 (.bool false) KR KR ?_; clear ha a; intro a ha
              refine endl ?_
              refine thenN (hK5374 _ _ ?_); clear hK5374
              refine wp_ret ?_
              obtain rfl := Option.some.inj h
              exact finv ha _ _ rfl (.tmp (v := .bool false) KR .nil) (.bool false) rfl ⟨rfl, HW.pick [] [] (by decide) (by decide) rfl KR⟩
          · skip
            replace h := ite_neg' h hp5376
            replace ha := ha.bool 58 KR (ieq_f hp5376)
            refine stepo ha 59 KR ?_; clear ha a; intro a ha
            refine stepo ha 60 KR ?_; clear ha a; intro a ha
            refine stepo ha 61 KR ?_; clear ha a; intro a ha
            refine stepp ha 62 (.bool false) KR KR ?_; clear ha a; intro a ha
            refine stepp ha 63 (.bool false) KR KR ?_; clear ha a; intro a ha
            refine stepo ha 64 KR ?_; clear ha a; intro a ha
            refine stepo ha 65 KR ?_; clear ha a; intro a ha
            refine stepo ha 66 KR ?_; clear ha a; intro a ha
            refine stepp ha 67 (.bool false) KR KR ?_; clear ha a; intro a ha
            refine stepp ha 68 (.bool false) KR KR ?_; clear ha a; intro a ha
            refine stepo ha 69 KR ?_; clear ha a; intro a ha
            refine stepp ha 70 (.bool false) KR KR ?_; clear ha a; intro a ha
            refine stepp ha 2 (.bool false) KR KR ?_; clear ha a; intro a ha
            refine endl ?_
            refine thenN (hK5374 _ _ ?_); clear hK5374
            refine wp_ret ?_
            obtain rfl := Option.some.inj h
            exact finv ha _ _ rfl (.tmp (v := .bool false) KR .nil) (.bool false) rfl ⟨rfl, HW.pick [] [] (by decide) (by decide) rfl KR⟩
        · skip
          replace h := ite_neg' h hp5375
          replace ha := ha.bool 54 KR (ieq_f hp5375)
          refine stepo ha 55 KR ?_; clear ha a; intro a ha
          refine stepo ha 56 KR ?_; clear ha a; intro a ha
          refine stepp ha 57 (.bool false) KR KR ?_; clear ha a; intro a ha
          refine stepp ha 58 (.bool false) KR KR ?_; clear ha a; intro a ha
          refine stepo ha 59 KR ?_; clear ha a; intro a ha
          refine stepo ha 60 KR ?_; clear ha a; intro a ha
          refine stepo ha 61 KR ?_; clear ha a; intro a ha
          refine stepp ha 62 (.bool false) KR KR ?_; clear ha a; intro a ha
          refine stepp ha 63 (.bool false) KR KR ?_; clear ha a; intro a ha
          refine stepo ha 64 KR ?_; clear ha a; intro a ha
          refine stepo ha 65 KR ?_; clear ha a; intro a ha
          refine stepo ha 66 KR ?_; clear ha a; intro a ha
          refine stepp ha 67 (.bool false) KR KR ?_; clear ha a; intro a ha
          refine stepp ha 68 (.bool false) KR KR ?_; clear ha a; intro a ha
          refine stepo ha 69 KR ?_; clear ha a; intro a ha
          refine stepp ha 70 (.bool false) KR KR ?_; clear ha a; intro a ha
          refine stepp ha 2 (.bool false) KR KR ?_; clear ha a; intro a ha
          refine endl ?_
          refine thenN (hK5374 _ _ ?_); clear hK5374
          refine wp_ret ?_
          obtain rfl := Option.some.inj h
          exact finv ha _ _ rfl (.tmp (v := .bool false) KR .nil) (.bool false) rfl ⟨rfl, HW.pick [] [] (by decide) (by decide) rfl KR⟩
end Go.Proofs.YthjjbkgifelooaaDoor.F
