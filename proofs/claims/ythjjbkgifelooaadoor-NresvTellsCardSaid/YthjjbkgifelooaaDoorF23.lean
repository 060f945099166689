/- headgate/headgatelaw27.large, headgate/nresv.registerWord, headgate/nresv.same: plain functions, and that the calls come to what they say. No condition. -/
import Derived.Test.YthjjbkgifelooaaDoorFT
namespace Go.Proofs.YthjjbkgifelooaaDoor.F
open Go Go.RowKit Go.Proofs.YthjjbkgifelooaaDoor.X
set_option linter.unusedVariables false
set_option linter.unusedSimpArgs false
/-! ### headgate/headgatelaw27.large: function 23 -/
def headgatelaw27_large.f (a0 : T_api_Cmd) : Option Bool :=
  if (a0.f2.size : Int) > 1000 then (some true) else (if (a0.f5.size : Int) > 1000 then (some true) else (some (decide ((a0.f7.length : Int) > 100))))
set_option maxRecDepth 100000 in
set_option maxHeartbeats 4000000 in
theorem headgatelaw27_large.calls (a0 : T_api_Cmd) (A0_0 : Option Addr) (c0_0 : Nat) (r : Bool) (w : World) (hr0_0 : Rd 2 w (.slice A0_0 a0.f7.length c0_0) a0.f7.length (encs T_api_Range.enc a0.f7)) (h : headgatelaw27_large.f a0 = some r) :
    Calls Tryd.prog 23 #[.agg #[.int .i64 a0.f0, .int .i64 a0.f1, .string a0.f2, .int .i64 a0.f3, .int .i64 a0.f4, .string a0.f5, .bool a0.f6, .slice A0_0 a0.f7.length c0_0, .int .u64 a0.f8, .int .u64 a0.f9, .int .u64 a0.f10, .int .i64 a0.f11, .bool a0.f12, .int .i64 a0.f13]] w (fun e W' => e = .returned (.bool r) ∧ Wd w W' [] [] ) := by
  refine sxstart (n := 19) (l := [(0, .agg #[.int .i64 a0.f0, .int .i64 a0.f1, .string a0.f2, .int .i64 a0.f3, .int .i64 a0.f4, .string a0.f5, .bool a0.f6, .slice A0_0 a0.f7.length c0_0, .int .u64 a0.f8, .int .u64 a0.f9, .int .u64 a0.f10, .int .i64 a0.f11, .bool a0.f12, .int .i64 a0.f13])]) Tryd.func23 rfl rfl (Nat.le_of_ble_eq_true KR) (subsA_cons rfl (subsA_nil _)) ?_
  intro a ha
  have HW := Wd.refl w
  unfold headgatelaw27_large.f at h
  refine wp_seq_k (fun K2960 hK2961 => ?_)
  refine wp_region_lit ?_
  refine stepnew ha HW 1 #[.int .i64 a0.f0, .int .i64 a0.f1, .string a0.f2, .int .i64 a0.f3, .int .i64 a0.f4, .string a0.f5, .bool a0.f6, .slice A0_0 a0.f7.length c0_0, .int .u64 a0.f8, .int .u64 a0.f9, .int .u64 a0.f10, .int .i64 a0.f11, .bool a0.f12, .int .i64 a0.f13] 49 KR KR ?_; clear ha HW a; intro b2962 a W2963 HW ha
  refine stepp ha 2 (.bool false) KR KR ?_; clear ha a; intro a ha
  refine endl ?_
  refine thenN (hK2961 _ _ ?_); clear hK2961
  refine wp_seq_k (fun K2964 hK2965 => ?_)
  refine wp_region_lit ?_
  refine stepp ha 3 (.pointer (some ⟨b2962, 2, none⟩)) KR KR ?_; clear ha a; intro a ha
  refine stepl ha 4 (HW.ca (i := 0) (b := b2962) (C := #[.int .i64 a0.f0, .int .i64 a0.f1, .string a0.f2, .int .i64 a0.f3, .int .i64 a0.f4, .string a0.f5, .bool a0.f6, .slice A0_0 a0.f7.length c0_0, .int .u64 a0.f8, .int .u64 a0.f9, .int .u64 a0.f10, .int .i64 a0.f11, .bool a0.f12, .int .i64 a0.f13]) (T := 49) (fr := (0, 0)) KR) 9 2 (.tmp 3) (.string a0.f2) rfl KR KR KR ?_; clear ha a; intro a ha
  refine stepp ha 5 (.int .i64 (a0.f2.size : Int)) KR KR ?_; clear ha a; intro a ha
  refine stepp ha 6 (.bool (decide ((a0.f2.size : Int) > 1000))) KR KR ?_; clear ha a; intro a ha
  refine stepp ha 7 (.bool (decide ((a0.f2.size : Int) > 1000))) KR KR ?_; clear ha a; intro a ha
  by_cases hp2966 : (a0.f2.size : Int) > 1000
  · skip
    replace h := ite_pos' h hp2966
    replace ha := ha.bool 7 KR (decide_eq_true hp2966)
    refine stepo ha 8 KR ?_; clear ha a; intro a ha
    refine stepo ha 9 KR ?_; clear ha a; intro a ha
    refine stepo ha 10 KR ?_; clear ha a; intro a ha
    refine stepo ha 11 KR ?_; clear ha a; intro a ha
    refine stepp ha 12 (.bool true) KR KR ?_; clear ha a; intro a ha
    refine stepp ha 13 (.bool true) KR KR ?_; clear ha a; intro a ha
    refine stepo ha 14 KR ?_; clear ha a; intro a ha
    refine stepo ha 15 KR ?_; clear ha a; intro a ha
    refine stepo ha 16 KR ?_; clear ha a; intro a ha
    refine stepo ha 17 KR ?_; clear ha a; intro a ha
    refine stepp ha 18 (.bool true) KR KR ?_; clear ha a; intro a ha
    refine stepp ha 2 (.bool true) KR KR ?_; clear ha a; intro a ha
    refine endl ?_
    refine thenN (hK2965 _ _ ?_); clear hK2965
    refine wp_ret ?_
    obtain rfl := Option.some.inj h
    exact finv ha _ _ rfl (.tmp (v := .bool true) KR .nil) (.bool true) rfl ⟨rfl, HW.pick [] [] (by decide) (by decide) rfl KR⟩
  · skip
    replace h := ite_neg' h hp2966
    replace ha := ha.bool 7 KR (decide_eq_false hp2966)
    refine stepp ha 8 (.pointer (some ⟨b2962, 5, none⟩)) KR KR ?_; clear ha a; intro a ha
    refine stepl ha 9 (HW.ca (i := 0) (b := b2962) (C := #[.int .i64 a0.f0, .int .i64 a0.f1, .string a0.f2, .int .i64 a0.f3, .int .i64 a0.f4, .string a0.f5, .bool a0.f6, .slice A0_0 a0.f7.length c0_0, .int .u64 a0.f8, .int .u64 a0.f9, .int .u64 a0.f10, .int .i64 a0.f11, .bool a0.f12, .int .i64 a0.f13]) (T := 49) (fr := (0, 0)) KR) 9 5 (.tmp 8) (.string a0.f5) rfl KR KR KR ?_; clear ha a; intro a ha
    refine stepp ha 10 (.int .i64 (a0.f5.size : Int)) KR KR ?_; clear ha a; intro a ha
    refine stepp ha 11 (.bool (decide ((a0.f5.size : Int) > 1000))) KR KR ?_; clear ha a; intro a ha
    refine stepp ha 12 (.bool (decide ((a0.f5.size : Int) > 1000))) KR KR ?_; clear ha a; intro a ha
    refine stepp ha 13 (.bool (decide ((a0.f5.size : Int) > 1000))) KR KR ?_; clear ha a; intro a ha
    by_cases hp2967 : (a0.f5.size : Int) > 1000
    · skip
      replace h := ite_pos' h hp2967
      replace ha := ha.bool 13 KR (decide_eq_true hp2967)
      refine stepo ha 14 KR ?_; clear ha a; intro a ha
      refine stepo ha 15 KR ?_; clear ha a; intro a ha
      refine stepo ha 16 KR ?_; clear ha a; intro a ha
      refine stepo ha 17 KR ?_; clear ha a; intro a ha
      refine stepp ha 18 (.bool true) KR KR ?_; clear ha a; intro a ha
      refine stepp ha 2 (.bool true) KR KR ?_; clear ha a; intro a ha
      refine endl ?_
      refine thenN (hK2965 _ _ ?_); clear hK2965
      refine wp_ret ?_
      obtain rfl := Option.some.inj h
      exact finv ha _ _ rfl (.tmp (v := .bool true) KR .nil) (.bool true) rfl ⟨rfl, HW.pick [] [] (by decide) (by decide) rfl KR⟩
    · skip
      replace h := ite_neg' h hp2967
      replace ha := ha.bool 13 KR (decide_eq_false hp2967)
      refine stepp ha 14 (.pointer (some ⟨b2962, 7, none⟩)) KR KR ?_; clear ha a; intro a ha
      refine stepl ha 15 (HW.ca (i := 0) (b := b2962) (C := #[.int .i64 a0.f0, .int .i64 a0.f1, .string a0.f2, .int .i64 a0.f3, .int .i64 a0.f4, .string a0.f5, .bool a0.f6, .slice A0_0 a0.f7.length c0_0, .int .u64 a0.f8, .int .u64 a0.f9, .int .u64 a0.f10, .int .i64 a0.f11, .bool a0.f12, .int .i64 a0.f13]) (T := 49) (fr := (0, 0)) KR) 47 7 (.tmp 14) (.slice A0_0 a0.f7.length c0_0) rfl KR KR KR ?_; clear ha a; intro a ha
      refine stepp ha 16 (.int .i64 (a0.f7.length : Int)) KR KR ?_; clear ha a; intro a ha
      refine stepp ha 17 (.bool (decide ((a0.f7.length : Int) > 100))) KR KR ?_; clear ha a; intro a ha
      refine stepp ha 18 (.bool (decide ((a0.f7.length : Int) > 100))) KR KR ?_; clear ha a; intro a ha
      refine stepp ha 2 (.bool (decide ((a0.f7.length : Int) > 100))) KR KR ?_; clear ha a; intro a ha
      refine endl ?_
      refine thenN (hK2965 _ _ ?_); clear hK2965
      refine wp_ret ?_
      obtain rfl := Option.some.inj h
      exact finv ha _ _ rfl (.tmp (v := .bool (decide ((a0.f7.length : Int) > 100))) KR .nil) (.bool (decide ((a0.f7.length : Int) > 100))) rfl ⟨rfl, HW.pick [] [] (by decide) (by decide) rfl KR⟩
/-! ### headgate/nresv.registerWord: function 60 -/
def nresv_registerWord.b0 (K : Nat) (a0 : T_api_Cmd) (again3365 : Int → Int → Option Int) (x3366 : Int) (x3367 : Int) : Option Int :=
  if x3367 < 4 then (asrt (0 ≤ x3367) (if (rdL (0 : Int) G_nresv_aptpls x3367) = a0.f13 then (again3365 (bor .u32 x3366 (IntKind.wrap .u32 ((IntKind.wrap .u32 x3367) * 1073741824))) (IntKind.wrap .i64 (x3367 + 1))) else (again3365 x3366 (IntKind.wrap .i64 (x3367 + 1))))) else (some x3366)
def nresv_registerWord.l0 (K : Nat) (a0 : T_api_Cmd) : Nat → Int → Int → Option Int
  | 0, _, _ => none
  | k_ + 1, x3366, x3367 => nresv_registerWord.b0 K a0 (nresv_registerWord.l0 K a0 k_) x3366 x3367
def nresv_registerWord.j1 (K : Nat) (a0 : T_api_Cmd) (x3331 : Int) : Option Int :=
  nresv_registerWord.l0 K a0 K x3331 0
def nresv_registerWord.j0 (K : Nat) (a0 : T_api_Cmd) (x3324 : Int) : Option Int :=
  if a0.f12 = true then (nresv_registerWord.j1 K a0 (bor .u32 x3324 8)) else (nresv_registerWord.j1 K a0 x3324)
def nresv_registerWord.f (K : Nat) (a0 : T_api_Cmd) : Option Int :=
  if a0.f9 = 0 then (nresv_registerWord.j0 K a0 1) else (if a0.f8 = 0 then (nresv_registerWord.j0 K a0 0) else (nresv_registerWord.j0 K a0 2))
set_option maxRecDepth 100000 in
set_option maxHeartbeats 4000000 in
theorem nresv_registerWord.calls (K : Nat) (a0 : T_api_Cmd) (A0_0 : Option Addr) (c0_0 : Nat) (r : Int) (w : World) (hG2 : CA w 2 0 (encs (encI .i64) G_nresv_aptpls).toArray) (hr0_0 : Rd 2 w (.slice A0_0 a0.f7.length c0_0) a0.f7.length (encs T_api_Range.enc a0.f7)) (h : nresv_registerWord.f K a0 = some r) :
    Calls Tryd.prog 60 #[.agg #[.int .i64 a0.f0, .int .i64 a0.f1, .string a0.f2, .int .i64 a0.f3, .int .i64 a0.f4, .string a0.f5, .bool a0.f6, .slice A0_0 a0.f7.length c0_0, .int .u64 a0.f8, .int .u64 a0.f9, .int .u64 a0.f10, .int .i64 a0.f11, .bool a0.f12, .int .i64 a0.f13]] w (fun e W' => e = .returned (.int .u32 r) ∧ Wd w W' [] [] ) := by
  refine sxstart (n := 34) (l := [(0, .agg #[.int .i64 a0.f0, .int .i64 a0.f1, .string a0.f2, .int .i64 a0.f3, .int .i64 a0.f4, .string a0.f5, .bool a0.f6, .slice A0_0 a0.f7.length c0_0, .int .u64 a0.f8, .int .u64 a0.f9, .int .u64 a0.f10, .int .i64 a0.f11, .bool a0.f12, .int .i64 a0.f13])]) Tryd.func60 rfl rfl (Nat.le_of_ble_eq_true KR) (subsA_cons rfl (subsA_nil _)) ?_
  intro a ha
  have HW := Wd.refl w
  unfold nresv_registerWord.f at h
  refine wp_seq_k (fun K3310 hK3311 => ?_)
  refine wp_region_lit ?_
  refine stepnew ha HW 1 #[.int .i64 a0.f0, .int .i64 a0.f1, .string a0.f2, .int .i64 a0.f3, .int .i64 a0.f4, .string a0.f5, .bool a0.f6, .slice A0_0 a0.f7.length c0_0, .int .u64 a0.f8, .int .u64 a0.f9, .int .u64 a0.f10, .int .i64 a0.f11, .bool a0.f12, .int .i64 a0.f13] 49 KR KR ?_; clear ha HW a; intro b3312 a W3313 HW ha
  refine stepp ha 2 (.int .u32 0) KR KR ?_; clear ha a; intro a ha
  refine endl ?_
  refine thenN (hK3311 _ _ ?_); clear hK3311
  refine wp_seq_k (fun K3314 hK3315 => ?_)
  refine wp_region_lit ?_
  refine stepp ha 3 (.int .u32 0) KR KR ?_; clear ha a; intro a ha
  refine endl ?_
  refine thenN (hK3315 _ _ ?_); clear hK3315
  refine wp_seq_k (fun K3316 hK3317 => ?_)
  refine cutn (fun a W3325 => ∃ (x3324 : Int), nresv_registerWord.j0 K a0 x3324 = some r ∧ Has 34 [(1, .pointer (some ⟨b3312, 0, none⟩)), (3, .int .u32 x3324)] a ∧ Wd w W3325 [(b3312, .cells #[.int .i64 a0.f0, .int .i64 a0.f1, .string a0.f2, .int .i64 a0.f3, .int .i64 a0.f4, .string a0.f5, .bool a0.f6, .slice A0_0 a0.f7.length c0_0, .int .u64 a0.f8, .int .u64 a0.f9, .int .u64 a0.f10, .int .i64 a0.f11, .bool a0.f12, .int .i64 a0.f13] 49 (0, 0))] []) ?_ ?_
  · skip
    refine wp_block ?_
    refine wp_seq_k (fun K3318 hK3319 => ?_)
    refine wp_region_lit ?_
    refine stepp ha 7 (.pointer (some ⟨b3312, 9, none⟩)) KR KR ?_; clear ha a; intro a ha
    refine stepl ha 8 (HW.ca (i := 0) (b := b3312) (C := #[.int .i64 a0.f0, .int .i64 a0.f1, .string a0.f2, .int .i64 a0.f3, .int .i64 a0.f4, .string a0.f5, .bool a0.f6, .slice A0_0 a0.f7.length c0_0, .int .u64 a0.f8, .int .u64 a0.f9, .int .u64 a0.f10, .int .i64 a0.f11, .bool a0.f12, .int .i64 a0.f13]) (T := 49) (fr := (0, 0)) KR) 42 9 (.tmp 7) (.int .u64 a0.f9) rfl KR KR KR ?_; clear ha a; intro a ha
    refine stepp ha 9 (.bool (a0.f9 == 0)) KR KR ?_; clear ha a; intro a ha
    refine stepp ha 6 (.bool (a0.f9 == 0)) KR KR ?_; clear ha a; intro a ha
    refine endl ?_
    refine thenN (hK3319 _ _ ?_); clear hK3319
    by_cases hp3320 : a0.f9 = 0
    · skip
      replace h := ite_pos' h hp3320
      refine condT ha KR KR (t := (a0.f9 == 0)) (ieq_t hp3320) ?_
      refine wp_region_lit ?_
      refine stepp ha 3 (.int .u32 1) KR KR ?_; clear ha a; intro a ha
      refine endl ?_
      refine blkN ?_
      exact thenN ⟨1, h, ha.sub (subs_cons KR (subs_cons KR (subs_nil _))), HW.pick [0] [] (by decide) (by decide) KR KR⟩
    · skip
      replace h := ite_neg' h hp3320
      refine condF ha KR KR (t := (a0.f9 == 0)) (ieq_f hp3320) ?_
      refine wp_seq_k (fun K3321 hK3322 => ?_)
      refine wp_region_lit ?_
      refine stepp ha 11 (.pointer (some ⟨b3312, 8, none⟩)) KR KR ?_; clear ha a; intro a ha
      refine stepl ha 12 (HW.ca (i := 0) (b := b3312) (C := #[.int .i64 a0.f0, .int .i64 a0.f1, .string a0.f2, .int .i64 a0.f3, .int .i64 a0.f4, .string a0.f5, .bool a0.f6, .slice A0_0 a0.f7.length c0_0, .int .u64 a0.f8, .int .u64 a0.f9, .int .u64 a0.f10, .int .i64 a0.f11, .bool a0.f12, .int .i64 a0.f13]) (T := 49) (fr := (0, 0)) KR) 42 8 (.tmp 11) (.int .u64 a0.f8) rfl KR KR KR ?_; clear ha a; intro a ha
      refine stepp ha 13 (.bool (a0.f8 != 0)) KR KR ?_; clear ha a; intro a ha
      refine stepp ha 10 (.bool (a0.f8 != 0)) KR KR ?_; clear ha a; intro a ha
      refine endl ?_
      refine thenN (hK3322 _ _ ?_); clear hK3322
      by_cases hp3323 : a0.f8 = 0
      · skip
        replace h := ite_pos' h hp3323
        refine condF ha KR KR (t := (a0.f8 != 0)) (ineq_f hp3323) ?_
        refine wp_skip ?_
        refine blkN ?_
        exact thenN ⟨0, h, ha.sub (subs_cons KR (subs_cons KR (subs_nil _))), HW.pick [0] [] (by decide) (by decide) KR KR⟩
      · skip
        replace h := ite_neg' h hp3323
        refine condT ha KR KR (t := (a0.f8 != 0)) (ineq_t hp3323) ?_
        refine wp_region_lit ?_
        refine stepp ha 3 (.int .u32 2) KR KR ?_; clear ha a; intro a ha
        refine endl ?_
        refine blkN ?_
        exact thenN ⟨2, h, ha.sub (subs_cons KR (subs_cons KR (subs_nil _))), HW.pick [0] [] (by decide) (by decide) KR KR⟩
  · skip
    intro a W3325 hJ
    obtain ⟨x3324, h, ha, HW⟩ := hJ
    replace h : nresv_registerWord.j0 K a0 x3324 = some r := h
    unfold nresv_registerWord.j0 at h
    refine hK3317 _ _ ?_; clear hK3317
    refine wp_seq_k (fun K3326 hK3327 => ?_)
    refine cutn (fun a W3332 => ∃ (x3331 : Int), nresv_registerWord.j1 K a0 x3331 = some r ∧ Has 34 [(1, .pointer (some ⟨b3312, 0, none⟩)), (3, .int .u32 x3331)] a ∧ Wd w W3332 [(b3312, .cells #[.int .i64 a0.f0, .int .i64 a0.f1, .string a0.f2, .int .i64 a0.f3, .int .i64 a0.f4, .string a0.f5, .bool a0.f6, .slice A0_0 a0.f7.length c0_0, .int .u64 a0.f8, .int .u64 a0.f9, .int .u64 a0.f10, .int .i64 a0.f11, .bool a0.f12, .int .i64 a0.f13] 49 (0, 0))] []) ?_ ?_
    · skip
      refine wp_seq_k (fun K3328 hK3329 => ?_)
      refine wp_region_lit ?_
      refine stepp ha 14 (.pointer (some ⟨b3312, 12, none⟩)) KR KR ?_; clear ha a; intro a ha
      refine stepl ha 15 (HW.ca (i := 0) (b := b3312) (C := #[.int .i64 a0.f0, .int .i64 a0.f1, .string a0.f2, .int .i64 a0.f3, .int .i64 a0.f4, .string a0.f5, .bool a0.f6, .slice A0_0 a0.f7.length c0_0, .int .u64 a0.f8, .int .u64 a0.f9, .int .u64 a0.f10, .int .i64 a0.f11, .bool a0.f12, .int .i64 a0.f13]) (T := 49) (fr := (0, 0)) KR) 4 12 (.tmp 14) (.bool a0.f12) rfl KR KR KR ?_; clear ha a; intro a ha
      refine endl ?_
      refine thenN (hK3329 _ _ ?_); clear hK3329
      by_cases hp3330 : a0.f12 = true
      · skip
        replace h := ite_pos' h hp3330
        refine condT ha KR KR (t := a0.f12) (hp3330) ?_
        refine wp_region_lit ?_
        refine stepp ha 16 (.int .u32 x3324) KR KR ?_; clear ha a; intro a ha
        refine stepp ha 17 (.int .u32 (bor .u32 x3324 8)) KR KR ?_; clear ha a; intro a ha
        refine stepp ha 3 (.int .u32 (bor .u32 x3324 8)) KR KR ?_; clear ha a; intro a ha
        refine endl ?_
        exact thenN ⟨bor .u32 x3324 8, h, ha.sub (subs_cons KR (subs_cons KR (subs_nil _))), HW.pick [0] [] (by decide) (by decide) KR KR⟩
      · skip
        replace h := ite_neg' h hp3330
        refine condF ha KR KR (t := a0.f12) (bool_f hp3330) ?_
        refine wp_skip ?_
        exact thenN ⟨x3324, h, ha.sub (subs_cons KR (subs_cons KR (subs_nil _))), HW.pick [0] [] (by decide) (by decide) KR KR⟩
    · skip
      intro a W3332 hJ
      obtain ⟨x3331, h, ha, HW⟩ := hJ
      replace h : nresv_registerWord.j1 K a0 x3331 = some r := h
      unfold nresv_registerWord.j1 at h
      refine hK3327 _ _ ?_; clear hK3327
      refine wp_seq_k (fun K3333 hK3334 => ?_)
      refine wp_seq_k (fun K3335 hK3336 => ?_)
      refine wp_region_lit ?_
      refine stepl ha 18 (HW.ca0 hG2) 107 0 (.global 2) (.agg (encs (encI .i64) G_nresv_aptpls).toArray) rfl KR KR KR ?_; clear ha a; intro a ha
      refine stepp ha 19 (.int .i64 0) KR KR ?_; clear ha a; intro a ha
      refine endl ?_
      refine thenN (hK3336 _ _ ?_); clear hK3336
      refine wp_block ?_
      refine loopk (fun k => fun a W3368 => ∃ (x3366 : Int), ∃ (x3367 : Int), nresv_registerWord.l0 K a0 k x3366 x3367 = some r ∧ Has 34 [(1, .pointer (some ⟨b3312, 0, none⟩)), (3, .int .u32 x3366), (18, .agg (encs (encI .i64) G_nresv_aptpls).toArray), (19, .int .i64 x3367)] a ∧ Wd w W3368 [(b3312, .cells #[.int .i64 a0.f0, .int .i64 a0.f1, .string a0.f2, .int .i64 a0.f3, .int .i64 a0.f4, .string a0.f5, .bool a0.f6, .slice A0_0 a0.f7.length c0_0, .int .u64 a0.f8, .int .u64 a0.f9, .int .u64 a0.f10, .int .i64 a0.f11, .bool a0.f12, .int .i64 a0.f13] 49 (0, 0))] []) K ?_ ?_
      · skip
        exact ⟨x3331, 0, h, ha.sub (subs_cons KR (subs_cons KR (subs_cons KR (subs_cons KR (subs_nil _))))), HW.pick [0] [] (by decide) (by decide) KR KR⟩
      · skip
        intro k a W3368 hI
        obtain ⟨x3366, x3367, h, ha, HW⟩ := hI
        cases k with
        | zero => exact (none_some (show none = some r from h)).elim
        | succ k3369 =>
          replace h : nresv_registerWord.b0 K a0 (nresv_registerWord.l0 K a0 k3369) x3366 x3367 = some r := h
          obtain ⟨again3365, hag3370⟩ : ∃ g_, g_ = nresv_registerWord.l0 K a0 k3369 := ⟨_, rfl⟩
          rw [← hag3370] at h
          unfold nresv_registerWord.b0 at h
          refine wp_seq_k (fun K3371 hK3372 => ?_)
          refine wp_region_lit ?_
          refine stepp ha 20 (.bool (decide (x3367 < 4))) KR KR ?_; clear ha a; intro a ha
          refine endl ?_
          refine thenN (hK3372 _ _ ?_); clear hK3372
          refine wp_seq_k (fun K3373 hK3374 => ?_)
          by_cases hp3375 : x3367 < 4
          · skip
            replace h := ite_pos' h hp3375
            refine condT ha KR KR (t := decide (x3367 < 4)) (decide_eq_true hp3375) ?_
            refine wp_skip ?_
            refine thenN (hK3374 _ _ ?_); clear hK3374
            refine wp_seq_k (fun K3376 hK3377 => ?_)
            refine wp_block ?_
            refine wp_seq_k (fun K3378 hK3379 => ?_)
            refine wp_region_lit ?_
            refine stepp ha 21 (.int .i64 x3367) KR KR ?_; clear ha a; intro a ha
            obtain ⟨hA3380, h_⟩ := asrt_some h; clear h; have h := h_; clear h_
            refine stepai (Value.int .i64) (0 : Int) ha 22 107 4 3 (.tmp 18) (.tmp 19) .i64 x3367 G_nresv_aptpls rfl KR KR KR KR hA3380 hp3375 KR ?_; clear ha a; intro a ha
            refine stepp ha 4 (.int .i64 x3367) KR KR ?_; clear ha a; intro a ha
            refine stepp ha 5 (.int .i64 (rdL (0 : Int) G_nresv_aptpls x3367)) KR KR ?_; clear ha a; intro a ha
            refine endl ?_
            refine thenN (hK3379 _ _ ?_); clear hK3379
            refine wp_seq_k (fun K3381 hK3382 => ?_)
            refine wp_region_lit ?_
            refine stepp ha 23 (.int .i64 (rdL (0 : Int) G_nresv_aptpls x3367)) KR KR ?_; clear ha a; intro a ha
            refine stepp ha 24 (.pointer (some ⟨b3312, 13, none⟩)) KR KR ?_; clear ha a; intro a ha
            refine stepl ha 25 (HW.ca (i := 0) (b := b3312) (C := #[.int .i64 a0.f0, .int .i64 a0.f1, .string a0.f2, .int .i64 a0.f3, .int .i64 a0.f4, .string a0.f5, .bool a0.f6, .slice A0_0 a0.f7.length c0_0, .int .u64 a0.f8, .int .u64 a0.f9, .int .u64 a0.f10, .int .i64 a0.f11, .bool a0.f12, .int .i64 a0.f13]) (T := 49) (fr := (0, 0)) KR) 3 13 (.tmp 24) (.int .i64 a0.f13) rfl KR KR KR ?_; clear ha a; intro a ha
            refine stepp ha 26 (.bool ((rdL (0 : Int) G_nresv_aptpls x3367) == a0.f13)) KR KR ?_; clear ha a; intro a ha
            refine endl ?_
            refine thenN (hK3382 _ _ ?_); clear hK3382
            by_cases hp3383 : (rdL (0 : Int) G_nresv_aptpls x3367) = a0.f13
            · skip
              replace h := ite_pos' h hp3383
              refine condT ha KR KR (t := ((rdL (0 : Int) G_nresv_aptpls x3367) == a0.f13)) (ieq_t hp3383) ?_
              refine wp_region_lit ?_
              refine stepp ha 27 (.int .u32 x3366) KR KR ?_; clear ha a; intro a ha
              refine stepp ha 28 (.int .i64 x3367) KR KR ?_; clear ha a; intro a ha
              refine stepp ha 29 (.int .u32 (IntKind.wrap .u32 x3367)) KR KR ?_; clear ha a; intro a ha
              refine stepp ha 30 (.int .u32 (IntKind.wrap .u32 ((IntKind.wrap .u32 x3367) * 1073741824))) KR KR ?_; clear ha a; intro a ha
              refine stepp ha 31 (.int .u32 (bor .u32 x3366 (IntKind.wrap .u32 ((IntKind.wrap .u32 x3367) * 1073741824)))) KR KR ?_; clear ha a; intro a ha
              refine stepp ha 3 (.int .u32 (bor .u32 x3366 (IntKind.wrap .u32 ((IntKind.wrap .u32 x3367) * 1073741824)))) KR KR ?_; clear ha a; intro a ha
              refine endl ?_
              refine blkN ?_
              refine thenN (hK3377 _ _ ?_); clear hK3377
              refine wp_region_lit ?_
              refine stepp ha 32 (.int .i64 (IntKind.wrap .i64 (x3367 + 1))) KR KR ?_; clear ha a; intro a ha
              refine stepp ha 19 (.int .i64 (IntKind.wrap .i64 (x3367 + 1))) KR KR ?_; clear ha a; intro a ha
              refine endl ?_
              exact thenN ⟨k3369, Nat.lt_succ_self k3369, bor .u32 x3366 (IntKind.wrap .u32 ((IntKind.wrap .u32 x3367) * 1073741824)), IntKind.wrap .i64 (x3367 + 1), (by rw [← hag3370]; exact h), ha.sub (subs_cons KR (subs_cons KR (subs_cons KR (subs_cons KR (subs_nil _))))), HW.pick [0] [] (by decide) (by decide) KR KR⟩
            · skip
              replace h := ite_neg' h hp3383
              refine condF ha KR KR (t := ((rdL (0 : Int) G_nresv_aptpls x3367) == a0.f13)) (ieq_f hp3383) ?_
              refine wp_skip ?_
              refine blkN ?_
              refine thenN (hK3377 _ _ ?_); clear hK3377
              refine wp_region_lit ?_
              refine stepp ha 32 (.int .i64 (IntKind.wrap .i64 (x3367 + 1))) KR KR ?_; clear ha a; intro a ha
              refine stepp ha 19 (.int .i64 (IntKind.wrap .i64 (x3367 + 1))) KR KR ?_; clear ha a; intro a ha
              refine endl ?_
              exact thenN ⟨k3369, Nat.lt_succ_self k3369, x3366, IntKind.wrap .i64 (x3367 + 1), (by rw [← hag3370]; exact h), ha.sub (subs_cons KR (subs_cons KR (subs_cons KR (subs_cons KR (subs_nil _))))), HW.pick [0] [] (by decide) (by decide) KR KR⟩
          · skip
            replace h := ite_neg' h hp3375
            refine condF ha KR KR (t := decide (x3367 < 4)) (decide_eq_false hp3375) ?_
            refine wp_exit ?_
            refine thenE ?_
            refine thenE ?_
            refine inBlk ?_
            refine thenN (hK3334 _ _ ?_); clear hK3334
            refine wp_seq_k (fun K3384 hK3385 => ?_)
            refine wp_region_lit ?_
            refine stepp ha 33 (.int .u32 x3366) KR KR ?_; clear ha a; intro a ha
            refine stepp ha 2 (.int .u32 x3366) KR KR ?_; clear ha a; intro a ha
            refine endl ?_
            refine thenN (hK3385 _ _ ?_); clear hK3385
            refine wp_ret ?_
            obtain rfl := Option.some.inj h
            exact finv ha _ _ rfl (.tmp (v := .int .u32 x3366) KR .nil) (.int .u32 x3366) rfl ⟨rfl, HW.pick [] [] (by decide) (by decide) rfl KR⟩
/-! ### headgate/nresv.same: function 62 -/
def nresv_same.f (a0 : T_api_Cmd) (a1 : T_api_Cmd) : Option Bool :=
  if a0.f0 = a1.f0 then (if a0.f1 = a1.f1 then (if a0.f2 = a1.f2 then (if a0.f3 = a1.f3 then (if a0.f4 = a1.f4 then (if a0.f5 = a1.f5 then (if a0.f6 = a1.f6 then (if (a0.f7.length : Int) = (a1.f7.length : Int) then (if a0.f8 = a1.f8 then (if a0.f9 = a1.f9 then (if a0.f10 = a1.f10 then (if a0.f11 = a1.f11 then (if a0.f12 = a1.f12 then (some (a0.f13 == a1.f13)) else (some false)) else (some false)) else (some false)) else (some false)) else (some false)) else (some false)) else (some false)) else (some false)) else (some false)) else (some false)) else (some false)) else (some false)) else (some false)
set_option maxRecDepth 100000 in
set_option maxHeartbeats 4000000 in
theorem nresv_same.calls (a0 : T_api_Cmd) (a1 : T_api_Cmd) (A0_0 : Option Addr) (c0_0 : Nat) (A1_1 : Option Addr) (c1_1 : Nat) (r : Bool) (w : World) (hr0_0 : Rd 2 w (.slice A0_0 a0.f7.length c0_0) a0.f7.length (encs T_api_Range.enc a0.f7)) (hr1_1 : Rd 2 w (.slice A1_1 a1.f7.length c1_1) a1.f7.length (encs T_api_Range.enc a1.f7)) (h : nresv_same.f a0 a1 = some r) :
    Calls Tryd.prog 62 #[.agg #[.int .i64 a0.f0, .int .i64 a0.f1, .string a0.f2, .int .i64 a0.f3, .int .i64 a0.f4, .string a0.f5, .bool a0.f6, .slice A0_0 a0.f7.length c0_0, .int .u64 a0.f8, .int .u64 a0.f9, .int .u64 a0.f10, .int .i64 a0.f11, .bool a0.f12, .int .i64 a0.f13], .agg #[.int .i64 a1.f0, .int .i64 a1.f1, .string a1.f2, .int .i64 a1.f3, .int .i64 a1.f4, .string a1.f5, .bool a1.f6, .slice A1_1 a1.f7.length c1_1, .int .u64 a1.f8, .int .u64 a1.f9, .int .u64 a1.f10, .int .i64 a1.f11, .bool a1.f12, .int .i64 a1.f13]] w (fun e W' => e = .returned (.bool r) ∧ Wd w W' [] [] ) := by
  refine sxstart (n := 103) (l := [(0, .agg #[.int .i64 a0.f0, .int .i64 a0.f1, .string a0.f2, .int .i64 a0.f3, .int .i64 a0.f4, .string a0.f5, .bool a0.f6, .slice A0_0 a0.f7.length c0_0, .int .u64 a0.f8, .int .u64 a0.f9, .int .u64 a0.f10, .int .i64 a0.f11, .bool a0.f12, .int .i64 a0.f13]), (1, .agg #[.int .i64 a1.f0, .int .i64 a1.f1, .string a1.f2, .int .i64 a1.f3, .int .i64 a1.f4, .string a1.f5, .bool a1.f6, .slice A1_1 a1.f7.length c1_1, .int .u64 a1.f8, .int .u64 a1.f9, .int .u64 a1.f10, .int .i64 a1.f11, .bool a1.f12, .int .i64 a1.f13])]) Tryd.func62 rfl rfl (Nat.le_of_ble_eq_true KR) (subsA_cons rfl (subsA_cons rfl (subsA_nil _))) ?_
  intro a ha
  have HW := Wd.refl w
  unfold nresv_same.f at h
  refine wp_seq_k (fun K3386 hK3387 => ?_)
  refine wp_region_lit ?_
  refine stepnew ha HW 2 #[.int .i64 a0.f0, .int .i64 a0.f1, .string a0.f2, .int .i64 a0.f3, .int .i64 a0.f4, .string a0.f5, .bool a0.f6, .slice A0_0 a0.f7.length c0_0, .int .u64 a0.f8, .int .u64 a0.f9, .int .u64 a0.f10, .int .i64 a0.f11, .bool a0.f12, .int .i64 a0.f13] 49 KR KR ?_; clear ha HW a; intro b3388 a W3389 HW ha
  refine stepnew ha HW 3 #[.int .i64 a1.f0, .int .i64 a1.f1, .string a1.f2, .int .i64 a1.f3, .int .i64 a1.f4, .string a1.f5, .bool a1.f6, .slice A1_1 a1.f7.length c1_1, .int .u64 a1.f8, .int .u64 a1.f9, .int .u64 a1.f10, .int .i64 a1.f11, .bool a1.f12, .int .i64 a1.f13] 49 KR KR ?_; clear ha HW a; intro b3390 a W3391 HW ha
  refine stepp ha 4 (.bool false) KR KR ?_; clear ha a; intro a ha
  refine endl ?_
  refine thenN (hK3387 _ _ ?_); clear hK3387
  refine wp_seq_k (fun K3392 hK3393 => ?_)
  refine wp_region_lit ?_
  refine stepp ha 5 (.pointer (some ⟨b3388, 0, none⟩)) KR KR ?_; clear ha a; intro a ha
  refine stepl ha 6 (HW.ca (i := 1) (b := b3388) (C := #[.int .i64 a0.f0, .int .i64 a0.f1, .string a0.f2, .int .i64 a0.f3, .int .i64 a0.f4, .string a0.f5, .bool a0.f6, .slice A0_0 a0.f7.length c0_0, .int .u64 a0.f8, .int .u64 a0.f9, .int .u64 a0.f10, .int .i64 a0.f11, .bool a0.f12, .int .i64 a0.f13]) (T := 49) (fr := (0, 0)) KR) 3 0 (.tmp 5) (.int .i64 a0.f0) rfl KR KR KR ?_; clear ha a; intro a ha
  refine stepp ha 7 (.pointer (some ⟨b3390, 0, none⟩)) KR KR ?_; clear ha a; intro a ha
  refine stepl ha 8 (HW.ca (i := 0) (b := b3390) (C := #[.int .i64 a1.f0, .int .i64 a1.f1, .string a1.f2, .int .i64 a1.f3, .int .i64 a1.f4, .string a1.f5, .bool a1.f6, .slice A1_1 a1.f7.length c1_1, .int .u64 a1.f8, .int .u64 a1.f9, .int .u64 a1.f10, .int .i64 a1.f11, .bool a1.f12, .int .i64 a1.f13]) (T := 49) (fr := (0, 0)) KR) 3 0 (.tmp 7) (.int .i64 a1.f0) rfl KR KR KR ?_; clear ha a; intro a ha
  refine stepp ha 9 (.bool (a0.f0 == a1.f0)) KR KR ?_; clear ha a; intro a ha
  refine stepp ha 10 (.bool (a0.f0 == a1.f0)) KR KR ?_; clear ha a; intro a ha
  by_cases hp3394 : a0.f0 = a1.f0
  · skip
    replace h := ite_pos' h hp3394
    replace ha := ha.bool 10 KR (ieq_t hp3394)
    refine stepp ha 11 (.pointer (some ⟨b3388, 1, none⟩)) KR KR ?_; clear ha a; intro a ha
    refine stepl ha 12 (HW.ca (i := 1) (b := b3388) (C := #[.int .i64 a0.f0, .int .i64 a0.f1, .string a0.f2, .int .i64 a0.f3, .int .i64 a0.f4, .string a0.f5, .bool a0.f6, .slice A0_0 a0.f7.length c0_0, .int .u64 a0.f8, .int .u64 a0.f9, .int .u64 a0.f10, .int .i64 a0.f11, .bool a0.f12, .int .i64 a0.f13]) (T := 49) (fr := (0, 0)) KR) 3 1 (.tmp 11) (.int .i64 a0.f1) rfl KR KR KR ?_; clear ha a; intro a ha
    refine stepp ha 13 (.pointer (some ⟨b3390, 1, none⟩)) KR KR ?_; clear ha a; intro a ha
    refine stepl ha 14 (HW.ca (i := 0) (b := b3390) (C := #[.int .i64 a1.f0, .int .i64 a1.f1, .string a1.f2, .int .i64 a1.f3, .int .i64 a1.f4, .string a1.f5, .bool a1.f6, .slice A1_1 a1.f7.length c1_1, .int .u64 a1.f8, .int .u64 a1.f9, .int .u64 a1.f10, .int .i64 a1.f11, .bool a1.f12, .int .i64 a1.f13]) (T := 49) (fr := (0, 0)) KR) 3 1 (.tmp 13) (.int .i64 a1.f1) rfl KR KR KR ?_; clear ha a; intro a ha
    refine stepp ha 15 (.bool (a0.f1 == a1.f1)) KR KR ?_; clear ha a; intro a ha
    refine stepp ha 16 (.bool (a0.f1 == a1.f1)) KR KR ?_; clear ha a; intro a ha
    refine stepp ha 17 (.bool (a0.f1 == a1.f1)) KR KR ?_; clear ha a; intro a ha
    by_cases hp3395 : a0.f1 = a1.f1
    · skip
      replace h := ite_pos' h hp3395
      replace ha := ha.bool 17 KR (ieq_t hp3395)
      refine stepp ha 18 (.pointer (some ⟨b3388, 2, none⟩)) KR KR ?_; clear ha a; intro a ha
      refine stepl ha 19 (HW.ca (i := 1) (b := b3388) (C := #[.int .i64 a0.f0, .int .i64 a0.f1, .string a0.f2, .int .i64 a0.f3, .int .i64 a0.f4, .string a0.f5, .bool a0.f6, .slice A0_0 a0.f7.length c0_0, .int .u64 a0.f8, .int .u64 a0.f9, .int .u64 a0.f10, .int .i64 a0.f11, .bool a0.f12, .int .i64 a0.f13]) (T := 49) (fr := (0, 0)) KR) 9 2 (.tmp 18) (.string a0.f2) rfl KR KR KR ?_; clear ha a; intro a ha
      refine stepp ha 20 (.pointer (some ⟨b3390, 2, none⟩)) KR KR ?_; clear ha a; intro a ha
      refine stepl ha 21 (HW.ca (i := 0) (b := b3390) (C := #[.int .i64 a1.f0, .int .i64 a1.f1, .string a1.f2, .int .i64 a1.f3, .int .i64 a1.f4, .string a1.f5, .bool a1.f6, .slice A1_1 a1.f7.length c1_1, .int .u64 a1.f8, .int .u64 a1.f9, .int .u64 a1.f10, .int .i64 a1.f11, .bool a1.f12, .int .i64 a1.f13]) (T := 49) (fr := (0, 0)) KR) 9 2 (.tmp 20) (.string a1.f2) rfl KR KR KR ?_; clear ha a; intro a ha
      refine stepp ha 22 (.bool (a0.f2.toList == a1.f2.toList)) KR KR ?_; clear ha a; intro a ha
      refine stepp ha 23 (.bool (a0.f2.toList == a1.f2.toList)) KR KR ?_; clear ha a; intro a ha
      refine stepp ha 24 (.bool (a0.f2.toList == a1.f2.toList)) KR KR ?_; clear ha a; intro a ha
      by_cases hp3396 : a0.f2 = a1.f2
      · skip
        replace h := ite_pos' h hp3396
        replace ha := ha.bool 24 KR (str_eq_t hp3396)
        refine stepp ha 25 (.pointer (some ⟨b3388, 3, none⟩)) KR KR ?_; clear ha a; intro a ha
        refine stepl ha 26 (HW.ca (i := 1) (b := b3388) (C := #[.int .i64 a0.f0, .int .i64 a0.f1, .string a0.f2, .int .i64 a0.f3, .int .i64 a0.f4, .string a0.f5, .bool a0.f6, .slice A0_0 a0.f7.length c0_0, .int .u64 a0.f8, .int .u64 a0.f9, .int .u64 a0.f10, .int .i64 a0.f11, .bool a0.f12, .int .i64 a0.f13]) (T := 49) (fr := (0, 0)) KR) 3 3 (.tmp 25) (.int .i64 a0.f3) rfl KR KR KR ?_; clear ha a; intro a ha
        refine stepp ha 27 (.pointer (some ⟨b3390, 3, none⟩)) KR KR ?_; clear ha a; intro a ha
        refine stepl ha 28 (HW.ca (i := 0) (b := b3390) (C := #[.int .i64 a1.f0, .int .i64 a1.f1, .string a1.f2, .int .i64 a1.f3, .int .i64 a1.f4, .string a1.f5, .bool a1.f6, .slice A1_1 a1.f7.length c1_1, .int .u64 a1.f8, .int .u64 a1.f9, .int .u64 a1.f10, .int .i64 a1.f11, .bool a1.f12, .int .i64 a1.f13]) (T := 49) (fr := (0, 0)) KR) 3 3 (.tmp 27) (.int .i64 a1.f3) rfl KR KR KR ?_; clear ha a; intro a ha
        refine stepp ha 29 (.bool (a0.f3 == a1.f3)) KR KR ?_; clear ha a; intro a ha
        refine stepp ha 30 (.bool (a0.f3 == a1.f3)) KR KR ?_; clear ha a; intro a ha
        refine stepp ha 31 (.bool (a0.f3 == a1.f3)) KR KR ?_; clear ha a; intro a ha
        by_cases hp3397 : a0.f3 = a1.f3
        · skip
          replace h := ite_pos' h hp3397
          replace ha := ha.bool 31 KR (ieq_t hp3397)
          refine stepp ha 32 (.pointer (some ⟨b3388, 4, none⟩)) KR KR ?_; clear ha a; intro a ha
          refine stepl ha 33 (HW.ca (i := 1) (b := b3388) (C := #[.int .i64 a0.f0, .int .i64 a0.f1, .string a0.f2, .int .i64 a0.f3, .int .i64 a0.f4, .string a0.f5, .bool a0.f6, .slice A0_0 a0.f7.length c0_0, .int .u64 a0.f8, .int .u64 a0.f9, .int .u64 a0.f10, .int .i64 a0.f11, .bool a0.f12, .int .i64 a0.f13]) (T := 49) (fr := (0, 0)) KR) 3 4 (.tmp 32) (.int .i64 a0.f4) rfl KR KR KR ?_; clear ha a; intro a ha
          refine stepp ha 34 (.pointer (some ⟨b3390, 4, none⟩)) KR KR ?_; clear ha a; intro a ha
          refine stepl ha 35 (HW.ca (i := 0) (b := b3390) (C := #[.int .i64 a1.f0, .int .i64 a1.f1, .string a1.f2, .int .i64 a1.f3, .int .i64 a1.f4, .string a1.f5, .bool a1.f6, .slice A1_1 a1.f7.length c1_1, .int .u64 a1.f8, .int .u64 a1.f9, .int .u64 a1.f10, .int .i64 a1.f11, .bool a1.f12, .int .i64 a1.f13]) (T := 49) (fr := (0, 0)) KR) 3 4 (.tmp 34) (.int .i64 a1.f4) rfl KR KR KR ?_; clear ha a; intro a ha
          refine stepp ha 36 (.bool (a0.f4 == a1.f4)) KR KR ?_; clear ha a; intro a ha
          refine stepp ha 37 (.bool (a0.f4 == a1.f4)) KR KR ?_; clear ha a; intro a ha
          refine stepp ha 38 (.bool (a0.f4 == a1.f4)) KR KR ?_; clear ha a; intro a ha
          by_cases hp3398 : a0.f4 = a1.f4
          · skip
            replace h := ite_pos' h hp3398
            replace ha := ha.bool 38 KR (ieq_t hp3398)
            refine stepp ha 39 (.pointer (some ⟨b3388, 5, none⟩)) KR KR ?_; clear ha a; intro a ha
            refine stepl ha 40 (HW.ca (i := 1) (b := b3388) (C := #[.int .i64 a0.f0, .int .i64 a0.f1, .string a0.f2, .int .i64 a0.f3, .int .i64 a0.f4, .string a0.f5, .bool a0.f6, .slice A0_0 a0.f7.length c0_0, .int .u64 a0.f8, .int .u64 a0.f9, .int .u64 a0.f10, .int .i64 a0.f11, .bool a0.f12, .int .i64 a0.f13]) (T := 49) (fr := (0, 0)) KR) 9 5 (.tmp 39) (.string a0.f5) rfl KR KR KR ?_; clear ha a; intro a ha
            refine stepp ha 41 (.pointer (some ⟨b3390, 5, none⟩)) KR KR ?_; clear ha a; intro a ha
            refine stepl ha 42 (HW.ca (i := 0) (b := b3390) (C := #[.int .i64 a1.f0, .int .i64 a1.f1, .string a1.f2, .int .i64 a1.f3, .int .i64 a1.f4, .string a1.f5, .bool a1.f6, .slice A1_1 a1.f7.length c1_1, .int .u64 a1.f8, .int .u64 a1.f9, .int .u64 a1.f10, .int .i64 a1.f11, .bool a1.f12, .int .i64 a1.f13]) (T := 49) (fr := (0, 0)) KR) 9 5 (.tmp 41) (.string a1.f5) rfl KR KR KR ?_; clear ha a; intro a ha
            refine stepp ha 43 (.bool (a0.f5.toList == a1.f5.toList)) KR KR ?_; clear ha a; intro a ha
            refine stepp ha 44 (.bool (a0.f5.toList == a1.f5.toList)) KR KR ?_; clear ha a; intro a ha
            refine stepp ha 45 (.bool (a0.f5.toList == a1.f5.toList)) KR KR ?_; clear ha a; intro a ha
            by_cases hp3399 : a0.f5 = a1.f5
            · skip
              replace h := ite_pos' h hp3399
              replace ha := ha.bool 45 KR (str_eq_t hp3399)
              refine stepp ha 46 (.pointer (some ⟨b3388, 6, none⟩)) KR KR ?_; clear ha a; intro a ha
              refine stepl ha 47 (HW.ca (i := 1) (b := b3388) (C := #[.int .i64 a0.f0, .int .i64 a0.f1, .string a0.f2, .int .i64 a0.f3, .int .i64 a0.f4, .string a0.f5, .bool a0.f6, .slice A0_0 a0.f7.length c0_0, .int .u64 a0.f8, .int .u64 a0.f9, .int .u64 a0.f10, .int .i64 a0.f11, .bool a0.f12, .int .i64 a0.f13]) (T := 49) (fr := (0, 0)) KR) 4 6 (.tmp 46) (.bool a0.f6) rfl KR KR KR ?_; clear ha a; intro a ha
              refine stepp ha 48 (.pointer (some ⟨b3390, 6, none⟩)) KR KR ?_; clear ha a; intro a ha
              refine stepl ha 49 (HW.ca (i := 0) (b := b3390) (C := #[.int .i64 a1.f0, .int .i64 a1.f1, .string a1.f2, .int .i64 a1.f3, .int .i64 a1.f4, .string a1.f5, .bool a1.f6, .slice A1_1 a1.f7.length c1_1, .int .u64 a1.f8, .int .u64 a1.f9, .int .u64 a1.f10, .int .i64 a1.f11, .bool a1.f12, .int .i64 a1.f13]) (T := 49) (fr := (0, 0)) KR) 4 6 (.tmp 48) (.bool a1.f6) rfl KR KR KR ?_; clear ha a; intro a ha
              refine stepp ha 50 (.bool (a0.f6 == a1.f6)) KR KR ?_; clear ha a; intro a ha
              refine stepp ha 51 (.bool (a0.f6 == a1.f6)) KR KR ?_; clear ha a; intro a ha
              refine stepp ha 52 (.bool (a0.f6 == a1.f6)) KR KR ?_; clear ha a; intro a ha
              by_cases hp3400 : a0.f6 = a1.f6
              · skip
                replace h := ite_pos' h hp3400
                replace ha := ha.bool 52 KR (beq_t hp3400)
                refine stepp ha 53 (.pointer (some ⟨b3388, 7, none⟩)) KR KR ?_; clear ha a; intro a ha
                refine stepl ha 54 (HW.ca (i := 1) (b := b3388) (C := #[.int .i64 a0.f0, .int .i64 a0.f1, .string a0.f2, .int .i64 a0.f3, .int .i64 a0.f4, .string a0.f5, .bool a0.f6, .slice A0_0 a0.f7.length c0_0, .int .u64 a0.f8, .int .u64 a0.f9, .int .u64 a0.f10, .int .i64 a0.f11, .bool a0.f12, .int .i64 a0.f13]) (T := 49) (fr := (0, 0)) KR) 47 7 (.tmp 53) (.slice A0_0 a0.f7.length c0_0) rfl KR KR KR ?_; clear ha a; intro a ha
                refine stepp ha 55 (.int .i64 (a0.f7.length : Int)) KR KR ?_; clear ha a; intro a ha
                refine stepp ha 56 (.pointer (some ⟨b3390, 7, none⟩)) KR KR ?_; clear ha a; intro a ha
                refine stepl ha 57 (HW.ca (i := 0) (b := b3390) (C := #[.int .i64 a1.f0, .int .i64 a1.f1, .string a1.f2, .int .i64 a1.f3, .int .i64 a1.f4, .string a1.f5, .bool a1.f6, .slice A1_1 a1.f7.length c1_1, .int .u64 a1.f8, .int .u64 a1.f9, .int .u64 a1.f10, .int .i64 a1.f11, .bool a1.f12, .int .i64 a1.f13]) (T := 49) (fr := (0, 0)) KR) 47 7 (.tmp 56) (.slice A1_1 a1.f7.length c1_1) rfl KR KR KR ?_; clear ha a; intro a ha
                refine stepp ha 58 (.int .i64 (a1.f7.length : Int)) KR KR ?_; clear ha a; intro a ha
                refine stepp ha 59 (.bool ((a0.f7.length : Int) == (a1.f7.length : Int))) KR KR ?_; clear ha a; intro a ha
                refine stepp ha 60 (.bool ((a0.f7.length : Int) == (a1.f7.length : Int))) KR KR ?_; clear ha a; intro a ha
                refine stepp ha 61 (.bool ((a0.f7.length : Int) == (a1.f7.length : Int))) KR KR ?_; clear ha a; intro a ha
                by_cases hp3401 : (a0.f7.length : Int) = (a1.f7.length : Int)
                · skip
                  replace h := ite_pos' h hp3401
                  replace ha := ha.bool 61 KR (ieq_t hp3401)
                  refine stepp ha 62 (.pointer (some ⟨b3388, 8, none⟩)) KR KR ?_; clear ha a; intro a ha
                  refine stepl ha 63 (HW.ca (i := 1) (b := b3388) (C := #[.int .i64 a0.f0, .int .i64 a0.f1, .string a0.f2, .int .i64 a0.f3, .int .i64 a0.f4, .string a0.f5, .bool a0.f6, .slice A0_0 a0.f7.length c0_0, .int .u64 a0.f8, .int .u64 a0.f9, .int .u64 a0.f10, .int .i64 a0.f11, .bool a0.f12, .int .i64 a0.f13]) (T := 49) (fr := (0, 0)) KR) 42 8 (.tmp 62) (.int .u64 a0.f8) rfl KR KR KR ?_; clear ha a; intro a ha
                  refine stepp ha 64 (.pointer (some ⟨b3390, 8, none⟩)) KR KR ?_; clear ha a; intro a ha
                  refine stepl ha 65 (HW.ca (i := 0) (b := b3390) (C := #[.int .i64 a1.f0, .int .i64 a1.f1, .string a1.f2, .int .i64 a1.f3, .int .i64 a1.f4, .string a1.f5, .bool a1.f6, .slice A1_1 a1.f7.length c1_1, .int .u64 a1.f8, .int .u64 a1.f9, .int .u64 a1.f10, .int .i64 a1.f11, .bool a1.f12, .int .i64 a1.f13]) (T := 49) (fr := (0, 0)) KR) 42 8 (.tmp 64) (.int .u64 a1.f8) rfl KR KR KR ?_; clear ha a; intro a ha
                  refine stepp ha 66 (.bool (a0.f8 == a1.f8)) KR KR ?_; clear ha a; intro a ha
                  refine stepp ha 67 (.bool (a0.f8 == a1.f8)) KR KR ?_; clear ha a; intro a ha
                  refine stepp ha 68 (.bool (a0.f8 == a1.f8)) KR KR ?_; clear ha a; intro a ha
                  by_cases hp3402 : a0.f8 = a1.f8
                  · skip
                    replace h := ite_pos' h hp3402
                    replace ha := ha.bool 68 KR (ieq_t hp3402)
                    refine stepp ha 69 (.pointer (some ⟨b3388, 9, none⟩)) KR KR ?_; clear ha a; intro a ha
                    refine stepl ha 70 (HW.ca (i := 1) (b := b3388) (C := #[.int .i64 a0.f0, .int .i64 a0.f1, .string a0.f2, .int .i64 a0.f3, .int .i64 a0.f4, .string a0.f5, .bool a0.f6, .slice A0_0 a0.f7.length c0_0, .int .u64 a0.f8, .int .u64 a0.f9, .int .u64 a0.f10, .int .i64 a0.f11, .bool a0.f12, .int .i64 a0.f13]) (T := 49) (fr := (0, 0)) KR) 42 9 (.tmp 69) (.int .u64 a0.f9) rfl KR KR KR ?_; clear ha a; intro a ha
                    refine stepp ha 71 (.pointer (some ⟨b3390, 9, none⟩)) KR KR ?_; clear ha a; intro a ha
                    refine stepl ha 72 (HW.ca (i := 0) (b := b3390) (C := #[.int .i64 a1.f0, .int .i64 a1.f1, .string a1.f2, .int .i64 a1.f3, .int .i64 a1.f4, .string a1.f5, .bool a1.f6, .slice A1_1 a1.f7.length c1_1, .int .u64 a1.f8, .int .u64 a1.f9, .int .u64 a1.f10, .int .i64 a1.f11, .bool a1.f12, .int .i64 a1.f13]) (T := 49) (fr := (0, 0)) KR) 42 9 (.tmp 71) (.int .u64 a1.f9) rfl KR KR KR ?_; clear ha a; intro a ha
                    refine stepp ha 73 (.bool (a0.f9 == a1.f9)) KR KR ?_; clear ha a; intro a ha
                    refine stepp ha 74 (.bool (a0.f9 == a1.f9)) KR KR ?_; clear ha a; intro a ha
                    refine stepp ha 75 (.bool (a0.f9 == a1.f9)) KR KR ?_; clear ha a; intro a ha
                    by_cases hp3403 : a0.f9 = a1.f9
                    · skip
                      replace h := ite_pos' h hp3403
                      replace ha := ha.bool 75 KR (ieq_t hp3403)
                      refine stepp ha 76 (.pointer (some ⟨b3388, 10, none⟩)) KR KR ?_; clear ha a; intro a ha
                      refine stepl ha 77 (HW.ca (i := 1) (b := b3388) (C := #[.int .i64 a0.f0, .int .i64 a0.f1, .string a0.f2, .int .i64 a0.f3, .int .i64 a0.f4, .string a0.f5, .bool a0.f6, .slice A0_0 a0.f7.length c0_0, .int .u64 a0.f8, .int .u64 a0.f9, .int .u64 a0.f10, .int .i64 a0.f11, .bool a0.f12, .int .i64 a0.f13]) (T := 49) (fr := (0, 0)) KR) 42 10 (.tmp 76) (.int .u64 a0.f10) rfl KR KR KR ?_; clear ha a; intro a ha
                      refine stepp ha 78 (.pointer (some ⟨b3390, 10, none⟩)) KR KR ?_; clear ha a; intro a ha
                      refine stepl ha 79 (HW.ca (i := 0) (b := b3390) (C := #[.int .i64 a1.f0, .int .i64 a1.f1, .string a1.f2, .int .i64 a1.f3, .int .i64 a1.f4, .string a1.f5, .bool a1.f6, .slice A1_1 a1.f7.length c1_1, .int .u64 a1.f8, .int .u64 a1.f9, .int .u64 a1.f10, .int .i64 a1.f11, .bool a1.f12, .int .i64 a1.f13]) (T := 49) (fr := (0, 0)) KR) 42 10 (.tmp 78) (.int .u64 a1.f10) rfl KR KR KR ?_; clear ha a; intro a ha
                      refine stepp ha 80 (.bool (a0.f10 == a1.f10)) KR KR ?_; clear ha a; intro a ha
                      refine stepp ha 81 (.bool (a0.f10 == a1.f10)) KR KR ?_; clear ha a; intro a ha
                      refine stepp ha 82 (.bool (a0.f10 == a1.f10)) KR KR ?_; clear ha a; intro a ha
                      by_cases hp3404 : a0.f10 = a1.f10
                      · skip
                        replace h := ite_pos' h hp3404
                        replace ha := ha.bool 82 KR (ieq_t hp3404)
                        refine stepp ha 83 (.pointer (some ⟨b3388, 11, none⟩)) KR KR ?_; clear ha a; intro a ha
                        refine stepl ha 84 (HW.ca (i := 1) (b := b3388) (C := #[.int .i64 a0.f0, .int .i64 a0.f1, .string a0.f2, .int .i64 a0.f3, .int .i64 a0.f4, .string a0.f5, .bool a0.f6, .slice A0_0 a0.f7.length c0_0, .int .u64 a0.f8, .int .u64 a0.f9, .int .u64 a0.f10, .int .i64 a0.f11, .bool a0.f12, .int .i64 a0.f13]) (T := 49) (fr := (0, 0)) KR) 3 11 (.tmp 83) (.int .i64 a0.f11) rfl KR KR KR ?_; clear ha a; intro a ha
                        refine stepp ha 85 (.pointer (some ⟨b3390, 11, none⟩)) KR KR ?_; clear ha a; intro a ha
                        refine stepl ha 86 (HW.ca (i := 0) (b := b3390) (C := #[.int .i64 a1.f0, .int .i64 a1.f1, .string a1.f2, .int .i64 a1.f3, .int .i64 a1.f4, .string a1.f5, .bool a1.f6, .slice A1_1 a1.f7.length c1_1, .int .u64 a1.f8, .int .u64 a1.f9, .int .u64 a1.f10, .int .i64 a1.f11, .bool a1.f12, .int .i64 a1.f13]) (T := 49) (fr := (0, 0)) KR) 3 11 (.tmp 85) (.int .i64 a1.f11) rfl KR KR KR ?_; clear ha a; intro a ha
                        refine stepp ha 87 (.bool (a0.f11 == a1.f11)) KR KR ?_; clear ha a; intro a ha
                        refine stepp ha 88 (.bool (a0.f11 == a1.f11)) KR KR ?_; clear ha a; intro a ha
                        refine stepp ha 89 (.bool (a0.f11 == a1.f11)) KR KR ?_; clear ha a; intro a ha
                        by_cases hp3405 : a0.f11 = a1.f11
                        · skip
                          replace h := ite_pos' h hp3405
                          replace ha := ha.bool 89 KR (ieq_t hp3405)
                          refine stepp ha 90 (.pointer (some ⟨b3388, 12, none⟩)) KR KR ?_; clear ha a; intro a ha
                          refine stepl ha 91 (HW.ca (i := 1) (b := b3388) (C := #[.int .i64 a0.f0, .int .i64 a0.f1, .string a0.f2, .int .i64 a0.f3, .int .i64 a0.f4, .string a0.f5, .bool a0.f6, .slice A0_0 a0.f7.length c0_0, .int .u64 a0.f8, .int .u64 a0.f9, .int .u64 a0.f10, .int .i64 a0.f11, .bool a0.f12, .int .i64 a0.f13]) (T := 49) (fr := (0, 0)) KR) 4 12 (.tmp 90) (.bool a0.f12) rfl KR KR KR ?_; clear ha a; intro a ha
                          refine stepp ha 92 (.pointer (some ⟨b3390, 12, none⟩)) KR KR ?_; clear ha a; intro a ha
                          refine stepl ha 93 (HW.ca (i := 0) (b := b3390) (C := #[.int .i64 a1.f0, .int .i64 a1.f1, .string a1.f2, .int .i64 a1.f3, .int .i64 a1.f4, .string a1.f5, .bool a1.f6, .slice A1_1 a1.f7.length c1_1, .int .u64 a1.f8, .int .u64 a1.f9, .int .u64 a1.f10, .int .i64 a1.f11, .bool a1.f12, .int .i64 a1.f13]) (T := 49) (fr := (0, 0)) KR) 4 12 (.tmp 92) (.bool a1.f12) rfl KR KR KR ?_; clear ha a; intro a ha
                          refine stepp ha 94 (.bool (a0.f12 == a1.f12)) KR KR ?_; clear ha a; intro a ha
                          refine stepp ha 95 (.bool (a0.f12 == a1.f12)) KR KR ?_; clear ha a; intro a ha
                          refine stepp ha 96 (.bool (a0.f12 == a1.f12)) KR KR ?_; clear ha a; intro a ha
                          by_cases hp3406 : a0.f12 = a1.f12
                          · skip
                            replace h := ite_pos' h hp3406
                            replace ha := ha.bool 96 KR (beq_t hp3406)
                            refine stepp ha 97 (.pointer (some ⟨b3388, 13, none⟩)) KR KR ?_; clear ha a; intro a ha
                            refine stepl ha 98 (HW.ca (i := 1) (b := b3388) (C := #[.int .i64 a0.f0, .int .i64 a0.f1, .string a0.f2, .int .i64 a0.f3, .int .i64 a0.f4, .string a0.f5, .bool a0.f6, .slice A0_0 a0.f7.length c0_0, .int .u64 a0.f8, .int .u64 a0.f9, .int .u64 a0.f10, .int .i64 a0.f11, .bool a0.f12, .int .i64 a0.f13]) (T := 49) (fr := (0, 0)) KR) 3 13 (.tmp 97) (.int .i64 a0.f13) rfl KR KR KR ?_; clear ha a; intro a ha
                            refine stepp ha 99 (.pointer (some ⟨b3390, 13, none⟩)) KR KR ?_; clear ha a; intro a ha
                            refine stepl ha 100 (HW.ca (i := 0) (b := b3390) (C := #[.int .i64 a1.f0, .int .i64 a1.f1, .string a1.f2, .int .i64 a1.f3, .int .i64 a1.f4, .string a1.f5, .bool a1.f6, .slice A1_1 a1.f7.length c1_1, .int .u64 a1.f8, .int .u64 a1.f9, .int .u64 a1.f10, .int .i64 a1.f11, .bool a1.f12, .int .i64 a1.f13]) (T := 49) (fr := (0, 0)) KR) 3 13 (.tmp 99) (.int .i64 a1.f13) rfl KR KR KR ?_; clear ha a; intro a ha
                            refine stepp ha 101 (.bool (a0.f13 == a1.f13)) KR KR ?_; clear ha a; intro a ha
                            refine stepp ha 102 (.bool (a0.f13 == a1.f13)) KR KR ?_; clear ha a; intro a ha
                            refine stepp ha 4 (.bool (a0.f13 == a1.f13)) KR KR ?_; clear ha a; intro a ha
                            refine endl ?_
                            refine thenN (hK3393 _ _ ?_); clear hK3393
                            refine wp_ret ?_
                            obtain rfl := Option.some.inj h
                            exact finv ha _ _ rfl (.tmp (v := .bool (a0.f13 == a1.f13)) KR .nil) (.bool (a0.f13 == a1.f13)) rfl ⟨rfl, HW.pick [] [] (by decide) (by decide) rfl KR⟩
                          · skip
                            replace h := ite_neg' h hp3406
                            replace ha := ha.bool 96 KR (beq_f hp3406)
                            refine stepo ha 97 KR ?_; clear ha a; intro a ha
                            refine stepo ha 98 KR ?_; clear ha a; intro a ha
                            refine stepo ha 99 KR ?_; clear ha a; intro a ha
                            refine stepo ha 100 KR ?_; clear ha a; intro a ha
                            refine stepo ha 101 KR ?_; clear ha a; intro a ha
                            refine stepp ha 102 (.bool false) KR KR ?_; clear ha a; intro a ha
                            refine stepp ha 4 (.bool false) KR KR ?_; clear ha a; intro a ha
                            refine endl ?_
                            refine thenN (hK3393 _ _ ?_); clear hK3393
                            refine wp_ret ?_
                            obtain rfl := Option.some.inj h
                            exact finv ha _ _ rfl (.tmp (v := .bool false) KR .nil) (.bool false) rfl ⟨rfl, HW.pick [] [] (by decide) (by decide) rfl KR⟩
                        · skip
                          replace h := ite_neg' h hp3405
                          replace ha := ha.bool 89 KR (ieq_f hp3405)
                          refine stepo ha 90 KR ?_; clear ha a; intro a ha
                          refine stepo ha 91 KR ?_; clear ha a; intro a ha
                          refine stepo ha 92 KR ?_; clear ha a; intro a ha
                          refine stepo ha 93 KR ?_; clear ha a; intro a ha
                          refine stepo ha 94 KR ?_; clear ha a; intro a ha
                          refine stepp ha 95 (.bool false) KR KR ?_; clear ha a; intro a ha
                          refine stepp ha 96 (.bool false) KR KR ?_; clear ha a; intro a ha
                          refine stepo ha 97 KR ?_; clear ha a; intro a ha
                          refine stepo ha 98 KR ?_; clear ha a; intro a ha
                          refine stepo ha 99 KR ?_; clear ha a; intro a ha
                          refine stepo ha 100 KR ?_; clear ha a; intro a ha
                          refine stepo ha 101 KR ?_; clear ha a; intro a ha
                          refine stepp ha 102 (.bool false) KR KR ?_; clear ha a; intro a ha
                          refine stepp ha 4 (.bool false) KR KR ?_; clear ha a; intro a ha
                          refine endl ?_
                          refine thenN (hK3393 _ _ ?_); clear hK3393
                          refine wp_ret ?_
                          obtain rfl := Option.some.inj h
                          exact finv ha _ _ rfl (.tmp (v := .bool false) KR .nil) (.bool false) rfl ⟨rfl, HW.pick [] [] (by decide) (by decide) rfl KR⟩
                      · skip
                        replace h := ite_neg' h hp3404
                        replace ha := ha.bool 82 KR (ieq_f hp3404)
                        refine stepo ha 83 KR ?_; clear ha a; intro a ha
                        refine stepo ha 84 KR ?_; clear ha a; intro a ha
                        refine stepo ha 85 KR ?_; clear ha a; intro a ha
                        refine stepo ha 86 KR ?_; clear ha a; intro a ha
                        refine stepo ha 87 KR ?_; clear ha a; intro a ha
                        refine stepp ha 88 (.bool false) KR KR ?_; clear ha a; intro a ha
                        refine stepp ha 89 (.bool false) KR KR ?_; clear ha a; intro a ha
                        refine stepo ha 90 KR ?_; clear ha a; intro a ha
                        refine stepo ha 91 KR ?_; clear ha a; intro a ha
                        refine stepo ha 92 KR ?_; clear ha a; intro a ha
                        refine stepo ha 93 KR ?_; clear ha a; intro a ha
                        refine stepo ha 94 KR ?_; clear ha a; intro a ha
                        refine stepp ha 95 (.bool false) KR KR ?_; clear ha a; intro a ha
                        refine stepp ha 96 (.bool false) KR KR ?_; clear ha a; intro a ha
                        refine stepo ha 97 KR ?_; clear ha a; intro a ha
                        refine stepo ha 98 KR ?_; clear ha a; intro a ha
                        refine stepo ha 99 KR ?_; clear ha a; intro a ha
                        refine stepo ha 100 KR ?_; clear ha a; intro a ha
                        refine stepo ha 101 KR ?_; clear ha a; intro a ha
                        refine stepp ha 102 (.bool false) KR KR ?_; clear ha a; intro a ha
                        refine stepp ha 4 (.bool false) KR KR ?_; clear ha a; intro a ha
                        refine endl ?_
                        refine thenN (hK3393 _ _ ?_); clear hK3393
                        refine wp_ret ?_
                        obtain rfl := Option.some.inj h
                        exact finv ha _ _ rfl (.tmp (v := .bool false) KR .nil) (.bool false) rfl ⟨rfl, HW.pick [] [] (by decide) (by decide) rfl KR⟩
                    · skip
                      replace h := ite_neg' h hp3403
                      replace ha := ha.bool 75 KR (ieq_f hp3403)
                      refine stepo ha 76 KR ?_; clear ha a; intro a ha
                      refine stepo ha 77 KR ?_; clear ha a; intro a ha
                      refine stepo ha 78 KR ?_; clear ha a; intro a ha
                      refine stepo ha 79 KR ?_; clear ha a; intro a ha
                      refine stepo ha 80 KR ?_; clear ha a; intro a ha
                      refine stepp ha 81 (.bool false) KR KR ?_; clear ha a; intro a ha
                      refine stepp ha 82 (.bool false) KR KR ?_; clear ha a; intro a ha
                      refine stepo ha 83 KR ?_; clear ha a; intro a ha
                      refine stepo ha 84 KR ?_; clear ha a; intro a ha
                      refine stepo ha 85 KR ?_; clear ha a; intro a ha
                      refine stepo ha 86 KR ?_; clear ha a; intro a ha
                      refine stepo ha 87 KR ?_; clear ha a; intro a ha
                      refine stepp ha 88 (.bool false) KR KR ?_; clear ha a; intro a ha
                      refine stepp ha 89 (.bool false) KR KR ?_; clear ha a; intro a ha
                      refine stepo ha 90 KR ?_; clear ha a; intro a ha
                      refine stepo ha 91 KR ?_; clear ha a; intro a ha
                      refine stepo ha 92 KR ?_; clear ha a; intro a ha
                      refine stepo ha 93 KR ?_; clear ha a; intro a ha
                      refine stepo ha 94 KR ?_; clear ha a; intro a ha
                      refine stepp ha 95 (.bool false) KR KR ?_; clear ha a; intro a ha
                      refine stepp ha 96 (.bool false) KR KR ?_; clear ha a; intro a ha
                      refine stepo ha 97 KR ?_; clear ha a; intro a ha
                      refine stepo ha 98 KR ?_; clear ha a; intro a ha
                      refine stepo ha 99 KR ?_; clear ha a; intro a ha
                      refine stepo ha 100 KR ?_; clear ha a; intro a ha
                      refine stepo ha 101 KR ?_; clear ha a; intro a ha
                      refine stepp ha 102 (.bool false) KR KR ?_; clear ha a; intro a ha
                      refine stepp ha 4 (.bool false) KR KR ?_; clear ha a; intro a ha
                      refine endl ?_
                      refine thenN (hK3393 _ _ ?_); clear hK3393
                      refine wp_ret ?_
                      obtain rfl := Option.some.inj h
                      exact finv ha _ _ rfl (.tmp (v := .bool false) KR .nil) (.bool false) rfl ⟨rfl, HW.pick [] [] (by decide) (by decide) rfl KR⟩
                  · skip
                    replace h := ite_neg' h hp3402
                    replace ha := ha.bool 68 KR (ieq_f hp3402)
                    refine stepo ha 69 KR ?_; clear ha a; intro a ha
                    refine stepo ha 70 KR ?_; clear ha a; intro a ha
                    refine stepo ha 71 KR ?_; clear ha a; intro a ha
                    refine stepo ha 72 KR ?_; clear ha a; intro a ha
                    refine stepo ha 73 KR ?_; clear ha a; intro a ha
                    refine stepp ha 74 (.bool false) KR KR ?_; clear ha a; intro a ha
                    refine stepp ha 75 (.bool false) KR KR ?_; clear ha a; intro a ha
                    refine stepo ha 76 KR ?_; clear ha a; intro a ha
                    refine stepo ha 77 KR ?_; clear ha a; intro a ha
                    refine stepo ha 78 KR ?_; clear ha a; intro a ha
                    refine stepo ha 79 KR ?_; clear ha a; intro a ha
                    refine stepo ha 80 KR ?_; clear ha a; intro a ha
                    refine stepp ha 81 (.bool false) KR KR ?_; clear ha a; intro a ha
                    refine stepp ha 82 (.bool false) KR KR ?_; clear ha a; intro a ha
                    refine stepo ha 83 KR ?_; clear ha a; intro a ha
                    refine stepo ha 84 KR ?_; clear ha a; intro a ha
                    refine stepo ha 85 KR ?_; clear ha a; intro a ha
                    refine stepo ha 86 KR ?_; clear ha a; intro a ha
                    refine stepo ha 87 KR ?_; clear ha a; intro a ha
                    refine stepp ha 88 (.bool false) KR KR ?_; clear ha a; intro a ha
                    refine stepp ha 89 (.bool false) KR KR ?_; clear ha a; intro a ha
                    refine stepo ha 90 KR ?_; clear ha a; intro a ha
                    refine stepo ha 91 KR ?_; clear ha a; intro a ha
                    refine stepo ha 92 KR ?_; clear ha a; intro a ha
                    refine stepo ha 93 KR ?_; clear ha a; intro a ha
                    refine stepo ha 94 KR ?_; clear ha a; intro a ha
                    refine stepp ha 95 (.bool false) KR KR ?_; clear ha a; intro a ha
                    refine stepp ha 96 (.bool false) KR KR ?_; clear ha a; intro a ha
                    refine stepo ha 97 KR ?_; clear ha a; intro a ha
                    refine stepo ha 98 KR ?_; clear ha a; intro a ha
                    refine stepo ha 99 KR ?_; clear ha a; intro a ha
                    refine stepo ha 100 KR ?_; clear ha a; intro a ha
                    refine stepo ha 101 KR ?_; clear ha a; intro a ha
                    refine stepp ha 102 (.bool false) KR KR ?_; clear ha a; intro a ha
                    refine stepp ha 4 (.bool false) KR KR ?_; clear ha a; intro a ha
                    refine endl ?_
                    refine thenN (hK3393 _ _ ?_); clear hK3393
                    refine wp_ret ?_
                    obtain rfl := Option.some.inj h
                    exact finv ha _ _ rfl (.tmp (v := .bool false) KR .nil) (.bool false) rfl ⟨rfl, HW.pick [] [] (by decide) (by decide) rfl KR⟩
                · skip
                  replace h := ite_neg' h hp3401
                  replace ha := ha.bool 61 KR (ieq_f hp3401)
                  refine stepo ha 62 KR ?_; clear ha a; intro a ha
                  refine stepo ha 63 KR ?_; clear ha a; intro a ha
                  refine stepo ha 64 KR ?_; clear ha a; intro a ha
                  refine stepo ha 65 KR ?_; clear ha a; intro a ha
                  refine stepo ha 66 KR ?_; clear ha a; intro a ha
                  refine stepp ha 67 (.bool false) KR KR ?_; clear ha a; intro a ha
                  refine stepp ha 68 (.bool false) KR KR ?_; clear ha a; intro a ha
                  refine stepo ha 69 KR ?_; clear ha a; intro a ha
                  refine stepo ha 70 KR ?_; clear ha a; intro a ha
                  refine stepo ha 71 KR ?_; clear ha a; intro a ha
                  refine stepo ha 72 KR ?_; clear ha a; intro a ha
                  refine stepo ha 73 KR ?_; clear ha a; intro a ha
                  refine stepp ha 74 (.bool false) KR KR ?_; clear ha a; intro a ha
                  refine stepp ha 75 (.bool false) KR KR ?_; clear ha a; intro a ha
                  refine stepo ha 76 KR ?_; clear ha a; intro a ha
                  refine stepo ha 77 KR ?_; clear ha a; intro a ha
                  refine stepo ha 78 KR ?_; clear ha a; intro a ha
                  refine stepo ha 79 KR ?_; clear ha a; intro a ha
                  refine stepo ha 80 KR ?_; clear ha a; intro a ha
                  refine stepp ha 81 (.bool false) KR KR ?_; clear ha a; intro a ha
                  refine stepp ha 82 (.bool false) KR KR ?_; clear ha a; intro a ha
                  refine stepo ha 83 KR ?_; clear ha a; intro a ha
                  refine stepo ha 84 KR ?_; clear ha a; intro a ha
                  refine stepo ha 85 KR ?_; clear ha a; intro a ha
                  refine stepo ha 86 KR ?_; clear ha a; intro a ha
                  refine stepo ha 87 KR ?_; clear ha a; intro a ha
                  refine stepp ha 88 (.bool false) KR KR ?_; clear ha a; intro a ha
                  refine stepp ha 89 (.bool false) KR KR ?_; clear ha a; intro a ha
                  refine stepo ha 90 KR ?_; clear ha a; intro a ha
                  refine stepo ha 91 KR ?_; clear ha a; intro a ha
                  refine stepo ha 92 KR ?_; clear ha a; intro a ha
                  refine stepo ha 93 KR ?_; clear ha a; intro a ha
                  refine stepo ha 94 KR ?_; clear ha a; intro a ha
                  refine stepp ha 95 (.bool false) KR KR ?_; clear ha a; intro a ha
                  refine stepp ha 96 (.bool false) KR KR ?_; clear ha a; intro a ha
                  refine stepo ha 97 KR ?_; clear ha a; intro a ha
                  refine stepo ha 98 KR ?_; clear ha a; intro a ha
                  refine stepo ha 99 KR ?_; clear ha a; intro a ha
                  refine stepo ha 100 KR ?_; clear ha a; intro a ha
                  refine stepo ha 101 KR ?_; clear ha a; intro a ha
                  refine stepp ha 102 (.bool false) KR KR ?_; clear ha a; intro a ha
                  refine stepp ha 4 (.bool false) KR KR ?_; clear ha a; intro a ha
                  refine endl ?_
                  refine thenN (hK3393 _ _ ?_); clear hK3393
                  refine wp_ret ?_
                  obtain rfl := Option.some.inj h
                  exact finv ha _ _ rfl (.tmp (v := .bool false) KR .nil) (.bool false) rfl ⟨rfl, HW.pick [] [] (by decide) (by decide) rfl KR⟩
              · skip
                replace h := ite_neg' h hp3400
                replace ha := ha.bool 52 KR (beq_f hp3400)
                refine stepo ha 53 KR ?_; clear ha a; intro a ha
                refine stepo ha 54 KR ?_; clear ha a; intro a ha
                refine stepo ha 55 KR ?_; clear ha a; intro a ha
                refine stepo ha 56 KR ?_; clear ha a; intro a ha
                refine stepo ha 57 KR ?_; clear ha a; intro a ha
                refine stepo ha 58 KR ?_; clear ha a; intro a ha
                refine stepo ha 59 KR ?_; clear ha a; intro a ha
                refine stepp ha 60 (.bool false) KR KR ?_; clear ha a; intro a ha
                refine stepp ha 61 (.bool false) KR KR ?_; clear ha a; intro a ha
                refine stepo ha 62 KR ?_; clear ha a; intro a ha
                refine stepo ha 63 KR ?_; clear ha a; intro a ha
                refine stepo ha 64 KR ?_; clear ha a; intro a ha
                refine stepo ha 65 KR ?_; clear ha a; intro a ha
                refine stepo ha 66 KR ?_; clear ha a; intro a ha
                refine stepp ha 67 (.bool false) KR KR ?_; clear ha a; intro a ha
                refine stepp ha 68 (.bool false) KR KR ?_; clear ha a; intro a ha
                refine stepo ha 69 KR ?_; clear ha a; intro a ha
                refine stepo ha 70 KR ?_; clear ha a; intro a ha
                refine stepo ha 71 KR ?_; clear ha a; intro a ha
                refine stepo ha 72 KR ?_; clear ha a; intro a ha
                refine stepo ha 73 KR ?_; clear ha a; intro a ha
                refine stepp ha 74 (.bool false) KR KR ?_; clear ha a; intro a ha
                refine stepp ha 75 (.bool false) KR KR ?_; clear ha a; intro a ha
                refine stepo ha 76 KR ?_; clear ha a; intro a ha
                refine stepo ha 77 KR ?_; clear ha a; intro a ha
                refine stepo ha 78 KR ?_; clear ha a; intro a ha
                refine stepo ha 79 KR ?_; clear ha a; intro a ha
                refine stepo ha 80 KR ?_; clear ha a; intro a ha
                refine stepp ha 81 (.bool false) KR KR ?_; clear ha a; intro a ha
                refine stepp ha 82 (.bool false) KR KR ?_; clear ha a; intro a ha
                refine stepo ha 83 KR ?_; clear ha a; intro a ha
                refine stepo ha 84 KR ?_; clear ha a; intro a ha
                refine stepo ha 85 KR ?_; clear ha a; intro a ha
                refine stepo ha 86 KR ?_; clear ha a; intro a ha
                refine stepo ha 87 KR ?_; clear ha a; intro a ha
                refine stepp ha 88 (.bool false) KR KR ?_; clear ha a; intro a ha
                refine stepp ha 89 (.bool false) KR KR ?_; clear ha a; intro a ha
                refine stepo ha 90 KR ?_; clear ha a; intro a ha
                refine stepo ha 91 KR ?_; clear ha a; intro a ha
                refine stepo ha 92 KR ?_; clear ha a; intro a ha
                refine stepo ha 93 KR ?_; clear ha a; intro a ha
                refine stepo ha 94 KR ?_; clear ha a; intro a ha
                refine stepp ha 95 (.bool false) KR KR ?_; clear ha a; intro a ha
                refine stepp ha 96 (.bool false) KR KR ?_; clear ha a; intro a ha
                refine stepo ha 97 KR ?_; clear ha a; intro a ha
                refine stepo ha 98 KR ?_; clear ha a; intro a ha
                refine stepo ha 99 KR ?_; clear ha a; intro a ha
                refine stepo ha 100 KR ?_; clear ha a; intro a ha
                refine stepo ha 101 KR ?_; clear ha a; intro a ha
                refine stepp ha 102 (.bool false) KR KR ?_; clear ha a; intro a ha
                refine stepp ha 4 (.bool false) KR KR ?_; clear ha a; intro a ha
                refine endl ?_
                refine thenN (hK3393 _ _ ?_); clear hK3393
                refine wp_ret ?_
                obtain rfl := Option.some.inj h
                exact finv ha _ _ rfl (.tmp (v := .bool false) KR .nil) (.bool false) rfl ⟨rfl, HW.pick [] [] (by decide) (by decide) rfl KR⟩
            · skip
              replace h := ite_neg' h hp3399
              replace ha := ha.bool 45 KR (str_eq_f hp3399)
              refine stepo ha 46 KR ?_; clear ha a; intro a ha
              refine stepo ha 47 KR ?_; clear ha a; intro a ha
              refine stepo ha 48 KR ?_; clear ha a; intro a ha
              refine stepo ha 49 KR ?_; clear ha a; intro a ha
              refine stepo ha 50 KR ?_; clear ha a; intro a ha
              refine stepp ha 51 (.bool false) KR KR ?_; clear ha a; intro a ha
              refine stepp ha 52 (.bool false) KR KR ?_; clear ha a; intro a ha
              refine stepo ha 53 KR ?_; clear ha a; intro a ha
              refine stepo ha 54 KR ?_; clear ha a; intro a ha
              refine stepo ha 55 KR ?_; clear ha a; intro a ha
              refine stepo ha 56 KR ?_; clear ha a; intro a ha
              refine stepo ha 57 KR ?_; clear ha a; intro a ha
              refine stepo ha 58 KR ?_; clear ha a; intro a ha
              refine stepo ha 59 KR ?_; clear ha a; intro a ha
              refine stepp ha 60 (.bool false) KR KR ?_; clear ha a; intro a ha
              refine stepp ha 61 (.bool false) KR KR ?_; clear ha a; intro a ha
              refine stepo ha 62 KR ?_; clear ha a; intro a ha
              refine stepo ha 63 KR ?_; clear ha a; intro a ha
              refine stepo ha 64 KR ?_; clear ha a; intro a ha
              refine stepo ha 65 KR ?_; clear ha a; intro a ha
              refine stepo ha 66 KR ?_; clear ha a; intro a ha
              refine stepp ha 67 (.bool false) KR KR ?_; clear ha a; intro a ha
              refine stepp ha 68 (.bool false) KR KR ?_; clear ha a; intro a ha
              refine stepo ha 69 KR ?_; clear ha a; intro a ha
              refine stepo ha 70 KR ?_; clear ha a; intro a ha
              refine stepo ha 71 KR ?_; clear ha a; intro a ha
              refine stepo ha 72 KR ?_; clear ha a; intro a ha
              refine stepo ha 73 KR ?_; clear ha a; intro a ha
              refine stepp ha 74 (.bool false) KR KR ?_; clear ha a; intro a ha
              refine stepp ha 75 (.bool false) KR KR ?_; clear ha a; intro a ha
              refine stepo ha 76 KR ?_; clear ha a; intro a ha
              refine stepo ha 77 KR ?_; clear ha a; intro a ha
              refine stepo ha 78 KR ?_; clear ha a; intro a ha
              refine stepo ha 79 KR ?_; clear ha a; intro a ha
              refine stepo ha 80 KR ?_; clear ha a; intro a ha
              refine stepp ha 81 (.bool false) KR KR ?_; clear ha a; intro a ha
              refine stepp ha 82 (.bool false) KR KR ?_; clear ha a; intro a ha
              refine stepo ha 83 KR ?_; clear ha a; intro a ha
              refine stepo ha 84 KR ?_; clear ha a; intro a ha
              refine stepo ha 85 KR ?_; clear ha a; intro a ha
              refine stepo ha 86 KR ?_; clear ha a; intro a ha
              refine stepo ha 87 KR ?_; clear ha a; intro a ha
              refine stepp ha 88 (.bool false) KR KR ?_; clear ha a; intro a ha
              refine stepp ha 89 (.bool false) KR KR ?_; clear ha a; intro a ha
              refine stepo ha 90 KR ?_; clear ha a; intro a ha
              refine stepo ha 91 KR ?_; clear ha a; intro a ha
              refine stepo ha 92 KR ?_; clear ha a; intro a ha
              refine stepo ha 93 KR ?_; clear ha a; intro a ha
              refine stepo ha 94 KR ?_; clear ha a; intro a ha
              refine stepp ha 95 (.bool false) KR KR ?_; clear ha a; intro a ha
              refine stepp ha 96 (.bool false) KR KR ?_; clear ha a; intro a ha
              refine stepo ha 97 KR ?_; clear ha a; intro a ha
              refine stepo ha 98 KR ?_; clear ha a; intro a ha
              refine stepo ha 99 KR ?_; clear ha a; intro a ha
              refine stepo ha 100 KR ?_; clear ha a; intro a ha
              refine stepo ha 101 KR ?_; clear ha a; intro a ha
              refine stepp ha 102 (.bool false) KR KR ?_; clear ha a; intro a ha
              refine stepp ha 4 (.bool false) KR KR ?_; clear ha a; intro a ha
              refine endl ?_
              refine thenN (hK3393 _ _ ?_); clear hK3393
              refine wp_ret ?_
              obtain rfl := Option.some.inj h
              exact finv ha _ _ rfl (.tmp (v := .bool false) KR .nil) (.bool false) rfl ⟨rfl, HW.pick [] [] (by decide) (by decide) rfl KR⟩
          · skip
            replace h := ite_neg' h hp3398
            replace ha := ha.bool 38 KR (ieq_f hp3398)
            refine stepo ha 39 KR ?_; clear ha a; intro a ha
            refine stepo ha 40 KR ?_; clear ha a; intro a ha
            refine stepo ha 41 KR ?_; clear ha a; intro a ha
            refine stepo ha 42 KR ?_; clear ha a; intro a ha
            refine stepo ha 43 KR ?_; clear ha a; intro a ha
            refine stepp ha 44 (.bool false) KR KR ?_; clear ha a; intro a ha
            refine stepp ha 45 (.bool false) KR KR ?_; clear ha a; intro a ha
            refine stepo ha 46 KR ?_; clear ha a; intro a ha
            refine stepo ha 47 KR ?_; clear ha a; intro a ha
            refine stepo ha 48 KR ?_; clear ha a; intro a ha
            refine stepo ha 49 KR ?_; clear ha a; intro a ha
            refine stepo ha 50 KR ?_; clear ha a; intro a ha
            refine stepp ha 51 (.bool false) KR KR ?_; clear ha a; intro a ha
            refine stepp ha 52 (.bool false) KR KR ?_; clear ha a; intro a ha
            refine stepo ha 53 KR ?_; clear ha a; intro a ha
            refine stepo ha 54 KR ?_; clear ha a; intro a ha
            refine stepo ha 55 KR ?_; clear ha a; intro a ha
            refine stepo ha 56 KR ?_; clear ha a; intro a ha
            refine stepo ha 57 KR ?_; clear ha a; intro a ha
            refine stepo ha 58 KR ?_; clear ha a; intro a ha
            refine stepo ha 59 KR ?_; clear ha a; intro a ha
            refine stepp ha 60 (.bool false) KR KR ?_; clear ha a; intro a ha
            refine stepp ha 61 (.bool false) KR KR ?_; clear ha a; intro a ha
            refine stepo ha 62 KR ?_; clear ha a; intro a ha
            refine stepo ha 63 KR ?_; clear ha a; intro a ha
            refine stepo ha 64 KR ?_; clear ha a; intro a ha
            refine stepo ha 65 KR ?_; clear ha a; intro a ha
            refine stepo ha 66 KR ?_; clear ha a; intro a ha
            refine stepp ha 67 (.bool false) KR KR ?_; clear ha a; intro a ha
            refine stepp ha 68 (.bool false) KR KR ?_; clear ha a; intro a ha
            refine stepo ha 69 KR ?_; clear ha a; intro a ha
            refine stepo ha 70 KR ?_; clear ha a; intro a ha
            refine stepo ha 71 KR ?_; clear ha a; intro a ha
            refine stepo ha 72 KR ?_; clear ha a; intro a ha
            refine stepo ha 73 KR ?_; clear ha a; intro a ha
            refine stepp ha 74 (.bool false) KR KR ?_; clear ha a; intro a ha
            refine stepp ha 75 (.bool false) KR KR ?_; clear ha a; intro a ha
            refine stepo ha 76 KR ?_; clear ha a; intro a ha
            refine stepo ha 77 KR ?_; clear ha a; intro a ha
            refine stepo ha 78 KR ?_; clear ha a; intro a ha
            refine stepo ha 79 KR ?_; clear ha a; intro a ha
            refine stepo ha 80 KR ?_; clear ha a; intro a ha
            refine stepp ha 81 (.bool false) KR KR ?_; clear ha a; intro a ha
            refine stepp ha 82 (.bool false) KR KR ?_; clear ha a; intro a ha
            refine stepo ha 83 KR ?_; clear ha a; intro a ha
            refine stepo ha 84 KR ?_; clear ha a; intro a ha
            refine stepo ha 85 KR ?_; clear ha a; intro a ha
            refine stepo ha 86 KR ?_; clear ha a; intro a ha
            refine stepo ha 87 KR ?_; clear ha a; intro a ha
            refine stepp ha 88 (.bool false) KR KR ?_; clear ha a; intro a ha
            refine stepp ha 89 (.bool false) KR KR ?_; clear ha a; intro a ha
            refine stepo ha 90 KR ?_; clear ha a; intro a ha
            refine stepo ha 91 KR ?_; clear ha a; intro a ha
            refine stepo ha 92 KR ?_; clear ha a; intro a ha
            refine stepo ha 93 KR ?_; clear ha a; intro a ha
            refine stepo ha 94 KR ?_; clear ha a; intro a ha
            refine stepp ha 95 (.bool false) KR KR ?_; clear ha a; intro a ha
            refine stepp ha 96 (.bool false) KR KR ?_; clear ha a; intro a ha
            refine stepo ha 97 KR ?_; clear ha a; intro a ha
            refine stepo ha 98 KR ?_; clear ha a; intro a ha
            refine stepo ha 99 KR ?_; clear ha a; intro a ha
            refine stepo ha 100 KR ?_; clear ha a; intro a ha
            refine stepo ha 101 KR ?_; clear ha a; intro a ha
            refine stepp ha 102 (.bool false) KR KR ?_; clear ha a; intro a ha
            refine stepp ha 4 (.bool false) KR KR ?_; clear ha a; intro a ha
            refine endl ?_
            refine thenN (hK3393 _ _ ?_); clear hK3393
            refine wp_ret ?_
            obtain rfl := Option.some.inj h
            exact finv ha _ _ rfl (.tmp (v := .bool false) KR .nil) (.bool false) rfl ⟨rfl, HW.pick [] [] (by decide) (by decide) rfl KR⟩
        · skip
          replace h := ite_neg' h hp3397
          replace ha := ha.bool 31 KR (ieq_f hp3397)
          refine stepo ha 32 KR ?_; clear ha a; intro a ha
          refine stepo ha 33 KR ?_; clear ha a; intro a ha
          refine stepo ha 34 KR ?_; clear ha a; intro a ha
          refine stepo ha 35 KR ?_; clear ha a; intro a ha
          refine stepo ha 36 KR ?_; clear ha a; intro a ha
          refine stepp ha 37 (.bool false) KR KR ?_; clear ha a; intro a ha
          refine stepp ha 38 (.bool false) KR KR ?_; clear ha a; intro a ha
          refine stepo ha 39 KR ?_; clear ha a; intro a ha
          refine stepo ha 40 KR ?_; clear ha a; intro a ha
          refine stepo ha 41 KR ?_; clear ha a; intro a ha
          refine stepo ha 42 KR ?_; clear ha a; intro a ha
          refine stepo ha 43 KR ?_; clear ha a; intro a ha
          refine stepp ha 44 (.bool false) KR KR ?_; clear ha a; intro a ha
          refine stepp ha 45 (.bool false) KR KR ?_; clear ha a; intro a ha
          refine stepo ha 46 KR ?_; clear ha a; intro a ha
          refine stepo ha 47 KR ?_; clear ha a; intro a ha
          refine stepo ha 48 KR ?_; clear ha a; intro a ha
          refine stepo ha 49 KR ?_; clear ha a; intro a ha
          refine stepo ha 50 KR ?_; clear ha a; intro a ha
          refine stepp ha 51 (.bool false) KR KR ?_; clear ha a; intro a ha
          refine stepp ha 52 (.bool false) KR KR ?_; clear ha a; intro a ha
          refine stepo ha 53 KR ?_; clear ha a; intro a ha
          refine stepo ha 54 KR ?_; clear ha a; intro a ha
          refine stepo ha 55 KR ?_; clear ha a; intro a ha
          refine stepo ha 56 KR ?_; clear ha a; intro a ha
          refine stepo ha 57 KR ?_; clear ha a; intro a ha
          refine stepo ha 58 KR ?_; clear ha a; intro a ha
          refine stepo ha 59 KR ?_; clear ha a; intro a ha
          refine stepp ha 60 (.bool false) KR KR ?_; clear ha a; intro a ha
          refine stepp ha 61 (.bool false) KR KR ?_; clear ha a; intro a ha
          refine stepo ha 62 KR ?_; clear ha a; intro a ha
          refine stepo ha 63 KR ?_; clear ha a; intro a ha
          refine stepo ha 64 KR ?_; clear ha a; intro a ha
          refine stepo ha 65 KR ?_; clear ha a; intro a ha
          refine stepo ha 66 KR ?_; clear ha a; intro a ha
          refine stepp ha 67 (.bool false) KR KR ?_; clear ha a; intro a ha
          refine stepp ha 68 (.bool false) KR KR ?_; clear ha a; intro a ha
          refine stepo ha 69 KR ?_; clear ha a; intro a ha
          refine stepo ha 70 KR ?_; clear ha a; intro a ha
          refine stepo ha 71 KR ?_; clear ha a; intro a ha
          refine stepo ha 72 KR ?_; clear ha a; intro a ha
          refine stepo ha 73 KR ?_; clear ha a; intro a ha
          refine stepp ha 74 (.bool false) KR KR ?_; clear ha a; intro a ha
          refine stepp ha 75 (.bool false) KR KR ?_; clear ha a; intro a ha
          refine stepo ha 76 KR ?_; clear ha a; intro a ha
          refine stepo ha 77 KR ?_; clear ha a; intro a ha
          refine stepo ha 78 KR ?_; clear ha a; intro a ha
          refine stepo ha 79 KR ?_; clear ha a; intro a ha
          refine stepo ha 80 KR ?_; clear ha a; intro a ha
          refine stepp ha 81 (.bool false) KR KR ?_; clear ha a; intro a ha
          refine stepp ha 82 (.bool false) KR KR ?_; clear ha a; intro a ha
          refine stepo ha 83 KR ?_; clear ha a; intro a ha
          refine stepo ha 84 KR ?_; clear ha a; intro a ha
          refine stepo ha 85 KR ?_; clear ha a; intro a ha
          refine stepo ha 86 KR ?_; clear ha a; intro a ha
          refine stepo ha 87 KR ?_; clear ha a; intro a ha
          refine stepp ha 88 (.bool false) KR KR ?_; clear ha a; intro a ha
          refine stepp ha 89 (.bool false) KR KR ?_; clear ha a; intro a ha
          refine stepo ha 90 KR ?_; clear ha a; intro a ha
          refine stepo ha 91 KR ?_; clear ha a; intro a ha
          refine stepo ha 92 KR ?_; clear ha a; intro a ha
          refine stepo ha 93 KR ?_; clear ha a; intro a ha
          refine stepo ha 94 KR ?_; clear ha a; intro a ha
          refine stepp ha 95 (.bool false) KR KR ?_; clear ha a; intro a ha
          refine stepp ha 96 (.bool false) KR KR ?_; clear ha a; intro a ha
          refine stepo ha 97 KR ?_; clear ha a; intro a ha
          refine stepo ha 98 KR ?_; clear ha a; intro a ha
          refine stepo ha 99 KR ?_; clear ha a; intro a ha
          refine stepo ha 100 KR ?_; clear ha a; intro a ha
          refine stepo ha 101 KR ?_; clear ha a; intro a ha
          refine stepp ha 102 (.bool false) KR KR ?_; clear ha a; intro a ha
          refine stepp ha 4 (.bool false) KR KR ?_; clear ha a; intro a ha
          refine endl ?_
          refine thenN (hK3393 _ _ ?_); clear hK3393
          refine wp_ret ?_
          obtain rfl := Option.some.inj h
          exact finv ha _ _ rfl (.tmp (v := .bool false) KR .nil) (.bool false) rfl ⟨rfl, HW.pick [] [] (by decide) (by decide) rfl KR⟩
      · skip
        replace h := ite_neg' h hp3396
        replace ha := ha.bool 24 KR (str_eq_f hp3396)
        refine stepo ha 25 KR ?_; clear ha a; intro a ha
        refine stepo ha 26 KR ?_; clear ha a; intro a ha
        refine stepo ha 27 KR ?_; clear ha a; intro a ha
        refine stepo ha 28 KR ?_; clear ha a; intro a ha
        refine stepo ha 29 KR ?_; clear ha a; intro a ha
        refine stepp ha 30 (.bool false) KR KR ?_; clear ha a; intro a ha
        refine stepp ha 31 (.bool false) KR KR ?_; clear ha a; intro a ha
        refine stepo ha 32 KR ?_; clear ha a; intro a ha
        refine stepo ha 33 KR ?_; clear ha a; intro a ha
        refine stepo ha 34 KR ?_; clear ha a; intro a ha
        refine stepo ha 35 KR ?_; clear ha a; intro a ha
        refine stepo ha 36 KR ?_; clear ha a; intro a ha
        refine stepp ha 37 (.bool false) KR KR ?_; clear ha a; intro a ha
        refine stepp ha 38 (.bool false) KR KR ?_; clear ha a; intro a ha
        refine stepo ha 39 KR ?_; clear ha a; intro a ha
        refine stepo ha 40 KR ?_; clear ha a; intro a ha
        refine stepo ha 41 KR ?_; clear ha a; intro a ha
        refine stepo ha 42 KR ?_; clear ha a; intro a ha
        refine stepo ha 43 KR ?_; clear ha a; intro a ha
        refine stepp ha 44 (.bool false) KR KR ?_; clear ha a; intro a ha
        refine stepp ha 45 (.bool false) KR KR ?_; clear ha a; intro a ha
        refine stepo ha 46 KR ?_; clear ha a; intro a ha
        refine stepo ha 47 KR ?_; clear ha a; intro a ha
        refine stepo ha 48 KR ?_; clear ha a; intro a ha
        refine stepo ha 49 KR ?_; clear ha a; intro a ha
        refine stepo ha 50 KR ?_; clear ha a; intro a ha
        refine stepp ha 51 (.bool false) KR KR ?_; clear ha a; intro a ha
        refine stepp ha 52 (.bool false) KR KR ?_; clear ha a; intro a ha
        refine stepo ha 53 KR ?_; clear ha a; intro a ha
        refine stepo ha 54 KR ?_; clear ha a; intro a ha
        refine stepo ha 55 KR ?_; clear ha a; intro a ha
        refine stepo ha 56 KR ?_; clear ha a; intro a ha
        refine stepo ha 57 KR ?_; clear ha a; intro a ha
        refine stepo ha 58 KR ?_; clear ha a; intro a ha
        refine stepo ha 59 KR ?_; clear ha a; intro a ha
        refine stepp ha 60 (.bool false) KR KR ?_; clear ha a; intro a ha
        refine stepp ha 61 (.bool false) KR KR ?_; clear ha a; intro a ha
        refine stepo ha 62 KR ?_; clear ha a; intro a ha
        refine stepo ha 63 KR ?_; clear ha a; intro a ha
        refine stepo ha 64 KR ?_; clear ha a; intro a ha
        refine stepo ha 65 KR ?_; clear ha a; intro a ha
        refine stepo ha 66 KR ?_; clear ha a; intro a ha
        refine stepp ha 67 (.bool false) KR KR ?_; clear ha a; intro a ha
        refine stepp ha 68 (.bool false) KR KR ?_; clear ha a; intro a ha
        refine stepo ha 69 KR ?_; clear ha a; intro a ha
        refine stepo ha 70 KR ?_; clear ha a; intro a ha
        refine stepo ha 71 KR ?_; clear ha a; intro a ha
        refine stepo ha 72 KR ?_; clear ha a; intro a ha
        refine stepo ha 73 KR ?_; clear ha a; intro a ha
        refine stepp ha 74 (.bool false) KR KR ?_; clear ha a; intro a ha
        refine stepp ha 75 (.bool false) KR KR ?_; clear ha a; intro a ha
        refine stepo ha 76 KR ?_; clear ha a; intro a ha
        refine stepo ha 77 KR ?_; clear ha a; intro a ha
        refine stepo ha 78 KR ?_; clear ha a; intro a ha
        refine stepo ha 79 KR ?_; clear ha a; intro a ha
        refine stepo ha 80 KR ?_; clear ha a; intro a ha
        refine stepp ha 81 (.bool false) KR KR ?_; clear ha a; intro a ha
        refine stepp ha 82 (.bool false) KR KR ?_; clear ha a; intro a ha
        refine stepo ha 83 KR ?_; clear ha a; intro a ha
        refine stepo ha 84 KR ?_; clear ha a; intro a ha
        refine stepo ha 85 KR ?_; clear ha a; intro a ha
        refine stepo ha 86 KR ?_; clear ha a; intro a ha
        refine stepo ha 87 KR ?_; clear ha a; intro a ha
        refine stepp ha 88 (.bool false) KR KR ?_; clear ha a; intro a ha
        refine stepp ha 89 (.bool false) KR KR ?_; clear ha a; intro a ha
        refine stepo ha 90 KR ?_; clear ha a; intro a ha
        refine stepo ha 91 KR ?_; clear ha a; intro a ha
        refine stepo ha 92 KR ?_; clear ha a; intro a ha
        refine stepo ha 93 KR ?_; clear ha a; intro a ha
        refine stepo ha 94 KR ?_; clear ha a; intro a ha
        refine stepp ha 95 (.bool false) KR KR ?_; clear ha a; intro a ha
        refine stepp ha 96 (.bool false) KR KR ?_; clear ha a; intro a ha
        refine stepo ha 97 KR ?_; clear ha a; intro a ha
        refine stepo ha 98 KR ?_; clear ha a; intro a ha
        refine stepo ha 99 KR ?_; clear ha a; intro a ha
        refine stepo ha 100 KR ?_; clear ha a; intro a ha
        refine stepo ha 101 KR ?_; clear ha a; intro a ha
        refine stepp ha 102 (.bool false) KR KR ?_; clear ha a; intro a ha
        refine stepp ha 4 (.bool false) KR KR ?_; clear ha a; intro a ha
        refine endl ?_
        refine thenN (hK3393 _ _ ?_); clear hK3393
        refine wp_ret ?_
        obtain rfl := Option.some.inj h
        exact finv ha _ _ rfl (.tmp (v := .bool false) KR .nil) (.bool false) rfl ⟨rfl, HW.pick [] [] (by decide) (by decide) rfl KR⟩
    · skip
      replace h := ite_neg' h hp3395
      replace ha := ha.bool 17 KR (ieq_f hp3395)
      refine stepo ha 18 KR ?_; clear ha a; intro a ha
      refine stepo ha 19 KR ?_; clear ha a; intro a ha
      refine stepo ha 20 KR ?_; clear ha a; intro a ha
      refine stepo ha 21 KR ?_; clear ha a; intro a ha
      refine stepo ha 22 KR ?_; clear ha a; intro a ha
      refine stepp ha 23 (.bool false) KR KR ?_; clear ha a; intro a ha
      refine stepp ha 24 (.bool false) KR KR ?_; clear ha a; intro a ha
      refine stepo ha 25 KR ?_; clear ha a; intro a ha
      refine stepo ha 26 KR ?_; clear ha a; intro a ha
      refine stepo ha 27 KR ?_; clear ha a; intro a ha
      refine stepo ha 28 KR ?_; clear ha a; intro a ha
      refine stepo ha 29 KR ?_; clear ha a; intro a ha
      refine stepp ha 30 (.bool false) KR KR ?_; clear ha a; intro a ha
      refine stepp ha 31 (.bool false) KR KR ?_; clear ha a; intro a ha
      refine stepo ha 32 KR ?_; clear ha a; intro a ha
      refine stepo ha 33 KR ?_; clear ha a; intro a ha
      refine stepo ha 34 KR ?_; clear ha a; intro a ha
      refine stepo ha 35 KR ?_; clear ha a; intro a ha
      refine stepo ha 36 KR ?_; clear ha a; intro a ha
      refine stepp ha 37 (.bool false) KR KR ?_; clear ha a; intro a ha
      refine stepp ha 38 (.bool false) KR KR ?_; clear ha a; intro a ha
      refine stepo ha 39 KR ?_; clear ha a; intro a ha
      refine stepo ha 40 KR ?_; clear ha a; intro a ha
      refine stepo ha 41 KR ?_; clear ha a; intro a ha
      refine stepo ha 42 KR ?_; clear ha a; intro a ha
      refine stepo ha 43 KR ?_; clear ha a; intro a ha
      refine stepp ha 44 (.bool false) KR KR ?_; clear ha a; intro a ha
      refine stepp ha 45 (.bool false) KR KR ?_; clear ha a; intro a ha
      refine stepo ha 46 KR ?_; clear ha a; intro a ha
      refine stepo ha 47 KR ?_; clear ha a; intro a ha
      refine stepo ha 48 KR ?_; clear ha a; intro a ha
      refine stepo ha 49 KR ?_; clear ha a; intro a ha
      refine stepo ha 50 KR ?_; clear ha a; intro a ha
      refine stepp ha 51 (.bool false) KR KR ?_; clear ha a; intro a ha
      refine stepp ha 52 (.bool false) KR KR ?_; clear ha a; intro a ha
      refine stepo ha 53 KR ?_; clear ha a; intro a ha
      refine stepo ha 54 KR ?_; clear ha a; intro a ha
      refine stepo ha 55 KR ?_; clear ha a; intro a ha
      refine stepo ha 56 KR ?_; clear ha a; intro a ha
      refine stepo ha 57 KR ?_; clear ha a; intro a ha
      refine stepo ha 58 KR ?_; clear ha a; intro a ha
      refine stepo ha 59 KR ?_; clear ha a; intro a ha
      refine stepp ha 60 (.bool false) KR KR ?_; clear ha a; intro a ha
      refine stepp ha 61 (.bool false) KR KR ?_; clear ha a; intro a ha
      refine stepo ha 62 KR ?_; clear ha a; intro a ha
      refine stepo ha 63 KR ?_; clear ha a; intro a ha
      refine stepo ha 64 KR ?_; clear ha a; intro a ha
      refine stepo ha 65 KR ?_; clear ha a; intro a ha
      refine stepo ha 66 KR ?_; clear ha a; intro a ha
      refine stepp ha 67 (.bool false) KR KR ?_; clear ha a; intro a ha
      refine stepp ha 68 (.bool false) KR KR ?_; clear ha a; intro a ha
      refine stepo ha 69 KR ?_; clear ha a; intro a ha
      refine stepo ha 70 KR ?_; clear ha a; intro a ha
      refine stepo ha 71 KR ?_; clear ha a; intro a ha
      refine stepo ha 72 KR ?_; clear ha a; intro a ha
      refine stepo ha 73 KR ?_; clear ha a; intro a ha
      refine stepp ha 74 (.bool false) KR KR ?_; clear ha a; intro a ha
      refine stepp ha 75 (.bool false) KR KR ?_; clear ha a; intro a ha
      refine stepo ha 76 KR ?_; clear ha a; intro a ha
      refine stepo ha 77 KR ?_; clear ha a; intro a ha
      refine stepo ha 78 KR ?_; clear ha a; intro a ha
      refine stepo ha 79 KR ?_; clear ha a; intro a ha
      refine stepo ha 80 KR ?_; clear ha a; intro a ha
      refine stepp ha 81 (.bool false) KR KR ?_; clear ha a; intro a ha
      refine stepp ha 82 (.bool false) KR KR ?_; clear ha a; intro a ha
      refine stepo ha 83 KR ?_; clear ha a; intro a ha
      refine stepo ha 84 KR ?_; clear ha a; intro a ha
      refine stepo ha 85 KR ?_; clear ha a; intro a ha
      refine stepo ha 86 KR ?_; clear ha a; intro a ha
      refine stepo ha 87 KR ?_; clear ha a; intro a ha
      refine stepp ha 88 (.bool false) KR KR ?_; clear ha a; intro a ha
      refine stepp ha 89 (.bool false) KR KR ?_; clear ha a; intro a ha
      refine stepo ha 90 KR ?_; clear ha a; intro a ha
      refine stepo ha 91 KR ?_; clear ha a; intro a ha
      refine stepo ha 92 KR ?_; clear ha a; intro a ha
      refine stepo ha 93 KR ?_; clear ha a; intro a ha
      refine stepo ha 94 KR ?_; clear ha a; intro a ha
      refine stepp ha 95 (.bool false) KR KR ?_; clear ha a; intro a ha
      refine stepp ha 96 (.bool false) KR KR ?_; clear ha a; intro a ha
      refine stepo ha 97 KR ?_; clear ha a; intro a ha
      refine stepo ha 98 KR ?_; clear ha a; intro a ha
      refine stepo ha 99 KR ?_; clear ha a; intro a ha
      refine stepo ha 100 KR ?_; clear ha a; intro a ha
      refine stepo ha 101 KR ?_; clear ha a; intro a ha
      refine stepp ha 102 (.bool false) KR KR ?_; clear ha a; intro a ha
      refine stepp ha 4 (.bool false) KR KR ?_; clear ha a; intro a ha
      refine endl ?_
      refine thenN (hK3393 _ _ ?_); clear hK3393
      refine wp_ret ?_
      obtain rfl := Option.some.inj h
      exact finv ha _ _ rfl (.tmp (v := .bool false) KR .nil) (.bool false) rfl ⟨rfl, HW.pick [] [] (by decide) (by decide) rfl KR⟩
  · skip
    replace h := ite_neg' h hp3394
    replace ha := ha.bool 10 KR (ieq_f hp3394)
    refine stepo ha 11 KR ?_; clear ha a; intro a ha
    refine stepo ha 12 KR ?_; clear ha a; intro a ha
    refine stepo ha 13 KR ?_; clear ha a; intro a ha
    refine stepo ha 14 KR ?_; clear ha a; intro a ha
    refine stepo ha 15 KR ?_; clear ha a; intro a ha
    refine stepp ha 16 (.bool false) KR KR ?_; clear ha a; intro a ha
    refine stepp ha 17 (.bool false) KR KR ?_; clear ha a; intro a ha
    refine stepo ha 18 KR ?_; clear ha a; intro a ha
    refine stepo ha 19 KR ?_; clear ha a; intro a ha
    refine stepo ha 20 KR ?_; clear ha a; intro a ha
    refine stepo ha 21 KR ?_; clear ha a; intro a ha
    refine stepo ha 22 KR ?_; clear ha a; intro a ha
    refine stepp ha 23 (.bool false) KR KR ?_; clear ha a; intro a ha
    refine stepp ha 24 (.bool false) KR KR ?_; clear ha a; intro a ha
    refine stepo ha 25 KR ?_; clear ha a; intro a ha
    refine stepo ha 26 KR ?_; clear ha a; intro a ha
    refine stepo ha 27 KR ?_; clear ha a; intro a ha
    refine stepo ha 28 KR ?_; clear ha a; intro a ha
    refine stepo ha 29 KR ?_; clear ha a; intro a ha
    refine stepp ha 30 (.bool false) KR KR ?_; clear ha a; intro a ha
    refine stepp ha 31 (.bool false) KR KR ?_; clear ha a; intro a ha
    refine stepo ha 32 KR ?_; clear ha a; intro a ha
    refine stepo ha 33 KR ?_; clear ha a; intro a ha
    refine stepo ha 34 KR ?_; clear ha a; intro a ha
    refine stepo ha 35 KR ?_; clear ha a; intro a ha
    refine stepo ha 36 KR ?_; clear ha a; intro a ha
    refine stepp ha 37 (.bool false) KR KR ?_; clear ha a; intro a ha
    refine stepp ha 38 (.bool false) KR KR ?_; clear ha a; intro a ha
    refine stepo ha 39 KR ?_; clear ha a; intro a ha
    refine stepo ha 40 KR ?_; clear ha a; intro a ha
    refine stepo ha 41 KR ?_; clear ha a; intro a ha
    refine stepo ha 42 KR ?_; clear ha a; intro a ha
    refine stepo ha 43 KR ?_; clear ha a; intro a ha
    refine stepp ha 44 (.bool false) KR KR ?_; clear ha a; intro a ha
    refine stepp ha 45 (.bool false) KR KR ?_; clear ha a; intro a ha
    refine stepo ha 46 KR ?_; clear ha a; intro a ha
    refine stepo ha 47 KR ?_; clear ha a; intro a ha
    refine stepo ha 48 KR ?_; clear ha a; intro a ha
    refine stepo ha 49 KR ?_; clear ha a; intro a ha
    refine stepo ha 50 KR ?_; clear ha a; intro a ha
    refine stepp ha 51 (.bool false) KR KR ?_; clear ha a; intro a ha
    refine stepp ha 52 (.bool false) KR KR ?_; clear ha a; intro a ha
    refine stepo ha 53 KR ?_; clear ha a; intro a ha
    refine stepo ha 54 KR ?_; clear ha a; intro a ha
    refine stepo ha 55 KR ?_; clear ha a; intro a ha
    refine stepo ha 56 KR ?_; clear ha a; intro a ha
    refine stepo ha 57 KR ?_; clear ha a; intro a ha
    refine stepo ha 58 KR ?_; clear ha a; intro a ha
    refine stepo ha 59 KR ?_; clear ha a; intro a ha
    refine stepp ha 60 (.bool false) KR KR ?_; clear ha a; intro a ha
    refine stepp ha 61 (.bool false) KR KR ?_; clear ha a; intro a ha
    refine stepo ha 62 KR ?_; clear ha a; intro a ha
    refine stepo ha 63 KR ?_; clear ha a; intro a ha
    refine stepo ha 64 KR ?_; clear ha a; intro a ha
    refine stepo ha 65 KR ?_; clear ha a; intro a ha
    refine stepo ha 66 KR ?_; clear ha a; intro a ha
    refine stepp ha 67 (.bool false) KR KR ?_; clear ha a; intro a ha
    refine stepp ha 68 (.bool false) KR KR ?_; clear ha a; intro a ha
    refine stepo ha 69 KR ?_; clear ha a; intro a ha
    refine stepo ha 70 KR ?_; clear ha a; intro a ha
    refine stepo ha 71 KR ?_; clear ha a; intro a ha
    refine stepo ha 72 KR ?_; clear ha a; intro a ha
    refine stepo ha 73 KR ?_; clear ha a; intro a ha
    refine stepp ha 74 (.bool false) KR KR ?_; clear ha a; intro a ha
    refine stepp ha 75 (.bool false) KR KR ?_; clear ha a; intro a ha
    refine stepo ha 76 KR ?_; clear ha a; intro a ha
    refine stepo ha 77 KR ?_; clear ha a; intro a ha
    refine stepo ha 78 KR ?_; clear ha a; intro a ha
    refine stepo ha 79 KR ?_; clear ha a; intro a ha
    refine stepo ha 80 KR ?_; clear ha a; intro a ha
    refine stepp ha 81 (.bool false) KR KR ?_; clear ha a; intro a ha
    refine stepp ha 82 (.bool false) KR KR ?_; clear ha a; intro a ha
    refine stepo ha 83 KR ?_; clear ha a; intro a ha
    refine stepo ha 84 KR ?_; clear ha a; intro a ha
    refine stepo ha 85 KR ?_; clear ha a; intro a ha
    refine stepo ha 86 KR ?_; clear ha a; intro a ha
    refine stepo ha 87 KR ?_; clear ha a; intro a ha
    refine stepp ha 88 (.bool false) KR KR ?_; clear ha a; intro a ha
    refine stepp ha 89 (.bool false) KR KR ?_; clear ha a; intro a ha
    refine stepo ha 90 KR ?_; clear ha a; intro a ha
    refine stepo ha 91 KR ?_; clear ha a; intro a ha
    refine stepo ha 92 KR ?_; clear ha a; intro a ha
    refine stepo ha 93 KR ?_; clear ha a; intro a ha
    refine stepo ha 94 KR ?_; clear ha a; intro a ha
    refine stepp ha 95 (.bool false) KR KR ?_; clear ha a; intro a ha
    refine stepp ha 96 (.bool false) KR KR ?_; clear ha a; intro a ha
    refine stepo ha 97 KR ?_; clear ha a; intro a ha
    refine stepo ha 98 KR ?_; clear ha a; intro a ha
    refine stepo ha 99 KR ?_; clear ha a; intro a ha
    refine stepo ha 100 KR ?_; clear ha a; intro a ha
    refine stepo ha 101 KR ?_; clear ha a; intro a ha
    refine stepp ha 102 (.bool false) KR KR ?_; clear ha a; intro a ha
    refine stepp ha 4 (.bool false) KR KR ?_; clear ha a; intro a ha
    refine endl ?_
    refine thenN (hK3393 _ _ ?_); clear hK3393
    refine wp_ret ?_
    obtain rfl := Option.some.inj h
    exact finv ha _ _ rfl (.tmp (v := .bool false) KR .nil) (.bool false) rfl ⟨rfl, HW.pick [] [] (by decide) (by decide) rfl KR⟩
end Go.Proofs.YthjjbkgifelooaaDoor.F
