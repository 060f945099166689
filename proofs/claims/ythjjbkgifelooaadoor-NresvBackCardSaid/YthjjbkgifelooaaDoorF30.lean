/- headgate/headgateref27.Size, headgate/headgateref01.Bits, headgate/headgateref27.bits: plain functions, and that the calls come to what they say. No condition. -/
import Derived.Test.YthjjbkgifelooaaDoorFT
namespace Go.Proofs.YthjjbkgifelooaaDoor.F
open Go Go.RowKit Go.Proofs.YthjjbkgifelooaaDoor.X
set_option linter.unusedVariables false
set_option linter.unusedSimpArgs false
/-! ### headgate/headgateref27.Size: function 30 -/
def headgateref27_Size.f (a0 : Int) : Option Int :=
  if a0 = 13 then (some 16) else (if a0 = 17 then (some 16) else (if a0 = 21 then (some 8) else (some 0)))
set_option maxRecDepth 100000 in
set_option maxHeartbeats 4000000 in
theorem headgateref27_Size.calls (a0 : Int)  (r : Int) (w : World)  (h : headgateref27_Size.f a0 = some r) :
    Calls Tryd.prog 30 #[.int .i64 a0] w (fun e W' => e = .returned (.int .i64 r) ∧ Wd w W' [] [] ) := by
  refine sxstart (n := 9) (l := [(0, .int .i64 a0)]) Tryd.func30 rfl rfl (Nat.le_of_ble_eq_true KR) (subsA_cons rfl (subsA_nil _)) ?_
  intro a ha
  have HW := Wd.refl w
  unfold headgateref27_Size.f at h
  refine wp_seq_k (fun K2968 hK2969 => ?_)
  refine wp_region_lit ?_
  refine stepp ha 2 (.int .i64 0) KR KR ?_; clear ha a; intro a ha
  refine endl ?_
  refine thenN (hK2969 _ _ ?_); clear hK2969
  refine wp_seq_k (fun K2970 hK2971 => ?_)
  refine wp_seq_k (fun K2972 hK2973 => ?_)
  refine wp_region_lit ?_
  refine stepp ha 3 (.int .i64 a0) KR KR ?_; clear ha a; intro a ha
  refine endl ?_
  refine thenN (hK2973 _ _ ?_); clear hK2973
  refine wp_block ?_
  refine wp_seq_k (fun K2974 hK2975 => ?_)
  refine wp_seq_k (fun K2976 hK2977 => ?_)
  refine wp_region_lit ?_
  refine stepp ha 5 (.bool (a0 == 13)) KR KR ?_; clear ha a; intro a ha
  refine stepp ha 4 (.bool (a0 == 13)) KR KR ?_; clear ha a; intro a ha
  refine endl ?_
  refine thenN (hK2977 _ _ ?_); clear hK2977
  by_cases hp2978 : a0 = 13
  · skip
    replace h := ite_pos' h hp2978
    refine condT ha KR KR (t := (a0 == 13)) (ieq_t hp2978) ?_
    refine wp_skip ?_
    refine thenN (hK2975 _ _ ?_); clear hK2975
    refine condT ha KR KR (t := (a0 == 13)) (ieq_t hp2978) ?_
    refine wp_seq_k (fun K2979 hK2980 => ?_)
    refine wp_region_lit ?_
    refine stepp ha 2 (.int .i64 16) KR KR ?_; clear ha a; intro a ha
    refine endl ?_
    refine thenN (hK2980 _ _ ?_); clear hK2980
    refine wp_ret ?_
    refine blkR ?_
    refine thenR ?_
    obtain rfl := Option.some.inj h
    exact finv ha _ _ rfl (.tmp (v := .int .i64 16) KR .nil) (.int .i64 16) rfl ⟨rfl, HW.pick [] [] (by decide) (by decide) rfl KR⟩
  · skip
    replace h := ite_neg' h hp2978
    refine condF ha KR KR (t := (a0 == 13)) (ieq_f hp2978) ?_
    refine wp_region_lit ?_
    refine stepp ha 6 (.bool (a0 == 17)) KR KR ?_; clear ha a; intro a ha
    refine stepp ha 4 (.bool (a0 == 17)) KR KR ?_; clear ha a; intro a ha
    refine endl ?_
    refine thenN (hK2975 _ _ ?_); clear hK2975
    by_cases hp2981 : a0 = 17
    · skip
      replace h := ite_pos' h hp2981
      refine condT ha KR KR (t := (a0 == 17)) (ieq_t hp2981) ?_
      refine wp_seq_k (fun K2982 hK2983 => ?_)
      refine wp_region_lit ?_
      refine stepp ha 2 (.int .i64 16) KR KR ?_; clear ha a; intro a ha
      refine endl ?_
      refine thenN (hK2983 _ _ ?_); clear hK2983
      refine wp_ret ?_
      refine blkR ?_
      refine thenR ?_
      obtain rfl := Option.some.inj h
      exact finv ha _ _ rfl (.tmp (v := .int .i64 16) KR .nil) (.int .i64 16) rfl ⟨rfl, HW.pick [] [] (by decide) (by decide) rfl KR⟩
    · skip
      replace h := ite_neg' h hp2981
      refine condF ha KR KR (t := (a0 == 17)) (ieq_f hp2981) ?_
      refine wp_seq_k (fun K2984 hK2985 => ?_)
      refine wp_region_lit ?_
      refine stepp ha 8 (.bool (a0 == 21)) KR KR ?_; clear ha a; intro a ha
      refine stepp ha 7 (.bool (a0 == 21)) KR KR ?_; clear ha a; intro a ha
      refine endl ?_
      refine thenN (hK2985 _ _ ?_); clear hK2985
      by_cases hp2986 : a0 = 21
      · skip
        replace h := ite_pos' h hp2986
        refine condT ha KR KR (t := (a0 == 21)) (ieq_t hp2986) ?_
        refine wp_seq_k (fun K2987 hK2988 => ?_)
        refine wp_region_lit ?_
        refine stepp ha 2 (.int .i64 8) KR KR ?_; clear ha a; intro a ha
        refine endl ?_
        refine thenN (hK2988 _ _ ?_); clear hK2988
        refine wp_ret ?_
        refine blkR ?_
        refine thenR ?_
        obtain rfl := Option.some.inj h
        exact finv ha _ _ rfl (.tmp (v := .int .i64 8) KR .nil) (.int .i64 8) rfl ⟨rfl, HW.pick [] [] (by decide) (by decide) rfl KR⟩
      · skip
        replace h := ite_neg' h hp2986
        refine condF ha KR KR (t := (a0 == 21)) (ieq_f hp2986) ?_
        refine wp_skip ?_
        refine blkN ?_
        refine thenN (hK2971 _ _ ?_); clear hK2971
        refine wp_seq_k (fun K2989 hK2990 => ?_)
        refine wp_region_lit ?_
        refine stepp ha 2 (.int .i64 0) KR KR ?_; clear ha a; intro a ha
        refine endl ?_
        refine thenN (hK2990 _ _ ?_); clear hK2990
        refine wp_ret ?_
        obtain rfl := Option.some.inj h
        exact finv ha _ _ rfl (.tmp (v := .int .i64 0) KR .nil) (.int .i64 0) rfl ⟨rfl, HW.pick [] [] (by decide) (by decide) rfl KR⟩
/-! ### headgate/headgateref01.Bits: function 81 -/
def headgateref01_Bits.b1 (K : Nat) (a2 : Int) (again3078 : Int → Int → Int → Int → Option Int) (x3079 : Int) (x3080 : Int) (x3081 : Int) (x3082 : Int) : Option Int :=
  if x3082 < a2 then (again3078 (IntKind.wrap .u64 (Int.tdiv x3079 2)) (IntKind.wrap .u64 (x3080 + (IntKind.wrap .u64 ((Int.tmod x3079 2) * x3081)))) (IntKind.wrap .u64 (x3081 * 2)) (IntKind.wrap .i64 (x3082 + 1))) else (some x3080)
def headgateref01_Bits.l1 (K : Nat) (a2 : Int) : Nat → Int → Int → Int → Int → Option Int
  | 0, _, _, _, _ => none
  | k_ + 1, x3079, x3080, x3081, x3082 => headgateref01_Bits.b1 K a2 (headgateref01_Bits.l1 K a2 k_) x3079 x3080 x3081 x3082
def headgateref01_Bits.b0 (K : Nat) (a1 : Int) (a2 : Int) (again3031 : Int → Int → Option Int) (x3032 : Int) (x3033 : Int) : Option Int :=
  if x3033 < a1 then (again3031 (IntKind.wrap .u64 (Int.tdiv x3032 2)) (IntKind.wrap .i64 (x3033 + 1))) else (headgateref01_Bits.l1 K a2 K x3032 0 1 0)
def headgateref01_Bits.l0 (K : Nat) (a1 : Int) (a2 : Int) : Nat → Int → Int → Option Int
  | 0, _, _ => none
  | k_ + 1, x3032, x3033 => headgateref01_Bits.b0 K a1 a2 (headgateref01_Bits.l0 K a1 a2 k_) x3032 x3033
def headgateref01_Bits.f (K : Nat) (a0 : Int) (a1 : Int) (a2 : Int) : Option Int :=
  if a1 < 0 then (some 0) else (if a2 < 1 then (some 0) else (if a1 > 63 then (some 0) else (if a2 > (IntKind.wrap .i64 (64 - a1)) then (some 0) else (headgateref01_Bits.l0 K a1 a2 K a0 0))))
set_option maxRecDepth 100000 in
set_option maxHeartbeats 4000000 in
theorem headgateref01_Bits.calls (K : Nat) (a0 : Int) (a1 : Int) (a2 : Int)  (r : Int) (w : World)  (h : headgateref01_Bits.f K a0 a1 a2 = some r) :
    Calls Tryd.prog 81 #[.int .u64 a0, .int .i64 a1, .int .i64 a2] w (fun e W' => e = .returned (.int .u64 r) ∧ Wd w W' [] [] ) := by
  refine sxstart (n := 50) (l := [(0, .int .u64 a0), (1, .int .i64 a1), (2, .int .i64 a2)]) Tryd.func81 rfl rfl (Nat.le_of_ble_eq_true KR) (subsA_cons rfl (subsA_cons rfl (subsA_cons rfl (subsA_nil _)))) ?_
  intro a ha
  have HW := Wd.refl w
  unfold headgateref01_Bits.f at h
  refine wp_seq_k (fun K2991 hK2992 => ?_)
  refine wp_region_lit ?_
  refine stepp ha 6 (.int .u64 0) KR KR ?_; clear ha a; intro a ha
  refine endl ?_
  refine thenN (hK2992 _ _ ?_); clear hK2992
  refine wp_seq_k (fun K2993 hK2994 => ?_)
  refine wp_seq_k (fun K2995 hK2996 => ?_)
  refine wp_region_lit ?_
  refine stepp ha 11 (.int .i64 a1) KR KR ?_; clear ha a; intro a ha
  refine stepp ha 12 (.bool (decide (a1 < 0))) KR KR ?_; clear ha a; intro a ha
  refine stepp ha 13 (.bool (decide (a1 < 0))) KR KR ?_; clear ha a; intro a ha
  by_cases hp2997 : a1 < 0
  · skip
    replace h := ite_pos' h hp2997
    replace ha := ha.bool 13 KR (decide_eq_true hp2997)
    refine stepo ha 14 KR ?_; clear ha a; intro a ha
    refine stepo ha 15 KR ?_; clear ha a; intro a ha
    refine stepp ha 16 (.bool true) KR KR ?_; clear ha a; intro a ha
    refine stepp ha 17 (.bool true) KR KR ?_; clear ha a; intro a ha
    refine stepo ha 18 KR ?_; clear ha a; intro a ha
    refine stepo ha 19 KR ?_; clear ha a; intro a ha
    refine stepp ha 20 (.bool true) KR KR ?_; clear ha a; intro a ha
    refine stepp ha 21 (.bool true) KR KR ?_; clear ha a; intro a ha
    refine stepo ha 22 KR ?_; clear ha a; intro a ha
    refine stepo ha 23 KR ?_; clear ha a; intro a ha
    refine stepo ha 24 KR ?_; clear ha a; intro a ha
    refine stepo ha 25 KR ?_; clear ha a; intro a ha
    refine stepp ha 26 (.bool true) KR KR ?_; clear ha a; intro a ha
    refine endl ?_
    refine thenN (hK2996 _ _ ?_); clear hK2996
    refine condT ha KR KR (t := true) (rfl) ?_
    refine wp_seq_k (fun K3000 hK3001 => ?_)
    refine wp_region_lit ?_
    refine stepp ha 6 (.int .u64 0) KR KR ?_; clear ha a; intro a ha
    refine endl ?_
    refine thenN (hK3001 _ _ ?_); clear hK3001
    refine wp_ret ?_
    refine thenR ?_
    obtain rfl := Option.some.inj h
    exact finv ha _ _ rfl (.tmp (v := .int .u64 0) KR .nil) (.int .u64 0) rfl ⟨rfl, HW.pick [] [] (by decide) (by decide) rfl KR⟩
  · skip
    replace h := ite_neg' h hp2997
    replace ha := ha.bool 13 KR (decide_eq_false hp2997)
    refine stepp ha 14 (.int .i64 a2) KR KR ?_; clear ha a; intro a ha
    refine stepp ha 15 (.bool (decide (a2 < 1))) KR KR ?_; clear ha a; intro a ha
    refine stepp ha 16 (.bool (decide (a2 < 1))) KR KR ?_; clear ha a; intro a ha
    refine stepp ha 17 (.bool (decide (a2 < 1))) KR KR ?_; clear ha a; intro a ha
    by_cases hp2998 : a2 < 1
    · skip
      replace h := ite_pos' h hp2998
      replace ha := ha.bool 17 KR (decide_eq_true hp2998)
      refine stepo ha 18 KR ?_; clear ha a; intro a ha
      refine stepo ha 19 KR ?_; clear ha a; intro a ha
      refine stepp ha 20 (.bool true) KR KR ?_; clear ha a; intro a ha
      refine stepp ha 21 (.bool true) KR KR ?_; clear ha a; intro a ha
      refine stepo ha 22 KR ?_; clear ha a; intro a ha
      refine stepo ha 23 KR ?_; clear ha a; intro a ha
      refine stepo ha 24 KR ?_; clear ha a; intro a ha
      refine stepo ha 25 KR ?_; clear ha a; intro a ha
      refine stepp ha 26 (.bool true) KR KR ?_; clear ha a; intro a ha
      refine endl ?_
      refine thenN (hK2996 _ _ ?_); clear hK2996
      refine condT ha KR KR (t := true) (rfl) ?_
      refine wp_seq_k (fun K3002 hK3003 => ?_)
      refine wp_region_lit ?_
      refine stepp ha 6 (.int .u64 0) KR KR ?_; clear ha a; intro a ha
      refine endl ?_
      refine thenN (hK3003 _ _ ?_); clear hK3003
      refine wp_ret ?_
      refine thenR ?_
      obtain rfl := Option.some.inj h
      exact finv ha _ _ rfl (.tmp (v := .int .u64 0) KR .nil) (.int .u64 0) rfl ⟨rfl, HW.pick [] [] (by decide) (by decide) rfl KR⟩
    · skip
      replace h := ite_neg' h hp2998
      replace ha := ha.bool 17 KR (decide_eq_false hp2998)
      refine stepp ha 18 (.int .i64 a1) KR KR ?_; clear ha a; intro a ha
      refine stepp ha 19 (.bool (decide (a1 > 63))) KR KR ?_; clear ha a; intro a ha
      refine stepp ha 20 (.bool (decide (a1 > 63))) KR KR ?_; clear ha a; intro a ha
      refine stepp ha 21 (.bool (decide (a1 > 63))) KR KR ?_; clear ha a; intro a ha
      by_cases hp2999 : a1 > 63
      · skip
        replace h := ite_pos' h hp2999
        replace ha := ha.bool 21 KR (decide_eq_true hp2999)
        refine stepo ha 22 KR ?_; clear ha a; intro a ha
        refine stepo ha 23 KR ?_; clear ha a; intro a ha
        refine stepo ha 24 KR ?_; clear ha a; intro a ha
        refine stepo ha 25 KR ?_; clear ha a; intro a ha
        refine stepp ha 26 (.bool true) KR KR ?_; clear ha a; intro a ha
        refine endl ?_
        refine thenN (hK2996 _ _ ?_); clear hK2996
        refine condT ha KR KR (t := true) (rfl) ?_
        refine wp_seq_k (fun K3004 hK3005 => ?_)
        refine wp_region_lit ?_
        refine stepp ha 6 (.int .u64 0) KR KR ?_; clear ha a; intro a ha
        refine endl ?_
        refine thenN (hK3005 _ _ ?_); clear hK3005
        refine wp_ret ?_
        refine thenR ?_
        obtain rfl := Option.some.inj h
        exact finv ha _ _ rfl (.tmp (v := .int .u64 0) KR .nil) (.int .u64 0) rfl ⟨rfl, HW.pick [] [] (by decide) (by decide) rfl KR⟩
      · skip
        replace h := ite_neg' h hp2999
        replace ha := ha.bool 21 KR (decide_eq_false hp2999)
        refine stepp ha 22 (.int .i64 a2) KR KR ?_; clear ha a; intro a ha
        refine stepp ha 23 (.int .i64 a1) KR KR ?_; clear ha a; intro a ha
        refine stepp ha 24 (.int .i64 (IntKind.wrap .i64 (64 - a1))) KR KR ?_; clear ha a; intro a ha
        refine stepp ha 25 (.bool (decide (a2 > (IntKind.wrap .i64 (64 - a1))))) KR KR ?_; clear ha a; intro a ha
        refine stepp ha 26 (.bool (decide (a2 > (IntKind.wrap .i64 (64 - a1))))) KR KR ?_; clear ha a; intro a ha
        refine endl ?_
        refine thenN (hK2996 _ _ ?_); clear hK2996
        by_cases hp3006 : a2 > (IntKind.wrap .i64 (64 - a1))
        · skip
          replace h := ite_pos' h hp3006
          refine condT ha KR KR (t := decide (a2 > (IntKind.wrap .i64 (64 - a1)))) (decide_eq_true hp3006) ?_
          refine wp_seq_k (fun K3007 hK3008 => ?_)
          refine wp_region_lit ?_
          refine stepp ha 6 (.int .u64 0) KR KR ?_; clear ha a; intro a ha
          refine endl ?_
          refine thenN (hK3008 _ _ ?_); clear hK3008
          refine wp_ret ?_
          refine thenR ?_
          obtain rfl := Option.some.inj h
          exact finv ha _ _ rfl (.tmp (v := .int .u64 0) KR .nil) (.int .u64 0) rfl ⟨rfl, HW.pick [] [] (by decide) (by decide) rfl KR⟩
        · skip
          replace h := ite_neg' h hp3006
          refine condF ha KR KR (t := decide (a2 > (IntKind.wrap .i64 (64 - a1)))) (decide_eq_false hp3006) ?_
          refine wp_skip ?_
          refine thenN (hK2994 _ _ ?_); clear hK2994
          refine wp_seq_k (fun K3009 hK3010 => ?_)
          refine wp_seq_k (fun K3011 hK3012 => ?_)
          refine wp_region_lit ?_
          refine stepp ha 7 (.int .i64 0) KR KR ?_; clear ha a; intro a ha
          refine endl ?_
          refine thenN (hK3012 _ _ ?_); clear hK3012
          refine wp_block ?_
          refine loopk (fun k => fun a W3034 => ∃ (x3032 : Int), ∃ (x3033 : Int), headgateref01_Bits.l0 K a1 a2 k x3032 x3033 = some r ∧ Has 50 [(0, .int .u64 x3032), (1, .int .i64 a1), (2, .int .i64 a2), (7, .int .i64 x3033)] a ∧ Wd w W3034 [] []) K ?_ ?_
          · skip
            exact ⟨a0, 0, h, ha.sub (subs_cons KR (subs_cons KR (subs_cons KR (subs_cons KR (subs_nil _))))), HW.pick [] [] (by decide) (by decide) KR KR⟩
          · skip
            intro k a W3034 hI
            obtain ⟨x3032, x3033, h, ha, HW⟩ := hI
            cases k with
            | zero => exact (none_some (show none = some r from h)).elim
            | succ k3035 =>
              replace h : headgateref01_Bits.b0 K a1 a2 (headgateref01_Bits.l0 K a1 a2 k3035) x3032 x3033 = some r := h
              obtain ⟨again3031, hag3036⟩ : ∃ g_, g_ = headgateref01_Bits.l0 K a1 a2 k3035 := ⟨_, rfl⟩
              rw [← hag3036] at h
              unfold headgateref01_Bits.b0 at h
              refine wp_seq_k (fun K3037 hK3038 => ?_)
              refine wp_seq_k (fun K3039 hK3040 => ?_)
              refine wp_region_lit ?_
              refine stepp ha 27 (.int .i64 x3033) KR KR ?_; clear ha a; intro a ha
              refine stepp ha 28 (.int .i64 a1) KR KR ?_; clear ha a; intro a ha
              refine stepp ha 29 (.bool (decide (x3033 < a1))) KR KR ?_; clear ha a; intro a ha
              refine endl ?_
              refine thenN (hK3040 _ _ ?_); clear hK3040
              by_cases hp3041 : x3033 < a1
              · skip
                replace h := ite_pos' h hp3041
                refine condT ha KR KR (t := decide (x3033 < a1)) (decide_eq_true hp3041) ?_
                refine wp_skip ?_
                refine thenN (hK3038 _ _ ?_); clear hK3038
                refine wp_seq_k (fun K3042 hK3043 => ?_)
                refine wp_block ?_
                refine wp_region_lit ?_
                refine stepp ha 32 (.int .u64 x3032) KR KR ?_; clear ha a; intro a ha
                refine stepp ha 33 (.int .u64 (IntKind.wrap .u64 (Int.tdiv x3032 2))) KR KR ?_; clear ha a; intro a ha
                refine stepp ha 0 (.int .u64 (IntKind.wrap .u64 (Int.tdiv x3032 2))) KR KR ?_; clear ha a; intro a ha
                refine endl ?_
                refine blkN ?_
                refine thenN (hK3043 _ _ ?_); clear hK3043
                refine wp_region_lit ?_
                refine stepp ha 30 (.int .i64 x3033) KR KR ?_; clear ha a; intro a ha
                refine stepp ha 31 (.int .i64 (IntKind.wrap .i64 (x3033 + 1))) KR KR ?_; clear ha a; intro a ha
                refine stepp ha 7 (.int .i64 (IntKind.wrap .i64 (x3033 + 1))) KR KR ?_; clear ha a; intro a ha
                refine endl ?_
                exact thenN ⟨k3035, Nat.lt_succ_self k3035, IntKind.wrap .u64 (Int.tdiv x3032 2), IntKind.wrap .i64 (x3033 + 1), (by rw [← hag3036]; exact h), ha.sub (subs_cons KR (subs_cons KR (subs_cons KR (subs_cons KR (subs_nil _))))), HW.pick [] [] (by decide) (by decide) KR KR⟩
              · skip
                replace h := ite_neg' h hp3041
                refine condF ha KR KR (t := decide (x3033 < a1)) (decide_eq_false hp3041) ?_
                refine wp_exit ?_
                refine thenE ?_
                refine thenE ?_
                refine inBlk ?_
                refine thenN (hK3010 _ _ ?_); clear hK3010
                refine wp_seq_k (fun K3044 hK3045 => ?_)
                refine wp_region_lit ?_
                refine stepp ha 8 (.int .u64 0) KR KR ?_; clear ha a; intro a ha
                refine stepp ha 9 (.int .u64 1) KR KR ?_; clear ha a; intro a ha
                refine endl ?_
                refine thenN (hK3045 _ _ ?_); clear hK3045
                refine wp_seq_k (fun K3046 hK3047 => ?_)
                refine wp_seq_k (fun K3048 hK3049 => ?_)
                refine wp_region_lit ?_
                refine stepp ha 10 (.int .i64 0) KR KR ?_; clear ha a; intro a ha
                refine endl ?_
                refine thenN (hK3049 _ _ ?_); clear hK3049
                refine wp_block ?_
                refine loopk (fun k => fun a W3083 => ∃ (x3079 : Int), ∃ (x3080 : Int), ∃ (x3081 : Int), ∃ (x3082 : Int), headgateref01_Bits.l1 K a2 k x3079 x3080 x3081 x3082 = some r ∧ Has 50 [(0, .int .u64 x3079), (2, .int .i64 a2), (8, .int .u64 x3080), (9, .int .u64 x3081), (10, .int .i64 x3082)] a ∧ Wd w W3083 [] []) K ?_ ?_
                · skip
                  exact ⟨x3032, 0, 1, 0, h, ha.sub (subs_cons KR (subs_cons KR (subs_cons KR (subs_cons KR (subs_cons KR (subs_nil _)))))), HW.pick [] [] (by decide) (by decide) KR KR⟩
                · skip
                  intro k a W3083 hI
                  obtain ⟨x3079, x3080, x3081, x3082, h, ha, HW⟩ := hI
                  cases k with
                  | zero => exact (none_some (show none = some r from h)).elim
                  | succ k3084 =>
                    replace h : headgateref01_Bits.b1 K a2 (headgateref01_Bits.l1 K a2 k3084) x3079 x3080 x3081 x3082 = some r := h
                    obtain ⟨again3078, hag3085⟩ : ∃ g_, g_ = headgateref01_Bits.l1 K a2 k3084 := ⟨_, rfl⟩
                    rw [← hag3085] at h
                    unfold headgateref01_Bits.b1 at h
                    refine wp_seq_k (fun K3086 hK3087 => ?_)
                    refine wp_seq_k (fun K3088 hK3089 => ?_)
                    refine wp_region_lit ?_
                    refine stepp ha 34 (.int .i64 x3082) KR KR ?_; clear ha a; intro a ha
                    refine stepp ha 35 (.int .i64 a2) KR KR ?_; clear ha a; intro a ha
                    refine stepp ha 36 (.bool (decide (x3082 < a2))) KR KR ?_; clear ha a; intro a ha
                    refine endl ?_
                    refine thenN (hK3089 _ _ ?_); clear hK3089
                    by_cases hp3090 : x3082 < a2
                    · skip
                      replace h := ite_pos' h hp3090
                      refine condT ha KR KR (t := decide (x3082 < a2)) (decide_eq_true hp3090) ?_
                      refine wp_skip ?_
                      refine thenN (hK3087 _ _ ?_); clear hK3087
                      refine wp_seq_k (fun K3091 hK3092 => ?_)
                      refine wp_block ?_
                      refine wp_seq_k (fun K3093 hK3094 => ?_)
                      refine wp_region_lit ?_
                      refine stepp ha 39 (.int .u64 x3080) KR KR ?_; clear ha a; intro a ha
                      refine stepp ha 40 (.int .u64 x3079) KR KR ?_; clear ha a; intro a ha
                      refine stepp ha 41 (.int .u64 (Int.tmod x3079 2)) KR KR ?_; clear ha a; intro a ha
                      refine stepp ha 42 (.int .u64 x3081) KR KR ?_; clear ha a; intro a ha
                      refine stepp ha 43 (.int .u64 (IntKind.wrap .u64 ((Int.tmod x3079 2) * x3081))) KR KR ?_; clear ha a; intro a ha
                      refine stepp ha 44 (.int .u64 (IntKind.wrap .u64 (x3080 + (IntKind.wrap .u64 ((Int.tmod x3079 2) * x3081))))) KR KR ?_; clear ha a; intro a ha
                      refine stepp ha 8 (.int .u64 (IntKind.wrap .u64 (x3080 + (IntKind.wrap .u64 ((Int.tmod x3079 2) * x3081))))) KR KR ?_; clear ha a; intro a ha
                      refine endl ?_
                      refine thenN (hK3094 _ _ ?_); clear hK3094
                      refine wp_seq_k (fun K3095 hK3096 => ?_)
                      refine wp_region_lit ?_
                      refine stepp ha 45 (.int .u64 x3079) KR KR ?_; clear ha a; intro a ha
                      refine stepp ha 46 (.int .u64 (IntKind.wrap .u64 (Int.tdiv x3079 2))) KR KR ?_; clear ha a; intro a ha
                      refine stepp ha 0 (.int .u64 (IntKind.wrap .u64 (Int.tdiv x3079 2))) KR KR ?_; clear ha a; intro a ha
                      refine endl ?_
                      refine thenN (hK3096 _ _ ?_); clear hK3096
                      refine wp_region_lit ?_
                      refine stepp ha 47 (.int .u64 x3081) KR KR ?_; clear ha a; intro a ha
                      refine stepp ha 48 (.int .u64 (IntKind.wrap .u64 (x3081 * 2))) KR KR ?_; clear ha a; intro a ha
                      refine stepp ha 9 (.int .u64 (IntKind.wrap .u64 (x3081 * 2))) KR KR ?_; clear ha a; intro a ha
                      refine endl ?_
                      refine blkN ?_
                      refine thenN (hK3092 _ _ ?_); clear hK3092
                      refine wp_region_lit ?_
                      refine stepp ha 37 (.int .i64 x3082) KR KR ?_; clear ha a; intro a ha
                      refine stepp ha 38 (.int .i64 (IntKind.wrap .i64 (x3082 + 1))) KR KR ?_; clear ha a; intro a ha
                      refine stepp ha 10 (.int .i64 (IntKind.wrap .i64 (x3082 + 1))) KR KR ?_; clear ha a; intro a ha
                      refine endl ?_
                      exact thenN ⟨k3084, Nat.lt_succ_self k3084, IntKind.wrap .u64 (Int.tdiv x3079 2), IntKind.wrap .u64 (x3080 + (IntKind.wrap .u64 ((Int.tmod x3079 2) * x3081))), IntKind.wrap .u64 (x3081 * 2), IntKind.wrap .i64 (x3082 + 1), (by rw [← hag3085]; exact h), ha.sub (subs_cons KR (subs_cons KR (subs_cons KR (subs_cons KR (subs_cons KR (subs_nil _)))))), HW.pick [] [] (by decide) (by decide) KR KR⟩
                    · skip
                      replace h := ite_neg' h hp3090
                      refine condF ha KR KR (t := decide (x3082 < a2)) (decide_eq_false hp3090) ?_
                      refine wp_exit ?_
                      refine thenE ?_
                      refine thenE ?_
                      refine inBlk ?_
                      refine thenN (hK3047 _ _ ?_); clear hK3047
                      refine wp_seq_k (fun K3097 hK3098 => ?_)
                      refine wp_region_lit ?_
                      refine stepp ha 49 (.int .u64 x3080) KR KR ?_; clear ha a; intro a ha
                      refine stepp ha 6 (.int .u64 x3080) KR KR ?_; clear ha a; intro a ha
                      refine endl ?_
                      refine thenN (hK3098 _ _ ?_); clear hK3098
                      refine wp_ret ?_
                      obtain rfl := Option.some.inj h
                      exact finv ha _ _ rfl (.tmp (v := .int .u64 x3080) KR .nil) (.int .u64 x3080) rfl ⟨rfl, HW.pick [] [] (by decide) (by decide) rfl KR⟩
/-! ### headgate/headgateref27.bits: function 59 -/
def headgateref27_bits.f (K : Nat) (a0 : Int) (a1 : Int) (a2 : Int) : Option Int :=
  (headgateref01_Bits.f K (IntKind.wrap .u64 a0) a1 a2).bind fun t3103 => (some (IntKind.wrap .i64 t3103))
set_option maxRecDepth 100000 in
set_option maxHeartbeats 4000000 in
theorem headgateref27_bits.calls (K : Nat) (a0 : Int) (a1 : Int) (a2 : Int)  (r : Int) (w : World)  (h : headgateref27_bits.f K a0 a1 a2 = some r) :
    Calls Tryd.prog 59 #[.int .u32 a0, .int .i64 a1, .int .i64 a2] w (fun e W' => e = .returned (.int .i64 r) ∧ Wd w W' [] [] ) := by
  refine sxstart (n := 13) (l := [(0, .int .u32 a0), (1, .int .i64 a1), (2, .int .i64 a2)]) Tryd.func59 rfl rfl (Nat.le_of_ble_eq_true KR) (subsA_cons rfl (subsA_cons rfl (subsA_cons rfl (subsA_nil _)))) ?_
  intro a ha
  have HW := Wd.refl w
  unfold headgateref27_bits.f at h
  refine wp_seq_k (fun K3099 hK3100 => ?_)
  refine wp_region_lit ?_
  refine stepp ha 6 (.int .i64 0) KR KR ?_; clear ha a; intro a ha
  refine endl ?_
  refine thenN (hK3100 _ _ ?_); clear hK3100
  refine wp_seq_k (fun K3101 hK3102 => ?_)
  refine wp_region_lit ?_
  refine stepp ha 7 (.int .u32 a0) KR KR ?_; clear ha a; intro a ha
  refine stepp ha 8 (.int .u64 (IntKind.wrap .u64 a0)) KR KR ?_; clear ha a; intro a ha
  refine stepp ha 9 (.int .i64 a1) KR KR ?_; clear ha a; intro a ha
  refine stepp ha 10 (.int .i64 a2) KR KR ?_; clear ha a; intro a ha
  obtain ⟨t3103, ht3104, h_⟩ := bind_some' h; clear h; have h := h_; clear h_
  refine stepc ha 11 KR KR (headgateref01_Bits.calls K (IntKind.wrap .u64 a0) a1 a2 t3103 _ ht3104) ?_; clear ha a; rintro e W3105 ⟨rfl, HX3106⟩
  refine ⟨_, rfl, ?_⟩; intro a ha; replace HW := HW.callw HX3106; clear HX3106
  refine stepp ha 12 (.int .i64 (IntKind.wrap .i64 t3103)) KR KR ?_; clear ha a; intro a ha
  refine stepp ha 6 (.int .i64 (IntKind.wrap .i64 t3103)) KR KR ?_; clear ha a; intro a ha
  refine endl ?_
  refine thenN (hK3102 _ _ ?_); clear hK3102
  refine wp_ret ?_
  obtain rfl := Option.some.inj h
  exact finv ha _ _ rfl (.tmp (v := .int .i64 (IntKind.wrap .i64 t3103)) KR .nil) (.int .i64 (IntKind.wrap .i64 t3103)) rfl ⟨rfl, HW.pick [] [] (by decide) (by decide) rfl KR⟩
end Go.Proofs.YthjjbkgifelooaaDoor.F
