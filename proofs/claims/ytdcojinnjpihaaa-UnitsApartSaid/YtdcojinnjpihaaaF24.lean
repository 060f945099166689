/- headgate/headgateref03.letter, headgate/headgateref03.digit, headgate/headgateref03.Name, headgate/headgatekeep.Mod, cmp.isNaN[string], math/bits.Len32, math/bits.Len64, math/bits.Len, slices.nextPowerOfTwo, headgate/headgatekeep.Texts: plain functions, and that the calls come to what they say. No condition. -/
import Derived.Test.YtdcojinnjpihaaaFT
namespace Go.Proofs.Ytdcojinnjpihaaa.F
open Go Go.RowKit Go.Proofs.Ytdcojinnjpihaaa.X
set_option linter.unusedVariables false
set_option linter.unusedSimpArgs false
/-! ### headgate/headgateref03.letter: function 24 -/
def headgateref03_letter.f (a0 : Int) : Option Bool :=
  if a0 ≥ 97 then (some (decide (a0 ≤ 122))) else (some false)
set_option maxRecDepth 100000 in
set_option maxHeartbeats 4000000 in
theorem headgateref03_letter.calls (a0 : Int)  (r : Bool) (w : World)  (h : headgateref03_letter.f a0 = some r) :
    Calls Try.prog 24 #[.int .u8 a0] w (fun e W' => e = .returned (.bool r) ∧ Wd w W' [] [] ) := by
  refine sxstart (n := 9) (l := [(0, .int .u8 a0)]) Try.func24 rfl rfl (Nat.le_of_ble_eq_true KR) (subsA_cons rfl (subsA_nil _)) ?_
  intro a ha
  have HW := Wd.refl w
  unfold headgateref03_letter.f at h
  refine wp_seq_k (fun K879 hK880 => ?_)
  refine wp_region_lit ?_
  refine stepp ha 2 (.bool false) KR KR ?_; clear ha a; intro a ha
  refine endl ?_
  refine thenN (hK880 _ _ ?_); clear hK880
  refine wp_seq_k (fun K881 hK882 => ?_)
  refine wp_region_lit ?_
  refine stepp ha 3 (.int .u8 a0) KR KR ?_; clear ha a; intro a ha
  refine stepp ha 4 (.bool (decide (a0 ≥ 97))) KR KR ?_; clear ha a; intro a ha
  refine stepp ha 5 (.bool (decide (a0 ≥ 97))) KR KR ?_; clear ha a; intro a ha
  by_cases hp883 : a0 ≥ 97
  · skip
    replace h := ite_pos' h hp883
    replace ha := ha.bool 5 KR (decide_eq_true hp883)
    refine stepp ha 6 (.int .u8 a0) KR KR ?_; clear ha a; intro a ha
    refine stepp ha 7 (.bool (decide (a0 ≤ 122))) KR KR ?_; clear ha a; intro a ha
    refine stepp ha 8 (.bool (decide (a0 ≤ 122))) KR KR ?_; clear ha a; intro a ha
    refine stepp ha 2 (.bool (decide (a0 ≤ 122))) KR KR ?_; clear ha a; intro a ha
    refine endl ?_
    refine thenN (hK882 _ _ ?_); clear hK882
    refine wp_ret ?_
    obtain rfl := Option.some.inj h
    exact finv ha _ _ rfl (.tmp (v := .bool (decide (a0 ≤ 122))) KR .nil) (.bool (decide (a0 ≤ 122))) rfl ⟨rfl, HW.pick [] [] (by decide) (by decide) rfl KR⟩
  · skip
    replace h := ite_neg' h hp883
    replace ha := ha.bool 5 KR (decide_eq_false hp883)
    refine stepo ha 6 KR ?_; clear ha a; intro a ha
    refine stepo ha 7 KR ?_; clear ha a; intro a ha
    refine stepp ha 8 (.bool false) KR KR ?_; clear ha a; intro a ha
    refine stepp ha 2 (.bool false) KR KR ?_; clear ha a; intro a ha
    refine endl ?_
    refine thenN (hK882 _ _ ?_); clear hK882
    refine wp_ret ?_
    obtain rfl := Option.some.inj h
    exact finv ha _ _ rfl (.tmp (v := .bool false) KR .nil) (.bool false) rfl ⟨rfl, HW.pick [] [] (by decide) (by decide) rfl KR⟩
/-! ### headgate/headgateref03.digit: function 25 -/
def headgateref03_digit.f (a0 : Int) : Option Bool :=
  if a0 ≥ 48 then (some (decide (a0 ≤ 57))) else (some false)
set_option maxRecDepth 100000 in
set_option maxHeartbeats 4000000 in
theorem headgateref03_digit.calls (a0 : Int)  (r : Bool) (w : World)  (h : headgateref03_digit.f a0 = some r) :
    Calls Try.prog 25 #[.int .u8 a0] w (fun e W' => e = .returned (.bool r) ∧ Wd w W' [] [] ) := by
  refine sxstart (n := 9) (l := [(0, .int .u8 a0)]) Try.func25 rfl rfl (Nat.le_of_ble_eq_true KR) (subsA_cons rfl (subsA_nil _)) ?_
  intro a ha
  have HW := Wd.refl w
  unfold headgateref03_digit.f at h
  refine wp_seq_k (fun K884 hK885 => ?_)
  refine wp_region_lit ?_
  refine stepp ha 2 (.bool false) KR KR ?_; clear ha a; intro a ha
  refine endl ?_
  refine thenN (hK885 _ _ ?_); clear hK885
  refine wp_seq_k (fun K886 hK887 => ?_)
  refine wp_region_lit ?_
  refine stepp ha 3 (.int .u8 a0) KR KR ?_; clear ha a; intro a ha
  refine stepp ha 4 (.bool (decide (a0 ≥ 48))) KR KR ?_; clear ha a; intro a ha
  refine stepp ha 5 (.bool (decide (a0 ≥ 48))) KR KR ?_; clear ha a; intro a ha
  by_cases hp888 : a0 ≥ 48
  · skip
    replace h := ite_pos' h hp888
    replace ha := ha.bool 5 KR (decide_eq_true hp888)
    refine stepp ha 6 (.int .u8 a0) KR KR ?_; clear ha a; intro a ha
    refine stepp ha 7 (.bool (decide (a0 ≤ 57))) KR KR ?_; clear ha a; intro a ha
    refine stepp ha 8 (.bool (decide (a0 ≤ 57))) KR KR ?_; clear ha a; intro a ha
    refine stepp ha 2 (.bool (decide (a0 ≤ 57))) KR KR ?_; clear ha a; intro a ha
    refine endl ?_
    refine thenN (hK887 _ _ ?_); clear hK887
    refine wp_ret ?_
    obtain rfl := Option.some.inj h
    exact finv ha _ _ rfl (.tmp (v := .bool (decide (a0 ≤ 57))) KR .nil) (.bool (decide (a0 ≤ 57))) rfl ⟨rfl, HW.pick [] [] (by decide) (by decide) rfl KR⟩
  · skip
    replace h := ite_neg' h hp888
    replace ha := ha.bool 5 KR (decide_eq_false hp888)
    refine stepo ha 6 KR ?_; clear ha a; intro a ha
    refine stepo ha 7 KR ?_; clear ha a; intro a ha
    refine stepp ha 8 (.bool false) KR KR ?_; clear ha a; intro a ha
    refine stepp ha 2 (.bool false) KR KR ?_; clear ha a; intro a ha
    refine endl ?_
    refine thenN (hK887 _ _ ?_); clear hK887
    refine wp_ret ?_
    obtain rfl := Option.some.inj h
    exact finv ha _ _ rfl (.tmp (v := .bool false) KR .nil) (.bool false) rfl ⟨rfl, HW.pick [] [] (by decide) (by decide) rfl KR⟩
/-! ### headgate/headgateref03.Name: function 13 -/
def headgateref03_Name.b0 (K : Nat) (a0 : ByteArray) (again965 : Int → Option Bool) (x966 : Int) : Option Bool :=
  if x966 < (a0.size : Int) then (asrt (0 ≤ x966) ((headgateref03_letter.f (bt a0 x966)).bind fun t980 => (if t980 = true then (again965 (IntKind.wrap .i64 (x966 + 1))) else ((headgateref03_digit.f (bt a0 x966)).bind fun t985 => (if t985 = true then (again965 (IntKind.wrap .i64 (x966 + 1))) else (if (bt a0 x966) = 46 then (again965 (IntKind.wrap .i64 (x966 + 1))) else (if (bt a0 x966) = 45 then (again965 (IntKind.wrap .i64 (x966 + 1))) else (if (bt a0 x966) = 58 then (again965 (IntKind.wrap .i64 (x966 + 1))) else (some false))))))))) else (some true)
def headgateref03_Name.l0 (K : Nat) (a0 : ByteArray) : Nat → Int → Option Bool
  | 0, _ => none
  | k_ + 1, x966 => headgateref03_Name.b0 K a0 (headgateref03_Name.l0 K a0 k_) x966
def headgateref03_Name.f (K : Nat) (a0 : ByteArray) : Option Bool :=
  if (a0.size : Int) < 1 then (some false) else (if (a0.size : Int) > 64 then (some false) else (asrt (0 < (a0.size : Int)) ((headgateref03_letter.f (bt a0 0)).bind fun t898 => (if t898 = true then (headgateref03_Name.l0 K a0 K 0) else (some false)))))
set_option maxRecDepth 100000 in
set_option maxHeartbeats 4000000 in
theorem headgateref03_Name.calls (K : Nat) (a0 : ByteArray)  (r : Bool) (w : World)  (h : headgateref03_Name.f K a0 = some r) :
    Calls Try.prog 13 #[.string a0] w (fun e W' => e = .returned (.bool r) ∧ Wd w W' [] [] ) := by
  refine sxstart (n := 54) (l := [(0, .string a0)]) Try.func13 rfl rfl (Nat.le_of_ble_eq_true KR) (subsA_cons rfl (subsA_nil _)) ?_
  intro a ha
  have HW := Wd.refl w
  unfold headgateref03_Name.f at h
  refine wp_seq_k (fun K889 hK890 => ?_)
  refine wp_region_lit ?_
  refine stepp ha 2 (.bool false) KR KR ?_; clear ha a; intro a ha
  refine endl ?_
  refine thenN (hK890 _ _ ?_); clear hK890
  refine wp_seq_k (fun K891 hK892 => ?_)
  refine wp_seq_k (fun K893 hK894 => ?_)
  refine wp_region_lit ?_
  refine stepp ha 4 (.string a0) KR KR ?_; clear ha a; intro a ha
  refine stepp ha 5 (.int .i64 (a0.size : Int)) KR KR ?_; clear ha a; intro a ha
  refine stepp ha 6 (.bool (decide ((a0.size : Int) < 1))) KR KR ?_; clear ha a; intro a ha
  refine stepp ha 7 (.bool (decide ((a0.size : Int) < 1))) KR KR ?_; clear ha a; intro a ha
  by_cases hp895 : (a0.size : Int) < 1
  · skip
    replace h := ite_pos' h hp895
    replace ha := ha.bool 7 KR (decide_eq_true hp895)
    refine stepo ha 8 KR ?_; clear ha a; intro a ha
    refine stepo ha 9 KR ?_; clear ha a; intro a ha
    refine stepo ha 10 KR ?_; clear ha a; intro a ha
    refine stepp ha 11 (.bool true) KR KR ?_; clear ha a; intro a ha
    refine stepp ha 12 (.bool true) KR KR ?_; clear ha a; intro a ha
    refine stepo ha 13 KR ?_; clear ha a; intro a ha
    refine stepo ha 14 KR ?_; clear ha a; intro a ha
    refine stepo ha 15 KR ?_; clear ha a; intro a ha
    refine stepo ha 16 KR ?_; clear ha a; intro a ha
    refine stepp ha 17 (.bool true) KR KR ?_; clear ha a; intro a ha
    refine endl ?_
    refine thenN (hK894 _ _ ?_); clear hK894
    refine condT ha KR KR (t := true) (rfl) ?_
    refine wp_seq_k (fun K902 hK903 => ?_)
    refine wp_region_lit ?_
    refine stepp ha 2 (.bool false) KR KR ?_; clear ha a; intro a ha
    refine endl ?_
    refine thenN (hK903 _ _ ?_); clear hK903
    refine wp_ret ?_
    refine thenR ?_
    obtain rfl := Option.some.inj h
    exact finv ha _ _ rfl (.tmp (v := .bool false) KR .nil) (.bool false) rfl ⟨rfl, HW.pick [] [] (by decide) (by decide) rfl KR⟩
  · skip
    replace h := ite_neg' h hp895
    replace ha := ha.bool 7 KR (decide_eq_false hp895)
    refine stepp ha 8 (.string a0) KR KR ?_; clear ha a; intro a ha
    refine stepp ha 9 (.int .i64 (a0.size : Int)) KR KR ?_; clear ha a; intro a ha
    refine stepp ha 10 (.bool (decide ((a0.size : Int) > 64))) KR KR ?_; clear ha a; intro a ha
    refine stepp ha 11 (.bool (decide ((a0.size : Int) > 64))) KR KR ?_; clear ha a; intro a ha
    refine stepp ha 12 (.bool (decide ((a0.size : Int) > 64))) KR KR ?_; clear ha a; intro a ha
    by_cases hp896 : (a0.size : Int) > 64
    · skip
      replace h := ite_pos' h hp896
      replace ha := ha.bool 12 KR (decide_eq_true hp896)
      refine stepo ha 13 KR ?_; clear ha a; intro a ha
      refine stepo ha 14 KR ?_; clear ha a; intro a ha
      refine stepo ha 15 KR ?_; clear ha a; intro a ha
      refine stepo ha 16 KR ?_; clear ha a; intro a ha
      refine stepp ha 17 (.bool true) KR KR ?_; clear ha a; intro a ha
      refine endl ?_
      refine thenN (hK894 _ _ ?_); clear hK894
      refine condT ha KR KR (t := true) (rfl) ?_
      refine wp_seq_k (fun K904 hK905 => ?_)
      refine wp_region_lit ?_
      refine stepp ha 2 (.bool false) KR KR ?_; clear ha a; intro a ha
      refine endl ?_
      refine thenN (hK905 _ _ ?_); clear hK905
      refine wp_ret ?_
      refine thenR ?_
      obtain rfl := Option.some.inj h
      exact finv ha _ _ rfl (.tmp (v := .bool false) KR .nil) (.bool false) rfl ⟨rfl, HW.pick [] [] (by decide) (by decide) rfl KR⟩
    · skip
      replace h := ite_neg' h hp896
      replace ha := ha.bool 12 KR (decide_eq_false hp896)
      refine stepp ha 13 (.string a0) KR KR ?_; clear ha a; intro a ha
      obtain ⟨hA897, h_⟩ := asrt_some h; clear h; have h := h_; clear h_
      refine stepsi ha 14 9 (.tmp 13) (.const (.int .i64 0)) a0 .i64 0 rfl KR KR KR (by decide) (show (0 : Int) < ((a0).size : Int) from hA897) KR ?_; clear ha a; intro a ha
      obtain ⟨t898, ht899, h_⟩ := bind_some' h; clear h; have h := h_; clear h_
      refine stepc ha 15 KR KR (headgateref03_letter.calls (bt a0 0) t898 _ ht899) ?_; clear ha a; rintro e W900 ⟨rfl, HX901⟩
      refine ⟨_, rfl, ?_⟩; intro a ha; replace HW := HW.callw HX901; clear HX901
      refine stepp ha 16 (.bool (!t898)) KR KR ?_; clear ha a; intro a ha
      refine stepp ha 17 (.bool (!t898)) KR KR ?_; clear ha a; intro a ha
      refine endl ?_
      refine thenN (hK894 _ _ ?_); clear hK894
      by_cases hp906 : t898 = true
      · skip
        replace h := ite_pos' h hp906
        refine condF ha KR KR (t := (!t898)) (not_f (hp906)) ?_
        refine wp_skip ?_
        refine thenN (hK892 _ _ ?_); clear hK892
        refine wp_seq_k (fun K909 hK910 => ?_)
        refine wp_seq_k (fun K911 hK912 => ?_)
        refine wp_region_lit ?_
        refine stepp ha 3 (.int .i64 0) KR KR ?_; clear ha a; intro a ha
        refine endl ?_
        refine thenN (hK912 _ _ ?_); clear hK912
        refine wp_block ?_
        refine loopk (fun k => fun a W967 => ∃ (x966 : Int), headgateref03_Name.l0 K a0 k x966 = some r ∧ Has 54 [(0, .string a0), (3, .int .i64 x966)] a ∧ Wd w W967 [] []) K ?_ ?_
        · skip
          exact ⟨0, h, ha.sub (subs_cons KR (subs_cons KR (subs_nil _))), HW.pick [] [] (by decide) (by decide) KR KR⟩
        · skip
          intro k a W967 hI
          obtain ⟨x966, h, ha, HW⟩ := hI
          cases k with
          | zero => exact (none_some (show none = some r from h)).elim
          | succ k968 =>
            replace h : headgateref03_Name.b0 K a0 (headgateref03_Name.l0 K a0 k968) x966 = some r := h
            obtain ⟨again965, hag969⟩ : ∃ g_, g_ = headgateref03_Name.l0 K a0 k968 := ⟨_, rfl⟩
            rw [← hag969] at h
            unfold headgateref03_Name.b0 at h
            refine wp_seq_k (fun K970 hK971 => ?_)
            refine wp_seq_k (fun K972 hK973 => ?_)
            refine wp_region_lit ?_
            refine stepp ha 18 (.int .i64 x966) KR KR ?_; clear ha a; intro a ha
            refine stepp ha 19 (.string a0) KR KR ?_; clear ha a; intro a ha
            refine stepp ha 20 (.int .i64 (a0.size : Int)) KR KR ?_; clear ha a; intro a ha
            refine stepp ha 21 (.bool (decide (x966 < (a0.size : Int)))) KR KR ?_; clear ha a; intro a ha
            refine endl ?_
            refine thenN (hK973 _ _ ?_); clear hK973
            by_cases hp974 : x966 < (a0.size : Int)
            · skip
              replace h := ite_pos' h hp974
              refine condT ha KR KR (t := decide (x966 < (a0.size : Int))) (decide_eq_true hp974) ?_
              refine wp_skip ?_
              refine thenN (hK971 _ _ ?_); clear hK971
              refine wp_seq_k (fun K975 hK976 => ?_)
              refine wp_block ?_
              refine wp_seq_k (fun K977 hK978 => ?_)
              refine wp_region_lit ?_
              refine stepp ha 24 (.string a0) KR KR ?_; clear ha a; intro a ha
              refine stepp ha 25 (.int .i64 x966) KR KR ?_; clear ha a; intro a ha
              obtain ⟨hA979, h_⟩ := asrt_some h; clear h; have h := h_; clear h_
              refine stepsi ha 26 9 (.tmp 24) (.tmp 25) a0 .i64 x966 rfl KR KR KR hA979 (show (x966 : Int) < ((a0).size : Int) from hp974) KR ?_; clear ha a; intro a ha
              obtain ⟨t980, ht981, h_⟩ := bind_some' h; clear h; have h := h_; clear h_
              refine stepc ha 27 KR KR (headgateref03_letter.calls (bt a0 x966) t980 _ ht981) ?_; clear ha a; rintro e W982 ⟨rfl, HX983⟩
              refine ⟨_, rfl, ?_⟩; intro a ha; replace HW := HW.callw HX983; clear HX983
              refine stepp ha 28 (.bool (!t980)) KR KR ?_; clear ha a; intro a ha
              refine stepp ha 29 (.bool (!t980)) KR KR ?_; clear ha a; intro a ha
              by_cases hp984 : t980 = true
              · skip
                replace h := ite_pos' h hp984
                replace ha := ha.bool 29 KR (not_f (hp984))
                refine stepo ha 30 KR ?_; clear ha a; intro a ha
                refine stepo ha 31 KR ?_; clear ha a; intro a ha
                refine stepo ha 32 KR ?_; clear ha a; intro a ha
                refine stepo ha 33 KR ?_; clear ha a; intro a ha
                refine stepo ha 34 KR ?_; clear ha a; intro a ha
                refine stepp ha 35 (.bool false) KR KR ?_; clear ha a; intro a ha
                refine stepp ha 36 (.bool false) KR KR ?_; clear ha a; intro a ha
                refine stepo ha 37 KR ?_; clear ha a; intro a ha
                refine stepo ha 38 KR ?_; clear ha a; intro a ha
                refine stepo ha 39 KR ?_; clear ha a; intro a ha
                refine stepo ha 40 KR ?_; clear ha a; intro a ha
                refine stepp ha 41 (.bool false) KR KR ?_; clear ha a; intro a ha
                refine stepp ha 42 (.bool false) KR KR ?_; clear ha a; intro a ha
                refine stepo ha 43 KR ?_; clear ha a; intro a ha
                refine stepo ha 44 KR ?_; clear ha a; intro a ha
                refine stepo ha 45 KR ?_; clear ha a; intro a ha
                refine stepo ha 46 KR ?_; clear ha a; intro a ha
                refine stepp ha 47 (.bool false) KR KR ?_; clear ha a; intro a ha
                refine stepp ha 48 (.bool false) KR KR ?_; clear ha a; intro a ha
                refine stepo ha 49 KR ?_; clear ha a; intro a ha
                refine stepo ha 50 KR ?_; clear ha a; intro a ha
                refine stepo ha 51 KR ?_; clear ha a; intro a ha
                refine stepo ha 52 KR ?_; clear ha a; intro a ha
                refine stepp ha 53 (.bool false) KR KR ?_; clear ha a; intro a ha
                refine endl ?_
                refine thenN (hK978 _ _ ?_); clear hK978
                refine condF ha KR KR (t := false) (rfl) ?_
                refine wp_skip ?_
                refine blkN ?_
                refine thenN (hK976 _ _ ?_); clear hK976
                refine wp_region_lit ?_
                refine stepp ha 22 (.int .i64 x966) KR KR ?_; clear ha a; intro a ha
                refine stepp ha 23 (.int .i64 (IntKind.wrap .i64 (x966 + 1))) KR KR ?_; clear ha a; intro a ha
                refine stepp ha 3 (.int .i64 (IntKind.wrap .i64 (x966 + 1))) KR KR ?_; clear ha a; intro a ha
                refine endl ?_
                exact thenN ⟨k968, Nat.lt_succ_self k968, IntKind.wrap .i64 (x966 + 1), (by rw [← hag969]; exact h), ha.sub (subs_cons KR (subs_cons KR (subs_nil _))), HW.pick [] [] (by decide) (by decide) KR KR⟩
              · skip
                replace h := ite_neg' h hp984
                replace ha := ha.bool 29 KR (not_t (bool_f hp984))
                refine stepp ha 30 (.string a0) KR KR ?_; clear ha a; intro a ha
                refine stepp ha 31 (.int .i64 x966) KR KR ?_; clear ha a; intro a ha
                refine stepsi ha 32 9 (.tmp 30) (.tmp 31) a0 .i64 x966 rfl KR KR KR hA979 (show (x966 : Int) < ((a0).size : Int) from hp974) KR ?_; clear ha a; intro a ha
                obtain ⟨t985, ht986, h_⟩ := bind_some' h; clear h; have h := h_; clear h_
                refine stepc ha 33 KR KR (headgateref03_digit.calls (bt a0 x966) t985 _ ht986) ?_; clear ha a; rintro e W987 ⟨rfl, HX988⟩
                refine ⟨_, rfl, ?_⟩; intro a ha; replace HW := HW.callw HX988; clear HX988
                refine stepp ha 34 (.bool (!t985)) KR KR ?_; clear ha a; intro a ha
                refine stepp ha 35 (.bool (!t985)) KR KR ?_; clear ha a; intro a ha
                refine stepp ha 36 (.bool (!t985)) KR KR ?_; clear ha a; intro a ha
                by_cases hp989 : t985 = true
                · skip
                  replace h := ite_pos' h hp989
                  replace ha := ha.bool 36 KR (not_f (hp989))
                  refine stepo ha 37 KR ?_; clear ha a; intro a ha
                  refine stepo ha 38 KR ?_; clear ha a; intro a ha
                  refine stepo ha 39 KR ?_; clear ha a; intro a ha
                  refine stepo ha 40 KR ?_; clear ha a; intro a ha
                  refine stepp ha 41 (.bool false) KR KR ?_; clear ha a; intro a ha
                  refine stepp ha 42 (.bool false) KR KR ?_; clear ha a; intro a ha
                  refine stepo ha 43 KR ?_; clear ha a; intro a ha
                  refine stepo ha 44 KR ?_; clear ha a; intro a ha
                  refine stepo ha 45 KR ?_; clear ha a; intro a ha
                  refine stepo ha 46 KR ?_; clear ha a; intro a ha
                  refine stepp ha 47 (.bool false) KR KR ?_; clear ha a; intro a ha
                  refine stepp ha 48 (.bool false) KR KR ?_; clear ha a; intro a ha
                  refine stepo ha 49 KR ?_; clear ha a; intro a ha
                  refine stepo ha 50 KR ?_; clear ha a; intro a ha
                  refine stepo ha 51 KR ?_; clear ha a; intro a ha
                  refine stepo ha 52 KR ?_; clear ha a; intro a ha
                  refine stepp ha 53 (.bool false) KR KR ?_; clear ha a; intro a ha
                  refine endl ?_
                  refine thenN (hK978 _ _ ?_); clear hK978
                  refine condF ha KR KR (t := false) (rfl) ?_
                  refine wp_skip ?_
                  refine blkN ?_
                  refine thenN (hK976 _ _ ?_); clear hK976
                  refine wp_region_lit ?_
                  refine stepp ha 22 (.int .i64 x966) KR KR ?_; clear ha a; intro a ha
                  refine stepp ha 23 (.int .i64 (IntKind.wrap .i64 (x966 + 1))) KR KR ?_; clear ha a; intro a ha
                  refine stepp ha 3 (.int .i64 (IntKind.wrap .i64 (x966 + 1))) KR KR ?_; clear ha a; intro a ha
                  refine endl ?_
                  exact thenN ⟨k968, Nat.lt_succ_self k968, IntKind.wrap .i64 (x966 + 1), (by rw [← hag969]; exact h), ha.sub (subs_cons KR (subs_cons KR (subs_nil _))), HW.pick [] [] (by decide) (by decide) KR KR⟩
                · skip
                  replace h := ite_neg' h hp989
                  replace ha := ha.bool 36 KR (not_t (bool_f hp989))
                  refine stepp ha 37 (.string a0) KR KR ?_; clear ha a; intro a ha
                  refine stepp ha 38 (.int .i64 x966) KR KR ?_; clear ha a; intro a ha
                  refine stepsi ha 39 9 (.tmp 37) (.tmp 38) a0 .i64 x966 rfl KR KR KR hA979 (show (x966 : Int) < ((a0).size : Int) from hp974) KR ?_; clear ha a; intro a ha
                  refine stepp ha 40 (.bool ((bt a0 x966) != 46)) KR KR ?_; clear ha a; intro a ha
                  refine stepp ha 41 (.bool ((bt a0 x966) != 46)) KR KR ?_; clear ha a; intro a ha
                  refine stepp ha 42 (.bool ((bt a0 x966) != 46)) KR KR ?_; clear ha a; intro a ha
                  by_cases hp990 : (bt a0 x966) = 46
                  · skip
                    replace h := ite_pos' h hp990
                    replace ha := ha.bool 42 KR (ineq_f hp990)
                    refine stepo ha 43 KR ?_; clear ha a; intro a ha
                    refine stepo ha 44 KR ?_; clear ha a; intro a ha
                    refine stepo ha 45 KR ?_; clear ha a; intro a ha
                    refine stepo ha 46 KR ?_; clear ha a; intro a ha
                    refine stepp ha 47 (.bool false) KR KR ?_; clear ha a; intro a ha
                    refine stepp ha 48 (.bool false) KR KR ?_; clear ha a; intro a ha
                    refine stepo ha 49 KR ?_; clear ha a; intro a ha
                    refine stepo ha 50 KR ?_; clear ha a; intro a ha
                    refine stepo ha 51 KR ?_; clear ha a; intro a ha
                    refine stepo ha 52 KR ?_; clear ha a; intro a ha
                    refine stepp ha 53 (.bool false) KR KR ?_; clear ha a; intro a ha
                    refine endl ?_
                    refine thenN (hK978 _ _ ?_); clear hK978
                    refine condF ha KR KR (t := false) (rfl) ?_
                    refine wp_skip ?_
                    refine blkN ?_
                    refine thenN (hK976 _ _ ?_); clear hK976
                    refine wp_region_lit ?_
                    refine stepp ha 22 (.int .i64 x966) KR KR ?_; clear ha a; intro a ha
                    refine stepp ha 23 (.int .i64 (IntKind.wrap .i64 (x966 + 1))) KR KR ?_; clear ha a; intro a ha
                    refine stepp ha 3 (.int .i64 (IntKind.wrap .i64 (x966 + 1))) KR KR ?_; clear ha a; intro a ha
                    refine endl ?_
                    exact thenN ⟨k968, Nat.lt_succ_self k968, IntKind.wrap .i64 (x966 + 1), (by rw [← hag969]; exact h), ha.sub (subs_cons KR (subs_cons KR (subs_nil _))), HW.pick [] [] (by decide) (by decide) KR KR⟩
                  · skip
                    replace h := ite_neg' h hp990
                    replace ha := ha.bool 42 KR (ineq_t hp990)
                    refine stepp ha 43 (.string a0) KR KR ?_; clear ha a; intro a ha
                    refine stepp ha 44 (.int .i64 x966) KR KR ?_; clear ha a; intro a ha
                    refine stepsi ha 45 9 (.tmp 43) (.tmp 44) a0 .i64 x966 rfl KR KR KR hA979 (show (x966 : Int) < ((a0).size : Int) from hp974) KR ?_; clear ha a; intro a ha
                    refine stepp ha 46 (.bool ((bt a0 x966) != 45)) KR KR ?_; clear ha a; intro a ha
                    refine stepp ha 47 (.bool ((bt a0 x966) != 45)) KR KR ?_; clear ha a; intro a ha
                    refine stepp ha 48 (.bool ((bt a0 x966) != 45)) KR KR ?_; clear ha a; intro a ha
                    by_cases hp991 : (bt a0 x966) = 45
                    · skip
                      replace h := ite_pos' h hp991
                      replace ha := ha.bool 48 KR (ineq_f hp991)
                      refine stepo ha 49 KR ?_; clear ha a; intro a ha
                      refine stepo ha 50 KR ?_; clear ha a; intro a ha
                      refine stepo ha 51 KR ?_; clear ha a; intro a ha
                      refine stepo ha 52 KR ?_; clear ha a; intro a ha
                      refine stepp ha 53 (.bool false) KR KR ?_; clear ha a; intro a ha
                      refine endl ?_
                      refine thenN (hK978 _ _ ?_); clear hK978
                      refine condF ha KR KR (t := false) (rfl) ?_
                      refine wp_skip ?_
                      refine blkN ?_
                      refine thenN (hK976 _ _ ?_); clear hK976
                      refine wp_region_lit ?_
                      refine stepp ha 22 (.int .i64 x966) KR KR ?_; clear ha a; intro a ha
                      refine stepp ha 23 (.int .i64 (IntKind.wrap .i64 (x966 + 1))) KR KR ?_; clear ha a; intro a ha
                      refine stepp ha 3 (.int .i64 (IntKind.wrap .i64 (x966 + 1))) KR KR ?_; clear ha a; intro a ha
                      refine endl ?_
                      exact thenN ⟨k968, Nat.lt_succ_self k968, IntKind.wrap .i64 (x966 + 1), (by rw [← hag969]; exact h), ha.sub (subs_cons KR (subs_cons KR (subs_nil _))), HW.pick [] [] (by decide) (by decide) KR KR⟩
                    · skip
                      replace h := ite_neg' h hp991
                      replace ha := ha.bool 48 KR (ineq_t hp991)
                      refine stepp ha 49 (.string a0) KR KR ?_; clear ha a; intro a ha
                      refine stepp ha 50 (.int .i64 x966) KR KR ?_; clear ha a; intro a ha
                      refine stepsi ha 51 9 (.tmp 49) (.tmp 50) a0 .i64 x966 rfl KR KR KR hA979 (show (x966 : Int) < ((a0).size : Int) from hp974) KR ?_; clear ha a; intro a ha
                      refine stepp ha 52 (.bool ((bt a0 x966) != 58)) KR KR ?_; clear ha a; intro a ha
                      refine stepp ha 53 (.bool ((bt a0 x966) != 58)) KR KR ?_; clear ha a; intro a ha
                      refine endl ?_
                      refine thenN (hK978 _ _ ?_); clear hK978
                      by_cases hp992 : (bt a0 x966) = 58
                      · skip
                        replace h := ite_pos' h hp992
                        refine condF ha KR KR (t := ((bt a0 x966) != 58)) (ineq_f hp992) ?_
                        refine wp_skip ?_
                        refine blkN ?_
                        refine thenN (hK976 _ _ ?_); clear hK976
                        refine wp_region_lit ?_
                        refine stepp ha 22 (.int .i64 x966) KR KR ?_; clear ha a; intro a ha
                        refine stepp ha 23 (.int .i64 (IntKind.wrap .i64 (x966 + 1))) KR KR ?_; clear ha a; intro a ha
                        refine stepp ha 3 (.int .i64 (IntKind.wrap .i64 (x966 + 1))) KR KR ?_; clear ha a; intro a ha
                        refine endl ?_
                        exact thenN ⟨k968, Nat.lt_succ_self k968, IntKind.wrap .i64 (x966 + 1), (by rw [← hag969]; exact h), ha.sub (subs_cons KR (subs_cons KR (subs_nil _))), HW.pick [] [] (by decide) (by decide) KR KR⟩
                      · skip
                        replace h := ite_neg' h hp992
                        refine condT ha KR KR (t := ((bt a0 x966) != 58)) (ineq_t hp992) ?_
                        refine wp_seq_k (fun K993 hK994 => ?_)
                        refine wp_region_lit ?_
                        refine stepp ha 2 (.bool false) KR KR ?_; clear ha a; intro a ha
                        refine endl ?_
                        refine thenN (hK994 _ _ ?_); clear hK994
                        refine wp_ret ?_
                        refine blkR ?_
                        refine thenR ?_
                        refine thenR ?_
                        refine blkR ?_
                        refine thenR ?_
                        obtain rfl := Option.some.inj h
                        exact finv ha _ _ rfl (.tmp (v := .bool false) KR .nil) (.bool false) rfl ⟨rfl, HW.pick [] [] (by decide) (by decide) rfl KR⟩
            · skip
              replace h := ite_neg' h hp974
              refine condF ha KR KR (t := decide (x966 < (a0.size : Int))) (decide_eq_false hp974) ?_
              refine wp_exit ?_
              refine thenE ?_
              refine thenE ?_
              refine inBlk ?_
              refine thenN (hK910 _ _ ?_); clear hK910
              refine wp_seq_k (fun K995 hK996 => ?_)
              refine wp_region_lit ?_
              refine stepp ha 2 (.bool true) KR KR ?_; clear ha a; intro a ha
              refine endl ?_
              refine thenN (hK996 _ _ ?_); clear hK996
              refine wp_ret ?_
              obtain rfl := Option.some.inj h
              exact finv ha _ _ rfl (.tmp (v := .bool true) KR .nil) (.bool true) rfl ⟨rfl, HW.pick [] [] (by decide) (by decide) rfl KR⟩
      · skip
        replace h := ite_neg' h hp906
        refine condT ha KR KR (t := (!t898)) (not_t (bool_f hp906)) ?_
        refine wp_seq_k (fun K907 hK908 => ?_)
        refine wp_region_lit ?_
        refine stepp ha 2 (.bool false) KR KR ?_; clear ha a; intro a ha
        refine endl ?_
        refine thenN (hK908 _ _ ?_); clear hK908
        refine wp_ret ?_
        refine thenR ?_
        obtain rfl := Option.some.inj h
        exact finv ha _ _ rfl (.tmp (v := .bool false) KR .nil) (.bool false) rfl ⟨rfl, HW.pick [] [] (by decide) (by decide) rfl KR⟩
/-! ### headgate/headgatekeep.Mod: function 14 -/
def headgatekeep_Mod.f (a0 : Int) (a1 : Int) : Option Int :=
  if a1 < 1 then (some 0) else (asrt (¬ a1 = 0) (some (Int.tmod (IntKind.wrap .i64 ((Int.tmod a0 a1) + a1)) a1)))
set_option maxRecDepth 100000 in
set_option maxHeartbeats 4000000 in
theorem headgatekeep_Mod.calls (a0 : Int) (a1 : Int)  (r : Int) (w : World)  (h : headgatekeep_Mod.f a0 a1 = some r) :
    Calls Try.prog 14 #[.int .i64 a0, .int .i64 a1] w (fun e W' => e = .returned (.int .i64 r) ∧ Wd w W' [] [] ) := by
  refine sxstart (n := 14) (l := [(0, .int .i64 a0), (1, .int .i64 a1)]) Try.func14 rfl rfl (Nat.le_of_ble_eq_true KR) (subsA_cons rfl (subsA_cons rfl (subsA_nil _))) ?_
  intro a ha
  have HW := Wd.refl w
  unfold headgatekeep_Mod.f at h
  refine wp_seq_k (fun K997 hK998 => ?_)
  refine wp_region_lit ?_
  refine stepp ha 4 (.int .i64 0) KR KR ?_; clear ha a; intro a ha
  refine endl ?_
  refine thenN (hK998 _ _ ?_); clear hK998
  refine wp_seq_k (fun K999 hK1000 => ?_)
  refine wp_seq_k (fun K1001 hK1002 => ?_)
  refine wp_region_lit ?_
  refine stepp ha 5 (.int .i64 a1) KR KR ?_; clear ha a; intro a ha
  refine stepp ha 6 (.bool (decide (a1 < 1))) KR KR ?_; clear ha a; intro a ha
  refine endl ?_
  refine thenN (hK1002 _ _ ?_); clear hK1002
  by_cases hp1003 : a1 < 1
  · skip
    replace h := ite_pos' h hp1003
    refine condT ha KR KR (t := decide (a1 < 1)) (decide_eq_true hp1003) ?_
    refine wp_seq_k (fun K1004 hK1005 => ?_)
    refine wp_region_lit ?_
    refine stepp ha 4 (.int .i64 0) KR KR ?_; clear ha a; intro a ha
    refine endl ?_
    refine thenN (hK1005 _ _ ?_); clear hK1005
    refine wp_ret ?_
    refine thenR ?_
    obtain rfl := Option.some.inj h
    exact finv ha _ _ rfl (.tmp (v := .int .i64 0) KR .nil) (.int .i64 0) rfl ⟨rfl, HW.pick [] [] (by decide) (by decide) rfl KR⟩
  · skip
    replace h := ite_neg' h hp1003
    refine condF ha KR KR (t := decide (a1 < 1)) (decide_eq_false hp1003) ?_
    refine wp_skip ?_
    refine thenN (hK1000 _ _ ?_); clear hK1000
    refine wp_seq_k (fun K1006 hK1007 => ?_)
    refine wp_region_lit ?_
    refine stepp ha 7 (.int .i64 a0) KR KR ?_; clear ha a; intro a ha
    refine stepp ha 8 (.int .i64 a1) KR KR ?_; clear ha a; intro a ha
    obtain ⟨hA1008, h_⟩ := asrt_some h; clear h; have h := h_; clear h_
    refine steprem ha 9 3 3 (.tmp 7) (.tmp 8) .i64 a0 a1 rfl KR KR hA1008 KR ?_; clear ha a; intro a ha
    refine stepp ha 10 (.int .i64 a1) KR KR ?_; clear ha a; intro a ha
    refine stepp ha 11 (.int .i64 (IntKind.wrap .i64 ((Int.tmod a0 a1) + a1))) KR KR ?_; clear ha a; intro a ha
    refine stepp ha 12 (.int .i64 a1) KR KR ?_; clear ha a; intro a ha
    refine steprem ha 13 3 3 (.tmp 11) (.tmp 12) .i64 (IntKind.wrap .i64 ((Int.tmod a0 a1) + a1)) a1 rfl KR KR hA1008 KR ?_; clear ha a; intro a ha
    refine stepp ha 4 (.int .i64 (Int.tmod (IntKind.wrap .i64 ((Int.tmod a0 a1) + a1)) a1)) KR KR ?_; clear ha a; intro a ha
    refine endl ?_
    refine thenN (hK1007 _ _ ?_); clear hK1007
    refine wp_ret ?_
    obtain rfl := Option.some.inj h
    exact finv ha _ _ rfl (.tmp (v := .int .i64 (Int.tmod (IntKind.wrap .i64 ((Int.tmod a0 a1) + a1)) a1)) KR .nil) (.int .i64 (Int.tmod (IntKind.wrap .i64 ((Int.tmod a0 a1) + a1)) a1)) rfl ⟨rfl, HW.pick [] [] (by decide) (by decide) rfl KR⟩
/-! ### cmp.isNaN[string]: function 47 -/
def cmp_isNaN_string.f (a0 : ByteArray) : Option Bool :=
  some (!(a0.toList == a0.toList))
set_option maxRecDepth 100000 in
set_option maxHeartbeats 4000000 in
theorem cmp_isNaN_string.calls (a0 : ByteArray)  (r : Bool) (w : World)  (h : cmp_isNaN_string.f a0 = some r) :
    Calls Try.prog 47 #[.string a0] w (fun e W' => e = .returned (.bool r) ∧ Wd w W' [] [] ) := by
  refine sxstart (n := 6) (l := [(0, .string a0)]) Try.func47 rfl rfl (Nat.le_of_ble_eq_true KR) (subsA_cons rfl (subsA_nil _)) ?_
  intro a ha
  have HW := Wd.refl w
  unfold cmp_isNaN_string.f at h
  refine wp_seq_k (fun K1009 hK1010 => ?_)
  refine wp_region_lit ?_
  refine stepp ha 2 (.bool false) KR KR ?_; clear ha a; intro a ha
  refine endl ?_
  refine thenN (hK1010 _ _ ?_); clear hK1010
  refine wp_seq_k (fun K1011 hK1012 => ?_)
  refine wp_region_lit ?_
  refine stepp ha 3 (.string a0) KR KR ?_; clear ha a; intro a ha
  refine stepp ha 4 (.string a0) KR KR ?_; clear ha a; intro a ha
  refine stepp ha 5 (.bool (!(a0.toList == a0.toList))) KR KR ?_; clear ha a; intro a ha
  refine stepp ha 2 (.bool (!(a0.toList == a0.toList))) KR KR ?_; clear ha a; intro a ha
  refine endl ?_
  refine thenN (hK1012 _ _ ?_); clear hK1012
  refine wp_ret ?_
  obtain rfl := Option.some.inj h
  exact finv ha _ _ rfl (.tmp (v := .bool (!(a0.toList == a0.toList))) KR .nil) (.bool (!(a0.toList == a0.toList))) rfl ⟨rfl, HW.pick [] [] (by decide) (by decide) rfl KR⟩
/-! ### math/bits.Len32: function 40 -/
def bits_Len32.j0 (K : Nat) (x1036 : Int) (x1037 : Int) : Option Int :=
  if x1036 ≥ 256 then (asrt (0 ≤ (IntKind.wrap .u8 (x1036.fdiv 256))) (asrt ((IntKind.wrap .u8 (x1036.fdiv 256)) < 256) (some (IntKind.wrap .i64 ((IntKind.wrap .i64 (x1037 + 8)) + (IntKind.wrap .i64 (bt (⟨#[0, 1, 2, 2, 3, 3, 3, 3, 4, 4, 4, 4, 4, 4, 4, 4, 5, 5, 5, 5, 5, 5, 5, 5, 5, 5, 5, 5, 5, 5, 5, 5, 6, 6, 6, 6, 6, 6, 6, 6, 6, 6, 6, 6, 6, 6, 6, 6, 6, 6, 6, 6, 6, 6, 6, 6, 6, 6, 6, 6, 6, 6, 6, 6, 7, 7, 7, 7, 7, 7, 7, 7, 7, 7, 7, 7, 7, 7, 7, 7, 7, 7, 7, 7, 7, 7, 7, 7, 7, 7, 7, 7, 7, 7, 7, 7, 7, 7, 7, 7, 7, 7, 7, 7, 7, 7, 7, 7, 7, 7, 7, 7, 7, 7, 7, 7, 7, 7, 7, 7, 7, 7, 7, 7, 7, 7, 7, 7, 8, 8, 8, 8, 8, 8, 8, 8, 8, 8, 8, 8, 8, 8, 8, 8, 8, 8, 8, 8, 8, 8, 8, 8, 8, 8, 8, 8, 8, 8, 8, 8, 8, 8, 8, 8, 8, 8, 8, 8, 8, 8, 8, 8, 8, 8, 8, 8, 8, 8, 8, 8, 8, 8, 8, 8, 8, 8, 8, 8, 8, 8, 8, 8, 8, 8, 8, 8, 8, 8, 8, 8, 8, 8, 8, 8, 8, 8, 8, 8, 8, 8, 8, 8, 8, 8, 8, 8, 8, 8, 8, 8, 8, 8, 8, 8, 8, 8, 8, 8, 8, 8, 8, 8, 8, 8, 8, 8, 8, 8, 8, 8, 8, 8, 8, 8, 8, 8, 8, 8, 8, 8, 8, 8, 8, 8, 8, 8]⟩ : ByteArray) (IntKind.wrap .u8 (x1036.fdiv 256))))))))) else (asrt (0 ≤ (IntKind.wrap .u8 x1036)) (asrt ((IntKind.wrap .u8 x1036) < 256) (some (IntKind.wrap .i64 (x1037 + (IntKind.wrap .i64 (bt (⟨#[0, 1, 2, 2, 3, 3, 3, 3, 4, 4, 4, 4, 4, 4, 4, 4, 5, 5, 5, 5, 5, 5, 5, 5, 5, 5, 5, 5, 5, 5, 5, 5, 6, 6, 6, 6, 6, 6, 6, 6, 6, 6, 6, 6, 6, 6, 6, 6, 6, 6, 6, 6, 6, 6, 6, 6, 6, 6, 6, 6, 6, 6, 6, 6, 7, 7, 7, 7, 7, 7, 7, 7, 7, 7, 7, 7, 7, 7, 7, 7, 7, 7, 7, 7, 7, 7, 7, 7, 7, 7, 7, 7, 7, 7, 7, 7, 7, 7, 7, 7, 7, 7, 7, 7, 7, 7, 7, 7, 7, 7, 7, 7, 7, 7, 7, 7, 7, 7, 7, 7, 7, 7, 7, 7, 7, 7, 7, 7, 8, 8, 8, 8, 8, 8, 8, 8, 8, 8, 8, 8, 8, 8, 8, 8, 8, 8, 8, 8, 8, 8, 8, 8, 8, 8, 8, 8, 8, 8, 8, 8, 8, 8, 8, 8, 8, 8, 8, 8, 8, 8, 8, 8, 8, 8, 8, 8, 8, 8, 8, 8, 8, 8, 8, 8, 8, 8, 8, 8, 8, 8, 8, 8, 8, 8, 8, 8, 8, 8, 8, 8, 8, 8, 8, 8, 8, 8, 8, 8, 8, 8, 8, 8, 8, 8, 8, 8, 8, 8, 8, 8, 8, 8, 8, 8, 8, 8, 8, 8, 8, 8, 8, 8, 8, 8, 8, 8, 8, 8, 8, 8, 8, 8, 8, 8, 8, 8, 8, 8, 8, 8, 8, 8, 8, 8, 8, 8]⟩ : ByteArray) (IntKind.wrap .u8 x1036))))))))
def bits_Len32.f (K : Nat) (a0 : Int) : Option Int :=
  if a0 ≥ 65536 then (bits_Len32.j0 K  (a0.fdiv 65536) 16) else (bits_Len32.j0 K  a0 0)
set_option maxRecDepth 100000 in
set_option maxHeartbeats 4000000 in
theorem bits_Len32.calls (K : Nat) (a0 : Int)  (r : Int) (w : World)  (h : bits_Len32.f K a0 = some r) :
    Calls Try.prog 40 #[.int .u32 a0] w (fun e W' => e = .returned (.int .i64 r) ∧ Wd w W' [] [] ) := by
  refine sxstart (n := 19) (l := [(0, .int .u32 a0)]) Try.func40 rfl rfl (Nat.le_of_ble_eq_true KR) (subsA_cons rfl (subsA_nil _)) ?_
  intro a ha
  have HW := Wd.refl w
  unfold bits_Len32.f at h
  refine wp_seq_k (fun K1027 hK1028 => ?_)
  refine wp_region_lit ?_
  refine stepp ha 2 (.int .i64 0) KR KR ?_; clear ha a; intro a ha
  refine endl ?_
  refine thenN (hK1028 _ _ ?_); clear hK1028
  refine wp_seq_k (fun K1029 hK1030 => ?_)
  refine cutn (fun a W1038 => ∃ (x1036 : Int), ∃ (x1037 : Int), bits_Len32.j0 K  x1036 x1037 = some r ∧ Has 19 [(0, .int .u32 x1036), (2, .int .i64 x1037)] a ∧ Wd w W1038 [] []) ?_ ?_
  · skip
    refine wp_seq_k (fun K1031 hK1032 => ?_)
    refine wp_region_lit ?_
    refine stepp ha 3 (.int .u32 a0) KR KR ?_; clear ha a; intro a ha
    refine stepp ha 4 (.bool (decide (a0 ≥ 65536))) KR KR ?_; clear ha a; intro a ha
    refine endl ?_
    refine thenN (hK1032 _ _ ?_); clear hK1032
    by_cases hp1033 : a0 ≥ 65536
    · skip
      replace h := ite_pos' h hp1033
      refine condT ha KR KR (t := decide (a0 ≥ 65536)) (decide_eq_true hp1033) ?_
      refine wp_seq_k (fun K1034 hK1035 => ?_)
      refine wp_region_lit ?_
      refine stepp ha 5 (.int .u32 a0) KR KR ?_; clear ha a; intro a ha
      refine stepp ha 6 (.int .u32 (a0.fdiv 65536)) KR KR ?_; clear ha a; intro a ha
      refine stepp ha 0 (.int .u32 (a0.fdiv 65536)) KR KR ?_; clear ha a; intro a ha
      refine endl ?_
      refine thenN (hK1035 _ _ ?_); clear hK1035
      refine wp_region_lit ?_
      refine stepp ha 2 (.int .i64 16) KR KR ?_; clear ha a; intro a ha
      refine endl ?_
      exact thenN ⟨a0.fdiv 65536, 16, h, ha.sub (subs_cons KR (subs_cons KR (subs_nil _))), HW.pick [] [] (by decide) (by decide) KR KR⟩
    · skip
      replace h := ite_neg' h hp1033
      refine condF ha KR KR (t := decide (a0 ≥ 65536)) (decide_eq_false hp1033) ?_
      refine wp_skip ?_
      exact thenN ⟨a0, 0, h, ha.sub (subs_cons KR (subs_cons KR (subs_nil _))), HW.pick [] [] (by decide) (by decide) KR KR⟩
  · skip
    intro a W1038 hJ
    obtain ⟨x1036, x1037, h, ha, HW⟩ := hJ
    replace h : bits_Len32.j0 K  x1036 x1037 = some r := h
    unfold bits_Len32.j0 at h
    refine hK1030 _ _ ?_; clear hK1030
    refine wp_seq_k (fun K1039 hK1040 => ?_)
    refine wp_seq_k (fun K1041 hK1042 => ?_)
    refine wp_region_lit ?_
    refine stepp ha 7 (.int .u32 x1036) KR KR ?_; clear ha a; intro a ha
    refine stepp ha 8 (.bool (decide (x1036 ≥ 256))) KR KR ?_; clear ha a; intro a ha
    refine endl ?_
    refine thenN (hK1042 _ _ ?_); clear hK1042
    by_cases hp1043 : x1036 ≥ 256
    · skip
      replace h := ite_pos' h hp1043
      refine condT ha KR KR (t := decide (x1036 ≥ 256)) (decide_eq_true hp1043) ?_
      refine wp_seq_k (fun K1044 hK1045 => ?_)
      refine wp_region_lit ?_
      refine stepp ha 9 (.int .u32 x1036) KR KR ?_; clear ha a; intro a ha
      refine stepp ha 10 (.int .u32 (x1036.fdiv 256)) KR KR ?_; clear ha a; intro a ha
      refine stepp ha 0 (.int .u32 (x1036.fdiv 256)) KR KR ?_; clear ha a; intro a ha
      refine endl ?_
      refine thenN (hK1045 _ _ ?_); clear hK1045
      refine wp_region_lit ?_
      refine stepp ha 11 (.int .i64 x1037) KR KR ?_; clear ha a; intro a ha
      refine stepp ha 12 (.int .i64 (IntKind.wrap .i64 (x1037 + 8))) KR KR ?_; clear ha a; intro a ha
      refine stepp ha 2 (.int .i64 (IntKind.wrap .i64 (x1037 + 8))) KR KR ?_; clear ha a; intro a ha
      refine endl ?_
      refine thenN (hK1040 _ _ ?_); clear hK1040
      refine wp_seq_k (fun K1046 hK1047 => ?_)
      refine wp_region_lit ?_
      refine stepp ha 13 (.int .i64 (IntKind.wrap .i64 (x1037 + 8))) KR KR ?_; clear ha a; intro a ha
      refine stepp ha 14 (.int .u32 (x1036.fdiv 256)) KR KR ?_; clear ha a; intro a ha
      refine stepp ha 15 (.int .u8 (IntKind.wrap .u8 (x1036.fdiv 256))) KR KR ?_; clear ha a; intro a ha
      obtain ⟨hA1048, h_⟩ := asrt_some h; clear h; have h := h_; clear h_
      obtain ⟨hA1049, h_⟩ := asrt_some h; clear h; have h := h_; clear h_
      refine stepsi ha 16 9 (.const (.string (⟨#[0, 1, 2, 2, 3, 3, 3, 3, 4, 4, 4, 4, 4, 4, 4, 4, 5, 5, 5, 5, 5, 5, 5, 5, 5, 5, 5, 5, 5, 5, 5, 5, 6, 6, 6, 6, 6, 6, 6, 6, 6, 6, 6, 6, 6, 6, 6, 6, 6, 6, 6, 6, 6, 6, 6, 6, 6, 6, 6, 6, 6, 6, 6, 6, 7, 7, 7, 7, 7, 7, 7, 7, 7, 7, 7, 7, 7, 7, 7, 7, 7, 7, 7, 7, 7, 7, 7, 7, 7, 7, 7, 7, 7, 7, 7, 7, 7, 7, 7, 7, 7, 7, 7, 7, 7, 7, 7, 7, 7, 7, 7, 7, 7, 7, 7, 7, 7, 7, 7, 7, 7, 7, 7, 7, 7, 7, 7, 7, 8, 8, 8, 8, 8, 8, 8, 8, 8, 8, 8, 8, 8, 8, 8, 8, 8, 8, 8, 8, 8, 8, 8, 8, 8, 8, 8, 8, 8, 8, 8, 8, 8, 8, 8, 8, 8, 8, 8, 8, 8, 8, 8, 8, 8, 8, 8, 8, 8, 8, 8, 8, 8, 8, 8, 8, 8, 8, 8, 8, 8, 8, 8, 8, 8, 8, 8, 8, 8, 8, 8, 8, 8, 8, 8, 8, 8, 8, 8, 8, 8, 8, 8, 8, 8, 8, 8, 8, 8, 8, 8, 8, 8, 8, 8, 8, 8, 8, 8, 8, 8, 8, 8, 8, 8, 8, 8, 8, 8, 8, 8, 8, 8, 8, 8, 8, 8, 8, 8, 8, 8, 8, 8, 8, 8, 8, 8, 8]⟩ : ByteArray))) (.tmp 15) (⟨#[0, 1, 2, 2, 3, 3, 3, 3, 4, 4, 4, 4, 4, 4, 4, 4, 5, 5, 5, 5, 5, 5, 5, 5, 5, 5, 5, 5, 5, 5, 5, 5, 6, 6, 6, 6, 6, 6, 6, 6, 6, 6, 6, 6, 6, 6, 6, 6, 6, 6, 6, 6, 6, 6, 6, 6, 6, 6, 6, 6, 6, 6, 6, 6, 7, 7, 7, 7, 7, 7, 7, 7, 7, 7, 7, 7, 7, 7, 7, 7, 7, 7, 7, 7, 7, 7, 7, 7, 7, 7, 7, 7, 7, 7, 7, 7, 7, 7, 7, 7, 7, 7, 7, 7, 7, 7, 7, 7, 7, 7, 7, 7, 7, 7, 7, 7, 7, 7, 7, 7, 7, 7, 7, 7, 7, 7, 7, 7, 8, 8, 8, 8, 8, 8, 8, 8, 8, 8, 8, 8, 8, 8, 8, 8, 8, 8, 8, 8, 8, 8, 8, 8, 8, 8, 8, 8, 8, 8, 8, 8, 8, 8, 8, 8, 8, 8, 8, 8, 8, 8, 8, 8, 8, 8, 8, 8, 8, 8, 8, 8, 8, 8, 8, 8, 8, 8, 8, 8, 8, 8, 8, 8, 8, 8, 8, 8, 8, 8, 8, 8, 8, 8, 8, 8, 8, 8, 8, 8, 8, 8, 8, 8, 8, 8, 8, 8, 8, 8, 8, 8, 8, 8, 8, 8, 8, 8, 8, 8, 8, 8, 8, 8, 8, 8, 8, 8, 8, 8, 8, 8, 8, 8, 8, 8, 8, 8, 8, 8, 8, 8, 8, 8, 8, 8, 8, 8]⟩ : ByteArray) .u8 (IntKind.wrap .u8 (x1036.fdiv 256)) rfl KR KR KR hA1048 (show (IntKind.wrap .u8 (x1036.fdiv 256) : Int) < (((⟨#[0, 1, 2, 2, 3, 3, 3, 3, 4, 4, 4, 4, 4, 4, 4, 4, 5, 5, 5, 5, 5, 5, 5, 5, 5, 5, 5, 5, 5, 5, 5, 5, 6, 6, 6, 6, 6, 6, 6, 6, 6, 6, 6, 6, 6, 6, 6, 6, 6, 6, 6, 6, 6, 6, 6, 6, 6, 6, 6, 6, 6, 6, 6, 6, 7, 7, 7, 7, 7, 7, 7, 7, 7, 7, 7, 7, 7, 7, 7, 7, 7, 7, 7, 7, 7, 7, 7, 7, 7, 7, 7, 7, 7, 7, 7, 7, 7, 7, 7, 7, 7, 7, 7, 7, 7, 7, 7, 7, 7, 7, 7, 7, 7, 7, 7, 7, 7, 7, 7, 7, 7, 7, 7, 7, 7, 7, 7, 7, 8, 8, 8, 8, 8, 8, 8, 8, 8, 8, 8, 8, 8, 8, 8, 8, 8, 8, 8, 8, 8, 8, 8, 8, 8, 8, 8, 8, 8, 8, 8, 8, 8, 8, 8, 8, 8, 8, 8, 8, 8, 8, 8, 8, 8, 8, 8, 8, 8, 8, 8, 8, 8, 8, 8, 8, 8, 8, 8, 8, 8, 8, 8, 8, 8, 8, 8, 8, 8, 8, 8, 8, 8, 8, 8, 8, 8, 8, 8, 8, 8, 8, 8, 8, 8, 8, 8, 8, 8, 8, 8, 8, 8, 8, 8, 8, 8, 8, 8, 8, 8, 8, 8, 8, 8, 8, 8, 8, 8, 8, 8, 8, 8, 8, 8, 8, 8, 8, 8, 8, 8, 8, 8, 8, 8, 8, 8, 8]⟩ : ByteArray)).size : Int) from hA1049) KR ?_; clear ha a; intro a ha
      refine stepp ha 17 (.int .i64 (IntKind.wrap .i64 (bt (⟨#[0, 1, 2, 2, 3, 3, 3, 3, 4, 4, 4, 4, 4, 4, 4, 4, 5, 5, 5, 5, 5, 5, 5, 5, 5, 5, 5, 5, 5, 5, 5, 5, 6, 6, 6, 6, 6, 6, 6, 6, 6, 6, 6, 6, 6, 6, 6, 6, 6, 6, 6, 6, 6, 6, 6, 6, 6, 6, 6, 6, 6, 6, 6, 6, 7, 7, 7, 7, 7, 7, 7, 7, 7, 7, 7, 7, 7, 7, 7, 7, 7, 7, 7, 7, 7, 7, 7, 7, 7, 7, 7, 7, 7, 7, 7, 7, 7, 7, 7, 7, 7, 7, 7, 7, 7, 7, 7, 7, 7, 7, 7, 7, 7, 7, 7, 7, 7, 7, 7, 7, 7, 7, 7, 7, 7, 7, 7, 7, 8, 8, 8, 8, 8, 8, 8, 8, 8, 8, 8, 8, 8, 8, 8, 8, 8, 8, 8, 8, 8, 8, 8, 8, 8, 8, 8, 8, 8, 8, 8, 8, 8, 8, 8, 8, 8, 8, 8, 8, 8, 8, 8, 8, 8, 8, 8, 8, 8, 8, 8, 8, 8, 8, 8, 8, 8, 8, 8, 8, 8, 8, 8, 8, 8, 8, 8, 8, 8, 8, 8, 8, 8, 8, 8, 8, 8, 8, 8, 8, 8, 8, 8, 8, 8, 8, 8, 8, 8, 8, 8, 8, 8, 8, 8, 8, 8, 8, 8, 8, 8, 8, 8, 8, 8, 8, 8, 8, 8, 8, 8, 8, 8, 8, 8, 8, 8, 8, 8, 8, 8, 8, 8, 8, 8, 8, 8, 8]⟩ : ByteArray) (IntKind.wrap .u8 (x1036.fdiv 256))))) KR KR ?_; clear ha a; intro a ha
      refine stepp ha 18 (.int .i64 (IntKind.wrap .i64 ((IntKind.wrap .i64 (x1037 + 8)) + (IntKind.wrap .i64 (bt (⟨#[0, 1, 2, 2, 3, 3, 3, 3, 4, 4, 4, 4, 4, 4, 4, 4, 5, 5, 5, 5, 5, 5, 5, 5, 5, 5, 5, 5, 5, 5, 5, 5, 6, 6, 6, 6, 6, 6, 6, 6, 6, 6, 6, 6, 6, 6, 6, 6, 6, 6, 6, 6, 6, 6, 6, 6, 6, 6, 6, 6, 6, 6, 6, 6, 7, 7, 7, 7, 7, 7, 7, 7, 7, 7, 7, 7, 7, 7, 7, 7, 7, 7, 7, 7, 7, 7, 7, 7, 7, 7, 7, 7, 7, 7, 7, 7, 7, 7, 7, 7, 7, 7, 7, 7, 7, 7, 7, 7, 7, 7, 7, 7, 7, 7, 7, 7, 7, 7, 7, 7, 7, 7, 7, 7, 7, 7, 7, 7, 8, 8, 8, 8, 8, 8, 8, 8, 8, 8, 8, 8, 8, 8, 8, 8, 8, 8, 8, 8, 8, 8, 8, 8, 8, 8, 8, 8, 8, 8, 8, 8, 8, 8, 8, 8, 8, 8, 8, 8, 8, 8, 8, 8, 8, 8, 8, 8, 8, 8, 8, 8, 8, 8, 8, 8, 8, 8, 8, 8, 8, 8, 8, 8, 8, 8, 8, 8, 8, 8, 8, 8, 8, 8, 8, 8, 8, 8, 8, 8, 8, 8, 8, 8, 8, 8, 8, 8, 8, 8, 8, 8, 8, 8, 8, 8, 8, 8, 8, 8, 8, 8, 8, 8, 8, 8, 8, 8, 8, 8, 8, 8, 8, 8, 8, 8, 8, 8, 8, 8, 8, 8, 8, 8, 8, 8, 8, 8]⟩ : ByteArray) (IntKind.wrap .u8 (x1036.fdiv 256))))))) KR KR ?_; clear ha a; intro a ha
      refine stepp ha 2 (.int .i64 (IntKind.wrap .i64 ((IntKind.wrap .i64 (x1037 + 8)) + (IntKind.wrap .i64 (bt (⟨#[0, 1, 2, 2, 3, 3, 3, 3, 4, 4, 4, 4, 4, 4, 4, 4, 5, 5, 5, 5, 5, 5, 5, 5, 5, 5, 5, 5, 5, 5, 5, 5, 6, 6, 6, 6, 6, 6, 6, 6, 6, 6, 6, 6, 6, 6, 6, 6, 6, 6, 6, 6, 6, 6, 6, 6, 6, 6, 6, 6, 6, 6, 6, 6, 7, 7, 7, 7, 7, 7, 7, 7, 7, 7, 7, 7, 7, 7, 7, 7, 7, 7, 7, 7, 7, 7, 7, 7, 7, 7, 7, 7, 7, 7, 7, 7, 7, 7, 7, 7, 7, 7, 7, 7, 7, 7, 7, 7, 7, 7, 7, 7, 7, 7, 7, 7, 7, 7, 7, 7, 7, 7, 7, 7, 7, 7, 7, 7, 8, 8, 8, 8, 8, 8, 8, 8, 8, 8, 8, 8, 8, 8, 8, 8, 8, 8, 8, 8, 8, 8, 8, 8, 8, 8, 8, 8, 8, 8, 8, 8, 8, 8, 8, 8, 8, 8, 8, 8, 8, 8, 8, 8, 8, 8, 8, 8, 8, 8, 8, 8, 8, 8, 8, 8, 8, 8, 8, 8, 8, 8, 8, 8, 8, 8, 8, 8, 8, 8, 8, 8, 8, 8, 8, 8, 8, 8, 8, 8, 8, 8, 8, 8, 8, 8, 8, 8, 8, 8, 8, 8, 8, 8, 8, 8, 8, 8, 8, 8, 8, 8, 8, 8, 8, 8, 8, 8, 8, 8, 8, 8, 8, 8, 8, 8, 8, 8, 8, 8, 8, 8, 8, 8, 8, 8, 8, 8]⟩ : ByteArray) (IntKind.wrap .u8 (x1036.fdiv 256))))))) KR KR ?_; clear ha a; intro a ha
      refine endl ?_
      refine thenN (hK1047 _ _ ?_); clear hK1047
      refine wp_ret ?_
      obtain rfl := Option.some.inj h
      exact finv ha _ _ rfl (.tmp (v := .int .i64 (IntKind.wrap .i64 ((IntKind.wrap .i64 (x1037 + 8)) + (IntKind.wrap .i64 (bt (⟨#[0, 1, 2, 2, 3, 3, 3, 3, 4, 4, 4, 4, 4, 4, 4, 4, 5, 5, 5, 5, 5, 5, 5, 5, 5, 5, 5, 5, 5, 5, 5, 5, 6, 6, 6, 6, 6, 6, 6, 6, 6, 6, 6, 6, 6, 6, 6, 6, 6, 6, 6, 6, 6, 6, 6, 6, 6, 6, 6, 6, 6, 6, 6, 6, 7, 7, 7, 7, 7, 7, 7, 7, 7, 7, 7, 7, 7, 7, 7, 7, 7, 7, 7, 7, 7, 7, 7, 7, 7, 7, 7, 7, 7, 7, 7, 7, 7, 7, 7, 7, 7, 7, 7, 7, 7, 7, 7, 7, 7, 7, 7, 7, 7, 7, 7, 7, 7, 7, 7, 7, 7, 7, 7, 7, 7, 7, 7, 7, 8, 8, 8, 8, 8, 8, 8, 8, 8, 8, 8, 8, 8, 8, 8, 8, 8, 8, 8, 8, 8, 8, 8, 8, 8, 8, 8, 8, 8, 8, 8, 8, 8, 8, 8, 8, 8, 8, 8, 8, 8, 8, 8, 8, 8, 8, 8, 8, 8, 8, 8, 8, 8, 8, 8, 8, 8, 8, 8, 8, 8, 8, 8, 8, 8, 8, 8, 8, 8, 8, 8, 8, 8, 8, 8, 8, 8, 8, 8, 8, 8, 8, 8, 8, 8, 8, 8, 8, 8, 8, 8, 8, 8, 8, 8, 8, 8, 8, 8, 8, 8, 8, 8, 8, 8, 8, 8, 8, 8, 8, 8, 8, 8, 8, 8, 8, 8, 8, 8, 8, 8, 8, 8, 8, 8, 8, 8, 8]⟩ : ByteArray) (IntKind.wrap .u8 (x1036.fdiv 256))))))) KR .nil) (.int .i64 (IntKind.wrap .i64 ((IntKind.wrap .i64 (x1037 + 8)) + (IntKind.wrap .i64 (bt (⟨#[0, 1, 2, 2, 3, 3, 3, 3, 4, 4, 4, 4, 4, 4, 4, 4, 5, 5, 5, 5, 5, 5, 5, 5, 5, 5, 5, 5, 5, 5, 5, 5, 6, 6, 6, 6, 6, 6, 6, 6, 6, 6, 6, 6, 6, 6, 6, 6, 6, 6, 6, 6, 6, 6, 6, 6, 6, 6, 6, 6, 6, 6, 6, 6, 7, 7, 7, 7, 7, 7, 7, 7, 7, 7, 7, 7, 7, 7, 7, 7, 7, 7, 7, 7, 7, 7, 7, 7, 7, 7, 7, 7, 7, 7, 7, 7, 7, 7, 7, 7, 7, 7, 7, 7, 7, 7, 7, 7, 7, 7, 7, 7, 7, 7, 7, 7, 7, 7, 7, 7, 7, 7, 7, 7, 7, 7, 7, 7, 8, 8, 8, 8, 8, 8, 8, 8, 8, 8, 8, 8, 8, 8, 8, 8, 8, 8, 8, 8, 8, 8, 8, 8, 8, 8, 8, 8, 8, 8, 8, 8, 8, 8, 8, 8, 8, 8, 8, 8, 8, 8, 8, 8, 8, 8, 8, 8, 8, 8, 8, 8, 8, 8, 8, 8, 8, 8, 8, 8, 8, 8, 8, 8, 8, 8, 8, 8, 8, 8, 8, 8, 8, 8, 8, 8, 8, 8, 8, 8, 8, 8, 8, 8, 8, 8, 8, 8, 8, 8, 8, 8, 8, 8, 8, 8, 8, 8, 8, 8, 8, 8, 8, 8, 8, 8, 8, 8, 8, 8, 8, 8, 8, 8, 8, 8, 8, 8, 8, 8, 8, 8, 8, 8, 8, 8, 8, 8]⟩ : ByteArray) (IntKind.wrap .u8 (x1036.fdiv 256))))))) rfl ⟨rfl, HW.pick [] [] (by decide) (by decide) rfl KR⟩
    · skip
      replace h := ite_neg' h hp1043
      refine condF ha KR KR (t := decide (x1036 ≥ 256)) (decide_eq_false hp1043) ?_
      refine wp_skip ?_
      refine thenN (hK1040 _ _ ?_); clear hK1040
      refine wp_seq_k (fun K1050 hK1051 => ?_)
      refine wp_region_lit ?_
      refine stepp ha 13 (.int .i64 x1037) KR KR ?_; clear ha a; intro a ha
      refine stepp ha 14 (.int .u32 x1036) KR KR ?_; clear ha a; intro a ha
      refine stepp ha 15 (.int .u8 (IntKind.wrap .u8 x1036)) KR KR ?_; clear ha a; intro a ha
      obtain ⟨hA1052, h_⟩ := asrt_some h; clear h; have h := h_; clear h_
      obtain ⟨hA1053, h_⟩ := asrt_some h; clear h; have h := h_; clear h_
      refine stepsi ha 16 9 (.const (.string (⟨#[0, 1, 2, 2, 3, 3, 3, 3, 4, 4, 4, 4, 4, 4, 4, 4, 5, 5, 5, 5, 5, 5, 5, 5, 5, 5, 5, 5, 5, 5, 5, 5, 6, 6, 6, 6, 6, 6, 6, 6, 6, 6, 6, 6, 6, 6, 6, 6, 6, 6, 6, 6, 6, 6, 6, 6, 6, 6, 6, 6, 6, 6, 6, 6, 7, 7, 7, 7, 7, 7, 7, 7, 7, 7, 7, 7, 7, 7, 7, 7, 7, 7, 7, 7, 7, 7, 7, 7, 7, 7, 7, 7, 7, 7, 7, 7, 7, 7, 7, 7, 7, 7, 7, 7, 7, 7, 7, 7, 7, 7, 7, 7, 7, 7, 7, 7, 7, 7, 7, 7, 7, 7, 7, 7, 7, 7, 7, 7, 8, 8, 8, 8, 8, 8, 8, 8, 8, 8, 8, 8, 8, 8, 8, 8, 8, 8, 8, 8, 8, 8, 8, 8, 8, 8, 8, 8, 8, 8, 8, 8, 8, 8, 8, 8, 8, 8, 8, 8, 8, 8, 8, 8, 8, 8, 8, 8, 8, 8, 8, 8, 8, 8, 8, 8, 8, 8, 8, 8, 8, 8, 8, 8, 8, 8, 8, 8, 8, 8, 8, 8, 8, 8, 8, 8, 8, 8, 8, 8, 8, 8, 8, 8, 8, 8, 8, 8, 8, 8, 8, 8, 8, 8, 8, 8, 8, 8, 8, 8, 8, 8, 8, 8, 8, 8, 8, 8, 8, 8, 8, 8, 8, 8, 8, 8, 8, 8, 8, 8, 8, 8, 8, 8, 8, 8, 8, 8]⟩ : ByteArray))) (.tmp 15) (⟨#[0, 1, 2, 2, 3, 3, 3, 3, 4, 4, 4, 4, 4, 4, 4, 4, 5, 5, 5, 5, 5, 5, 5, 5, 5, 5, 5, 5, 5, 5, 5, 5, 6, 6, 6, 6, 6, 6, 6, 6, 6, 6, 6, 6, 6, 6, 6, 6, 6, 6, 6, 6, 6, 6, 6, 6, 6, 6, 6, 6, 6, 6, 6, 6, 7, 7, 7, 7, 7, 7, 7, 7, 7, 7, 7, 7, 7, 7, 7, 7, 7, 7, 7, 7, 7, 7, 7, 7, 7, 7, 7, 7, 7, 7, 7, 7, 7, 7, 7, 7, 7, 7, 7, 7, 7, 7, 7, 7, 7, 7, 7, 7, 7, 7, 7, 7, 7, 7, 7, 7, 7, 7, 7, 7, 7, 7, 7, 7, 8, 8, 8, 8, 8, 8, 8, 8, 8, 8, 8, 8, 8, 8, 8, 8, 8, 8, 8, 8, 8, 8, 8, 8, 8, 8, 8, 8, 8, 8, 8, 8, 8, 8, 8, 8, 8, 8, 8, 8, 8, 8, 8, 8, 8, 8, 8, 8, 8, 8, 8, 8, 8, 8, 8, 8, 8, 8, 8, 8, 8, 8, 8, 8, 8, 8, 8, 8, 8, 8, 8, 8, 8, 8, 8, 8, 8, 8, 8, 8, 8, 8, 8, 8, 8, 8, 8, 8, 8, 8, 8, 8, 8, 8, 8, 8, 8, 8, 8, 8, 8, 8, 8, 8, 8, 8, 8, 8, 8, 8, 8, 8, 8, 8, 8, 8, 8, 8, 8, 8, 8, 8, 8, 8, 8, 8, 8, 8]⟩ : ByteArray) .u8 (IntKind.wrap .u8 x1036) rfl KR KR KR hA1052 (show (IntKind.wrap .u8 x1036 : Int) < (((⟨#[0, 1, 2, 2, 3, 3, 3, 3, 4, 4, 4, 4, 4, 4, 4, 4, 5, 5, 5, 5, 5, 5, 5, 5, 5, 5, 5, 5, 5, 5, 5, 5, 6, 6, 6, 6, 6, 6, 6, 6, 6, 6, 6, 6, 6, 6, 6, 6, 6, 6, 6, 6, 6, 6, 6, 6, 6, 6, 6, 6, 6, 6, 6, 6, 7, 7, 7, 7, 7, 7, 7, 7, 7, 7, 7, 7, 7, 7, 7, 7, 7, 7, 7, 7, 7, 7, 7, 7, 7, 7, 7, 7, 7, 7, 7, 7, 7, 7, 7, 7, 7, 7, 7, 7, 7, 7, 7, 7, 7, 7, 7, 7, 7, 7, 7, 7, 7, 7, 7, 7, 7, 7, 7, 7, 7, 7, 7, 7, 8, 8, 8, 8, 8, 8, 8, 8, 8, 8, 8, 8, 8, 8, 8, 8, 8, 8, 8, 8, 8, 8, 8, 8, 8, 8, 8, 8, 8, 8, 8, 8, 8, 8, 8, 8, 8, 8, 8, 8, 8, 8, 8, 8, 8, 8, 8, 8, 8, 8, 8, 8, 8, 8, 8, 8, 8, 8, 8, 8, 8, 8, 8, 8, 8, 8, 8, 8, 8, 8, 8, 8, 8, 8, 8, 8, 8, 8, 8, 8, 8, 8, 8, 8, 8, 8, 8, 8, 8, 8, 8, 8, 8, 8, 8, 8, 8, 8, 8, 8, 8, 8, 8, 8, 8, 8, 8, 8, 8, 8, 8, 8, 8, 8, 8, 8, 8, 8, 8, 8, 8, 8, 8, 8, 8, 8, 8, 8]⟩ : ByteArray)).size : Int) from hA1053) KR ?_; clear ha a; intro a ha
      refine stepp ha 17 (.int .i64 (IntKind.wrap .i64 (bt (⟨#[0, 1, 2, 2, 3, 3, 3, 3, 4, 4, 4, 4, 4, 4, 4, 4, 5, 5, 5, 5, 5, 5, 5, 5, 5, 5, 5, 5, 5, 5, 5, 5, 6, 6, 6, 6, 6, 6, 6, 6, 6, 6, 6, 6, 6, 6, 6, 6, 6, 6, 6, 6, 6, 6, 6, 6, 6, 6, 6, 6, 6, 6, 6, 6, 7, 7, 7, 7, 7, 7, 7, 7, 7, 7, 7, 7, 7, 7, 7, 7, 7, 7, 7, 7, 7, 7, 7, 7, 7, 7, 7, 7, 7, 7, 7, 7, 7, 7, 7, 7, 7, 7, 7, 7, 7, 7, 7, 7, 7, 7, 7, 7, 7, 7, 7, 7, 7, 7, 7, 7, 7, 7, 7, 7, 7, 7, 7, 7, 8, 8, 8, 8, 8, 8, 8, 8, 8, 8, 8, 8, 8, 8, 8, 8, 8, 8, 8, 8, 8, 8, 8, 8, 8, 8, 8, 8, 8, 8, 8, 8, 8, 8, 8, 8, 8, 8, 8, 8, 8, 8, 8, 8, 8, 8, 8, 8, 8, 8, 8, 8, 8, 8, 8, 8, 8, 8, 8, 8, 8, 8, 8, 8, 8, 8, 8, 8, 8, 8, 8, 8, 8, 8, 8, 8, 8, 8, 8, 8, 8, 8, 8, 8, 8, 8, 8, 8, 8, 8, 8, 8, 8, 8, 8, 8, 8, 8, 8, 8, 8, 8, 8, 8, 8, 8, 8, 8, 8, 8, 8, 8, 8, 8, 8, 8, 8, 8, 8, 8, 8, 8, 8, 8, 8, 8, 8, 8]⟩ : ByteArray) (IntKind.wrap .u8 x1036)))) KR KR ?_; clear ha a; intro a ha
      refine stepp ha 18 (.int .i64 (IntKind.wrap .i64 (x1037 + (IntKind.wrap .i64 (bt (⟨#[0, 1, 2, 2, 3, 3, 3, 3, 4, 4, 4, 4, 4, 4, 4, 4, 5, 5, 5, 5, 5, 5, 5, 5, 5, 5, 5, 5, 5, 5, 5, 5, 6, 6, 6, 6, 6, 6, 6, 6, 6, 6, 6, 6, 6, 6, 6, 6, 6, 6, 6, 6, 6, 6, 6, 6, 6, 6, 6, 6, 6, 6, 6, 6, 7, 7, 7, 7, 7, 7, 7, 7, 7, 7, 7, 7, 7, 7, 7, 7, 7, 7, 7, 7, 7, 7, 7, 7, 7, 7, 7, 7, 7, 7, 7, 7, 7, 7, 7, 7, 7, 7, 7, 7, 7, 7, 7, 7, 7, 7, 7, 7, 7, 7, 7, 7, 7, 7, 7, 7, 7, 7, 7, 7, 7, 7, 7, 7, 8, 8, 8, 8, 8, 8, 8, 8, 8, 8, 8, 8, 8, 8, 8, 8, 8, 8, 8, 8, 8, 8, 8, 8, 8, 8, 8, 8, 8, 8, 8, 8, 8, 8, 8, 8, 8, 8, 8, 8, 8, 8, 8, 8, 8, 8, 8, 8, 8, 8, 8, 8, 8, 8, 8, 8, 8, 8, 8, 8, 8, 8, 8, 8, 8, 8, 8, 8, 8, 8, 8, 8, 8, 8, 8, 8, 8, 8, 8, 8, 8, 8, 8, 8, 8, 8, 8, 8, 8, 8, 8, 8, 8, 8, 8, 8, 8, 8, 8, 8, 8, 8, 8, 8, 8, 8, 8, 8, 8, 8, 8, 8, 8, 8, 8, 8, 8, 8, 8, 8, 8, 8, 8, 8, 8, 8, 8, 8]⟩ : ByteArray) (IntKind.wrap .u8 x1036)))))) KR KR ?_; clear ha a; intro a ha
      refine stepp ha 2 (.int .i64 (IntKind.wrap .i64 (x1037 + (IntKind.wrap .i64 (bt (⟨#[0, 1, 2, 2, 3, 3, 3, 3, 4, 4, 4, 4, 4, 4, 4, 4, 5, 5, 5, 5, 5, 5, 5, 5, 5, 5, 5, 5, 5, 5, 5, 5, 6, 6, 6, 6, 6, 6, 6, 6, 6, 6, 6, 6, 6, 6, 6, 6, 6, 6, 6, 6, 6, 6, 6, 6, 6, 6, 6, 6, 6, 6, 6, 6, 7, 7, 7, 7, 7, 7, 7, 7, 7, 7, 7, 7, 7, 7, 7, 7, 7, 7, 7, 7, 7, 7, 7, 7, 7, 7, 7, 7, 7, 7, 7, 7, 7, 7, 7, 7, 7, 7, 7, 7, 7, 7, 7, 7, 7, 7, 7, 7, 7, 7, 7, 7, 7, 7, 7, 7, 7, 7, 7, 7, 7, 7, 7, 7, 8, 8, 8, 8, 8, 8, 8, 8, 8, 8, 8, 8, 8, 8, 8, 8, 8, 8, 8, 8, 8, 8, 8, 8, 8, 8, 8, 8, 8, 8, 8, 8, 8, 8, 8, 8, 8, 8, 8, 8, 8, 8, 8, 8, 8, 8, 8, 8, 8, 8, 8, 8, 8, 8, 8, 8, 8, 8, 8, 8, 8, 8, 8, 8, 8, 8, 8, 8, 8, 8, 8, 8, 8, 8, 8, 8, 8, 8, 8, 8, 8, 8, 8, 8, 8, 8, 8, 8, 8, 8, 8, 8, 8, 8, 8, 8, 8, 8, 8, 8, 8, 8, 8, 8, 8, 8, 8, 8, 8, 8, 8, 8, 8, 8, 8, 8, 8, 8, 8, 8, 8, 8, 8, 8, 8, 8, 8, 8]⟩ : ByteArray) (IntKind.wrap .u8 x1036)))))) KR KR ?_; clear ha a; intro a ha
      refine endl ?_
      refine thenN (hK1051 _ _ ?_); clear hK1051
      refine wp_ret ?_
      obtain rfl := Option.some.inj h
      exact finv ha _ _ rfl (.tmp (v := .int .i64 (IntKind.wrap .i64 (x1037 + (IntKind.wrap .i64 (bt (⟨#[0, 1, 2, 2, 3, 3, 3, 3, 4, 4, 4, 4, 4, 4, 4, 4, 5, 5, 5, 5, 5, 5, 5, 5, 5, 5, 5, 5, 5, 5, 5, 5, 6, 6, 6, 6, 6, 6, 6, 6, 6, 6, 6, 6, 6, 6, 6, 6, 6, 6, 6, 6, 6, 6, 6, 6, 6, 6, 6, 6, 6, 6, 6, 6, 7, 7, 7, 7, 7, 7, 7, 7, 7, 7, 7, 7, 7, 7, 7, 7, 7, 7, 7, 7, 7, 7, 7, 7, 7, 7, 7, 7, 7, 7, 7, 7, 7, 7, 7, 7, 7, 7, 7, 7, 7, 7, 7, 7, 7, 7, 7, 7, 7, 7, 7, 7, 7, 7, 7, 7, 7, 7, 7, 7, 7, 7, 7, 7, 8, 8, 8, 8, 8, 8, 8, 8, 8, 8, 8, 8, 8, 8, 8, 8, 8, 8, 8, 8, 8, 8, 8, 8, 8, 8, 8, 8, 8, 8, 8, 8, 8, 8, 8, 8, 8, 8, 8, 8, 8, 8, 8, 8, 8, 8, 8, 8, 8, 8, 8, 8, 8, 8, 8, 8, 8, 8, 8, 8, 8, 8, 8, 8, 8, 8, 8, 8, 8, 8, 8, 8, 8, 8, 8, 8, 8, 8, 8, 8, 8, 8, 8, 8, 8, 8, 8, 8, 8, 8, 8, 8, 8, 8, 8, 8, 8, 8, 8, 8, 8, 8, 8, 8, 8, 8, 8, 8, 8, 8, 8, 8, 8, 8, 8, 8, 8, 8, 8, 8, 8, 8, 8, 8, 8, 8, 8, 8]⟩ : ByteArray) (IntKind.wrap .u8 x1036)))))) KR .nil) (.int .i64 (IntKind.wrap .i64 (x1037 + (IntKind.wrap .i64 (bt (⟨#[0, 1, 2, 2, 3, 3, 3, 3, 4, 4, 4, 4, 4, 4, 4, 4, 5, 5, 5, 5, 5, 5, 5, 5, 5, 5, 5, 5, 5, 5, 5, 5, 6, 6, 6, 6, 6, 6, 6, 6, 6, 6, 6, 6, 6, 6, 6, 6, 6, 6, 6, 6, 6, 6, 6, 6, 6, 6, 6, 6, 6, 6, 6, 6, 7, 7, 7, 7, 7, 7, 7, 7, 7, 7, 7, 7, 7, 7, 7, 7, 7, 7, 7, 7, 7, 7, 7, 7, 7, 7, 7, 7, 7, 7, 7, 7, 7, 7, 7, 7, 7, 7, 7, 7, 7, 7, 7, 7, 7, 7, 7, 7, 7, 7, 7, 7, 7, 7, 7, 7, 7, 7, 7, 7, 7, 7, 7, 7, 8, 8, 8, 8, 8, 8, 8, 8, 8, 8, 8, 8, 8, 8, 8, 8, 8, 8, 8, 8, 8, 8, 8, 8, 8, 8, 8, 8, 8, 8, 8, 8, 8, 8, 8, 8, 8, 8, 8, 8, 8, 8, 8, 8, 8, 8, 8, 8, 8, 8, 8, 8, 8, 8, 8, 8, 8, 8, 8, 8, 8, 8, 8, 8, 8, 8, 8, 8, 8, 8, 8, 8, 8, 8, 8, 8, 8, 8, 8, 8, 8, 8, 8, 8, 8, 8, 8, 8, 8, 8, 8, 8, 8, 8, 8, 8, 8, 8, 8, 8, 8, 8, 8, 8, 8, 8, 8, 8, 8, 8, 8, 8, 8, 8, 8, 8, 8, 8, 8, 8, 8, 8, 8, 8, 8, 8, 8, 8]⟩ : ByteArray) (IntKind.wrap .u8 x1036)))))) rfl ⟨rfl, HW.pick [] [] (by decide) (by decide) rfl KR⟩
/-! ### math/bits.Len64: function 41 -/
def bits_Len64.j1 (K : Nat) (x1073 : Int) (x1074 : Int) : Option Int :=
  if x1073 ≥ 256 then (asrt (0 ≤ (IntKind.wrap .u8 (x1073.fdiv 256))) (asrt ((IntKind.wrap .u8 (x1073.fdiv 256)) < 256) (some (IntKind.wrap .i64 ((IntKind.wrap .i64 (x1074 + 8)) + (IntKind.wrap .i64 (bt (⟨#[0, 1, 2, 2, 3, 3, 3, 3, 4, 4, 4, 4, 4, 4, 4, 4, 5, 5, 5, 5, 5, 5, 5, 5, 5, 5, 5, 5, 5, 5, 5, 5, 6, 6, 6, 6, 6, 6, 6, 6, 6, 6, 6, 6, 6, 6, 6, 6, 6, 6, 6, 6, 6, 6, 6, 6, 6, 6, 6, 6, 6, 6, 6, 6, 7, 7, 7, 7, 7, 7, 7, 7, 7, 7, 7, 7, 7, 7, 7, 7, 7, 7, 7, 7, 7, 7, 7, 7, 7, 7, 7, 7, 7, 7, 7, 7, 7, 7, 7, 7, 7, 7, 7, 7, 7, 7, 7, 7, 7, 7, 7, 7, 7, 7, 7, 7, 7, 7, 7, 7, 7, 7, 7, 7, 7, 7, 7, 7, 8, 8, 8, 8, 8, 8, 8, 8, 8, 8, 8, 8, 8, 8, 8, 8, 8, 8, 8, 8, 8, 8, 8, 8, 8, 8, 8, 8, 8, 8, 8, 8, 8, 8, 8, 8, 8, 8, 8, 8, 8, 8, 8, 8, 8, 8, 8, 8, 8, 8, 8, 8, 8, 8, 8, 8, 8, 8, 8, 8, 8, 8, 8, 8, 8, 8, 8, 8, 8, 8, 8, 8, 8, 8, 8, 8, 8, 8, 8, 8, 8, 8, 8, 8, 8, 8, 8, 8, 8, 8, 8, 8, 8, 8, 8, 8, 8, 8, 8, 8, 8, 8, 8, 8, 8, 8, 8, 8, 8, 8, 8, 8, 8, 8, 8, 8, 8, 8, 8, 8, 8, 8, 8, 8, 8, 8, 8, 8]⟩ : ByteArray) (IntKind.wrap .u8 (x1073.fdiv 256))))))))) else (asrt (0 ≤ (IntKind.wrap .u8 x1073)) (asrt ((IntKind.wrap .u8 x1073) < 256) (some (IntKind.wrap .i64 (x1074 + (IntKind.wrap .i64 (bt (⟨#[0, 1, 2, 2, 3, 3, 3, 3, 4, 4, 4, 4, 4, 4, 4, 4, 5, 5, 5, 5, 5, 5, 5, 5, 5, 5, 5, 5, 5, 5, 5, 5, 6, 6, 6, 6, 6, 6, 6, 6, 6, 6, 6, 6, 6, 6, 6, 6, 6, 6, 6, 6, 6, 6, 6, 6, 6, 6, 6, 6, 6, 6, 6, 6, 7, 7, 7, 7, 7, 7, 7, 7, 7, 7, 7, 7, 7, 7, 7, 7, 7, 7, 7, 7, 7, 7, 7, 7, 7, 7, 7, 7, 7, 7, 7, 7, 7, 7, 7, 7, 7, 7, 7, 7, 7, 7, 7, 7, 7, 7, 7, 7, 7, 7, 7, 7, 7, 7, 7, 7, 7, 7, 7, 7, 7, 7, 7, 7, 8, 8, 8, 8, 8, 8, 8, 8, 8, 8, 8, 8, 8, 8, 8, 8, 8, 8, 8, 8, 8, 8, 8, 8, 8, 8, 8, 8, 8, 8, 8, 8, 8, 8, 8, 8, 8, 8, 8, 8, 8, 8, 8, 8, 8, 8, 8, 8, 8, 8, 8, 8, 8, 8, 8, 8, 8, 8, 8, 8, 8, 8, 8, 8, 8, 8, 8, 8, 8, 8, 8, 8, 8, 8, 8, 8, 8, 8, 8, 8, 8, 8, 8, 8, 8, 8, 8, 8, 8, 8, 8, 8, 8, 8, 8, 8, 8, 8, 8, 8, 8, 8, 8, 8, 8, 8, 8, 8, 8, 8, 8, 8, 8, 8, 8, 8, 8, 8, 8, 8, 8, 8, 8, 8, 8, 8, 8, 8]⟩ : ByteArray) (IntKind.wrap .u8 x1073))))))))
def bits_Len64.j0 (K : Nat) (x1063 : Int) (x1064 : Int) : Option Int :=
  if x1063 ≥ 65536 then (bits_Len64.j1 K  (x1063.fdiv 65536) (IntKind.wrap .i64 (x1064 + 16))) else (bits_Len64.j1 K  x1063 x1064)
def bits_Len64.f (K : Nat) (a0 : Int) : Option Int :=
  if a0 ≥ 4294967296 then (bits_Len64.j0 K  (a0.fdiv 4294967296) 32) else (bits_Len64.j0 K  a0 0)
set_option maxRecDepth 100000 in
set_option maxHeartbeats 4000000 in
theorem bits_Len64.calls (K : Nat) (a0 : Int)  (r : Int) (w : World)  (h : bits_Len64.f K a0 = some r) :
    Calls Try.prog 41 #[.int .u64 a0] w (fun e W' => e = .returned (.int .i64 r) ∧ Wd w W' [] [] ) := by
  refine sxstart (n := 25) (l := [(0, .int .u64 a0)]) Try.func41 rfl rfl (Nat.le_of_ble_eq_true KR) (subsA_cons rfl (subsA_nil _)) ?_
  intro a ha
  have HW := Wd.refl w
  unfold bits_Len64.f at h
  refine wp_seq_k (fun K1054 hK1055 => ?_)
  refine wp_region_lit ?_
  refine stepp ha 2 (.int .i64 0) KR KR ?_; clear ha a; intro a ha
  refine endl ?_
  refine thenN (hK1055 _ _ ?_); clear hK1055
  refine wp_seq_k (fun K1056 hK1057 => ?_)
  refine cutn (fun a W1065 => ∃ (x1063 : Int), ∃ (x1064 : Int), bits_Len64.j0 K  x1063 x1064 = some r ∧ Has 25 [(0, .int .u64 x1063), (2, .int .i64 x1064)] a ∧ Wd w W1065 [] []) ?_ ?_
  · skip
    refine wp_seq_k (fun K1058 hK1059 => ?_)
    refine wp_region_lit ?_
    refine stepp ha 3 (.int .u64 a0) KR KR ?_; clear ha a; intro a ha
    refine stepp ha 4 (.bool (decide (a0 ≥ 4294967296))) KR KR ?_; clear ha a; intro a ha
    refine endl ?_
    refine thenN (hK1059 _ _ ?_); clear hK1059
    by_cases hp1060 : a0 ≥ 4294967296
    · skip
      replace h := ite_pos' h hp1060
      refine condT ha KR KR (t := decide (a0 ≥ 4294967296)) (decide_eq_true hp1060) ?_
      refine wp_seq_k (fun K1061 hK1062 => ?_)
      refine wp_region_lit ?_
      refine stepp ha 5 (.int .u64 a0) KR KR ?_; clear ha a; intro a ha
      refine stepp ha 6 (.int .u64 (a0.fdiv 4294967296)) KR KR ?_; clear ha a; intro a ha
      refine stepp ha 0 (.int .u64 (a0.fdiv 4294967296)) KR KR ?_; clear ha a; intro a ha
      refine endl ?_
      refine thenN (hK1062 _ _ ?_); clear hK1062
      refine wp_region_lit ?_
      refine stepp ha 2 (.int .i64 32) KR KR ?_; clear ha a; intro a ha
      refine endl ?_
      exact thenN ⟨a0.fdiv 4294967296, 32, h, ha.sub (subs_cons KR (subs_cons KR (subs_nil _))), HW.pick [] [] (by decide) (by decide) KR KR⟩
    · skip
      replace h := ite_neg' h hp1060
      refine condF ha KR KR (t := decide (a0 ≥ 4294967296)) (decide_eq_false hp1060) ?_
      refine wp_skip ?_
      exact thenN ⟨a0, 0, h, ha.sub (subs_cons KR (subs_cons KR (subs_nil _))), HW.pick [] [] (by decide) (by decide) KR KR⟩
  · skip
    intro a W1065 hJ
    obtain ⟨x1063, x1064, h, ha, HW⟩ := hJ
    replace h : bits_Len64.j0 K  x1063 x1064 = some r := h
    unfold bits_Len64.j0 at h
    refine hK1057 _ _ ?_; clear hK1057
    refine wp_seq_k (fun K1066 hK1067 => ?_)
    refine cutn (fun a W1075 => ∃ (x1073 : Int), ∃ (x1074 : Int), bits_Len64.j1 K  x1073 x1074 = some r ∧ Has 25 [(0, .int .u64 x1073), (2, .int .i64 x1074)] a ∧ Wd w W1075 [] []) ?_ ?_
    · skip
      refine wp_seq_k (fun K1068 hK1069 => ?_)
      refine wp_region_lit ?_
      refine stepp ha 7 (.int .u64 x1063) KR KR ?_; clear ha a; intro a ha
      refine stepp ha 8 (.bool (decide (x1063 ≥ 65536))) KR KR ?_; clear ha a; intro a ha
      refine endl ?_
      refine thenN (hK1069 _ _ ?_); clear hK1069
      by_cases hp1070 : x1063 ≥ 65536
      · skip
        replace h := ite_pos' h hp1070
        refine condT ha KR KR (t := decide (x1063 ≥ 65536)) (decide_eq_true hp1070) ?_
        refine wp_seq_k (fun K1071 hK1072 => ?_)
        refine wp_region_lit ?_
        refine stepp ha 9 (.int .u64 x1063) KR KR ?_; clear ha a; intro a ha
        refine stepp ha 10 (.int .u64 (x1063.fdiv 65536)) KR KR ?_; clear ha a; intro a ha
        refine stepp ha 0 (.int .u64 (x1063.fdiv 65536)) KR KR ?_; clear ha a; intro a ha
        refine endl ?_
        refine thenN (hK1072 _ _ ?_); clear hK1072
        refine wp_region_lit ?_
        refine stepp ha 11 (.int .i64 x1064) KR KR ?_; clear ha a; intro a ha
        refine stepp ha 12 (.int .i64 (IntKind.wrap .i64 (x1064 + 16))) KR KR ?_; clear ha a; intro a ha
        refine stepp ha 2 (.int .i64 (IntKind.wrap .i64 (x1064 + 16))) KR KR ?_; clear ha a; intro a ha
        refine endl ?_
        exact thenN ⟨x1063.fdiv 65536, IntKind.wrap .i64 (x1064 + 16), h, ha.sub (subs_cons KR (subs_cons KR (subs_nil _))), HW.pick [] [] (by decide) (by decide) KR KR⟩
      · skip
        replace h := ite_neg' h hp1070
        refine condF ha KR KR (t := decide (x1063 ≥ 65536)) (decide_eq_false hp1070) ?_
        refine wp_skip ?_
        exact thenN ⟨x1063, x1064, h, ha.sub (subs_cons KR (subs_cons KR (subs_nil _))), HW.pick [] [] (by decide) (by decide) KR KR⟩
    · skip
      intro a W1075 hJ
      obtain ⟨x1073, x1074, h, ha, HW⟩ := hJ
      replace h : bits_Len64.j1 K  x1073 x1074 = some r := h
      unfold bits_Len64.j1 at h
      refine hK1067 _ _ ?_; clear hK1067
      refine wp_seq_k (fun K1076 hK1077 => ?_)
      refine wp_seq_k (fun K1078 hK1079 => ?_)
      refine wp_region_lit ?_
      refine stepp ha 13 (.int .u64 x1073) KR KR ?_; clear ha a; intro a ha
      refine stepp ha 14 (.bool (decide (x1073 ≥ 256))) KR KR ?_; clear ha a; intro a ha
      refine endl ?_
      refine thenN (hK1079 _ _ ?_); clear hK1079
      by_cases hp1080 : x1073 ≥ 256
      · skip
        replace h := ite_pos' h hp1080
        refine condT ha KR KR (t := decide (x1073 ≥ 256)) (decide_eq_true hp1080) ?_
        refine wp_seq_k (fun K1081 hK1082 => ?_)
        refine wp_region_lit ?_
        refine stepp ha 15 (.int .u64 x1073) KR KR ?_; clear ha a; intro a ha
        refine stepp ha 16 (.int .u64 (x1073.fdiv 256)) KR KR ?_; clear ha a; intro a ha
        refine stepp ha 0 (.int .u64 (x1073.fdiv 256)) KR KR ?_; clear ha a; intro a ha
        refine endl ?_
        refine thenN (hK1082 _ _ ?_); clear hK1082
        refine wp_region_lit ?_
        refine stepp ha 17 (.int .i64 x1074) KR KR ?_; clear ha a; intro a ha
        refine stepp ha 18 (.int .i64 (IntKind.wrap .i64 (x1074 + 8))) KR KR ?_; clear ha a; intro a ha
        refine stepp ha 2 (.int .i64 (IntKind.wrap .i64 (x1074 + 8))) KR KR ?_; clear ha a; intro a ha
        refine endl ?_
        refine thenN (hK1077 _ _ ?_); clear hK1077
        refine wp_seq_k (fun K1083 hK1084 => ?_)
        refine wp_region_lit ?_
        refine stepp ha 19 (.int .i64 (IntKind.wrap .i64 (x1074 + 8))) KR KR ?_; clear ha a; intro a ha
        refine stepp ha 20 (.int .u64 (x1073.fdiv 256)) KR KR ?_; clear ha a; intro a ha
        refine stepp ha 21 (.int .u8 (IntKind.wrap .u8 (x1073.fdiv 256))) KR KR ?_; clear ha a; intro a ha
        obtain ⟨hA1085, h_⟩ := asrt_some h; clear h; have h := h_; clear h_
        obtain ⟨hA1086, h_⟩ := asrt_some h; clear h; have h := h_; clear h_
        refine stepsi ha 22 9 (.const (.string (⟨#[0, 1, 2, 2, 3, 3, 3, 3, 4, 4, 4, 4, 4, 4, 4, 4, 5, 5, 5, 5, 5, 5, 5, 5, 5, 5, 5, 5, 5, 5, 5, 5, 6, 6, 6, 6, 6, 6, 6, 6, 6, 6, 6, 6, 6, 6, 6, 6, 6, 6, 6, 6, 6, 6, 6, 6, 6, 6, 6, 6, 6, 6, 6, 6, 7, 7, 7, 7, 7, 7, 7, 7, 7, 7, 7, 7, 7, 7, 7, 7, 7, 7, 7, 7, 7, 7, 7, 7, 7, 7, 7, 7, 7, 7, 7, 7, 7, 7, 7, 7, 7, 7, 7, 7, 7, 7, 7, 7, 7, 7, 7, 7, 7, 7, 7, 7, 7, 7, 7, 7, 7, 7, 7, 7, 7, 7, 7, 7, 8, 8, 8, 8, 8, 8, 8, 8, 8, 8, 8, 8, 8, 8, 8, 8, 8, 8, 8, 8, 8, 8, 8, 8, 8, 8, 8, 8, 8, 8, 8, 8, 8, 8, 8, 8, 8, 8, 8, 8, 8, 8, 8, 8, 8, 8, 8, 8, 8, 8, 8, 8, 8, 8, 8, 8, 8, 8, 8, 8, 8, 8, 8, 8, 8, 8, 8, 8, 8, 8, 8, 8, 8, 8, 8, 8, 8, 8, 8, 8, 8, 8, 8, 8, 8, 8, 8, 8, 8, 8, 8, 8, 8, 8, 8, 8, 8, 8, 8, 8, 8, 8, 8, 8, 8, 8, 8, 8, 8, 8, 8, 8, 8, 8, 8, 8, 8, 8, 8, 8, 8, 8, 8, 8, 8, 8, 8, 8]⟩ : ByteArray))) (.tmp 21) (⟨#[0, 1, 2, 2, 3, 3, 3, 3, 4, 4, 4, 4, 4, 4, 4, 4, 5, 5, 5, 5, 5, 5, 5, 5, 5, 5, 5, 5, 5, 5, 5, 5, 6, 6, 6, 6, 6, 6, 6, 6, 6, 6, 6, 6, 6, 6, 6, 6, 6, 6, 6, 6, 6, 6, 6, 6, 6, 6, 6, 6, 6, 6, 6, 6, 7, 7, 7, 7, 7, 7, 7, 7, 7, 7, 7, 7, 7, 7, 7, 7, 7, 7, 7, 7, 7, 7, 7, 7, 7, 7, 7, 7, 7, 7, 7, 7, 7, 7, 7, 7, 7, 7, 7, 7, 7, 7, 7, 7, 7, 7, 7, 7, 7, 7, 7, 7, 7, 7, 7, 7, 7, 7, 7, 7, 7, 7, 7, 7, 8, 8, 8, 8, 8, 8, 8, 8, 8, 8, 8, 8, 8, 8, 8, 8, 8, 8, 8, 8, 8, 8, 8, 8, 8, 8, 8, 8, 8, 8, 8, 8, 8, 8, 8, 8, 8, 8, 8, 8, 8, 8, 8, 8, 8, 8, 8, 8, 8, 8, 8, 8, 8, 8, 8, 8, 8, 8, 8, 8, 8, 8, 8, 8, 8, 8, 8, 8, 8, 8, 8, 8, 8, 8, 8, 8, 8, 8, 8, 8, 8, 8, 8, 8, 8, 8, 8, 8, 8, 8, 8, 8, 8, 8, 8, 8, 8, 8, 8, 8, 8, 8, 8, 8, 8, 8, 8, 8, 8, 8, 8, 8, 8, 8, 8, 8, 8, 8, 8, 8, 8, 8, 8, 8, 8, 8, 8, 8]⟩ : ByteArray) .u8 (IntKind.wrap .u8 (x1073.fdiv 256)) rfl KR KR KR hA1085 (show (IntKind.wrap .u8 (x1073.fdiv 256) : Int) < (((⟨#[0, 1, 2, 2, 3, 3, 3, 3, 4, 4, 4, 4, 4, 4, 4, 4, 5, 5, 5, 5, 5, 5, 5, 5, 5, 5, 5, 5, 5, 5, 5, 5, 6, 6, 6, 6, 6, 6, 6, 6, 6, 6, 6, 6, 6, 6, 6, 6, 6, 6, 6, 6, 6, 6, 6, 6, 6, 6, 6, 6, 6, 6, 6, 6, 7, 7, 7, 7, 7, 7, 7, 7, 7, 7, 7, 7, 7, 7, 7, 7, 7, 7, 7, 7, 7, 7, 7, 7, 7, 7, 7, 7, 7, 7, 7, 7, 7, 7, 7, 7, 7, 7, 7, 7, 7, 7, 7, 7, 7, 7, 7, 7, 7, 7, 7, 7, 7, 7, 7, 7, 7, 7, 7, 7, 7, 7, 7, 7, 8, 8, 8, 8, 8, 8, 8, 8, 8, 8, 8, 8, 8, 8, 8, 8, 8, 8, 8, 8, 8, 8, 8, 8, 8, 8, 8, 8, 8, 8, 8, 8, 8, 8, 8, 8, 8, 8, 8, 8, 8, 8, 8, 8, 8, 8, 8, 8, 8, 8, 8, 8, 8, 8, 8, 8, 8, 8, 8, 8, 8, 8, 8, 8, 8, 8, 8, 8, 8, 8, 8, 8, 8, 8, 8, 8, 8, 8, 8, 8, 8, 8, 8, 8, 8, 8, 8, 8, 8, 8, 8, 8, 8, 8, 8, 8, 8, 8, 8, 8, 8, 8, 8, 8, 8, 8, 8, 8, 8, 8, 8, 8, 8, 8, 8, 8, 8, 8, 8, 8, 8, 8, 8, 8, 8, 8, 8, 8]⟩ : ByteArray)).size : Int) from hA1086) KR ?_; clear ha a; intro a ha
        refine stepp ha 23 (.int .i64 (IntKind.wrap .i64 (bt (⟨#[0, 1, 2, 2, 3, 3, 3, 3, 4, 4, 4, 4, 4, 4, 4, 4, 5, 5, 5, 5, 5, 5, 5, 5, 5, 5, 5, 5, 5, 5, 5, 5, 6, 6, 6, 6, 6, 6, 6, 6, 6, 6, 6, 6, 6, 6, 6, 6, 6, 6, 6, 6, 6, 6, 6, 6, 6, 6, 6, 6, 6, 6, 6, 6, 7, 7, 7, 7, 7, 7, 7, 7, 7, 7, 7, 7, 7, 7, 7, 7, 7, 7, 7, 7, 7, 7, 7, 7, 7, 7, 7, 7, 7, 7, 7, 7, 7, 7, 7, 7, 7, 7, 7, 7, 7, 7, 7, 7, 7, 7, 7, 7, 7, 7, 7, 7, 7, 7, 7, 7, 7, 7, 7, 7, 7, 7, 7, 7, 8, 8, 8, 8, 8, 8, 8, 8, 8, 8, 8, 8, 8, 8, 8, 8, 8, 8, 8, 8, 8, 8, 8, 8, 8, 8, 8, 8, 8, 8, 8, 8, 8, 8, 8, 8, 8, 8, 8, 8, 8, 8, 8, 8, 8, 8, 8, 8, 8, 8, 8, 8, 8, 8, 8, 8, 8, 8, 8, 8, 8, 8, 8, 8, 8, 8, 8, 8, 8, 8, 8, 8, 8, 8, 8, 8, 8, 8, 8, 8, 8, 8, 8, 8, 8, 8, 8, 8, 8, 8, 8, 8, 8, 8, 8, 8, 8, 8, 8, 8, 8, 8, 8, 8, 8, 8, 8, 8, 8, 8, 8, 8, 8, 8, 8, 8, 8, 8, 8, 8, 8, 8, 8, 8, 8, 8, 8, 8]⟩ : ByteArray) (IntKind.wrap .u8 (x1073.fdiv 256))))) KR KR ?_; clear ha a; intro a ha
        refine stepp ha 24 (.int .i64 (IntKind.wrap .i64 ((IntKind.wrap .i64 (x1074 + 8)) + (IntKind.wrap .i64 (bt (⟨#[0, 1, 2, 2, 3, 3, 3, 3, 4, 4, 4, 4, 4, 4, 4, 4, 5, 5, 5, 5, 5, 5, 5, 5, 5, 5, 5, 5, 5, 5, 5, 5, 6, 6, 6, 6, 6, 6, 6, 6, 6, 6, 6, 6, 6, 6, 6, 6, 6, 6, 6, 6, 6, 6, 6, 6, 6, 6, 6, 6, 6, 6, 6, 6, 7, 7, 7, 7, 7, 7, 7, 7, 7, 7, 7, 7, 7, 7, 7, 7, 7, 7, 7, 7, 7, 7, 7, 7, 7, 7, 7, 7, 7, 7, 7, 7, 7, 7, 7, 7, 7, 7, 7, 7, 7, 7, 7, 7, 7, 7, 7, 7, 7, 7, 7, 7, 7, 7, 7, 7, 7, 7, 7, 7, 7, 7, 7, 7, 8, 8, 8, 8, 8, 8, 8, 8, 8, 8, 8, 8, 8, 8, 8, 8, 8, 8, 8, 8, 8, 8, 8, 8, 8, 8, 8, 8, 8, 8, 8, 8, 8, 8, 8, 8, 8, 8, 8, 8, 8, 8, 8, 8, 8, 8, 8, 8, 8, 8, 8, 8, 8, 8, 8, 8, 8, 8, 8, 8, 8, 8, 8, 8, 8, 8, 8, 8, 8, 8, 8, 8, 8, 8, 8, 8, 8, 8, 8, 8, 8, 8, 8, 8, 8, 8, 8, 8, 8, 8, 8, 8, 8, 8, 8, 8, 8, 8, 8, 8, 8, 8, 8, 8, 8, 8, 8, 8, 8, 8, 8, 8, 8, 8, 8, 8, 8, 8, 8, 8, 8, 8, 8, 8, 8, 8, 8, 8]⟩ : ByteArray) (IntKind.wrap .u8 (x1073.fdiv 256))))))) KR KR ?_; clear ha a; intro a ha
        refine stepp ha 2 (.int .i64 (IntKind.wrap .i64 ((IntKind.wrap .i64 (x1074 + 8)) + (IntKind.wrap .i64 (bt (⟨#[0, 1, 2, 2, 3, 3, 3, 3, 4, 4, 4, 4, 4, 4, 4, 4, 5, 5, 5, 5, 5, 5, 5, 5, 5, 5, 5, 5, 5, 5, 5, 5, 6, 6, 6, 6, 6, 6, 6, 6, 6, 6, 6, 6, 6, 6, 6, 6, 6, 6, 6, 6, 6, 6, 6, 6, 6, 6, 6, 6, 6, 6, 6, 6, 7, 7, 7, 7, 7, 7, 7, 7, 7, 7, 7, 7, 7, 7, 7, 7, 7, 7, 7, 7, 7, 7, 7, 7, 7, 7, 7, 7, 7, 7, 7, 7, 7, 7, 7, 7, 7, 7, 7, 7, 7, 7, 7, 7, 7, 7, 7, 7, 7, 7, 7, 7, 7, 7, 7, 7, 7, 7, 7, 7, 7, 7, 7, 7, 8, 8, 8, 8, 8, 8, 8, 8, 8, 8, 8, 8, 8, 8, 8, 8, 8, 8, 8, 8, 8, 8, 8, 8, 8, 8, 8, 8, 8, 8, 8, 8, 8, 8, 8, 8, 8, 8, 8, 8, 8, 8, 8, 8, 8, 8, 8, 8, 8, 8, 8, 8, 8, 8, 8, 8, 8, 8, 8, 8, 8, 8, 8, 8, 8, 8, 8, 8, 8, 8, 8, 8, 8, 8, 8, 8, 8, 8, 8, 8, 8, 8, 8, 8, 8, 8, 8, 8, 8, 8, 8, 8, 8, 8, 8, 8, 8, 8, 8, 8, 8, 8, 8, 8, 8, 8, 8, 8, 8, 8, 8, 8, 8, 8, 8, 8, 8, 8, 8, 8, 8, 8, 8, 8, 8, 8, 8, 8]⟩ : ByteArray) (IntKind.wrap .u8 (x1073.fdiv 256))))))) KR KR ?_; clear ha a; intro a ha
        refine endl ?_
        refine thenN (hK1084 _ _ ?_); clear hK1084
        refine wp_ret ?_
        obtain rfl := Option.some.inj h
        exact finv ha _ _ rfl (.tmp (v := .int .i64 (IntKind.wrap .i64 ((IntKind.wrap .i64 (x1074 + 8)) + (IntKind.wrap .i64 (bt (⟨#[0, 1, 2, 2, 3, 3, 3, 3, 4, 4, 4, 4, 4, 4, 4, 4, 5, 5, 5, 5, 5, 5, 5, 5, 5, 5, 5, 5, 5, 5, 5, 5, 6, 6, 6, 6, 6, 6, 6, 6, 6, 6, 6, 6, 6, 6, 6, 6, 6, 6, 6, 6, 6, 6, 6, 6, 6, 6, 6, 6, 6, 6, 6, 6, 7, 7, 7, 7, 7, 7, 7, 7, 7, 7, 7, 7, 7, 7, 7, 7, 7, 7, 7, 7, 7, 7, 7, 7, 7, 7, 7, 7, 7, 7, 7, 7, 7, 7, 7, 7, 7, 7, 7, 7, 7, 7, 7, 7, 7, 7, 7, 7, 7, 7, 7, 7, 7, 7, 7, 7, 7, 7, 7, 7, 7, 7, 7, 7, 8, 8, 8, 8, 8, 8, 8, 8, 8, 8, 8, 8, 8, 8, 8, 8, 8, 8, 8, 8, 8, 8, 8, 8, 8, 8, 8, 8, 8, 8, 8, 8, 8, 8, 8, 8, 8, 8, 8, 8, 8, 8, 8, 8, 8, 8, 8, 8, 8, 8, 8, 8, 8, 8, 8, 8, 8, 8, 8, 8, 8, 8, 8, 8, 8, 8, 8, 8, 8, 8, 8, 8, 8, 8, 8, 8, 8, 8, 8, 8, 8, 8, 8, 8, 8, 8, 8, 8, 8, 8, 8, 8, 8, 8, 8, 8, 8, 8, 8, 8, 8, 8, 8, 8, 8, 8, 8, 8, 8, 8, 8, 8, 8, 8, 8, 8, 8, 8, 8, 8, 8, 8, 8, 8, 8, 8, 8, 8]⟩ : ByteArray) (IntKind.wrap .u8 (x1073.fdiv 256))))))) KR .nil) (.int .i64 (IntKind.wrap .i64 ((IntKind.wrap .i64 (x1074 + 8)) + (IntKind.wrap .i64 (bt (⟨#[0, 1, 2, 2, 3, 3, 3, 3, 4, 4, 4, 4, 4, 4, 4, 4, 5, 5, 5, 5, 5, 5, 5, 5, 5, 5, 5, 5, 5, 5, 5, 5, 6, 6, 6, 6, 6, 6, 6, 6, 6, 6, 6, 6, 6, 6, 6, 6, 6, 6, 6, 6, 6, 6, 6, 6, 6, 6, 6, 6, 6, 6, 6, 6, 7, 7, 7, 7, 7, 7, 7, 7, 7, 7, 7, 7, 7, 7, 7, 7, 7, 7, 7, 7, 7, 7, 7, 7, 7, 7, 7, 7, 7, 7, 7, 7, 7, 7, 7, 7, 7, 7, 7, 7, 7, 7, 7, 7, 7, 7, 7, 7, 7, 7, 7, 7, 7, 7, 7, 7, 7, 7, 7, 7, 7, 7, 7, 7, 8, 8, 8, 8, 8, 8, 8, 8, 8, 8, 8, 8, 8, 8, 8, 8, 8, 8, 8, 8, 8, 8, 8, 8, 8, 8, 8, 8, 8, 8, 8, 8, 8, 8, 8, 8, 8, 8, 8, 8, 8, 8, 8, 8, 8, 8, 8, 8, 8, 8, 8, 8, 8, 8, 8, 8, 8, 8, 8, 8, 8, 8, 8, 8, 8, 8, 8, 8, 8, 8, 8, 8, 8, 8, 8, 8, 8, 8, 8, 8, 8, 8, 8, 8, 8, 8, 8, 8, 8, 8, 8, 8, 8, 8, 8, 8, 8, 8, 8, 8, 8, 8, 8, 8, 8, 8, 8, 8, 8, 8, 8, 8, 8, 8, 8, 8, 8, 8, 8, 8, 8, 8, 8, 8, 8, 8, 8, 8]⟩ : ByteArray) (IntKind.wrap .u8 (x1073.fdiv 256))))))) rfl ⟨rfl, HW.pick [] [] (by decide) (by decide) rfl KR⟩
      · skip
        replace h := ite_neg' h hp1080
        refine condF ha KR KR (t := decide (x1073 ≥ 256)) (decide_eq_false hp1080) ?_
        refine wp_skip ?_
        refine thenN (hK1077 _ _ ?_); clear hK1077
        refine wp_seq_k (fun K1087 hK1088 => ?_)
        refine wp_region_lit ?_
        refine stepp ha 19 (.int .i64 x1074) KR KR ?_; clear ha a; intro a ha
        refine stepp ha 20 (.int .u64 x1073) KR KR ?_; clear ha a; intro a ha
        refine stepp ha 21 (.int .u8 (IntKind.wrap .u8 x1073)) KR KR ?_; clear ha a; intro a ha
        obtain ⟨hA1089, h_⟩ := asrt_some h; clear h; have h := h_; clear h_
        obtain ⟨hA1090, h_⟩ := asrt_some h; clear h; have h := h_; clear h_
        refine stepsi ha 22 9 (.const (.string (⟨#[0, 1, 2, 2, 3, 3, 3, 3, 4, 4, 4, 4, 4, 4, 4, 4, 5, 5, 5, 5, 5, 5, 5, 5, 5, 5, 5, 5, 5, 5, 5, 5, 6, 6, 6, 6, 6, 6, 6, 6, 6, 6, 6, 6, 6, 6, 6, 6, 6, 6, 6, 6, 6, 6, 6, 6, 6, 6, 6, 6, 6, 6, 6, 6, 7, 7, 7, 7, 7, 7, 7, 7, 7, 7, 7, 7, 7, 7, 7, 7, 7, 7, 7, 7, 7, 7, 7, 7, 7, 7, 7, 7, 7, 7, 7, 7, 7, 7, 7, 7, 7, 7, 7, 7, 7, 7, 7, 7, 7, 7, 7, 7, 7, 7, 7, 7, 7, 7, 7, 7, 7, 7, 7, 7, 7, 7, 7, 7, 8, 8, 8, 8, 8, 8, 8, 8, 8, 8, 8, 8, 8, 8, 8, 8, 8, 8, 8, 8, 8, 8, 8, 8, 8, 8, 8, 8, 8, 8, 8, 8, 8, 8, 8, 8, 8, 8, 8, 8, 8, 8, 8, 8, 8, 8, 8, 8, 8, 8, 8, 8, 8, 8, 8, 8, 8, 8, 8, 8, 8, 8, 8, 8, 8, 8, 8, 8, 8, 8, 8, 8, 8, 8, 8, 8, 8, 8, 8, 8, 8, 8, 8, 8, 8, 8, 8, 8, 8, 8, 8, 8, 8, 8, 8, 8, 8, 8, 8, 8, 8, 8, 8, 8, 8, 8, 8, 8, 8, 8, 8, 8, 8, 8, 8, 8, 8, 8, 8, 8, 8, 8, 8, 8, 8, 8, 8, 8]⟩ : ByteArray))) (.tmp 21) (⟨#[0, 1, 2, 2, 3, 3, 3, 3, 4, 4, 4, 4, 4, 4, 4, 4, 5, 5, 5, 5, 5, 5, 5, 5, 5, 5, 5, 5, 5, 5, 5, 5, 6, 6, 6, 6, 6, 6, 6, 6, 6, 6, 6, 6, 6, 6, 6, 6, 6, 6, 6, 6, 6, 6, 6, 6, 6, 6, 6, 6, 6, 6, 6, 6, 7, 7, 7, 7, 7, 7, 7, 7, 7, 7, 7, 7, 7, 7, 7, 7, 7, 7, 7, 7, 7, 7, 7, 7, 7, 7, 7, 7, 7, 7, 7, 7, 7, 7, 7, 7, 7, 7, 7, 7, 7, 7, 7, 7, 7, 7, 7, 7, 7, 7, 7, 7, 7, 7, 7, 7, 7, 7, 7, 7, 7, 7, 7, 7, 8, 8, 8, 8, 8, 8, 8, 8, 8, 8, 8, 8, 8, 8, 8, 8, 8, 8, 8, 8, 8, 8, 8, 8, 8, 8, 8, 8, 8, 8, 8, 8, 8, 8, 8, 8, 8, 8, 8, 8, 8, 8, 8, 8, 8, 8, 8, 8, 8, 8, 8, 8, 8, 8, 8, 8, 8, 8, 8, 8, 8, 8, 8, 8, 8, 8, 8, 8, 8, 8, 8, 8, 8, 8, 8, 8, 8, 8, 8, 8, 8, 8, 8, 8, 8, 8, 8, 8, 8, 8, 8, 8, 8, 8, 8, 8, 8, 8, 8, 8, 8, 8, 8, 8, 8, 8, 8, 8, 8, 8, 8, 8, 8, 8, 8, 8, 8, 8, 8, 8, 8, 8, 8, 8, 8, 8, 8, 8]⟩ : ByteArray) .u8 (IntKind.wrap .u8 x1073) rfl KR KR KR hA1089 (show (IntKind.wrap .u8 x1073 : Int) < (((⟨#[0, 1, 2, 2, 3, 3, 3, 3, 4, 4, 4, 4, 4, 4, 4, 4, 5, 5, 5, 5, 5, 5, 5, 5, 5, 5, 5, 5, 5, 5, 5, 5, 6, 6, 6, 6, 6, 6, 6, 6, 6, 6, 6, 6, 6, 6, 6, 6, 6, 6, 6, 6, 6, 6, 6, 6, 6, 6, 6, 6, 6, 6, 6, 6, 7, 7, 7, 7, 7, 7, 7, 7, 7, 7, 7, 7, 7, 7, 7, 7, 7, 7, 7, 7, 7, 7, 7, 7, 7, 7, 7, 7, 7, 7, 7, 7, 7, 7, 7, 7, 7, 7, 7, 7, 7, 7, 7, 7, 7, 7, 7, 7, 7, 7, 7, 7, 7, 7, 7, 7, 7, 7, 7, 7, 7, 7, 7, 7, 8, 8, 8, 8, 8, 8, 8, 8, 8, 8, 8, 8, 8, 8, 8, 8, 8, 8, 8, 8, 8, 8, 8, 8, 8, 8, 8, 8, 8, 8, 8, 8, 8, 8, 8, 8, 8, 8, 8, 8, 8, 8, 8, 8, 8, 8, 8, 8, 8, 8, 8, 8, 8, 8, 8, 8, 8, 8, 8, 8, 8, 8, 8, 8, 8, 8, 8, 8, 8, 8, 8, 8, 8, 8, 8, 8, 8, 8, 8, 8, 8, 8, 8, 8, 8, 8, 8, 8, 8, 8, 8, 8, 8, 8, 8, 8, 8, 8, 8, 8, 8, 8, 8, 8, 8, 8, 8, 8, 8, 8, 8, 8, 8, 8, 8, 8, 8, 8, 8, 8, 8, 8, 8, 8, 8, 8, 8, 8]⟩ : ByteArray)).size : Int) from hA1090) KR ?_; clear ha a; intro a ha
        refine stepp ha 23 (.int .i64 (IntKind.wrap .i64 (bt (⟨#[0, 1, 2, 2, 3, 3, 3, 3, 4, 4, 4, 4, 4, 4, 4, 4, 5, 5, 5, 5, 5, 5, 5, 5, 5, 5, 5, 5, 5, 5, 5, 5, 6, 6, 6, 6, 6, 6, 6, 6, 6, 6, 6, 6, 6, 6, 6, 6, 6, 6, 6, 6, 6, 6, 6, 6, 6, 6, 6, 6, 6, 6, 6, 6, 7, 7, 7, 7, 7, 7, 7, 7, 7, 7, 7, 7, 7, 7, 7, 7, 7, 7, 7, 7, 7, 7, 7, 7, 7, 7, 7, 7, 7, 7, 7, 7, 7, 7, 7, 7, 7, 7, 7, 7, 7, 7, 7, 7, 7, 7, 7, 7, 7, 7, 7, 7, 7, 7, 7, 7, 7, 7, 7, 7, 7, 7, 7, 7, 8, 8, 8, 8, 8, 8, 8, 8, 8, 8, 8, 8, 8, 8, 8, 8, 8, 8, 8, 8, 8, 8, 8, 8, 8, 8, 8, 8, 8, 8, 8, 8, 8, 8, 8, 8, 8, 8, 8, 8, 8, 8, 8, 8, 8, 8, 8, 8, 8, 8, 8, 8, 8, 8, 8, 8, 8, 8, 8, 8, 8, 8, 8, 8, 8, 8, 8, 8, 8, 8, 8, 8, 8, 8, 8, 8, 8, 8, 8, 8, 8, 8, 8, 8, 8, 8, 8, 8, 8, 8, 8, 8, 8, 8, 8, 8, 8, 8, 8, 8, 8, 8, 8, 8, 8, 8, 8, 8, 8, 8, 8, 8, 8, 8, 8, 8, 8, 8, 8, 8, 8, 8, 8, 8, 8, 8, 8, 8]⟩ : ByteArray) (IntKind.wrap .u8 x1073)))) KR KR ?_; clear ha a; intro a ha
        refine stepp ha 24 (.int .i64 (IntKind.wrap .i64 (x1074 + (IntKind.wrap .i64 (bt (⟨#[0, 1, 2, 2, 3, 3, 3, 3, 4, 4, 4, 4, 4, 4, 4, 4, 5, 5, 5, 5, 5, 5, 5, 5, 5, 5, 5, 5, 5, 5, 5, 5, 6, 6, 6, 6, 6, 6, 6, 6, 6, 6, 6, 6, 6, 6, 6, 6, 6, 6, 6, 6, 6, 6, 6, 6, 6, 6, 6, 6, 6, 6, 6, 6, 7, 7, 7, 7, 7, 7, 7, 7, 7, 7, 7, 7, 7, 7, 7, 7, 7, 7, 7, 7, 7, 7, 7, 7, 7, 7, 7, 7, 7, 7, 7, 7, 7, 7, 7, 7, 7, 7, 7, 7, 7, 7, 7, 7, 7, 7, 7, 7, 7, 7, 7, 7, 7, 7, 7, 7, 7, 7, 7, 7, 7, 7, 7, 7, 8, 8, 8, 8, 8, 8, 8, 8, 8, 8, 8, 8, 8, 8, 8, 8, 8, 8, 8, 8, 8, 8, 8, 8, 8, 8, 8, 8, 8, 8, 8, 8, 8, 8, 8, 8, 8, 8, 8, 8, 8, 8, 8, 8, 8, 8, 8, 8, 8, 8, 8, 8, 8, 8, 8, 8, 8, 8, 8, 8, 8, 8, 8, 8, 8, 8, 8, 8, 8, 8, 8, 8, 8, 8, 8, 8, 8, 8, 8, 8, 8, 8, 8, 8, 8, 8, 8, 8, 8, 8, 8, 8, 8, 8, 8, 8, 8, 8, 8, 8, 8, 8, 8, 8, 8, 8, 8, 8, 8, 8, 8, 8, 8, 8, 8, 8, 8, 8, 8, 8, 8, 8, 8, 8, 8, 8, 8, 8]⟩ : ByteArray) (IntKind.wrap .u8 x1073)))))) KR KR ?_; clear ha a; intro a ha
        refine stepp ha 2 (.int .i64 (IntKind.wrap .i64 (x1074 + (IntKind.wrap .i64 (bt (⟨#[0, 1, 2, 2, 3, 3, 3, 3, 4, 4, 4, 4, 4, 4, 4, 4, 5, 5, 5, 5, 5, 5, 5, 5, 5, 5, 5, 5, 5, 5, 5, 5, 6, 6, 6, 6, 6, 6, 6, 6, 6, 6, 6, 6, 6, 6, 6, 6, 6, 6, 6, 6, 6, 6, 6, 6, 6, 6, 6, 6, 6, 6, 6, 6, 7, 7, 7, 7, 7, 7, 7, 7, 7, 7, 7, 7, 7, 7, 7, 7, 7, 7, 7, 7, 7, 7, 7, 7, 7, 7, 7, 7, 7, 7, 7, 7, 7, 7, 7, 7, 7, 7, 7, 7, 7, 7, 7, 7, 7, 7, 7, 7, 7, 7, 7, 7, 7, 7, 7, 7, 7, 7, 7, 7, 7, 7, 7, 7, 8, 8, 8, 8, 8, 8, 8, 8, 8, 8, 8, 8, 8, 8, 8, 8, 8, 8, 8, 8, 8, 8, 8, 8, 8, 8, 8, 8, 8, 8, 8, 8, 8, 8, 8, 8, 8, 8, 8, 8, 8, 8, 8, 8, 8, 8, 8, 8, 8, 8, 8, 8, 8, 8, 8, 8, 8, 8, 8, 8, 8, 8, 8, 8, 8, 8, 8, 8, 8, 8, 8, 8, 8, 8, 8, 8, 8, 8, 8, 8, 8, 8, 8, 8, 8, 8, 8, 8, 8, 8, 8, 8, 8, 8, 8, 8, 8, 8, 8, 8, 8, 8, 8, 8, 8, 8, 8, 8, 8, 8, 8, 8, 8, 8, 8, 8, 8, 8, 8, 8, 8, 8, 8, 8, 8, 8, 8, 8]⟩ : ByteArray) (IntKind.wrap .u8 x1073)))))) KR KR ?_; clear ha a; intro a ha
        refine endl ?_
        refine thenN (hK1088 _ _ ?_); clear hK1088
        refine wp_ret ?_
        obtain rfl := Option.some.inj h
        exact finv ha _ _ rfl (.tmp (v := .int .i64 (IntKind.wrap .i64 (x1074 + (IntKind.wrap .i64 (bt (⟨#[0, 1, 2, 2, 3, 3, 3, 3, 4, 4, 4, 4, 4, 4, 4, 4, 5, 5, 5, 5, 5, 5, 5, 5, 5, 5, 5, 5, 5, 5, 5, 5, 6, 6, 6, 6, 6, 6, 6, 6, 6, 6, 6, 6, 6, 6, 6, 6, 6, 6, 6, 6, 6, 6, 6, 6, 6, 6, 6, 6, 6, 6, 6, 6, 7, 7, 7, 7, 7, 7, 7, 7, 7, 7, 7, 7, 7, 7, 7, 7, 7, 7, 7, 7, 7, 7, 7, 7, 7, 7, 7, 7, 7, 7, 7, 7, 7, 7, 7, 7, 7, 7, 7, 7, 7, 7, 7, 7, 7, 7, 7, 7, 7, 7, 7, 7, 7, 7, 7, 7, 7, 7, 7, 7, 7, 7, 7, 7, 8, 8, 8, 8, 8, 8, 8, 8, 8, 8, 8, 8, 8, 8, 8, 8, 8, 8, 8, 8, 8, 8, 8, 8, 8, 8, 8, 8, 8, 8, 8, 8, 8, 8, 8, 8, 8, 8, 8, 8, 8, 8, 8, 8, 8, 8, 8, 8, 8, 8, 8, 8, 8, 8, 8, 8, 8, 8, 8, 8, 8, 8, 8, 8, 8, 8, 8, 8, 8, 8, 8, 8, 8, 8, 8, 8, 8, 8, 8, 8, 8, 8, 8, 8, 8, 8, 8, 8, 8, 8, 8, 8, 8, 8, 8, 8, 8, 8, 8, 8, 8, 8, 8, 8, 8, 8, 8, 8, 8, 8, 8, 8, 8, 8, 8, 8, 8, 8, 8, 8, 8, 8, 8, 8, 8, 8, 8, 8]⟩ : ByteArray) (IntKind.wrap .u8 x1073)))))) KR .nil) (.int .i64 (IntKind.wrap .i64 (x1074 + (IntKind.wrap .i64 (bt (⟨#[0, 1, 2, 2, 3, 3, 3, 3, 4, 4, 4, 4, 4, 4, 4, 4, 5, 5, 5, 5, 5, 5, 5, 5, 5, 5, 5, 5, 5, 5, 5, 5, 6, 6, 6, 6, 6, 6, 6, 6, 6, 6, 6, 6, 6, 6, 6, 6, 6, 6, 6, 6, 6, 6, 6, 6, 6, 6, 6, 6, 6, 6, 6, 6, 7, 7, 7, 7, 7, 7, 7, 7, 7, 7, 7, 7, 7, 7, 7, 7, 7, 7, 7, 7, 7, 7, 7, 7, 7, 7, 7, 7, 7, 7, 7, 7, 7, 7, 7, 7, 7, 7, 7, 7, 7, 7, 7, 7, 7, 7, 7, 7, 7, 7, 7, 7, 7, 7, 7, 7, 7, 7, 7, 7, 7, 7, 7, 7, 8, 8, 8, 8, 8, 8, 8, 8, 8, 8, 8, 8, 8, 8, 8, 8, 8, 8, 8, 8, 8, 8, 8, 8, 8, 8, 8, 8, 8, 8, 8, 8, 8, 8, 8, 8, 8, 8, 8, 8, 8, 8, 8, 8, 8, 8, 8, 8, 8, 8, 8, 8, 8, 8, 8, 8, 8, 8, 8, 8, 8, 8, 8, 8, 8, 8, 8, 8, 8, 8, 8, 8, 8, 8, 8, 8, 8, 8, 8, 8, 8, 8, 8, 8, 8, 8, 8, 8, 8, 8, 8, 8, 8, 8, 8, 8, 8, 8, 8, 8, 8, 8, 8, 8, 8, 8, 8, 8, 8, 8, 8, 8, 8, 8, 8, 8, 8, 8, 8, 8, 8, 8, 8, 8, 8, 8, 8, 8]⟩ : ByteArray) (IntKind.wrap .u8 x1073)))))) rfl ⟨rfl, HW.pick [] [] (by decide) (by decide) rfl KR⟩
/-! ### math/bits.Len: function 30 -/
def bits_Len.f (K : Nat) (a0 : Int) : Option Int :=
  (bits_Len64.f K a0).bind fun t1097 => (some t1097)
set_option maxRecDepth 100000 in
set_option maxHeartbeats 4000000 in
theorem bits_Len.calls (K : Nat) (a0 : Int)  (r : Int) (w : World)  (h : bits_Len.f K a0 = some r) :
    Calls Try.prog 30 #[.int .u64 a0] w (fun e W' => e = .returned (.int .i64 r) ∧ Wd w W' [] [] ) := by
  refine sxstart (n := 8) (l := [(0, .int .u64 a0)]) Try.func30 rfl rfl (Nat.le_of_ble_eq_true KR) (subsA_cons rfl (subsA_nil _)) ?_
  intro a ha
  have HW := Wd.refl w
  unfold bits_Len.f at h
  refine wp_seq_k (fun K1091 hK1092 => ?_)
  refine wp_region_lit ?_
  refine stepp ha 2 (.int .i64 0) KR KR ?_; clear ha a; intro a ha
  refine endl ?_
  refine thenN (hK1092 _ _ ?_); clear hK1092
  refine wp_seq_k (fun K1093 hK1094 => ?_)
  refine condF ha KR KR (t := false) (rfl) ?_
  refine wp_skip ?_
  refine thenN (hK1094 _ _ ?_); clear hK1094
  refine wp_seq_k (fun K1095 hK1096 => ?_)
  refine wp_region_lit ?_
  refine stepp ha 6 (.int .u64 a0) KR KR ?_; clear ha a; intro a ha
  obtain ⟨t1097, ht1098, h_⟩ := bind_some' h; clear h; have h := h_; clear h_
  refine stepc ha 7 KR KR (bits_Len64.calls K a0 t1097 _ ht1098) ?_; clear ha a; rintro e W1099 ⟨rfl, HX1100⟩
  refine ⟨_, rfl, ?_⟩; intro a ha; replace HW := HW.callw HX1100; clear HX1100
  refine stepp ha 2 (.int .i64 t1097) KR KR ?_; clear ha a; intro a ha
  refine endl ?_
  refine thenN (hK1096 _ _ ?_); clear hK1096
  refine wp_ret ?_
  obtain rfl := Option.some.inj h
  exact finv ha _ _ rfl (.tmp (v := .int .i64 t1097) KR .nil) (.int .i64 t1097) rfl ⟨rfl, HW.pick [] [] (by decide) (by decide) rfl KR⟩
/-! ### slices.nextPowerOfTwo: function 43 -/
def slices_nextPowerOfTwo.f (K : Nat) (a0 : Int) : Option Int :=
  (bits_Len.f K (IntKind.wrap .u64 a0)).bind fun t1105 => (asrt (0 ≤ t1105) (some (sshl .u64 1 t1105)))
set_option maxRecDepth 100000 in
set_option maxHeartbeats 4000000 in
theorem slices_nextPowerOfTwo.calls (K : Nat) (a0 : Int)  (r : Int) (w : World)  (h : slices_nextPowerOfTwo.f K a0 = some r) :
    Calls Try.prog 43 #[.int .i64 a0] w (fun e W' => e = .returned (.int .u64 r) ∧ Wd w W' [] [] ) := by
  refine sxstart (n := 7) (l := [(0, .int .i64 a0)]) Try.func43 rfl rfl (Nat.le_of_ble_eq_true KR) (subsA_cons rfl (subsA_nil _)) ?_
  intro a ha
  have HW := Wd.refl w
  unfold slices_nextPowerOfTwo.f at h
  refine wp_seq_k (fun K1101 hK1102 => ?_)
  refine wp_region_lit ?_
  refine stepp ha 2 (.int .u64 0) KR KR ?_; clear ha a; intro a ha
  refine endl ?_
  refine thenN (hK1102 _ _ ?_); clear hK1102
  refine wp_seq_k (fun K1103 hK1104 => ?_)
  refine wp_region_lit ?_
  refine stepp ha 3 (.int .i64 a0) KR KR ?_; clear ha a; intro a ha
  refine stepp ha 4 (.int .u64 (IntKind.wrap .u64 a0)) KR KR ?_; clear ha a; intro a ha
  obtain ⟨t1105, ht1106, h_⟩ := bind_some' h; clear h; have h := h_; clear h_
  refine stepc ha 5 KR KR (bits_Len.calls K (IntKind.wrap .u64 a0) t1105 _ ht1106) ?_; clear ha a; rintro e W1107 ⟨rfl, HX1108⟩
  refine ⟨_, rfl, ?_⟩; intro a ha; replace HW := HW.callw HX1108; clear HX1108
  obtain ⟨hA1109, h_⟩ := asrt_some h; clear h; have h := h_; clear h_
  refine stepshl ha 6 61 3 (.const (.int .u64 1)) (.tmp 5) .u64 .i64 1 t1105 rfl KR KR hA1109 KR ?_; clear ha a; intro a ha
  refine stepp ha 2 (.int .u64 (sshl .u64 1 t1105)) KR KR ?_; clear ha a; intro a ha
  refine endl ?_
  refine thenN (hK1104 _ _ ?_); clear hK1104
  refine wp_ret ?_
  obtain rfl := Option.some.inj h
  exact finv ha _ _ rfl (.tmp (v := .int .u64 (sshl .u64 1 t1105)) KR .nil) (.int .u64 (sshl .u64 1 t1105)) rfl ⟨rfl, HW.pick [] [] (by decide) (by decide) rfl KR⟩
/-! ### headgate/headgatekeep.Texts: function 20 -/
def headgatekeep_Texts.b0 (K : Nat) (a0 : List ByteArray) (a1 : List ByteArray) (again1850 : Int → Option Bool) (x1851 : Int) : Option Bool :=
  if x1851 < (a0.length : Int) then (asrt (0 ≤ x1851) (asrt (x1851 < (a1.length : Int)) (if (rdL (⟨#[]⟩ : ByteArray) a0 x1851) = (rdL (⟨#[]⟩ : ByteArray) a1 x1851) then (again1850 (IntKind.wrap .i64 (x1851 + 1))) else (some false)))) else (some true)
def headgatekeep_Texts.l0 (K : Nat) (a0 : List ByteArray) (a1 : List ByteArray) : Nat → Int → Option Bool
  | 0, _ => none
  | k_ + 1, x1851 => headgatekeep_Texts.b0 K a0 a1 (headgatekeep_Texts.l0 K a0 a1 k_) x1851
def headgatekeep_Texts.f (K : Nat) (a0 : List ByteArray) (a1 : List ByteArray) : Option Bool :=
  if (a0.length : Int) = (a1.length : Int) then (headgatekeep_Texts.l0 K a0 a1 K 0) else (some false)
set_option maxRecDepth 100000 in
set_option maxHeartbeats 4000000 in
theorem headgatekeep_Texts.calls (K : Nat) (a0 : List ByteArray) (a1 : List ByteArray) (A0_0 : Option Addr) (c0_0 : Nat) (A1_1 : Option Addr) (c1_1 : Nat) (r : Bool) (w : World) (hr0_0 : Rd 1 w (.slice A0_0 a0.length c0_0) a0.length (encs encS a0)) (hr1_1 : Rd 1 w (.slice A1_1 a1.length c1_1) a1.length (encs encS a1)) (h : headgatekeep_Texts.f K a0 a1 = some r) :
    Calls Try.prog 20 #[.slice A0_0 a0.length c0_0, .slice A1_1 a1.length c1_1] w (fun e W' => e = .returned (.bool r) ∧ Wd w W' [] [] ) := by
  refine sxstart (n := 26) (l := [(0, .slice A0_0 a0.length c0_0), (1, .slice A1_1 a1.length c1_1)]) Try.func20 rfl rfl (Nat.le_of_ble_eq_true KR) (subsA_cons rfl (subsA_cons rfl (subsA_nil _))) ?_
  intro a ha
  have HW := Wd.refl w
  unfold headgatekeep_Texts.f at h
  refine wp_seq_k (fun K1788 hK1789 => ?_)
  refine wp_region_lit ?_
  refine stepp ha 4 (.bool false) KR KR ?_; clear ha a; intro a ha
  refine endl ?_
  refine thenN (hK1789 _ _ ?_); clear hK1789
  refine wp_seq_k (fun K1790 hK1791 => ?_)
  refine wp_seq_k (fun K1792 hK1793 => ?_)
  refine wp_region_lit ?_
  refine stepp ha 6 (.slice A0_0 a0.length c0_0) KR KR ?_; clear ha a; intro a ha
  refine stepp ha 7 (.int .i64 (a0.length : Int)) KR KR ?_; clear ha a; intro a ha
  refine stepp ha 8 (.slice A1_1 a1.length c1_1) KR KR ?_; clear ha a; intro a ha
  refine stepp ha 9 (.int .i64 (a1.length : Int)) KR KR ?_; clear ha a; intro a ha
  refine stepp ha 10 (.bool ((a0.length : Int) != (a1.length : Int))) KR KR ?_; clear ha a; intro a ha
  refine endl ?_
  refine thenN (hK1793 _ _ ?_); clear hK1793
  by_cases hp1794 : (a0.length : Int) = (a1.length : Int)
  · skip
    replace h := ite_pos' h hp1794
    refine condF ha KR KR (t := ((a0.length : Int) != (a1.length : Int))) (ineq_f hp1794) ?_
    refine wp_skip ?_
    refine thenN (hK1791 _ _ ?_); clear hK1791
    refine wp_seq_k (fun K1797 hK1798 => ?_)
    refine wp_seq_k (fun K1799 hK1800 => ?_)
    refine wp_region_lit ?_
    refine stepp ha 5 (.int .i64 0) KR KR ?_; clear ha a; intro a ha
    refine endl ?_
    refine thenN (hK1800 _ _ ?_); clear hK1800
    refine wp_block ?_
    refine loopk (fun k => fun a W1852 => ∃ (x1851 : Int), headgatekeep_Texts.l0 K a0 a1 k x1851 = some r ∧ Has 26 [(0, .slice A0_0 a0.length c0_0), (1, .slice A1_1 a1.length c1_1), (5, .int .i64 x1851)] a ∧ Wd w W1852 [] []) K ?_ ?_
    · skip
      exact ⟨0, h, ha.sub (subs_cons KR (subs_cons KR (subs_cons KR (subs_nil _)))), HW.pick [] [] (by decide) (by decide) KR KR⟩
    · skip
      intro k a W1852 hI
      obtain ⟨x1851, h, ha, HW⟩ := hI
      cases k with
      | zero => exact (none_some (show none = some r from h)).elim
      | succ k1853 =>
        replace h : headgatekeep_Texts.b0 K a0 a1 (headgatekeep_Texts.l0 K a0 a1 k1853) x1851 = some r := h
        obtain ⟨again1850, hag1854⟩ : ∃ g_, g_ = headgatekeep_Texts.l0 K a0 a1 k1853 := ⟨_, rfl⟩
        rw [← hag1854] at h
        unfold headgatekeep_Texts.b0 at h
        refine wp_seq_k (fun K1855 hK1856 => ?_)
        refine wp_seq_k (fun K1857 hK1858 => ?_)
        refine wp_region_lit ?_
        refine stepp ha 11 (.int .i64 x1851) KR KR ?_; clear ha a; intro a ha
        refine stepp ha 12 (.slice A0_0 a0.length c0_0) KR KR ?_; clear ha a; intro a ha
        refine stepp ha 13 (.int .i64 (a0.length : Int)) KR KR ?_; clear ha a; intro a ha
        refine stepp ha 14 (.bool (decide (x1851 < (a0.length : Int)))) KR KR ?_; clear ha a; intro a ha
        refine endl ?_
        refine thenN (hK1858 _ _ ?_); clear hK1858
        by_cases hp1859 : x1851 < (a0.length : Int)
        · skip
          replace h := ite_pos' h hp1859
          refine condT ha KR KR (t := decide (x1851 < (a0.length : Int))) (decide_eq_true hp1859) ?_
          refine wp_skip ?_
          refine thenN (hK1856 _ _ ?_); clear hK1856
          refine wp_seq_k (fun K1860 hK1861 => ?_)
          refine wp_block ?_
          refine wp_seq_k (fun K1862 hK1863 => ?_)
          obtain ⟨hA1864, h_⟩ := asrt_some h; clear h; have h := h_; clear h_
          obtain ⟨b1866, off1867, hA1868⟩ := Rd.addr ((HW.rd0 hr0_0)) hA1864 (show (x1851 : Int) < ((a0).length : Int) from hp1859)
          obtain ⟨hA1869, h_⟩ := asrt_some h; clear h; have h := h_; clear h_
          obtain ⟨b1871, off1872, hA1873⟩ := Rd.addr ((HW.rd0 hr1_1)) hA1864 (show (x1851 : Int) < ((a1).length : Int) from hA1869)
          refine regionG 9 KR KR ha HW [.fix (.slice A0_0 a0.length c0_0), .fix (.int .i64 x1851), .fix (.pointer (some ⟨b1866, off1867 + (x1851 : Int).toNat * 1, none⟩)), .fix (.string (rdL (⟨#[]⟩ : ByteArray) a0 x1851)), .fix (.slice A1_1 a1.length c1_1), .fix (.int .i64 x1851), .fix (.pointer (some ⟨b1871, off1872 + (x1851 : Int).toNat * 1, none⟩)), .fix (.string (rdL (⟨#[]⟩ : ByteArray) a1 x1851)), .fix (.bool (!((rdL (⟨#[]⟩ : ByteArray) a0 x1851).toList == (rdL (⟨#[]⟩ : ByteArray) a1 x1851).toList)))] ?_ ?_
          · skip
            refine ⟨?_, ?_, ?_, ?_, ?_, ?_, ?_, ?_, ?_, trivial⟩
            · skip
              intro a wr hn hd HW hs; have ha := hasNil hn hd
              have ha := ha.add (seeE hs 0 (.slice A0_0 a0.length c0_0) KR KR)
              refine yStep ha 17 KR ?_; intro l_ ha HK
              refine stepp ha 17 (.slice A0_0 a0.length c0_0) KR KR ?_; intro ax hax; exact HK _ _ _ hax rfl (Below.refl _ _)
            · skip
              intro a wr hn hd HW hs; have ha := hasNil hn hd
              have ha := ha.add (seeE hs 5 (.int .i64 x1851) KR KR)
              refine yStep ha 18 KR ?_; intro l_ ha HK
              refine stepp ha 18 (.int .i64 x1851) KR KR ?_; intro ax hax; exact HK _ _ _ hax rfl (Below.refl _ _)
            · skip
              intro a wr hn hd HW hs; have ha := hasNil hn hd
              have ha := ha.add (seeF hs 17 0 (.slice A0_0 a0.length c0_0) KR KR)
              have ha := ha.add (seeF hs 18 1 (.int .i64 x1851) KR KR)
              replace ha := ha.turn 17 (u := .slice A0_0 a0.length c0_0) (v := .slice (some ⟨b1866, off1867, none⟩) a0.length c0_0) KR (by rw [hA1868])
              refine yStep ha 19 KR ?_; intro l_ ha HK
              refine stepif ha 19 (sz := 1) (len := a0.length) (b := b1866) (off := off1867) (c := c0_0) 37 9 (.tmp 17) (.tmp 18) .i64 x1851 rfl KR KR KR KR hA1864 (show (x1851 : Int) < ((a0).length : Int) from hp1859) KR ?_; intro ax hax; exact HK _ _ _ hax rfl (Below.refl _ _)
            · skip
              intro a wr hn hd HW hs; have ha := hasNil hn hd
              have ha := ha.add (seeF hs 19 2 (.pointer (some ⟨b1866, off1867 + (x1851 : Int).toNat * 1, none⟩)) KR KR)
              refine yStep ha 20 KR ?_; intro l_ ha HK
              refine stepl ha 20 (Rd.ca encS (⟨#[]⟩ : ByteArray) (fun _ => rfl) (by have h_ := ((HW.rd0 hr0_0)); rw [hA1868] at h_; exact h_) hA1864 (show (x1851 : Int) < ((a0).length : Int) from hp1859)) 9 0 (.tmp 19) (.string (rdL (⟨#[]⟩ : ByteArray) a0 x1851)) rfl KR KR KR ?_; intro ax hax; exact HK _ _ _ hax rfl (Below.refl _ _)
            · skip
              intro a wr hn hd HW hs; have ha := hasNil hn hd
              have ha := ha.add (seeE hs 1 (.slice A1_1 a1.length c1_1) KR KR)
              refine yStep ha 21 KR ?_; intro l_ ha HK
              refine stepp ha 21 (.slice A1_1 a1.length c1_1) KR KR ?_; intro ax hax; exact HK _ _ _ hax rfl (Below.refl _ _)
            · skip
              intro a wr hn hd HW hs; have ha := hasNil hn hd
              have ha := ha.add (seeE hs 5 (.int .i64 x1851) KR KR)
              refine yStep ha 22 KR ?_; intro l_ ha HK
              refine stepp ha 22 (.int .i64 x1851) KR KR ?_; intro ax hax; exact HK _ _ _ hax rfl (Below.refl _ _)
            · skip
              intro a wr hn hd HW hs; have ha := hasNil hn hd
              have ha := ha.add (seeF hs 21 4 (.slice A1_1 a1.length c1_1) KR KR)
              have ha := ha.add (seeF hs 22 5 (.int .i64 x1851) KR KR)
              replace ha := ha.turn 21 (u := .slice A1_1 a1.length c1_1) (v := .slice (some ⟨b1871, off1872, none⟩) a1.length c1_1) KR (by rw [hA1873])
              refine yStep ha 23 KR ?_; intro l_ ha HK
              refine stepif ha 23 (sz := 1) (len := a1.length) (b := b1871) (off := off1872) (c := c1_1) 37 9 (.tmp 21) (.tmp 22) .i64 x1851 rfl KR KR KR KR hA1864 (show (x1851 : Int) < ((a1).length : Int) from hA1869) KR ?_; intro ax hax; exact HK _ _ _ hax rfl (Below.refl _ _)
            · skip
              intro a wr hn hd HW hs; have ha := hasNil hn hd
              have ha := ha.add (seeF hs 23 6 (.pointer (some ⟨b1871, off1872 + (x1851 : Int).toNat * 1, none⟩)) KR KR)
              refine yStep ha 24 KR ?_; intro l_ ha HK
              refine stepl ha 24 (Rd.ca encS (⟨#[]⟩ : ByteArray) (fun _ => rfl) (by have h_ := ((HW.rd0 hr1_1)); rw [hA1873] at h_; exact h_) hA1864 (show (x1851 : Int) < ((a1).length : Int) from hA1869)) 9 0 (.tmp 23) (.string (rdL (⟨#[]⟩ : ByteArray) a1 x1851)) rfl KR KR KR ?_; intro ax hax; exact HK _ _ _ hax rfl (Below.refl _ _)
            · skip
              intro a wr hn hd HW hs; have ha := hasNil hn hd
              have ha := ha.add (seeF hs 20 3 (.string (rdL (⟨#[]⟩ : ByteArray) a0 x1851)) KR KR)
              have ha := ha.add (seeF hs 24 7 (.string (rdL (⟨#[]⟩ : ByteArray) a1 x1851)) KR KR)
              refine yStep ha 25 KR ?_; intro l_ ha HK
              refine stepp ha 25 (.bool (!((rdL (⟨#[]⟩ : ByteArray) a0 x1851).toList == (rdL (⟨#[]⟩ : ByteArray) a1 x1851).toList))) KR KR ?_; intro ax hax; exact HK _ _ _ hax rfl (Below.refl _ _)
          · skip
            intro a W1874 ha HW he hf
            replace ha := ha.add (he 0 (.slice A0_0 a0.length c0_0) KR KR)
            replace ha := ha.add (he 1 (.slice A1_1 a1.length c1_1) KR KR)
            replace ha := ha.add (he 5 (.int .i64 x1851) KR KR)
            replace ha := ha.add (gotF (m := 9) (j := 8) (d := 25) (v := .bool (!((rdL (⟨#[]⟩ : ByteArray) a0 x1851).toList == (rdL (⟨#[]⟩ : ByteArray) a1 x1851).toList))) hf KR KR KR)
            clear he hf
            refine endl ?_
            refine thenN (hK1863 _ _ ?_); clear hK1863
            by_cases hp1875 : (rdL (⟨#[]⟩ : ByteArray) a0 x1851) = (rdL (⟨#[]⟩ : ByteArray) a1 x1851)
            · skip
              replace h := ite_pos' h hp1875
              refine condF ha KR KR (t := (!((rdL (⟨#[]⟩ : ByteArray) a0 x1851).toList == (rdL (⟨#[]⟩ : ByteArray) a1 x1851).toList))) (str_ne_f hp1875) ?_
              refine wp_skip ?_
              refine blkN ?_
              refine thenN (hK1861 _ _ ?_); clear hK1861
              refine wp_region_lit ?_
              refine stepp ha 15 (.int .i64 x1851) KR KR ?_; clear ha a; intro a ha
              refine stepp ha 16 (.int .i64 (IntKind.wrap .i64 (x1851 + 1))) KR KR ?_; clear ha a; intro a ha
              refine stepp ha 5 (.int .i64 (IntKind.wrap .i64 (x1851 + 1))) KR KR ?_; clear ha a; intro a ha
              refine endl ?_
              exact thenN ⟨k1853, Nat.lt_succ_self k1853, IntKind.wrap .i64 (x1851 + 1), (by rw [← hag1854]; exact h), ha.sub (subs_cons KR (subs_cons KR (subs_cons KR (subs_nil _)))), HW.pick [] [] (by decide) (by decide) KR KR⟩
            · skip
              replace h := ite_neg' h hp1875
              refine condT ha KR KR (t := (!((rdL (⟨#[]⟩ : ByteArray) a0 x1851).toList == (rdL (⟨#[]⟩ : ByteArray) a1 x1851).toList))) (str_ne_t hp1875) ?_
              refine wp_seq_k (fun K1876 hK1877 => ?_)
              refine wp_region_lit ?_
              refine stepp ha 4 (.bool false) KR KR ?_; clear ha a; intro a ha
              refine endl ?_
              refine thenN (hK1877 _ _ ?_); clear hK1877
              refine wp_ret ?_
              refine blkR ?_
              refine thenR ?_
              refine thenR ?_
              refine blkR ?_
              refine thenR ?_
              obtain rfl := Option.some.inj h
              exact finv ha _ _ rfl (.tmp (v := .bool false) KR .nil) (.bool false) rfl ⟨rfl, HW.pick [] [] (by decide) (by decide) rfl KR⟩
        · skip
          replace h := ite_neg' h hp1859
          refine condF ha KR KR (t := decide (x1851 < (a0.length : Int))) (decide_eq_false hp1859) ?_
          refine wp_exit ?_
          refine thenE ?_
          refine thenE ?_
          refine inBlk ?_
          refine thenN (hK1798 _ _ ?_); clear hK1798
          refine wp_seq_k (fun K1878 hK1879 => ?_)
          refine wp_region_lit ?_
          refine stepp ha 4 (.bool true) KR KR ?_; clear ha a; intro a ha
          refine endl ?_
          refine thenN (hK1879 _ _ ?_); clear hK1879
          refine wp_ret ?_
          obtain rfl := Option.some.inj h
          exact finv ha _ _ rfl (.tmp (v := .bool true) KR .nil) (.bool true) rfl ⟨rfl, HW.pick [] [] (by decide) (by decide) rfl KR⟩
  · skip
    replace h := ite_neg' h hp1794
    refine condT ha KR KR (t := ((a0.length : Int) != (a1.length : Int))) (ineq_t hp1794) ?_
    refine wp_seq_k (fun K1795 hK1796 => ?_)
    refine wp_region_lit ?_
    refine stepp ha 4 (.bool false) KR KR ?_; clear ha a; intro a ha
    refine endl ?_
    refine thenN (hK1796 _ _ ?_); clear hK1796
    refine wp_ret ?_
    refine thenR ?_
    obtain rfl := Option.some.inj h
    exact finv ha _ _ rfl (.tmp (v := .bool false) KR .nil) (.bool false) rfl ⟨rfl, HW.pick [] [] (by decide) (by decide) rfl KR⟩
end Go.Proofs.Ytdcojinnjpihaaa.F
