/- headgate/headgateref01.Big: a plain function, and that the call comes to what it says. No condition. -/
import Derived.Test.YtceagilmillgfaaFT
import Derived.Test.YtceagilmillgfaaF23
namespace Go.Proofs.Ytceagilmillgfaa.F
open Go Go.RowKit Go.Proofs.Ytceagilmillgfaa.X
set_option linter.unusedVariables false
set_option linter.unusedSimpArgs false
/-! ### headgate/headgateref01.Big: function 15 -/
def headgateref01_Big.b0 (K : Nat) (a0 : ByteArray) (a1 : Int) (a2 : Int) (again957 : Int → Int → Option (Int × Bool)) (x958 : Int) (x959 : Int) : Option (Int × Bool) :=
  if x959 < a2 then (asrt (0 ≤ (IntKind.wrap .i64 (a1 + x959))) (asrt ((IntKind.wrap .i64 (a1 + x959)) < (a0.size : Int)) (again957 (IntKind.wrap .u64 ((IntKind.wrap .u64 (x958 * 256)) + (IntKind.wrap .u64 (bt a0 (IntKind.wrap .i64 (a1 + x959)))))) (IntKind.wrap .i64 (x959 + 1))))) else (some (x958, true))
def headgateref01_Big.l0 (K : Nat) (a0 : ByteArray) (a1 : Int) (a2 : Int) : Nat → Int → Int → Option (Int × Bool)
  | 0, _, _ => none
  | k_ + 1, x958, x959 => headgateref01_Big.b0 K a0 a1 a2 (headgateref01_Big.l0 K a0 a1 a2 k_) x958 x959
def headgateref01_Big.f (K : Nat) (a0 : ByteArray) (a1 : Int) (a2 : Int) : Option (Int × Bool) :=
  if a2 < 1 then (some (0, false)) else (if a2 > 8 then (some (0, false)) else ((headgateref01_there.f a0 a1 a2).bind fun t918 => (if t918 = true then (headgateref01_Big.l0 K a0 a1 a2 K 0 0) else (some (0, false)))))
set_option maxRecDepth 100000 in
set_option maxHeartbeats 4000000 in
theorem headgateref01_Big.calls (K : Nat) (a0 : ByteArray) (a1 : Int) (a2 : Int)  (r : Int × Bool) (w : World)  (h : headgateref01_Big.f K a0 a1 a2 = some r) :
    Calls Try.prog 15 #[.string a0, .int .i64 a1, .int .i64 a2] w (fun e W' => e = .returned (.tuple #[.int .u64 r.1, .bool r.2]) ∧ Wd w W' [] [] ) := by
  refine sxstart (n := 38) (l := [(0, .string a0), (1, .int .i64 a1), (2, .int .i64 a2)]) Try.func15 rfl rfl (Nat.le_of_ble_eq_true (by kernel_rfl)) (subsA_cons rfl (subsA_cons rfl (subsA_cons rfl (subsA_nil _)))) ?_
  intro a ha
  have HW := Wd.refl w
  unfold headgateref01_Big.f at h
  refine wp_seq_k (fun K910 hK911 => ?_)
  refine wp_region_lit ?_
  refine stepp ha 6 (.int .u64 0) (by kernel_rfl) (by kernel_rfl) ?_; clear ha a; intro a ha
  refine stepp ha 7 (.bool false) (by kernel_rfl) (by kernel_rfl) ?_; clear ha a; intro a ha
  refine endl ?_
  refine thenN (hK911 _ _ ?_); clear hK911
  refine wp_seq_k (fun K912 hK913 => ?_)
  refine wp_seq_k (fun K914 hK915 => ?_)
  refine wp_region_lit ?_
  refine stepp ha 10 (.int .i64 a2) (by kernel_rfl) (by kernel_rfl) ?_; clear ha a; intro a ha
  refine stepp ha 11 (.bool (decide (a2 < 1))) (by kernel_rfl) (by kernel_rfl) ?_; clear ha a; intro a ha
  refine stepp ha 12 (.bool (decide (a2 < 1))) (by kernel_rfl) (by kernel_rfl) ?_; clear ha a; intro a ha
  by_cases hp916 : a2 < 1
  · skip
    replace h := ite_pos' h hp916
    replace ha := ha.bool 12 (by kernel_rfl) (decide_eq_true hp916)
    refine stepo ha 13 (by kernel_rfl) ?_; clear ha a; intro a ha
    refine stepo ha 14 (by kernel_rfl) ?_; clear ha a; intro a ha
    refine stepp ha 15 (.bool true) (by kernel_rfl) (by kernel_rfl) ?_; clear ha a; intro a ha
    refine stepp ha 16 (.bool true) (by kernel_rfl) (by kernel_rfl) ?_; clear ha a; intro a ha
    refine stepo ha 17 (by kernel_rfl) ?_; clear ha a; intro a ha
    refine stepo ha 18 (by kernel_rfl) ?_; clear ha a; intro a ha
    refine stepo ha 19 (by kernel_rfl) ?_; clear ha a; intro a ha
    refine stepo ha 20 (by kernel_rfl) ?_; clear ha a; intro a ha
    refine stepo ha 21 (by kernel_rfl) ?_; clear ha a; intro a ha
    refine stepp ha 22 (.bool true) (by kernel_rfl) (by kernel_rfl) ?_; clear ha a; intro a ha
    refine endl ?_
    refine thenN (hK915 _ _ ?_); clear hK915
    refine condT ha (by kernel_rfl) (by kernel_rfl) (t := true) (rfl) ?_
    refine wp_seq_k (fun K922 hK923 => ?_)
    refine wp_region_lit ?_
    refine stepp ha 6 (.int .u64 0) (by kernel_rfl) (by kernel_rfl) ?_; clear ha a; intro a ha
    refine stepp ha 7 (.bool false) (by kernel_rfl) (by kernel_rfl) ?_; clear ha a; intro a ha
    refine endl ?_
    refine thenN (hK923 _ _ ?_); clear hK923
    refine wp_ret ?_
    refine thenR ?_
    obtain rfl := Option.some.inj h
    exact finv ha _ _ rfl (.tmp (v := .int .u64 0) (by kernel_rfl) (.tmp (v := .bool false) (by kernel_rfl) .nil)) (.tuple #[.int .u64 0, .bool false]) rfl ⟨rfl, HW.pick [] [] (by decide) (by decide) rfl (by kernel_rfl)⟩
  · skip
    replace h := ite_neg' h hp916
    replace ha := ha.bool 12 (by kernel_rfl) (decide_eq_false hp916)
    refine stepp ha 13 (.int .i64 a2) (by kernel_rfl) (by kernel_rfl) ?_; clear ha a; intro a ha
    refine stepp ha 14 (.bool (decide (a2 > 8))) (by kernel_rfl) (by kernel_rfl) ?_; clear ha a; intro a ha
    refine stepp ha 15 (.bool (decide (a2 > 8))) (by kernel_rfl) (by kernel_rfl) ?_; clear ha a; intro a ha
    refine stepp ha 16 (.bool (decide (a2 > 8))) (by kernel_rfl) (by kernel_rfl) ?_; clear ha a; intro a ha
    by_cases hp917 : a2 > 8
    · skip
      replace h := ite_pos' h hp917
      replace ha := ha.bool 16 (by kernel_rfl) (decide_eq_true hp917)
      refine stepo ha 17 (by kernel_rfl) ?_; clear ha a; intro a ha
      refine stepo ha 18 (by kernel_rfl) ?_; clear ha a; intro a ha
      refine stepo ha 19 (by kernel_rfl) ?_; clear ha a; intro a ha
      refine stepo ha 20 (by kernel_rfl) ?_; clear ha a; intro a ha
      refine stepo ha 21 (by kernel_rfl) ?_; clear ha a; intro a ha
      refine stepp ha 22 (.bool true) (by kernel_rfl) (by kernel_rfl) ?_; clear ha a; intro a ha
      refine endl ?_
      refine thenN (hK915 _ _ ?_); clear hK915
      refine condT ha (by kernel_rfl) (by kernel_rfl) (t := true) (rfl) ?_
      refine wp_seq_k (fun K924 hK925 => ?_)
      refine wp_region_lit ?_
      refine stepp ha 6 (.int .u64 0) (by kernel_rfl) (by kernel_rfl) ?_; clear ha a; intro a ha
      refine stepp ha 7 (.bool false) (by kernel_rfl) (by kernel_rfl) ?_; clear ha a; intro a ha
      refine endl ?_
      refine thenN (hK925 _ _ ?_); clear hK925
      refine wp_ret ?_
      refine thenR ?_
      obtain rfl := Option.some.inj h
      exact finv ha _ _ rfl (.tmp (v := .int .u64 0) (by kernel_rfl) (.tmp (v := .bool false) (by kernel_rfl) .nil)) (.tuple #[.int .u64 0, .bool false]) rfl ⟨rfl, HW.pick [] [] (by decide) (by decide) rfl (by kernel_rfl)⟩
    · skip
      replace h := ite_neg' h hp917
      replace ha := ha.bool 16 (by kernel_rfl) (decide_eq_false hp917)
      refine stepp ha 17 (.string a0) (by kernel_rfl) (by kernel_rfl) ?_; clear ha a; intro a ha
      refine stepp ha 18 (.int .i64 a1) (by kernel_rfl) (by kernel_rfl) ?_; clear ha a; intro a ha
      refine stepp ha 19 (.int .i64 a2) (by kernel_rfl) (by kernel_rfl) ?_; clear ha a; intro a ha
      obtain ⟨t918, ht919, h_⟩ := bind_some' h; clear h; have h := h_; clear h_
      refine stepc ha 20 (by kernel_rfl) (by kernel_rfl) (headgateref01_there.calls a0 a1 a2 t918 _ ht919) ?_; clear ha a; rintro e W920 ⟨rfl, HX921⟩
      refine ⟨_, rfl, ?_⟩; intro a ha; replace HW := HW.callw HX921; clear HX921
      refine stepp ha 21 (.bool (!t918)) (by kernel_rfl) (by kernel_rfl) ?_; clear ha a; intro a ha
      refine stepp ha 22 (.bool (!t918)) (by kernel_rfl) (by kernel_rfl) ?_; clear ha a; intro a ha
      refine endl ?_
      refine thenN (hK915 _ _ ?_); clear hK915
      by_cases hp926 : t918 = true
      · skip
        replace h := ite_pos' h hp926
        refine condF ha (by kernel_rfl) (by kernel_rfl) (t := (!t918)) (not_f (hp926)) ?_
        refine wp_skip ?_
        refine thenN (hK913 _ _ ?_); clear hK913
        refine wp_seq_k (fun K929 hK930 => ?_)
        refine wp_region_lit ?_
        refine stepp ha 8 (.int .u64 0) (by kernel_rfl) (by kernel_rfl) ?_; clear ha a; intro a ha
        refine endl ?_
        refine thenN (hK930 _ _ ?_); clear hK930
        refine wp_seq_k (fun K931 hK932 => ?_)
        refine wp_seq_k (fun K933 hK934 => ?_)
        refine wp_region_lit ?_
        refine stepp ha 9 (.int .i64 0) (by kernel_rfl) (by kernel_rfl) ?_; clear ha a; intro a ha
        refine endl ?_
        refine thenN (hK934 _ _ ?_); clear hK934
        refine wp_block ?_
        refine loopk (fun k => fun a W960 => ∃ (x958 : Int), ∃ (x959 : Int), headgateref01_Big.l0 K a0 a1 a2 k x958 x959 = some r ∧ Has 38 [(0, .string a0), (1, .int .i64 a1), (2, .int .i64 a2), (8, .int .u64 x958), (9, .int .i64 x959)] a ∧ Wd w W960 [] []) K ?_ ?_
        · skip
          exact ⟨0, 0, h, ha.sub (subs_cons (by kernel_rfl) (subs_cons (by kernel_rfl) (subs_cons (by kernel_rfl) (subs_cons (by kernel_rfl) (subs_cons (by kernel_rfl) (subs_nil _)))))), HW.pick [] [] (by decide) (by decide) (by kernel_rfl) (by kernel_rfl)⟩
        · skip
          intro k a W960 hI
          obtain ⟨x958, x959, h, ha, HW⟩ := hI
          cases k with
          | zero => exact (none_some (show none = some r from h)).elim
          | succ k961 =>
            replace h : headgateref01_Big.b0 K a0 a1 a2 (headgateref01_Big.l0 K a0 a1 a2 k961) x958 x959 = some r := h
            obtain ⟨again957, hag962⟩ : ∃ g_, g_ = headgateref01_Big.l0 K a0 a1 a2 k961 := ⟨_, rfl⟩
            rw [← hag962] at h
            unfold headgateref01_Big.b0 at h
            refine wp_seq_k (fun K963 hK964 => ?_)
            refine wp_seq_k (fun K965 hK966 => ?_)
            refine wp_region_lit ?_
            refine stepp ha 23 (.int .i64 x959) (by kernel_rfl) (by kernel_rfl) ?_; clear ha a; intro a ha
            refine stepp ha 24 (.int .i64 a2) (by kernel_rfl) (by kernel_rfl) ?_; clear ha a; intro a ha
            refine stepp ha 25 (.bool (decide (x959 < a2))) (by kernel_rfl) (by kernel_rfl) ?_; clear ha a; intro a ha
            refine endl ?_
            refine thenN (hK966 _ _ ?_); clear hK966
            by_cases hp967 : x959 < a2
            · skip
              replace h := ite_pos' h hp967
              refine condT ha (by kernel_rfl) (by kernel_rfl) (t := decide (x959 < a2)) (decide_eq_true hp967) ?_
              refine wp_skip ?_
              refine thenN (hK964 _ _ ?_); clear hK964
              refine wp_seq_k (fun K968 hK969 => ?_)
              refine wp_block ?_
              refine wp_region_lit ?_
              refine stepp ha 28 (.int .u64 x958) (by kernel_rfl) (by kernel_rfl) ?_; clear ha a; intro a ha
              refine stepp ha 29 (.int .u64 (IntKind.wrap .u64 (x958 * 256))) (by kernel_rfl) (by kernel_rfl) ?_; clear ha a; intro a ha
              refine stepp ha 30 (.string a0) (by kernel_rfl) (by kernel_rfl) ?_; clear ha a; intro a ha
              refine stepp ha 31 (.int .i64 a1) (by kernel_rfl) (by kernel_rfl) ?_; clear ha a; intro a ha
              refine stepp ha 32 (.int .i64 x959) (by kernel_rfl) (by kernel_rfl) ?_; clear ha a; intro a ha
              refine stepp ha 33 (.int .i64 (IntKind.wrap .i64 (a1 + x959))) (by kernel_rfl) (by kernel_rfl) ?_; clear ha a; intro a ha
              obtain ⟨hA970, h_⟩ := asrt_some h; clear h; have h := h_; clear h_
              obtain ⟨hA971, h_⟩ := asrt_some h; clear h; have h := h_; clear h_
              refine stepsi ha 34 9 (.tmp 30) (.tmp 33) a0 .i64 (IntKind.wrap .i64 (a1 + x959)) rfl (by kernel_rfl) (by kernel_rfl) (by kernel_rfl) hA970 (show (IntKind.wrap .i64 (a1 + x959) : Int) < ((a0).size : Int) from hA971) (by kernel_rfl) ?_; clear ha a; intro a ha
              refine stepp ha 35 (.int .u64 (IntKind.wrap .u64 (bt a0 (IntKind.wrap .i64 (a1 + x959))))) (by kernel_rfl) (by kernel_rfl) ?_; clear ha a; intro a ha
              refine stepp ha 36 (.int .u64 (IntKind.wrap .u64 ((IntKind.wrap .u64 (x958 * 256)) + (IntKind.wrap .u64 (bt a0 (IntKind.wrap .i64 (a1 + x959))))))) (by kernel_rfl) (by kernel_rfl) ?_; clear ha a; intro a ha
              refine stepp ha 8 (.int .u64 (IntKind.wrap .u64 ((IntKind.wrap .u64 (x958 * 256)) + (IntKind.wrap .u64 (bt a0 (IntKind.wrap .i64 (a1 + x959))))))) (by kernel_rfl) (by kernel_rfl) ?_; clear ha a; intro a ha
              refine endl ?_
              refine blkN ?_
              refine thenN (hK969 _ _ ?_); clear hK969
              refine wp_region_lit ?_
              refine stepp ha 26 (.int .i64 x959) (by kernel_rfl) (by kernel_rfl) ?_; clear ha a; intro a ha
              refine stepp ha 27 (.int .i64 (IntKind.wrap .i64 (x959 + 1))) (by kernel_rfl) (by kernel_rfl) ?_; clear ha a; intro a ha
              refine stepp ha 9 (.int .i64 (IntKind.wrap .i64 (x959 + 1))) (by kernel_rfl) (by kernel_rfl) ?_; clear ha a; intro a ha
              refine endl ?_
              exact thenN ⟨k961, Nat.lt_succ_self k961, IntKind.wrap .u64 ((IntKind.wrap .u64 (x958 * 256)) + (IntKind.wrap .u64 (bt a0 (IntKind.wrap .i64 (a1 + x959))))), IntKind.wrap .i64 (x959 + 1), (by rw [← hag962]; exact h), ha.sub (subs_cons (by kernel_rfl) (subs_cons (by kernel_rfl) (subs_cons (by kernel_rfl) (subs_cons (by kernel_rfl) (subs_cons (by kernel_rfl) (subs_nil _)))))), HW.pick [] [] (by decide) (by decide) (by kernel_rfl) (by kernel_rfl)⟩
            · skip
              replace h := ite_neg' h hp967
              refine condF ha (by kernel_rfl) (by kernel_rfl) (t := decide (x959 < a2)) (decide_eq_false hp967) ?_
              refine wp_exit ?_
              refine thenE ?_
              refine thenE ?_
              refine inBlk ?_
              refine thenN (hK932 _ _ ?_); clear hK932
              refine wp_seq_k (fun K972 hK973 => ?_)
              refine wp_region_lit ?_
              refine stepp ha 37 (.int .u64 x958) (by kernel_rfl) (by kernel_rfl) ?_; clear ha a; intro a ha
              refine stepp ha 6 (.int .u64 x958) (by kernel_rfl) (by kernel_rfl) ?_; clear ha a; intro a ha
              refine stepp ha 7 (.bool true) (by kernel_rfl) (by kernel_rfl) ?_; clear ha a; intro a ha
              refine endl ?_
              refine thenN (hK973 _ _ ?_); clear hK973
              refine wp_ret ?_
              obtain rfl := Option.some.inj h
              exact finv ha _ _ rfl (.tmp (v := .int .u64 x958) (by kernel_rfl) (.tmp (v := .bool true) (by kernel_rfl) .nil)) (.tuple #[.int .u64 x958, .bool true]) rfl ⟨rfl, HW.pick [] [] (by decide) (by decide) rfl (by kernel_rfl)⟩
      · skip
        replace h := ite_neg' h hp926
        refine condT ha (by kernel_rfl) (by kernel_rfl) (t := (!t918)) (not_t (bool_f hp926)) ?_
        refine wp_seq_k (fun K927 hK928 => ?_)
        refine wp_region_lit ?_
        refine stepp ha 6 (.int .u64 0) (by kernel_rfl) (by kernel_rfl) ?_; clear ha a; intro a ha
        refine stepp ha 7 (.bool false) (by kernel_rfl) (by kernel_rfl) ?_; clear ha a; intro a ha
        refine endl ?_
        refine thenN (hK928 _ _ ?_); clear hK928
        refine wp_ret ?_
        refine thenR ?_
        obtain rfl := Option.some.inj h
        exact finv ha _ _ rfl (.tmp (v := .int .u64 0) (by kernel_rfl) (.tmp (v := .bool false) (by kernel_rfl) .nil)) (.tuple #[.int .u64 0, .bool false]) rfl ⟨rfl, HW.pick [] [] (by decide) (by decide) rfl (by kernel_rfl)⟩
end Go.Proofs.Ytceagilmillgfaa.F
