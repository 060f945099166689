/- headgate/headgateref25.SameEnd: a plain function, and that the call comes to what it says. No condition. -/
import Derived.Test.YtceagilmillgfaaDoorFT
namespace Go.Proofs.YtceagilmillgfaaDoor.F
open Go Go.RowKit Go.Proofs.YtceagilmillgfaaDoor.X
set_option linter.unusedVariables false
set_option linter.unusedSimpArgs false
/-! ### headgate/headgateref25.SameEnd: function 29 -/
def headgateref25_SameEnd.f (a0 : T_api_Cqe) (a1 : T_api_Cqe) : Option Bool :=
  if a0.f0 = a1.f0 then (if a0.f1 = a1.f1 then (if a0.f2 = a1.f2 then (if a0.f3 = a1.f3 then (if a0.f4 = a1.f4 then (some (a0.f5 == a1.f5)) else (some false)) else (some false)) else (some false)) else (some false)) else (some false)
set_option maxRecDepth 100000 in
set_option maxHeartbeats 4000000 in
theorem headgateref25_SameEnd.calls (a0 : T_api_Cqe) (a1 : T_api_Cqe)  (r : Bool) (w : World)  (h : headgateref25_SameEnd.f a0 a1 = some r) :
    Calls Tryd.prog 29 #[.agg #[.int .u32 a0.f0, .int .u32 a0.f1, .int .i64 a0.f2, .int .i64 a0.f3, .int .i64 a0.f4, .int .i64 a0.f5], .agg #[.int .u32 a1.f0, .int .u32 a1.f1, .int .i64 a1.f2, .int .i64 a1.f3, .int .i64 a1.f4, .int .i64 a1.f5]] w (fun e W' => e = .returned (.bool r) ∧ Wd w W' [] [] ) := by
  refine sxstart (n := 45) (l := [(0, .agg #[.int .u32 a0.f0, .int .u32 a0.f1, .int .i64 a0.f2, .int .i64 a0.f3, .int .i64 a0.f4, .int .i64 a0.f5]), (1, .agg #[.int .u32 a1.f0, .int .u32 a1.f1, .int .i64 a1.f2, .int .i64 a1.f3, .int .i64 a1.f4, .int .i64 a1.f5])]) Tryd.func29 rfl rfl (Nat.le_of_ble_eq_true (by kernel_rfl)) (subsA_cons rfl (subsA_cons rfl (subsA_nil _))) ?_
  intro a ha
  have HW := Wd.refl w
  unfold headgateref25_SameEnd.f at h
  refine wp_seq_k (fun K2803 hK2804 => ?_)
  refine wp_region_lit ?_
  refine stepnew ha HW 2 #[.int .u32 a0.f0, .int .u32 a0.f1, .int .i64 a0.f2, .int .i64 a0.f3, .int .i64 a0.f4, .int .i64 a0.f5] 27 (by kernel_rfl) (by kernel_rfl) ?_; clear ha HW a; intro b2805 a W2806 HW ha
  refine stepnew ha HW 3 #[.int .u32 a1.f0, .int .u32 a1.f1, .int .i64 a1.f2, .int .i64 a1.f3, .int .i64 a1.f4, .int .i64 a1.f5] 27 (by kernel_rfl) (by kernel_rfl) ?_; clear ha HW a; intro b2807 a W2808 HW ha
  refine stepp ha 4 (.bool false) (by kernel_rfl) (by kernel_rfl) ?_; clear ha a; intro a ha
  refine endl ?_
  refine thenN (hK2804 _ _ ?_); clear hK2804
  refine wp_seq_k (fun K2809 hK2810 => ?_)
  refine wp_region_lit ?_
  refine stepp ha 5 (.pointer (some ⟨b2805, 0, none⟩)) (by kernel_rfl) (by kernel_rfl) ?_; clear ha a; intro a ha
  refine stepl ha 6 (HW.ca (i := 1) (b := b2805) (C := #[.int .u32 a0.f0, .int .u32 a0.f1, .int .i64 a0.f2, .int .i64 a0.f3, .int .i64 a0.f4, .int .i64 a0.f5]) (T := 27) (fr := (0, 0)) (by kernel_rfl)) 22 0 (.tmp 5) (.int .u32 a0.f0) rfl (by kernel_rfl) (by kernel_rfl) (by kernel_rfl) ?_; clear ha a; intro a ha
  refine stepp ha 7 (.pointer (some ⟨b2807, 0, none⟩)) (by kernel_rfl) (by kernel_rfl) ?_; clear ha a; intro a ha
  refine stepl ha 8 (HW.ca (i := 0) (b := b2807) (C := #[.int .u32 a1.f0, .int .u32 a1.f1, .int .i64 a1.f2, .int .i64 a1.f3, .int .i64 a1.f4, .int .i64 a1.f5]) (T := 27) (fr := (0, 0)) (by kernel_rfl)) 22 0 (.tmp 7) (.int .u32 a1.f0) rfl (by kernel_rfl) (by kernel_rfl) (by kernel_rfl) ?_; clear ha a; intro a ha
  refine stepp ha 9 (.bool (a0.f0 == a1.f0)) (by kernel_rfl) (by kernel_rfl) ?_; clear ha a; intro a ha
  refine stepp ha 10 (.bool (a0.f0 == a1.f0)) (by kernel_rfl) (by kernel_rfl) ?_; clear ha a; intro a ha
  by_cases hp2811 : a0.f0 = a1.f0
  · skip
    replace h := ite_pos' h hp2811
    replace ha := ha.bool 10 (by kernel_rfl) (ieq_t hp2811)
    refine stepp ha 11 (.pointer (some ⟨b2805, 1, none⟩)) (by kernel_rfl) (by kernel_rfl) ?_; clear ha a; intro a ha
    refine stepl ha 12 (HW.ca (i := 1) (b := b2805) (C := #[.int .u32 a0.f0, .int .u32 a0.f1, .int .i64 a0.f2, .int .i64 a0.f3, .int .i64 a0.f4, .int .i64 a0.f5]) (T := 27) (fr := (0, 0)) (by kernel_rfl)) 22 1 (.tmp 11) (.int .u32 a0.f1) rfl (by kernel_rfl) (by kernel_rfl) (by kernel_rfl) ?_; clear ha a; intro a ha
    refine stepp ha 13 (.pointer (some ⟨b2807, 1, none⟩)) (by kernel_rfl) (by kernel_rfl) ?_; clear ha a; intro a ha
    refine stepl ha 14 (HW.ca (i := 0) (b := b2807) (C := #[.int .u32 a1.f0, .int .u32 a1.f1, .int .i64 a1.f2, .int .i64 a1.f3, .int .i64 a1.f4, .int .i64 a1.f5]) (T := 27) (fr := (0, 0)) (by kernel_rfl)) 22 1 (.tmp 13) (.int .u32 a1.f1) rfl (by kernel_rfl) (by kernel_rfl) (by kernel_rfl) ?_; clear ha a; intro a ha
    refine stepp ha 15 (.bool (a0.f1 == a1.f1)) (by kernel_rfl) (by kernel_rfl) ?_; clear ha a; intro a ha
    refine stepp ha 16 (.bool (a0.f1 == a1.f1)) (by kernel_rfl) (by kernel_rfl) ?_; clear ha a; intro a ha
    refine stepp ha 17 (.bool (a0.f1 == a1.f1)) (by kernel_rfl) (by kernel_rfl) ?_; clear ha a; intro a ha
    by_cases hp2812 : a0.f1 = a1.f1
    · skip
      replace h := ite_pos' h hp2812
      replace ha := ha.bool 17 (by kernel_rfl) (ieq_t hp2812)
      refine stepp ha 18 (.pointer (some ⟨b2805, 2, none⟩)) (by kernel_rfl) (by kernel_rfl) ?_; clear ha a; intro a ha
      refine stepl ha 19 (HW.ca (i := 1) (b := b2805) (C := #[.int .u32 a0.f0, .int .u32 a0.f1, .int .i64 a0.f2, .int .i64 a0.f3, .int .i64 a0.f4, .int .i64 a0.f5]) (T := 27) (fr := (0, 0)) (by kernel_rfl)) 3 2 (.tmp 18) (.int .i64 a0.f2) rfl (by kernel_rfl) (by kernel_rfl) (by kernel_rfl) ?_; clear ha a; intro a ha
      refine stepp ha 20 (.pointer (some ⟨b2807, 2, none⟩)) (by kernel_rfl) (by kernel_rfl) ?_; clear ha a; intro a ha
      refine stepl ha 21 (HW.ca (i := 0) (b := b2807) (C := #[.int .u32 a1.f0, .int .u32 a1.f1, .int .i64 a1.f2, .int .i64 a1.f3, .int .i64 a1.f4, .int .i64 a1.f5]) (T := 27) (fr := (0, 0)) (by kernel_rfl)) 3 2 (.tmp 20) (.int .i64 a1.f2) rfl (by kernel_rfl) (by kernel_rfl) (by kernel_rfl) ?_; clear ha a; intro a ha
      refine stepp ha 22 (.bool (a0.f2 == a1.f2)) (by kernel_rfl) (by kernel_rfl) ?_; clear ha a; intro a ha
      refine stepp ha 23 (.bool (a0.f2 == a1.f2)) (by kernel_rfl) (by kernel_rfl) ?_; clear ha a; intro a ha
      refine stepp ha 24 (.bool (a0.f2 == a1.f2)) (by kernel_rfl) (by kernel_rfl) ?_; clear ha a; intro a ha
      by_cases hp2813 : a0.f2 = a1.f2
      · skip
        replace h := ite_pos' h hp2813
        replace ha := ha.bool 24 (by kernel_rfl) (ieq_t hp2813)
        refine stepp ha 25 (.pointer (some ⟨b2805, 3, none⟩)) (by kernel_rfl) (by kernel_rfl) ?_; clear ha a; intro a ha
        refine stepl ha 26 (HW.ca (i := 1) (b := b2805) (C := #[.int .u32 a0.f0, .int .u32 a0.f1, .int .i64 a0.f2, .int .i64 a0.f3, .int .i64 a0.f4, .int .i64 a0.f5]) (T := 27) (fr := (0, 0)) (by kernel_rfl)) 3 3 (.tmp 25) (.int .i64 a0.f3) rfl (by kernel_rfl) (by kernel_rfl) (by kernel_rfl) ?_; clear ha a; intro a ha
        refine stepp ha 27 (.pointer (some ⟨b2807, 3, none⟩)) (by kernel_rfl) (by kernel_rfl) ?_; clear ha a; intro a ha
        refine stepl ha 28 (HW.ca (i := 0) (b := b2807) (C := #[.int .u32 a1.f0, .int .u32 a1.f1, .int .i64 a1.f2, .int .i64 a1.f3, .int .i64 a1.f4, .int .i64 a1.f5]) (T := 27) (fr := (0, 0)) (by kernel_rfl)) 3 3 (.tmp 27) (.int .i64 a1.f3) rfl (by kernel_rfl) (by kernel_rfl) (by kernel_rfl) ?_; clear ha a; intro a ha
        refine stepp ha 29 (.bool (a0.f3 == a1.f3)) (by kernel_rfl) (by kernel_rfl) ?_; clear ha a; intro a ha
        refine stepp ha 30 (.bool (a0.f3 == a1.f3)) (by kernel_rfl) (by kernel_rfl) ?_; clear ha a; intro a ha
        refine stepp ha 31 (.bool (a0.f3 == a1.f3)) (by kernel_rfl) (by kernel_rfl) ?_; clear ha a; intro a ha
        by_cases hp2814 : a0.f3 = a1.f3
        · skip
          replace h := ite_pos' h hp2814
          replace ha := ha.bool 31 (by kernel_rfl) (ieq_t hp2814)
          refine stepp ha 32 (.pointer (some ⟨b2805, 4, none⟩)) (by kernel_rfl) (by kernel_rfl) ?_; clear ha a; intro a ha
          refine stepl ha 33 (HW.ca (i := 1) (b := b2805) (C := #[.int .u32 a0.f0, .int .u32 a0.f1, .int .i64 a0.f2, .int .i64 a0.f3, .int .i64 a0.f4, .int .i64 a0.f5]) (T := 27) (fr := (0, 0)) (by kernel_rfl)) 3 4 (.tmp 32) (.int .i64 a0.f4) rfl (by kernel_rfl) (by kernel_rfl) (by kernel_rfl) ?_; clear ha a; intro a ha
          refine stepp ha 34 (.pointer (some ⟨b2807, 4, none⟩)) (by kernel_rfl) (by kernel_rfl) ?_; clear ha a; intro a ha
          refine stepl ha 35 (HW.ca (i := 0) (b := b2807) (C := #[.int .u32 a1.f0, .int .u32 a1.f1, .int .i64 a1.f2, .int .i64 a1.f3, .int .i64 a1.f4, .int .i64 a1.f5]) (T := 27) (fr := (0, 0)) (by kernel_rfl)) 3 4 (.tmp 34) (.int .i64 a1.f4) rfl (by kernel_rfl) (by kernel_rfl) (by kernel_rfl) ?_; clear ha a; intro a ha
          refine stepp ha 36 (.bool (a0.f4 == a1.f4)) (by kernel_rfl) (by kernel_rfl) ?_; clear ha a; intro a ha
          refine stepp ha 37 (.bool (a0.f4 == a1.f4)) (by kernel_rfl) (by kernel_rfl) ?_; clear ha a; intro a ha
          refine stepp ha 38 (.bool (a0.f4 == a1.f4)) (by kernel_rfl) (by kernel_rfl) ?_; clear ha a; intro a ha
          by_cases hp2815 : a0.f4 = a1.f4
          · skip
            replace h := ite_pos' h hp2815
            replace ha := ha.bool 38 (by kernel_rfl) (ieq_t hp2815)
            refine stepp ha 39 (.pointer (some ⟨b2805, 5, none⟩)) (by kernel_rfl) (by kernel_rfl) ?_; clear ha a; intro a ha
            refine stepl ha 40 (HW.ca (i := 1) (b := b2805) (C := #[.int .u32 a0.f0, .int .u32 a0.f1, .int .i64 a0.f2, .int .i64 a0.f3, .int .i64 a0.f4, .int .i64 a0.f5]) (T := 27) (fr := (0, 0)) (by kernel_rfl)) 3 5 (.tmp 39) (.int .i64 a0.f5) rfl (by kernel_rfl) (by kernel_rfl) (by kernel_rfl) ?_; clear ha a; intro a ha
            refine stepp ha 41 (.pointer (some ⟨b2807, 5, none⟩)) (by kernel_rfl) (by kernel_rfl) ?_; clear ha a; intro a ha
            refine stepl ha 42 (HW.ca (i := 0) (b := b2807) (C := #[.int .u32 a1.f0, .int .u32 a1.f1, .int .i64 a1.f2, .int .i64 a1.f3, .int .i64 a1.f4, .int .i64 a1.f5]) (T := 27) (fr := (0, 0)) (by kernel_rfl)) 3 5 (.tmp 41) (.int .i64 a1.f5) rfl (by kernel_rfl) (by kernel_rfl) (by kernel_rfl) ?_; clear ha a; intro a ha
            refine stepp ha 43 (.bool (a0.f5 == a1.f5)) (by kernel_rfl) (by kernel_rfl) ?_; clear ha a; intro a ha
            refine stepp ha 44 (.bool (a0.f5 == a1.f5)) (by kernel_rfl) (by kernel_rfl) ?_; clear ha a; intro a ha
            refine stepp ha 4 (.bool (a0.f5 == a1.f5)) (by kernel_rfl) (by kernel_rfl) ?_; clear ha a; intro a ha
            refine endl ?_
            refine thenN (hK2810 _ _ ?_); clear hK2810
            refine wp_ret ?_
            obtain rfl := Option.some.inj h
            exact finv ha _ _ rfl (.tmp (v := .bool (a0.f5 == a1.f5)) (by kernel_rfl) .nil) (.bool (a0.f5 == a1.f5)) rfl ⟨rfl, HW.pick [] [] (by decide) (by decide) rfl (by kernel_rfl)⟩
          · skip
            replace h := ite_neg' h hp2815
            replace ha := ha.bool 38 (by kernel_rfl) (ieq_f hp2815)
            refine stepo ha 39 (by kernel_rfl) ?_; clear ha a; intro a ha
            refine stepo ha 40 (by kernel_rfl) ?_; clear ha a; intro a ha
            refine stepo ha 41 (by kernel_rfl) ?_; clear ha a; intro a ha
            refine stepo ha 42 (by kernel_rfl) ?_; clear ha a; intro a ha
            refine stepo ha 43 (by kernel_rfl) ?_; clear ha a; intro a ha
            refine stepp ha 44 (.bool false) (by kernel_rfl) (by kernel_rfl) ?_; clear ha a; intro a ha
            refine stepp ha 4 (.bool false) (by kernel_rfl) (by kernel_rfl) ?_; clear ha a; intro a ha
            refine endl ?_
            refine thenN (hK2810 _ _ ?_); clear hK2810
            refine wp_ret ?_
            obtain rfl := Option.some.inj h
            exact finv ha _ _ rfl (.tmp (v := .bool false) (by kernel_rfl) .nil) (.bool false) rfl ⟨rfl, HW.pick [] [] (by decide) (by decide) rfl (by kernel_rfl)⟩
        · skip
          replace h := ite_neg' h hp2814
          replace ha := ha.bool 31 (by kernel_rfl) (ieq_f hp2814)
          refine stepo ha 32 (by kernel_rfl) ?_; clear ha a; intro a ha
          refine stepo ha 33 (by kernel_rfl) ?_; clear ha a; intro a ha
          refine stepo ha 34 (by kernel_rfl) ?_; clear ha a; intro a ha
          refine stepo ha 35 (by kernel_rfl) ?_; clear ha a; intro a ha
          refine stepo ha 36 (by kernel_rfl) ?_; clear ha a; intro a ha
          refine stepp ha 37 (.bool false) (by kernel_rfl) (by kernel_rfl) ?_; clear ha a; intro a ha
          refine stepp ha 38 (.bool false) (by kernel_rfl) (by kernel_rfl) ?_; clear ha a; intro a ha
          refine stepo ha 39 (by kernel_rfl) ?_; clear ha a; intro a ha
          refine stepo ha 40 (by kernel_rfl) ?_; clear ha a; intro a ha
          refine stepo ha 41 (by kernel_rfl) ?_; clear ha a; intro a ha
          refine stepo ha 42 (by kernel_rfl) ?_; clear ha a; intro a ha
          refine stepo ha 43 (by kernel_rfl) ?_; clear ha a; intro a ha
          refine stepp ha 44 (.bool false) (by kernel_rfl) (by kernel_rfl) ?_; clear ha a; intro a ha
          refine stepp ha 4 (.bool false) (by kernel_rfl) (by kernel_rfl) ?_; clear ha a; intro a ha
          refine endl ?_
          refine thenN (hK2810 _ _ ?_); clear hK2810
          refine wp_ret ?_
          obtain rfl := Option.some.inj h
          exact finv ha _ _ rfl (.tmp (v := .bool false) (by kernel_rfl) .nil) (.bool false) rfl ⟨rfl, HW.pick [] [] (by decide) (by decide) rfl (by kernel_rfl)⟩
      · skip
        replace h := ite_neg' h hp2813
        replace ha := ha.bool 24 (by kernel_rfl) (ieq_f hp2813)
        refine stepo ha 25 (by kernel_rfl) ?_; clear ha a; intro a ha
        refine stepo ha 26 (by kernel_rfl) ?_; clear ha a; intro a ha
        refine stepo ha 27 (by kernel_rfl) ?_; clear ha a; intro a ha
        refine stepo ha 28 (by kernel_rfl) ?_; clear ha a; intro a ha
        refine stepo ha 29 (by kernel_rfl) ?_; clear ha a; intro a ha
        refine stepp ha 30 (.bool false) (by kernel_rfl) (by kernel_rfl) ?_; clear ha a; intro a ha
        refine stepp ha 31 (.bool false) (by kernel_rfl) (by kernel_rfl) ?_; clear ha a; intro a ha
        refine stepo ha 32 (by kernel_rfl) ?_; clear ha a; intro a ha
        refine stepo ha 33 (by kernel_rfl) ?_; clear ha a; intro a ha
        refine stepo ha 34 (by kernel_rfl) ?_; clear ha a; intro a ha
        refine stepo ha 35 (by kernel_rfl) ?_; clear ha a; intro a ha
        refine stepo ha 36 (by kernel_rfl) ?_; clear ha a; intro a ha
        refine stepp ha 37 (.bool false) (by kernel_rfl) (by kernel_rfl) ?_; clear ha a; intro a ha
        refine stepp ha 38 (.bool false) (by kernel_rfl) (by kernel_rfl) ?_; clear ha a; intro a ha
        refine stepo ha 39 (by kernel_rfl) ?_; clear ha a; intro a ha
        refine stepo ha 40 (by kernel_rfl) ?_; clear ha a; intro a ha
        refine stepo ha 41 (by kernel_rfl) ?_; clear ha a; intro a ha
        refine stepo ha 42 (by kernel_rfl) ?_; clear ha a; intro a ha
        refine stepo ha 43 (by kernel_rfl) ?_; clear ha a; intro a ha
        refine stepp ha 44 (.bool false) (by kernel_rfl) (by kernel_rfl) ?_; clear ha a; intro a ha
        refine stepp ha 4 (.bool false) (by kernel_rfl) (by kernel_rfl) ?_; clear ha a; intro a ha
        refine endl ?_
        refine thenN (hK2810 _ _ ?_); clear hK2810
        refine wp_ret ?_
        obtain rfl := Option.some.inj h
        exact finv ha _ _ rfl (.tmp (v := .bool false) (by kernel_rfl) .nil) (.bool false) rfl ⟨rfl, HW.pick [] [] (by decide) (by decide) rfl (by kernel_rfl)⟩
    · skip
      replace h := ite_neg' h hp2812
      replace ha := ha.bool 17 (by kernel_rfl) (ieq_f hp2812)
      refine stepo ha 18 (by kernel_rfl) ?_; clear ha a; intro a ha
      refine stepo ha 19 (by kernel_rfl) ?_; clear ha a; intro a ha
      refine stepo ha 20 (by kernel_rfl) ?_; clear ha a; intro a ha
      refine stepo ha 21 (by kernel_rfl) ?_; clear ha a; intro a ha
      refine stepo ha 22 (by kernel_rfl) ?_; clear ha a; intro a ha
      refine stepp ha 23 (.bool false) (by kernel_rfl) (by kernel_rfl) ?_; clear ha a; intro a ha
      refine stepp ha 24 (.bool false) (by kernel_rfl) (by kernel_rfl) ?_; clear ha a; intro a ha
      refine stepo ha 25 (by kernel_rfl) ?_; clear ha a; intro a ha
      refine stepo ha 26 (by kernel_rfl) ?_; clear ha a; intro a ha
      refine stepo ha 27 (by kernel_rfl) ?_; clear ha a; intro a ha
      refine stepo ha 28 (by kernel_rfl) ?_; clear ha a; intro a ha
      refine stepo ha 29 (by kernel_rfl) ?_; clear ha a; intro a ha
      refine stepp ha 30 (.bool false) (by kernel_rfl) (by kernel_rfl) ?_; clear ha a; intro a ha
      refine stepp ha 31 (.bool false) (by kernel_rfl) (by kernel_rfl) ?_; clear ha a; intro a ha
      refine stepo ha 32 (by kernel_rfl) ?_; clear ha a; intro a ha
      refine stepo ha 33 (by kernel_rfl) ?_; clear ha a; intro a ha
      refine stepo ha 34 (by kernel_rfl) ?_; clear ha a; intro a ha
      refine stepo ha 35 (by kernel_rfl) ?_; clear ha a; intro a ha
      refine stepo ha 36 (by kernel_rfl) ?_; clear ha a; intro a ha
      refine stepp ha 37 (.bool false) (by kernel_rfl) (by kernel_rfl) ?_; clear ha a; intro a ha
      refine stepp ha 38 (.bool false) (by kernel_rfl) (by kernel_rfl) ?_; clear ha a; intro a ha
      refine stepo ha 39 (by kernel_rfl) ?_; clear ha a; intro a ha
      refine stepo ha 40 (by kernel_rfl) ?_; clear ha a; intro a ha
      refine stepo ha 41 (by kernel_rfl) ?_; clear ha a; intro a ha
      refine stepo ha 42 (by kernel_rfl) ?_; clear ha a; intro a ha
      refine stepo ha 43 (by kernel_rfl) ?_; clear ha a; intro a ha
      refine stepp ha 44 (.bool false) (by kernel_rfl) (by kernel_rfl) ?_; clear ha a; intro a ha
      refine stepp ha 4 (.bool false) (by kernel_rfl) (by kernel_rfl) ?_; clear ha a; intro a ha
      refine endl ?_
      refine thenN (hK2810 _ _ ?_); clear hK2810
      refine wp_ret ?_
      obtain rfl := Option.some.inj h
      exact finv ha _ _ rfl (.tmp (v := .bool false) (by kernel_rfl) .nil) (.bool false) rfl ⟨rfl, HW.pick [] [] (by decide) (by decide) rfl (by kernel_rfl)⟩
  · skip
    replace h := ite_neg' h hp2811
    replace ha := ha.bool 10 (by kernel_rfl) (ieq_f hp2811)
    refine stepo ha 11 (by kernel_rfl) ?_; clear ha a; intro a ha
    refine stepo ha 12 (by kernel_rfl) ?_; clear ha a; intro a ha
    refine stepo ha 13 (by kernel_rfl) ?_; clear ha a; intro a ha
    refine stepo ha 14 (by kernel_rfl) ?_; clear ha a; intro a ha
    refine stepo ha 15 (by kernel_rfl) ?_; clear ha a; intro a ha
    refine stepp ha 16 (.bool false) (by kernel_rfl) (by kernel_rfl) ?_; clear ha a; intro a ha
    refine stepp ha 17 (.bool false) (by kernel_rfl) (by kernel_rfl) ?_; clear ha a; intro a ha
    refine stepo ha 18 (by kernel_rfl) ?_; clear ha a; intro a ha
    refine stepo ha 19 (by kernel_rfl) ?_; clear ha a; intro a ha
    refine stepo ha 20 (by kernel_rfl) ?_; clear ha a; intro a ha
    refine stepo ha 21 (by kernel_rfl) ?_; clear ha a; intro a ha
    refine stepo ha 22 (by kernel_rfl) ?_; clear ha a; intro a ha
    refine stepp ha 23 (.bool false) (by kernel_rfl) (by kernel_rfl) ?_; clear ha a; intro a ha
    refine stepp ha 24 (.bool false) (by kernel_rfl) (by kernel_rfl) ?_; clear ha a; intro a ha
    refine stepo ha 25 (by kernel_rfl) ?_; clear ha a; intro a ha
    refine stepo ha 26 (by kernel_rfl) ?_; clear ha a; intro a ha
    refine stepo ha 27 (by kernel_rfl) ?_; clear ha a; intro a ha
    refine stepo ha 28 (by kernel_rfl) ?_; clear ha a; intro a ha
    refine stepo ha 29 (by kernel_rfl) ?_; clear ha a; intro a ha
    refine stepp ha 30 (.bool false) (by kernel_rfl) (by kernel_rfl) ?_; clear ha a; intro a ha
    refine stepp ha 31 (.bool false) (by kernel_rfl) (by kernel_rfl) ?_; clear ha a; intro a ha
    refine stepo ha 32 (by kernel_rfl) ?_; clear ha a; intro a ha
    refine stepo ha 33 (by kernel_rfl) ?_; clear ha a; intro a ha
    refine stepo ha 34 (by kernel_rfl) ?_; clear ha a; intro a ha
    refine stepo ha 35 (by kernel_rfl) ?_; clear ha a; intro a ha
    refine stepo ha 36 (by kernel_rfl) ?_; clear ha a; intro a ha
    refine stepp ha 37 (.bool false) (by kernel_rfl) (by kernel_rfl) ?_; clear ha a; intro a ha
    refine stepp ha 38 (.bool false) (by kernel_rfl) (by kernel_rfl) ?_; clear ha a; intro a ha
    refine stepo ha 39 (by kernel_rfl) ?_; clear ha a; intro a ha
    refine stepo ha 40 (by kernel_rfl) ?_; clear ha a; intro a ha
    refine stepo ha 41 (by kernel_rfl) ?_; clear ha a; intro a ha
    refine stepo ha 42 (by kernel_rfl) ?_; clear ha a; intro a ha
    refine stepo ha 43 (by kernel_rfl) ?_; clear ha a; intro a ha
    refine stepp ha 44 (.bool false) (by kernel_rfl) (by kernel_rfl) ?_; clear ha a; intro a ha
    refine stepp ha 4 (.bool false) (by kernel_rfl) (by kernel_rfl) ?_; clear ha a; intro a ha
    refine endl ?_
    refine thenN (hK2810 _ _ ?_); clear hK2810
    refine wp_ret ?_
    obtain rfl := Option.some.inj h
    exact finv ha _ _ rfl (.tmp (v := .bool false) (by kernel_rfl) .nil) (.bool false) rfl ⟨rfl, HW.pick [] [] (by decide) (by decide) rfl (by kernel_rfl)⟩
end Go.Proofs.YtceagilmillgfaaDoor.F
