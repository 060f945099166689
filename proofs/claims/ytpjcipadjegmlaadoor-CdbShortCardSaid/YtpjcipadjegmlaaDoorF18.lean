/- headgate/headgateref15.Same, headgate/headgatelaw15.own: plain functions, and that the calls come to what they say. No condition. -/
import Derived.Test.YtpjcipadjegmlaaDoorFT
namespace Go.Proofs.YtpjcipadjegmlaaDoor.F
open Go Go.RowKit Go.Proofs.YtpjcipadjegmlaaDoor.X
set_option linter.unusedVariables false
set_option linter.unusedSimpArgs false
/-! ### headgate/headgateref15.Same: function 18 -/
def headgateref15_Same.f (a0 : T_headgateref15_Ask) (a1 : T_headgateref15_Ask) : Option Bool :=
  if a0.f0 = a1.f0 then (if a0.f1 = a1.f1 then (if a0.f2 = a1.f2 then (if a0.f3 = a1.f3 then (if a0.f4 = a1.f4 then (if a0.f5 = a1.f5 then (some (a0.f6 == a1.f6)) else (some false)) else (some false)) else (some false)) else (some false)) else (some false)) else (some false)
set_option maxRecDepth 100000 in
set_option maxHeartbeats 4000000 in
theorem headgateref15_Same.calls (a0 : T_headgateref15_Ask) (a1 : T_headgateref15_Ask)  (r : Bool) (w : World)  (h : headgateref15_Same.f a0 a1 = some r) :
    Calls Tryd.prog 18 #[.agg #[.int .i64 a0.f0, .int .i64 a0.f1, .int .i64 a0.f2, .bool a0.f3, .int .i64 a0.f4, .int .i64 a0.f5, .int .i64 a0.f6], .agg #[.int .i64 a1.f0, .int .i64 a1.f1, .int .i64 a1.f2, .bool a1.f3, .int .i64 a1.f4, .int .i64 a1.f5, .int .i64 a1.f6]] w (fun e W' => e = .returned (.bool r) ∧ Wd w W' [] [] ) := by
  refine sxstart (n := 52) (l := [(0, .agg #[.int .i64 a0.f0, .int .i64 a0.f1, .int .i64 a0.f2, .bool a0.f3, .int .i64 a0.f4, .int .i64 a0.f5, .int .i64 a0.f6]), (1, .agg #[.int .i64 a1.f0, .int .i64 a1.f1, .int .i64 a1.f2, .bool a1.f3, .int .i64 a1.f4, .int .i64 a1.f5, .int .i64 a1.f6])]) Tryd.func18 rfl rfl (Nat.le_of_ble_eq_true KR) (subsA_cons rfl (subsA_cons rfl (subsA_nil _))) ?_
  intro a ha
  have HW := Wd.refl w
  unfold headgateref15_Same.f at h
  refine wp_seq_k (fun K2687 hK2688 => ?_)
  refine wp_region_lit ?_
  refine stepnew ha HW 2 #[.int .i64 a0.f0, .int .i64 a0.f1, .int .i64 a0.f2, .bool a0.f3, .int .i64 a0.f4, .int .i64 a0.f5, .int .i64 a0.f6] 43 KR KR ?_; clear ha HW a; intro b2689 a W2690 HW ha
  refine stepnew ha HW 3 #[.int .i64 a1.f0, .int .i64 a1.f1, .int .i64 a1.f2, .bool a1.f3, .int .i64 a1.f4, .int .i64 a1.f5, .int .i64 a1.f6] 43 KR KR ?_; clear ha HW a; intro b2691 a W2692 HW ha
  refine stepp ha 4 (.bool false) KR KR ?_; clear ha a; intro a ha
  refine endl ?_
  refine thenN (hK2688 _ _ ?_); clear hK2688
  refine wp_seq_k (fun K2693 hK2694 => ?_)
  refine wp_region_lit ?_
  refine stepp ha 5 (.pointer (some ⟨b2689, 0, none⟩)) KR KR ?_; clear ha a; intro a ha
  refine stepl ha 6 (HW.ca (i := 1) (b := b2689) (C := #[.int .i64 a0.f0, .int .i64 a0.f1, .int .i64 a0.f2, .bool a0.f3, .int .i64 a0.f4, .int .i64 a0.f5, .int .i64 a0.f6]) (T := 43) (fr := (0, 0)) KR) 3 0 (.tmp 5) (.int .i64 a0.f0) rfl KR KR KR ?_; clear ha a; intro a ha
  refine stepp ha 7 (.pointer (some ⟨b2691, 0, none⟩)) KR KR ?_; clear ha a; intro a ha
  refine stepl ha 8 (HW.ca (i := 0) (b := b2691) (C := #[.int .i64 a1.f0, .int .i64 a1.f1, .int .i64 a1.f2, .bool a1.f3, .int .i64 a1.f4, .int .i64 a1.f5, .int .i64 a1.f6]) (T := 43) (fr := (0, 0)) KR) 3 0 (.tmp 7) (.int .i64 a1.f0) rfl KR KR KR ?_; clear ha a; intro a ha
  refine stepp ha 9 (.bool (a0.f0 == a1.f0)) KR KR ?_; clear ha a; intro a ha
  refine stepp ha 10 (.bool (a0.f0 == a1.f0)) KR KR ?_; clear ha a; intro a ha
  by_cases hp2695 : a0.f0 = a1.f0
  · skip
    replace h := ite_pos' h hp2695
    replace ha := ha.bool 10 KR (ieq_t hp2695)
    refine stepp ha 11 (.pointer (some ⟨b2689, 1, none⟩)) KR KR ?_; clear ha a; intro a ha
    refine stepl ha 12 (HW.ca (i := 1) (b := b2689) (C := #[.int .i64 a0.f0, .int .i64 a0.f1, .int .i64 a0.f2, .bool a0.f3, .int .i64 a0.f4, .int .i64 a0.f5, .int .i64 a0.f6]) (T := 43) (fr := (0, 0)) KR) 3 1 (.tmp 11) (.int .i64 a0.f1) rfl KR KR KR ?_; clear ha a; intro a ha
    refine stepp ha 13 (.pointer (some ⟨b2691, 1, none⟩)) KR KR ?_; clear ha a; intro a ha
    refine stepl ha 14 (HW.ca (i := 0) (b := b2691) (C := #[.int .i64 a1.f0, .int .i64 a1.f1, .int .i64 a1.f2, .bool a1.f3, .int .i64 a1.f4, .int .i64 a1.f5, .int .i64 a1.f6]) (T := 43) (fr := (0, 0)) KR) 3 1 (.tmp 13) (.int .i64 a1.f1) rfl KR KR KR ?_; clear ha a; intro a ha
    refine stepp ha 15 (.bool (a0.f1 == a1.f1)) KR KR ?_; clear ha a; intro a ha
    refine stepp ha 16 (.bool (a0.f1 == a1.f1)) KR KR ?_; clear ha a; intro a ha
    refine stepp ha 17 (.bool (a0.f1 == a1.f1)) KR KR ?_; clear ha a; intro a ha
    by_cases hp2696 : a0.f1 = a1.f1
    · skip
      replace h := ite_pos' h hp2696
      replace ha := ha.bool 17 KR (ieq_t hp2696)
      refine stepp ha 18 (.pointer (some ⟨b2689, 2, none⟩)) KR KR ?_; clear ha a; intro a ha
      refine stepl ha 19 (HW.ca (i := 1) (b := b2689) (C := #[.int .i64 a0.f0, .int .i64 a0.f1, .int .i64 a0.f2, .bool a0.f3, .int .i64 a0.f4, .int .i64 a0.f5, .int .i64 a0.f6]) (T := 43) (fr := (0, 0)) KR) 3 2 (.tmp 18) (.int .i64 a0.f2) rfl KR KR KR ?_; clear ha a; intro a ha
      refine stepp ha 20 (.pointer (some ⟨b2691, 2, none⟩)) KR KR ?_; clear ha a; intro a ha
      refine stepl ha 21 (HW.ca (i := 0) (b := b2691) (C := #[.int .i64 a1.f0, .int .i64 a1.f1, .int .i64 a1.f2, .bool a1.f3, .int .i64 a1.f4, .int .i64 a1.f5, .int .i64 a1.f6]) (T := 43) (fr := (0, 0)) KR) 3 2 (.tmp 20) (.int .i64 a1.f2) rfl KR KR KR ?_; clear ha a; intro a ha
      refine stepp ha 22 (.bool (a0.f2 == a1.f2)) KR KR ?_; clear ha a; intro a ha
      refine stepp ha 23 (.bool (a0.f2 == a1.f2)) KR KR ?_; clear ha a; intro a ha
      refine stepp ha 24 (.bool (a0.f2 == a1.f2)) KR KR ?_; clear ha a; intro a ha
      by_cases hp2697 : a0.f2 = a1.f2
      · skip
        replace h := ite_pos' h hp2697
        replace ha := ha.bool 24 KR (ieq_t hp2697)
        refine stepp ha 25 (.pointer (some ⟨b2689, 3, none⟩)) KR KR ?_; clear ha a; intro a ha
        refine stepl ha 26 (HW.ca (i := 1) (b := b2689) (C := #[.int .i64 a0.f0, .int .i64 a0.f1, .int .i64 a0.f2, .bool a0.f3, .int .i64 a0.f4, .int .i64 a0.f5, .int .i64 a0.f6]) (T := 43) (fr := (0, 0)) KR) 4 3 (.tmp 25) (.bool a0.f3) rfl KR KR KR ?_; clear ha a; intro a ha
        refine stepp ha 27 (.pointer (some ⟨b2691, 3, none⟩)) KR KR ?_; clear ha a; intro a ha
        refine stepl ha 28 (HW.ca (i := 0) (b := b2691) (C := #[.int .i64 a1.f0, .int .i64 a1.f1, .int .i64 a1.f2, .bool a1.f3, .int .i64 a1.f4, .int .i64 a1.f5, .int .i64 a1.f6]) (T := 43) (fr := (0, 0)) KR) 4 3 (.tmp 27) (.bool a1.f3) rfl KR KR KR ?_; clear ha a; intro a ha
        refine stepp ha 29 (.bool (a0.f3 == a1.f3)) KR KR ?_; clear ha a; intro a ha
        refine stepp ha 30 (.bool (a0.f3 == a1.f3)) KR KR ?_; clear ha a; intro a ha
        refine stepp ha 31 (.bool (a0.f3 == a1.f3)) KR KR ?_; clear ha a; intro a ha
        by_cases hp2698 : a0.f3 = a1.f3
        · skip
          replace h := ite_pos' h hp2698
          replace ha := ha.bool 31 KR (beq_t hp2698)
          refine stepp ha 32 (.pointer (some ⟨b2689, 4, none⟩)) KR KR ?_; clear ha a; intro a ha
          refine stepl ha 33 (HW.ca (i := 1) (b := b2689) (C := #[.int .i64 a0.f0, .int .i64 a0.f1, .int .i64 a0.f2, .bool a0.f3, .int .i64 a0.f4, .int .i64 a0.f5, .int .i64 a0.f6]) (T := 43) (fr := (0, 0)) KR) 3 4 (.tmp 32) (.int .i64 a0.f4) rfl KR KR KR ?_; clear ha a; intro a ha
          refine stepp ha 34 (.pointer (some ⟨b2691, 4, none⟩)) KR KR ?_; clear ha a; intro a ha
          refine stepl ha 35 (HW.ca (i := 0) (b := b2691) (C := #[.int .i64 a1.f0, .int .i64 a1.f1, .int .i64 a1.f2, .bool a1.f3, .int .i64 a1.f4, .int .i64 a1.f5, .int .i64 a1.f6]) (T := 43) (fr := (0, 0)) KR) 3 4 (.tmp 34) (.int .i64 a1.f4) rfl KR KR KR ?_; clear ha a; intro a ha
          refine stepp ha 36 (.bool (a0.f4 == a1.f4)) KR KR ?_; clear ha a; intro a ha
          refine stepp ha 37 (.bool (a0.f4 == a1.f4)) KR KR ?_; clear ha a; intro a ha
          refine stepp ha 38 (.bool (a0.f4 == a1.f4)) KR KR ?_; clear ha a; intro a ha
          by_cases hp2699 : a0.f4 = a1.f4
          · skip
            replace h := ite_pos' h hp2699
            replace ha := ha.bool 38 KR (ieq_t hp2699)
            refine stepp ha 39 (.pointer (some ⟨b2689, 5, none⟩)) KR KR ?_; clear ha a; intro a ha
            refine stepl ha 40 (HW.ca (i := 1) (b := b2689) (C := #[.int .i64 a0.f0, .int .i64 a0.f1, .int .i64 a0.f2, .bool a0.f3, .int .i64 a0.f4, .int .i64 a0.f5, .int .i64 a0.f6]) (T := 43) (fr := (0, 0)) KR) 3 5 (.tmp 39) (.int .i64 a0.f5) rfl KR KR KR ?_; clear ha a; intro a ha
            refine stepp ha 41 (.pointer (some ⟨b2691, 5, none⟩)) KR KR ?_; clear ha a; intro a ha
            refine stepl ha 42 (HW.ca (i := 0) (b := b2691) (C := #[.int .i64 a1.f0, .int .i64 a1.f1, .int .i64 a1.f2, .bool a1.f3, .int .i64 a1.f4, .int .i64 a1.f5, .int .i64 a1.f6]) (T := 43) (fr := (0, 0)) KR) 3 5 (.tmp 41) (.int .i64 a1.f5) rfl KR KR KR ?_; clear ha a; intro a ha
            refine stepp ha 43 (.bool (a0.f5 == a1.f5)) KR KR ?_; clear ha a; intro a ha
            refine stepp ha 44 (.bool (a0.f5 == a1.f5)) KR KR ?_; clear ha a; intro a ha
            refine stepp ha 45 (.bool (a0.f5 == a1.f5)) KR KR ?_; clear ha a; intro a ha
            by_cases hp2700 : a0.f5 = a1.f5
            · skip
              replace h := ite_pos' h hp2700
              replace ha := ha.bool 45 KR (ieq_t hp2700)
              refine stepp ha 46 (.pointer (some ⟨b2689, 6, none⟩)) KR KR ?_; clear ha a; intro a ha
              refine stepl ha 47 (HW.ca (i := 1) (b := b2689) (C := #[.int .i64 a0.f0, .int .i64 a0.f1, .int .i64 a0.f2, .bool a0.f3, .int .i64 a0.f4, .int .i64 a0.f5, .int .i64 a0.f6]) (T := 43) (fr := (0, 0)) KR) 3 6 (.tmp 46) (.int .i64 a0.f6) rfl KR KR KR ?_; clear ha a; intro a ha
              refine stepp ha 48 (.pointer (some ⟨b2691, 6, none⟩)) KR KR ?_; clear ha a; intro a ha
              refine stepl ha 49 (HW.ca (i := 0) (b := b2691) (C := #[.int .i64 a1.f0, .int .i64 a1.f1, .int .i64 a1.f2, .bool a1.f3, .int .i64 a1.f4, .int .i64 a1.f5, .int .i64 a1.f6]) (T := 43) (fr := (0, 0)) KR) 3 6 (.tmp 48) (.int .i64 a1.f6) rfl KR KR KR ?_; clear ha a; intro a ha
              refine stepp ha 50 (.bool (a0.f6 == a1.f6)) KR KR ?_; clear ha a; intro a ha
              refine stepp ha 51 (.bool (a0.f6 == a1.f6)) KR KR ?_; clear ha a; intro a ha
              refine stepp ha 4 (.bool (a0.f6 == a1.f6)) KR KR ?_; clear ha a; intro a ha
              refine endl ?_
              refine thenN (hK2694 _ _ ?_); clear hK2694
              refine wp_ret ?_
              obtain rfl := Option.some.inj h
              exact finv ha _ _ rfl (.tmp (v := .bool (a0.f6 == a1.f6)) KR .nil) (.bool (a0.f6 == a1.f6)) rfl ⟨rfl, HW.pick [] [] (by decide) (by decide) rfl KR⟩
            · skip
              replace h := ite_neg' h hp2700
              replace ha := ha.bool 45 KR (ieq_f hp2700)
              refine stepo ha 46 KR ?_; clear ha a; intro a ha
              refine stepo ha 47 KR ?_; clear ha a; intro a ha
              refine stepo ha 48 KR ?_; clear ha a; intro a ha
              refine stepo ha 49 KR ?_; clear ha a; intro a ha
              refine stepo ha 50 KR ?_; clear ha a; intro a ha
              refine stepp ha 51 (.bool false) KR KR ?_; clear ha a; intro a ha
              refine stepp ha 4 (.bool false) KR KR ?_; clear ha a; intro a ha
              refine endl ?_
              refine thenN (hK2694 _ _ ?_); clear hK2694
              refine wp_ret ?_
              obtain rfl := Option.some.inj h
              exact finv ha _ _ rfl (.tmp (v := .bool false) KR .nil) (.bool false) rfl ⟨rfl, HW.pick [] [] (by decide) (by decide) rfl KR⟩
          · skip
            replace h := ite_neg' h hp2699
            replace ha := ha.bool 38 KR (ieq_f hp2699)
            refine stepo ha 39 KR ?_; clear ha a; intro a ha
            refine stepo ha 40 KR ?_; clear ha a; intro a ha
            refine stepo ha 41 KR ?_; clear ha a; intro a ha
            refine stepo ha 42 KR ?_; clear ha a; intro a ha
            refine stepo ha 43 KR ?_; clear ha a; intro a ha
            refine stepp ha 44 (.bool false) KR KR ?_; clear ha a; intro a ha
            refine stepp ha 45 (.bool false) KR KR ?_; clear ha a; intro a ha
            refine stepo ha 46 KR ?_; clear ha a; intro a ha
            refine stepo ha 47 KR ?_; clear ha a; intro a ha
            refine stepo ha 48 KR ?_; clear ha a; intro a ha
            refine stepo ha 49 KR ?_; clear ha a; intro a ha
            refine stepo ha 50 KR ?_; clear ha a; intro a ha
            refine stepp ha 51 (.bool false) KR KR ?_; clear ha a; intro a ha
            refine stepp ha 4 (.bool false) KR KR ?_; clear ha a; intro a ha
            refine endl ?_
            refine thenN (hK2694 _ _ ?_); clear hK2694
            refine wp_ret ?_
            obtain rfl := Option.some.inj h
            exact finv ha _ _ rfl (.tmp (v := .bool false) KR .nil) (.bool false) rfl ⟨rfl, HW.pick [] [] (by decide) (by decide) rfl KR⟩
        · skip
          replace h := ite_neg' h hp2698
          replace ha := ha.bool 31 KR (beq_f hp2698)
          refine stepo ha 32 KR ?_; clear ha a; intro a ha
          refine stepo ha 33 KR ?_; clear ha a; intro a ha
          refine stepo ha 34 KR ?_; clear ha a; intro a ha
          refine stepo ha 35 KR ?_; clear ha a; intro a ha
          refine stepo ha 36 KR ?_; clear ha a; intro a ha
          refine stepp ha 37 (.bool false) KR KR ?_; clear ha a; intro a ha
          refine stepp ha 38 (.bool false) KR KR ?_; clear ha a; intro a ha
          refine stepo ha 39 KR ?_; clear ha a; intro a ha
          refine stepo ha 40 KR ?_; clear ha a; intro a ha
          refine stepo ha 41 KR ?_; clear ha a; intro a ha
          refine stepo ha 42 KR ?_; clear ha a; intro a ha
          refine stepo ha 43 KR ?_; clear ha a; intro a ha
          refine stepp ha 44 (.bool false) KR KR ?_; clear ha a; intro a ha
          refine stepp ha 45 (.bool false) KR KR ?_; clear ha a; intro a ha
          refine stepo ha 46 KR ?_; clear ha a; intro a ha
          refine stepo ha 47 KR ?_; clear ha a; intro a ha
          refine stepo ha 48 KR ?_; clear ha a; intro a ha
          refine stepo ha 49 KR ?_; clear ha a; intro a ha
          refine stepo ha 50 KR ?_; clear ha a; intro a ha
          refine stepp ha 51 (.bool false) KR KR ?_; clear ha a; intro a ha
          refine stepp ha 4 (.bool false) KR KR ?_; clear ha a; intro a ha
          refine endl ?_
          refine thenN (hK2694 _ _ ?_); clear hK2694
          refine wp_ret ?_
          obtain rfl := Option.some.inj h
          exact finv ha _ _ rfl (.tmp (v := .bool false) KR .nil) (.bool false) rfl ⟨rfl, HW.pick [] [] (by decide) (by decide) rfl KR⟩
      · skip
        replace h := ite_neg' h hp2697
        replace ha := ha.bool 24 KR (ieq_f hp2697)
        refine stepo ha 25 KR ?_; clear ha a; intro a ha
        refine stepo ha 26 KR ?_; clear ha a; intro a ha
        refine stepo ha 27 KR ?_; clear ha a; intro a ha
        refine stepo ha 28 KR ?_; clear ha a; intro a ha
        refine stepo ha 29 KR ?_; clear ha a; intro a ha
        refine stepp ha 30 (.bool false) KR KR ?_; clear ha a; intro a ha
        refine stepp ha 31 (.bool false) KR KR ?_; clear ha a; intro a ha
        refine stepo ha 32 KR ?_; clear ha a; intro a ha
        refine stepo ha 33 KR ?_; clear ha a; intro a ha
        refine stepo ha 34 KR ?_; clear ha a; intro a ha
        refine stepo ha 35 KR ?_; clear ha a; intro a ha
        refine stepo ha 36 KR ?_; clear ha a; intro a ha
        refine stepp ha 37 (.bool false) KR KR ?_; clear ha a; intro a ha
        refine stepp ha 38 (.bool false) KR KR ?_; clear ha a; intro a ha
        refine stepo ha 39 KR ?_; clear ha a; intro a ha
        refine stepo ha 40 KR ?_; clear ha a; intro a ha
        refine stepo ha 41 KR ?_; clear ha a; intro a ha
        refine stepo ha 42 KR ?_; clear ha a; intro a ha
        refine stepo ha 43 KR ?_; clear ha a; intro a ha
        refine stepp ha 44 (.bool false) KR KR ?_; clear ha a; intro a ha
        refine stepp ha 45 (.bool false) KR KR ?_; clear ha a; intro a ha
        refine stepo ha 46 KR ?_; clear ha a; intro a ha
        refine stepo ha 47 KR ?_; clear ha a; intro a ha
        refine stepo ha 48 KR ?_; clear ha a; intro a ha
        refine stepo ha 49 KR ?_; clear ha a; intro a ha
        refine stepo ha 50 KR ?_; clear ha a; intro a ha
        refine stepp ha 51 (.bool false) KR KR ?_; clear ha a; intro a ha
        refine stepp ha 4 (.bool false) KR KR ?_; clear ha a; intro a ha
        refine endl ?_
        refine thenN (hK2694 _ _ ?_); clear hK2694
        refine wp_ret ?_
        obtain rfl := Option.some.inj h
        exact finv ha _ _ rfl (.tmp (v := .bool false) KR .nil) (.bool false) rfl ⟨rfl, HW.pick [] [] (by decide) (by decide) rfl KR⟩
    · skip
      replace h := ite_neg' h hp2696
      replace ha := ha.bool 17 KR (ieq_f hp2696)
      refine stepo ha 18 KR ?_; clear ha a; intro a ha
      refine stepo ha 19 KR ?_; clear ha a; intro a ha
      refine stepo ha 20 KR ?_; clear ha a; intro a ha
      refine stepo ha 21 KR ?_; clear ha a; intro a ha
      refine stepo ha 22 KR ?_; clear ha a; intro a ha
      refine stepp ha 23 (.bool false) KR KR ?_; clear ha a; intro a ha
      refine stepp ha 24 (.bool false) KR KR ?_; clear ha a; intro a ha
      refine stepo ha 25 KR ?_; clear ha a; intro a ha
      refine stepo ha 26 KR ?_; clear ha a; intro a ha
      refine stepo ha 27 KR ?_; clear ha a; intro a ha
      refine stepo ha 28 KR ?_; clear ha a; intro a ha
      refine stepo ha 29 KR ?_; clear ha a; intro a ha
      refine stepp ha 30 (.bool false) KR KR ?_; clear ha a; intro a ha
      refine stepp ha 31 (.bool false) KR KR ?_; clear ha a; intro a ha
      refine stepo ha 32 KR ?_; clear ha a; intro a ha
      refine stepo ha 33 KR ?_; clear ha a; intro a ha
      refine stepo ha 34 KR ?_; clear ha a; intro a ha
      refine stepo ha 35 KR ?_; clear ha a; intro a ha
      refine stepo ha 36 KR ?_; clear ha a; intro a ha
      refine stepp ha 37 (.bool false) KR KR ?_; clear ha a; intro a ha
      refine stepp ha 38 (.bool false) KR KR ?_; clear ha a; intro a ha
      refine stepo ha 39 KR ?_; clear ha a; intro a ha
      refine stepo ha 40 KR ?_; clear ha a; intro a ha
      refine stepo ha 41 KR ?_; clear ha a; intro a ha
      refine stepo ha 42 KR ?_; clear ha a; intro a ha
      refine stepo ha 43 KR ?_; clear ha a; intro a ha
      refine stepp ha 44 (.bool false) KR KR ?_; clear ha a; intro a ha
      refine stepp ha 45 (.bool false) KR KR ?_; clear ha a; intro a ha
      refine stepo ha 46 KR ?_; clear ha a; intro a ha
      refine stepo ha 47 KR ?_; clear ha a; intro a ha
      refine stepo ha 48 KR ?_; clear ha a; intro a ha
      refine stepo ha 49 KR ?_; clear ha a; intro a ha
      refine stepo ha 50 KR ?_; clear ha a; intro a ha
      refine stepp ha 51 (.bool false) KR KR ?_; clear ha a; intro a ha
      refine stepp ha 4 (.bool false) KR KR ?_; clear ha a; intro a ha
      refine endl ?_
      refine thenN (hK2694 _ _ ?_); clear hK2694
      refine wp_ret ?_
      obtain rfl := Option.some.inj h
      exact finv ha _ _ rfl (.tmp (v := .bool false) KR .nil) (.bool false) rfl ⟨rfl, HW.pick [] [] (by decide) (by decide) rfl KR⟩
  · skip
    replace h := ite_neg' h hp2695
    replace ha := ha.bool 10 KR (ieq_f hp2695)
    refine stepo ha 11 KR ?_; clear ha a; intro a ha
    refine stepo ha 12 KR ?_; clear ha a; intro a ha
    refine stepo ha 13 KR ?_; clear ha a; intro a ha
    refine stepo ha 14 KR ?_; clear ha a; intro a ha
    refine stepo ha 15 KR ?_; clear ha a; intro a ha
    refine stepp ha 16 (.bool false) KR KR ?_; clear ha a; intro a ha
    refine stepp ha 17 (.bool false) KR KR ?_; clear ha a; intro a ha
    refine stepo ha 18 KR ?_; clear ha a; intro a ha
    refine stepo ha 19 KR ?_; clear ha a; intro a ha
    refine stepo ha 20 KR ?_; clear ha a; intro a ha
    refine stepo ha 21 KR ?_; clear ha a; intro a ha
    refine stepo ha 22 KR ?_; clear ha a; intro a ha
    refine stepp ha 23 (.bool false) KR KR ?_; clear ha a; intro a ha
    refine stepp ha 24 (.bool false) KR KR ?_; clear ha a; intro a ha
    refine stepo ha 25 KR ?_; clear ha a; intro a ha
    refine stepo ha 26 KR ?_; clear ha a; intro a ha
    refine stepo ha 27 KR ?_; clear ha a; intro a ha
    refine stepo ha 28 KR ?_; clear ha a; intro a ha
    refine stepo ha 29 KR ?_; clear ha a; intro a ha
    refine stepp ha 30 (.bool false) KR KR ?_; clear ha a; intro a ha
    refine stepp ha 31 (.bool false) KR KR ?_; clear ha a; intro a ha
    refine stepo ha 32 KR ?_; clear ha a; intro a ha
    refine stepo ha 33 KR ?_; clear ha a; intro a ha
    refine stepo ha 34 KR ?_; clear ha a; intro a ha
    refine stepo ha 35 KR ?_; clear ha a; intro a ha
    refine stepo ha 36 KR ?_; clear ha a; intro a ha
    refine stepp ha 37 (.bool false) KR KR ?_; clear ha a; intro a ha
    refine stepp ha 38 (.bool false) KR KR ?_; clear ha a; intro a ha
    refine stepo ha 39 KR ?_; clear ha a; intro a ha
    refine stepo ha 40 KR ?_; clear ha a; intro a ha
    refine stepo ha 41 KR ?_; clear ha a; intro a ha
    refine stepo ha 42 KR ?_; clear ha a; intro a ha
    refine stepo ha 43 KR ?_; clear ha a; intro a ha
    refine stepp ha 44 (.bool false) KR KR ?_; clear ha a; intro a ha
    refine stepp ha 45 (.bool false) KR KR ?_; clear ha a; intro a ha
    refine stepo ha 46 KR ?_; clear ha a; intro a ha
    refine stepo ha 47 KR ?_; clear ha a; intro a ha
    refine stepo ha 48 KR ?_; clear ha a; intro a ha
    refine stepo ha 49 KR ?_; clear ha a; intro a ha
    refine stepo ha 50 KR ?_; clear ha a; intro a ha
    refine stepp ha 51 (.bool false) KR KR ?_; clear ha a; intro a ha
    refine stepp ha 4 (.bool false) KR KR ?_; clear ha a; intro a ha
    refine endl ?_
    refine thenN (hK2694 _ _ ?_); clear hK2694
    refine wp_ret ?_
    obtain rfl := Option.some.inj h
    exact finv ha _ _ rfl (.tmp (v := .bool false) KR .nil) (.bool false) rfl ⟨rfl, HW.pick [] [] (by decide) (by decide) rfl KR⟩
/-! ### headgate/headgatelaw15.own: function 19 -/
def headgatelaw15_own.f (a0 : T_cdb_Ask) : Option T_headgateref15_Ask :=
  some (⟨a0.f0, a0.f1, a0.f2, a0.f3, a0.f4, a0.f5, a0.f6⟩ : T_headgateref15_Ask)
set_option maxRecDepth 100000 in
set_option maxHeartbeats 4000000 in
theorem headgatelaw15_own.calls (a0 : T_cdb_Ask)  (r : T_headgateref15_Ask) (w : World)  (h : headgatelaw15_own.f a0 = some r) :
    Calls Tryd.prog 19 #[.agg #[.int .i64 a0.f0, .int .i64 a0.f1, .int .i64 a0.f2, .bool a0.f3, .int .i64 a0.f4, .int .i64 a0.f5, .int .i64 a0.f6]] w (fun e W' => e = .returned (.agg #[.int .i64 r.f0, .int .i64 r.f1, .int .i64 r.f2, .bool r.f3, .int .i64 r.f4, .int .i64 r.f5, .int .i64 r.f6]) ∧ Wd w W' [] [] ) := by
  refine sxstart (n := 18) (l := [(0, .agg #[.int .i64 a0.f0, .int .i64 a0.f1, .int .i64 a0.f2, .bool a0.f3, .int .i64 a0.f4, .int .i64 a0.f5, .int .i64 a0.f6])]) Tryd.func19 rfl rfl (Nat.le_of_ble_eq_true KR) (subsA_cons rfl (subsA_nil _)) ?_
  intro a ha
  have HW := Wd.refl w
  unfold headgatelaw15_own.f at h
  refine wp_seq_k (fun K2701 hK2702 => ?_)
  refine wp_region_lit ?_
  refine stepnew ha HW 1 #[.int .i64 a0.f0, .int .i64 a0.f1, .int .i64 a0.f2, .bool a0.f3, .int .i64 a0.f4, .int .i64 a0.f5, .int .i64 a0.f6] 39 KR KR ?_; clear ha HW a; intro b2703 a W2704 HW ha
  refine stepnew ha HW 2 #[.int .i64 0, .int .i64 0, .int .i64 0, .bool false, .int .i64 0, .int .i64 0, .int .i64 0] 43 KR KR ?_; clear ha HW a; intro b2705 a W2706 HW ha
  refine endl ?_
  refine thenN (hK2702 _ _ ?_); clear hK2702
  refine wp_seq_k (fun K2707 hK2708 => ?_)
  refine wp_region_lit ?_
  refine stepp ha 3 (.pointer (some ⟨b2703, 0, none⟩)) KR KR ?_; clear ha a; intro a ha
  refine stepl ha 4 (HW.ca (i := 1) (b := b2703) (C := #[.int .i64 a0.f0, .int .i64 a0.f1, .int .i64 a0.f2, .bool a0.f3, .int .i64 a0.f4, .int .i64 a0.f5, .int .i64 a0.f6]) (T := 39) (fr := (0, 0)) KR) 3 0 (.tmp 3) (.int .i64 a0.f0) rfl KR KR KR ?_; clear ha a; intro a ha
  refine stepp ha 5 (.pointer (some ⟨b2703, 1, none⟩)) KR KR ?_; clear ha a; intro a ha
  refine stepl ha 6 (HW.ca (i := 1) (b := b2703) (C := #[.int .i64 a0.f0, .int .i64 a0.f1, .int .i64 a0.f2, .bool a0.f3, .int .i64 a0.f4, .int .i64 a0.f5, .int .i64 a0.f6]) (T := 39) (fr := (0, 0)) KR) 3 1 (.tmp 5) (.int .i64 a0.f1) rfl KR KR KR ?_; clear ha a; intro a ha
  refine stepp ha 7 (.pointer (some ⟨b2703, 2, none⟩)) KR KR ?_; clear ha a; intro a ha
  refine stepl ha 8 (HW.ca (i := 1) (b := b2703) (C := #[.int .i64 a0.f0, .int .i64 a0.f1, .int .i64 a0.f2, .bool a0.f3, .int .i64 a0.f4, .int .i64 a0.f5, .int .i64 a0.f6]) (T := 39) (fr := (0, 0)) KR) 3 2 (.tmp 7) (.int .i64 a0.f2) rfl KR KR KR ?_; clear ha a; intro a ha
  refine stepp ha 9 (.pointer (some ⟨b2703, 3, none⟩)) KR KR ?_; clear ha a; intro a ha
  refine stepl ha 10 (HW.ca (i := 1) (b := b2703) (C := #[.int .i64 a0.f0, .int .i64 a0.f1, .int .i64 a0.f2, .bool a0.f3, .int .i64 a0.f4, .int .i64 a0.f5, .int .i64 a0.f6]) (T := 39) (fr := (0, 0)) KR) 4 3 (.tmp 9) (.bool a0.f3) rfl KR KR KR ?_; clear ha a; intro a ha
  refine stepp ha 11 (.pointer (some ⟨b2703, 4, none⟩)) KR KR ?_; clear ha a; intro a ha
  refine stepl ha 12 (HW.ca (i := 1) (b := b2703) (C := #[.int .i64 a0.f0, .int .i64 a0.f1, .int .i64 a0.f2, .bool a0.f3, .int .i64 a0.f4, .int .i64 a0.f5, .int .i64 a0.f6]) (T := 39) (fr := (0, 0)) KR) 3 4 (.tmp 11) (.int .i64 a0.f4) rfl KR KR KR ?_; clear ha a; intro a ha
  refine stepp ha 13 (.pointer (some ⟨b2703, 5, none⟩)) KR KR ?_; clear ha a; intro a ha
  refine stepl ha 14 (HW.ca (i := 1) (b := b2703) (C := #[.int .i64 a0.f0, .int .i64 a0.f1, .int .i64 a0.f2, .bool a0.f3, .int .i64 a0.f4, .int .i64 a0.f5, .int .i64 a0.f6]) (T := 39) (fr := (0, 0)) KR) 3 5 (.tmp 13) (.int .i64 a0.f5) rfl KR KR KR ?_; clear ha a; intro a ha
  refine stepp ha 15 (.pointer (some ⟨b2703, 6, none⟩)) KR KR ?_; clear ha a; intro a ha
  refine stepl ha 16 (HW.ca (i := 1) (b := b2703) (C := #[.int .i64 a0.f0, .int .i64 a0.f1, .int .i64 a0.f2, .bool a0.f3, .int .i64 a0.f4, .int .i64 a0.f5, .int .i64 a0.f6]) (T := 39) (fr := (0, 0)) KR) 3 6 (.tmp 15) (.int .i64 a0.f6) rfl KR KR KR ?_; clear ha a; intro a ha
  refine stepp ha 17 (.agg #[.int .i64 a0.f0, .int .i64 a0.f1, .int .i64 a0.f2, .bool a0.f3, .int .i64 a0.f4, .int .i64 a0.f5, .int .i64 a0.f6]) KR KR ?_; clear ha a; intro a ha
  refine stepst ha HW 0 (b := b2705) (C := #[.int .i64 0, .int .i64 0, .int .i64 0, .bool false, .int .i64 0, .int .i64 0, .int .i64 0]) (T := 43) KR 43 0 (.tmp 2) (.tmp 17) (.agg #[.int .i64 a0.f0, .int .i64 a0.f1, .int .i64 a0.f2, .bool a0.f3, .int .i64 a0.f4, .int .i64 a0.f5, .int .i64 a0.f6]) #[.int .i64 a0.f0, .int .i64 a0.f1, .int .i64 a0.f2, .bool a0.f3, .int .i64 a0.f4, .int .i64 a0.f5, .int .i64 a0.f6] rfl KR KR KR KR KR KR KR ?_; clear ha HW a; intro a W2709 HW ha
  refine endl ?_
  refine thenN (hK2708 _ _ ?_); clear hK2708
  refine wp_ret ?_
  obtain rfl := Option.some.inj h
  exact finv ha _ _ rfl (.cell (ad := ⟨b2705, 0, none⟩) (v := .agg #[.int .i64 a0.f0, .int .i64 a0.f1, .int .i64 a0.f2, .bool a0.f3, .int .i64 a0.f4, .int .i64 a0.f5, .int .i64 a0.f6]) KR (run_loadVar_ca0 (HW.ca (i := 0) (b := b2705) (C := #[.int .i64 a0.f0, .int .i64 a0.f1, .int .i64 a0.f2, .bool a0.f3, .int .i64 a0.f4, .int .i64 a0.f5, .int .i64 a0.f6]) (T := 43) (fr := (0, 0)) KR) 43 0 (.agg #[.int .i64 a0.f0, .int .i64 a0.f1, .int .i64 a0.f2, .bool a0.f3, .int .i64 a0.f4, .int .i64 a0.f5, .int .i64 a0.f6]) KR) .nil) (.agg #[.int .i64 a0.f0, .int .i64 a0.f1, .int .i64 a0.f2, .bool a0.f3, .int .i64 a0.f4, .int .i64 a0.f5, .int .i64 a0.f6]) rfl ⟨rfl, HW.pick [] [] (by decide) (by decide) rfl KR⟩
end Go.Proofs.YtpjcipadjegmlaaDoor.F
