/- headgate/headgateref16.may, headgate/headgateref01.PutBig, headgate/headgateref16.Bytes, headgate/headgateref01.Big, headgate/headgateref16.Parse: plain functions, and that the calls come to what they say. No condition. -/
import Derived.Test.YthjjbkgifelooaaDoorFT
import Derived.Test.YthjjbkgifelooaaDoorF51
namespace Go.Proofs.YthjjbkgifelooaaDoor.F
open Go Go.RowKit Go.Proofs.YthjjbkgifelooaaDoor.X
set_option linter.unusedVariables false
set_option linter.unusedSimpArgs false
/-! ### headgate/headgateref16.may: function 70 -/
def headgateref16_may.f (a0 : T_api_Sense) : Option Bool :=
  if a0.f0 ≥ 0 then (if a0.f0 ≤ 15 then (if a0.f1 ≥ 0 then (if a0.f1 ≤ 255 then (if a0.f2 ≥ 0 then (if a0.f2 ≤ 255 then (if a0.f3 ≥ (-1) then (some (decide (a0.f3 < 4294967296))) else (some false)) else (some false)) else (some false)) else (some false)) else (some false)) else (some false)) else (some false)
set_option maxRecDepth 100000 in
set_option maxHeartbeats 4000000 in
theorem headgateref16_may.calls (a0 : T_api_Sense)  (r : Bool) (w : World)  (h : headgateref16_may.f a0 = some r) :
    Calls Tryd.prog 70 #[.agg #[.int .i64 a0.f0, .int .i64 a0.f1, .int .i64 a0.f2, .int .i64 a0.f3]] w (fun e W' => e = .returned (.bool r) ∧ Wd w W' [] [] ) := by
  refine sxstart (n := 41) (l := [(0, .agg #[.int .i64 a0.f0, .int .i64 a0.f1, .int .i64 a0.f2, .int .i64 a0.f3])]) Tryd.func70 rfl rfl (Nat.le_of_ble_eq_true KR) (subsA_cons rfl (subsA_nil _)) ?_
  intro a ha
  have HW := Wd.refl w
  unfold headgateref16_may.f at h
  refine wp_seq_k (fun K4571 hK4572 => ?_)
  refine wp_region_lit ?_
  refine stepnew ha HW 1 #[.int .i64 a0.f0, .int .i64 a0.f1, .int .i64 a0.f2, .int .i64 a0.f3] 66 KR KR ?_; clear ha HW a; intro b4573 a W4574 HW ha
  refine stepp ha 2 (.bool false) KR KR ?_; clear ha a; intro a ha
  refine endl ?_
  refine thenN (hK4572 _ _ ?_); clear hK4572
  refine wp_seq_k (fun K4575 hK4576 => ?_)
  refine wp_region_lit ?_
  refine stepp ha 3 (.pointer (some ⟨b4573, 0, none⟩)) KR KR ?_; clear ha a; intro a ha
  refine stepl ha 4 (HW.ca (i := 0) (b := b4573) (C := #[.int .i64 a0.f0, .int .i64 a0.f1, .int .i64 a0.f2, .int .i64 a0.f3]) (T := 66) (fr := (0, 0)) KR) 3 0 (.tmp 3) (.int .i64 a0.f0) rfl KR KR KR ?_; clear ha a; intro a ha
  refine stepp ha 5 (.bool (decide (a0.f0 ≥ 0))) KR KR ?_; clear ha a; intro a ha
  refine stepp ha 6 (.bool (decide (a0.f0 ≥ 0))) KR KR ?_; clear ha a; intro a ha
  by_cases hp4577 : a0.f0 ≥ 0
  · skip
    replace h := ite_pos' h hp4577
    replace ha := ha.bool 6 KR (decide_eq_true hp4577)
    refine stepp ha 7 (.pointer (some ⟨b4573, 0, none⟩)) KR KR ?_; clear ha a; intro a ha
    refine stepl ha 8 (HW.ca (i := 0) (b := b4573) (C := #[.int .i64 a0.f0, .int .i64 a0.f1, .int .i64 a0.f2, .int .i64 a0.f3]) (T := 66) (fr := (0, 0)) KR) 3 0 (.tmp 7) (.int .i64 a0.f0) rfl KR KR KR ?_; clear ha a; intro a ha
    refine stepp ha 9 (.bool (decide (a0.f0 ≤ 15))) KR KR ?_; clear ha a; intro a ha
    refine stepp ha 10 (.bool (decide (a0.f0 ≤ 15))) KR KR ?_; clear ha a; intro a ha
    refine stepp ha 11 (.bool (decide (a0.f0 ≤ 15))) KR KR ?_; clear ha a; intro a ha
    by_cases hp4578 : a0.f0 ≤ 15
    · skip
      replace h := ite_pos' h hp4578
      replace ha := ha.bool 11 KR (decide_eq_true hp4578)
      refine stepp ha 12 (.pointer (some ⟨b4573, 1, none⟩)) KR KR ?_; clear ha a; intro a ha
      refine stepl ha 13 (HW.ca (i := 0) (b := b4573) (C := #[.int .i64 a0.f0, .int .i64 a0.f1, .int .i64 a0.f2, .int .i64 a0.f3]) (T := 66) (fr := (0, 0)) KR) 3 1 (.tmp 12) (.int .i64 a0.f1) rfl KR KR KR ?_; clear ha a; intro a ha
      refine stepp ha 14 (.bool (decide (a0.f1 ≥ 0))) KR KR ?_; clear ha a; intro a ha
      refine stepp ha 15 (.bool (decide (a0.f1 ≥ 0))) KR KR ?_; clear ha a; intro a ha
      refine stepp ha 16 (.bool (decide (a0.f1 ≥ 0))) KR KR ?_; clear ha a; intro a ha
      by_cases hp4579 : a0.f1 ≥ 0
      · skip
        replace h := ite_pos' h hp4579
        replace ha := ha.bool 16 KR (decide_eq_true hp4579)
        refine stepp ha 17 (.pointer (some ⟨b4573, 1, none⟩)) KR KR ?_; clear ha a; intro a ha
        refine stepl ha 18 (HW.ca (i := 0) (b := b4573) (C := #[.int .i64 a0.f0, .int .i64 a0.f1, .int .i64 a0.f2, .int .i64 a0.f3]) (T := 66) (fr := (0, 0)) KR) 3 1 (.tmp 17) (.int .i64 a0.f1) rfl KR KR KR ?_; clear ha a; intro a ha
        refine stepp ha 19 (.bool (decide (a0.f1 ≤ 255))) KR KR ?_; clear ha a; intro a ha
        refine stepp ha 20 (.bool (decide (a0.f1 ≤ 255))) KR KR ?_; clear ha a; intro a ha
        refine stepp ha 21 (.bool (decide (a0.f1 ≤ 255))) KR KR ?_; clear ha a; intro a ha
        by_cases hp4580 : a0.f1 ≤ 255
        · skip
          replace h := ite_pos' h hp4580
          replace ha := ha.bool 21 KR (decide_eq_true hp4580)
          refine stepp ha 22 (.pointer (some ⟨b4573, 2, none⟩)) KR KR ?_; clear ha a; intro a ha
          refine stepl ha 23 (HW.ca (i := 0) (b := b4573) (C := #[.int .i64 a0.f0, .int .i64 a0.f1, .int .i64 a0.f2, .int .i64 a0.f3]) (T := 66) (fr := (0, 0)) KR) 3 2 (.tmp 22) (.int .i64 a0.f2) rfl KR KR KR ?_; clear ha a; intro a ha
          refine stepp ha 24 (.bool (decide (a0.f2 ≥ 0))) KR KR ?_; clear ha a; intro a ha
          refine stepp ha 25 (.bool (decide (a0.f2 ≥ 0))) KR KR ?_; clear ha a; intro a ha
          refine stepp ha 26 (.bool (decide (a0.f2 ≥ 0))) KR KR ?_; clear ha a; intro a ha
          by_cases hp4581 : a0.f2 ≥ 0
          · skip
            replace h := ite_pos' h hp4581
            replace ha := ha.bool 26 KR (decide_eq_true hp4581)
            refine stepp ha 27 (.pointer (some ⟨b4573, 2, none⟩)) KR KR ?_; clear ha a; intro a ha
            refine stepl ha 28 (HW.ca (i := 0) (b := b4573) (C := #[.int .i64 a0.f0, .int .i64 a0.f1, .int .i64 a0.f2, .int .i64 a0.f3]) (T := 66) (fr := (0, 0)) KR) 3 2 (.tmp 27) (.int .i64 a0.f2) rfl KR KR KR ?_; clear ha a; intro a ha
            refine stepp ha 29 (.bool (decide (a0.f2 ≤ 255))) KR KR ?_; clear ha a; intro a ha
            refine stepp ha 30 (.bool (decide (a0.f2 ≤ 255))) KR KR ?_; clear ha a; intro a ha
            refine stepp ha 31 (.bool (decide (a0.f2 ≤ 255))) KR KR ?_; clear ha a; intro a ha
            by_cases hp4582 : a0.f2 ≤ 255
            · skip
              replace h := ite_pos' h hp4582
              replace ha := ha.bool 31 KR (decide_eq_true hp4582)
              refine stepp ha 32 (.pointer (some ⟨b4573, 3, none⟩)) KR KR ?_; clear ha a; intro a ha
              refine stepl ha 33 (HW.ca (i := 0) (b := b4573) (C := #[.int .i64 a0.f0, .int .i64 a0.f1, .int .i64 a0.f2, .int .i64 a0.f3]) (T := 66) (fr := (0, 0)) KR) 3 3 (.tmp 32) (.int .i64 a0.f3) rfl KR KR KR ?_; clear ha a; intro a ha
              refine stepp ha 34 (.bool (decide (a0.f3 ≥ (-1)))) KR KR ?_; clear ha a; intro a ha
              refine stepp ha 35 (.bool (decide (a0.f3 ≥ (-1)))) KR KR ?_; clear ha a; intro a ha
              refine stepp ha 36 (.bool (decide (a0.f3 ≥ (-1)))) KR KR ?_; clear ha a; intro a ha
              by_cases hp4583 : a0.f3 ≥ (-1)
              · skip
                replace h := ite_pos' h hp4583
                replace ha := ha.bool 36 KR (decide_eq_true hp4583)
                refine stepp ha 37 (.pointer (some ⟨b4573, 3, none⟩)) KR KR ?_; clear ha a; intro a ha
                refine stepl ha 38 (HW.ca (i := 0) (b := b4573) (C := #[.int .i64 a0.f0, .int .i64 a0.f1, .int .i64 a0.f2, .int .i64 a0.f3]) (T := 66) (fr := (0, 0)) KR) 3 3 (.tmp 37) (.int .i64 a0.f3) rfl KR KR KR ?_; clear ha a; intro a ha
                refine stepp ha 39 (.bool (decide (a0.f3 < 4294967296))) KR KR ?_; clear ha a; intro a ha
                refine stepp ha 40 (.bool (decide (a0.f3 < 4294967296))) KR KR ?_; clear ha a; intro a ha
                refine stepp ha 2 (.bool (decide (a0.f3 < 4294967296))) KR KR ?_; clear ha a; intro a ha
                refine endl ?_
                refine thenN (hK4576 _ _ ?_); clear hK4576
                refine wp_ret ?_
                obtain rfl := Option.some.inj h
                exact finv ha _ _ rfl (.tmp (v := .bool (decide (a0.f3 < 4294967296))) KR .nil) (.bool (decide (a0.f3 < 4294967296))) rfl ⟨rfl, HW.pick [] [] (by decide) (by decide) rfl KR⟩
              · skip
                replace h := ite_neg' h hp4583
                replace ha := ha.bool 36 KR (decide_eq_false hp4583)
                refine stepo ha 37 KR ?_; clear ha a; intro a ha
                refine stepo ha 38 KR ?_; clear ha a; intro a ha
                refine stepo ha 39 KR ?_; clear ha a; intro a ha
                refine stepp ha 40 (.bool false) KR KR ?_; clear ha a; intro a ha
                refine stepp ha 2 (.bool false) KR KR ?_; clear ha a; intro a ha
                refine endl ?_
                refine thenN (hK4576 _ _ ?_); clear hK4576
                refine wp_ret ?_
                obtain rfl := Option.some.inj h
                exact finv ha _ _ rfl (.tmp (v := .bool false) KR .nil) (.bool false) rfl ⟨rfl, HW.pick [] [] (by decide) (by decide) rfl KR⟩
            · skip
              replace h := ite_neg' h hp4582
              replace ha := ha.bool 31 KR (decide_eq_false hp4582)
              refine stepo ha 32 KR ?_; clear ha a; intro a ha
              refine stepo ha 33 KR ?_; clear ha a; intro a ha
              refine stepo ha 34 KR ?_; clear ha a; intro a ha
              refine stepp ha 35 (.bool false) KR KR ?_; clear ha a; intro a ha
              refine stepp ha 36 (.bool false) KR KR ?_; clear ha a; intro a ha
              refine stepo ha 37 KR ?_; clear ha a; intro a ha
              refine stepo ha 38 KR ?_; clear ha a; intro a ha
              refine stepo ha 39 KR ?_; clear ha a; intro a ha
              refine stepp ha 40 (.bool false) KR KR ?_; clear ha a; intro a ha
              refine stepp ha 2 (.bool false) KR KR ?_; clear ha a; intro a ha
              refine endl ?_
              refine thenN (hK4576 _ _ ?_); clear hK4576
              refine wp_ret ?_
              obtain rfl := Option.some.inj h
              exact finv ha _ _ rfl (.tmp (v := .bool false) KR .nil) (.bool false) rfl ⟨rfl, HW.pick [] [] (by decide) (by decide) rfl KR⟩
          · skip
            replace h := ite_neg' h hp4581
            replace ha := ha.bool 26 KR (decide_eq_false hp4581)
            refine stepo ha 27 KR ?_; clear ha a; intro a ha
            refine stepo ha 28 KR ?_; clear ha a; intro a ha
            refine stepo ha 29 KR ?_; clear ha a; intro a ha
            refine stepp ha 30 (.bool false) KR KR ?_; clear ha a; intro a ha
            refine stepp ha 31 (.bool false) KR KR ?_; clear ha a; intro a ha
            refine stepo ha 32 KR ?_; clear ha a; intro a ha
            refine stepo ha 33 KR ?_; clear ha a; intro a ha
            refine stepo ha 34 KR ?_; clear ha a; intro a ha
            refine stepp ha 35 (.bool false) KR KR ?_; clear ha a; intro a ha
            refine stepp ha 36 (.bool false) KR KR ?_; clear ha a; intro a ha
            refine stepo ha 37 KR ?_; clear ha a; intro a ha
            refine stepo ha 38 KR ?_; clear ha a; intro a ha
            refine stepo ha 39 KR ?_; clear ha a; intro a ha
            refine stepp ha 40 (.bool false) KR KR ?_; clear ha a; intro a ha
            refine stepp ha 2 (.bool false) KR KR ?_; clear ha a; intro a ha
            refine endl ?_
            refine thenN (hK4576 _ _ ?_); clear hK4576
            refine wp_ret ?_
            obtain rfl := Option.some.inj h
            exact finv ha _ _ rfl (.tmp (v := .bool false) KR .nil) (.bool false) rfl ⟨rfl, HW.pick [] [] (by decide) (by decide) rfl KR⟩
        · skip
          replace h := ite_neg' h hp4580
          replace ha := ha.bool 21 KR (decide_eq_false hp4580)
          refine stepo ha 22 KR ?_; clear ha a; intro a ha
          refine stepo ha 23 KR ?_; clear ha a; intro a ha
          refine stepo ha 24 KR ?_; clear ha a; intro a ha
          refine stepp ha 25 (.bool false) KR KR ?_; clear ha a; intro a ha
          refine stepp ha 26 (.bool false) KR KR ?_; clear ha a; intro a ha
          refine stepo ha 27 KR ?_; clear ha a; intro a ha
          refine stepo ha 28 KR ?_; clear ha a; intro a ha
          refine stepo ha 29 KR ?_; clear ha a; intro a ha
          refine stepp ha 30 (.bool false) KR KR ?_; clear ha a; intro a ha
          refine stepp ha 31 (.bool false) KR KR ?_; clear ha a; intro a ha
          refine stepo ha 32 KR ?_; clear ha a; intro a ha
          refine stepo ha 33 KR ?_; clear ha a; intro a ha
          refine stepo ha 34 KR ?_; clear ha a; intro a ha
          refine stepp ha 35 (.bool false) KR KR ?_; clear ha a; intro a ha
          refine stepp ha 36 (.bool false) KR KR ?_; clear ha a; intro a ha
          refine stepo ha 37 KR ?_; clear ha a; intro a ha
          refine stepo ha 38 KR ?_; clear ha a; intro a ha
          refine stepo ha 39 KR ?_; clear ha a; intro a ha
          refine stepp ha 40 (.bool false) KR KR ?_; clear ha a; intro a ha
          refine stepp ha 2 (.bool false) KR KR ?_; clear ha a; intro a ha
          refine endl ?_
          refine thenN (hK4576 _ _ ?_); clear hK4576
          refine wp_ret ?_
          obtain rfl := Option.some.inj h
          exact finv ha _ _ rfl (.tmp (v := .bool false) KR .nil) (.bool false) rfl ⟨rfl, HW.pick [] [] (by decide) (by decide) rfl KR⟩
      · skip
        replace h := ite_neg' h hp4579
        replace ha := ha.bool 16 KR (decide_eq_false hp4579)
        refine stepo ha 17 KR ?_; clear ha a; intro a ha
        refine stepo ha 18 KR ?_; clear ha a; intro a ha
        refine stepo ha 19 KR ?_; clear ha a; intro a ha
        refine stepp ha 20 (.bool false) KR KR ?_; clear ha a; intro a ha
        refine stepp ha 21 (.bool false) KR KR ?_; clear ha a; intro a ha
        refine stepo ha 22 KR ?_; clear ha a; intro a ha
        refine stepo ha 23 KR ?_; clear ha a; intro a ha
        refine stepo ha 24 KR ?_; clear ha a; intro a ha
        refine stepp ha 25 (.bool false) KR KR ?_; clear ha a; intro a ha
        refine stepp ha 26 (.bool false) KR KR ?_; clear ha a; intro a ha
        refine stepo ha 27 KR ?_; clear ha a; intro a ha
        refine stepo ha 28 KR ?_; clear ha a; intro a ha
        refine stepo ha 29 KR ?_; clear ha a; intro a ha
        refine stepp ha 30 (.bool false) KR KR ?_; clear ha a; intro a ha
        refine stepp ha 31 (.bool false) KR KR ?_; clear ha a; intro a ha
        refine stepo ha 32 KR ?_; clear ha a; intro a ha
        refine stepo ha 33 KR ?_; clear ha a; intro a ha
        refine stepo ha 34 KR ?_; clear ha a; intro a ha
        refine stepp ha 35 (.bool false) KR KR ?_; clear ha a; intro a ha
        refine stepp ha 36 (.bool false) KR KR ?_; clear ha a; intro a ha
        refine stepo ha 37 KR ?_; clear ha a; intro a ha
        refine stepo ha 38 KR ?_; clear ha a; intro a ha
        refine stepo ha 39 KR ?_; clear ha a; intro a ha
        refine stepp ha 40 (.bool false) KR KR ?_; clear ha a; intro a ha
        refine stepp ha 2 (.bool false) KR KR ?_; clear ha a; intro a ha
        refine endl ?_
        refine thenN (hK4576 _ _ ?_); clear hK4576
        refine wp_ret ?_
        obtain rfl := Option.some.inj h
        exact finv ha _ _ rfl (.tmp (v := .bool false) KR .nil) (.bool false) rfl ⟨rfl, HW.pick [] [] (by decide) (by decide) rfl KR⟩
    · skip
      replace h := ite_neg' h hp4578
      replace ha := ha.bool 11 KR (decide_eq_false hp4578)
      refine stepo ha 12 KR ?_; clear ha a; intro a ha
      refine stepo ha 13 KR ?_; clear ha a; intro a ha
      refine stepo ha 14 KR ?_; clear ha a; intro a ha
      refine stepp ha 15 (.bool false) KR KR ?_; clear ha a; intro a ha
      refine stepp ha 16 (.bool false) KR KR ?_; clear ha a; intro a ha
      refine stepo ha 17 KR ?_; clear ha a; intro a ha
      refine stepo ha 18 KR ?_; clear ha a; intro a ha
      refine stepo ha 19 KR ?_; clear ha a; intro a ha
      refine stepp ha 20 (.bool false) KR KR ?_; clear ha a; intro a ha
      refine stepp ha 21 (.bool false) KR KR ?_; clear ha a; intro a ha
      refine stepo ha 22 KR ?_; clear ha a; intro a ha
      refine stepo ha 23 KR ?_; clear ha a; intro a ha
      refine stepo ha 24 KR ?_; clear ha a; intro a ha
      refine stepp ha 25 (.bool false) KR KR ?_; clear ha a; intro a ha
      refine stepp ha 26 (.bool false) KR KR ?_; clear ha a; intro a ha
      refine stepo ha 27 KR ?_; clear ha a; intro a ha
      refine stepo ha 28 KR ?_; clear ha a; intro a ha
      refine stepo ha 29 KR ?_; clear ha a; intro a ha
      refine stepp ha 30 (.bool false) KR KR ?_; clear ha a; intro a ha
      refine stepp ha 31 (.bool false) KR KR ?_; clear ha a; intro a ha
      refine stepo ha 32 KR ?_; clear ha a; intro a ha
      refine stepo ha 33 KR ?_; clear ha a; intro a ha
      refine stepo ha 34 KR ?_; clear ha a; intro a ha
      refine stepp ha 35 (.bool false) KR KR ?_; clear ha a; intro a ha
      refine stepp ha 36 (.bool false) KR KR ?_; clear ha a; intro a ha
      refine stepo ha 37 KR ?_; clear ha a; intro a ha
      refine stepo ha 38 KR ?_; clear ha a; intro a ha
      refine stepo ha 39 KR ?_; clear ha a; intro a ha
      refine stepp ha 40 (.bool false) KR KR ?_; clear ha a; intro a ha
      refine stepp ha 2 (.bool false) KR KR ?_; clear ha a; intro a ha
      refine endl ?_
      refine thenN (hK4576 _ _ ?_); clear hK4576
      refine wp_ret ?_
      obtain rfl := Option.some.inj h
      exact finv ha _ _ rfl (.tmp (v := .bool false) KR .nil) (.bool false) rfl ⟨rfl, HW.pick [] [] (by decide) (by decide) rfl KR⟩
  · skip
    replace h := ite_neg' h hp4577
    replace ha := ha.bool 6 KR (decide_eq_false hp4577)
    refine stepo ha 7 KR ?_; clear ha a; intro a ha
    refine stepo ha 8 KR ?_; clear ha a; intro a ha
    refine stepo ha 9 KR ?_; clear ha a; intro a ha
    refine stepp ha 10 (.bool false) KR KR ?_; clear ha a; intro a ha
    refine stepp ha 11 (.bool false) KR KR ?_; clear ha a; intro a ha
    refine stepo ha 12 KR ?_; clear ha a; intro a ha
    refine stepo ha 13 KR ?_; clear ha a; intro a ha
    refine stepo ha 14 KR ?_; clear ha a; intro a ha
    refine stepp ha 15 (.bool false) KR KR ?_; clear ha a; intro a ha
    refine stepp ha 16 (.bool false) KR KR ?_; clear ha a; intro a ha
    refine stepo ha 17 KR ?_; clear ha a; intro a ha
    refine stepo ha 18 KR ?_; clear ha a; intro a ha
    refine stepo ha 19 KR ?_; clear ha a; intro a ha
    refine stepp ha 20 (.bool false) KR KR ?_; clear ha a; intro a ha
    refine stepp ha 21 (.bool false) KR KR ?_; clear ha a; intro a ha
    refine stepo ha 22 KR ?_; clear ha a; intro a ha
    refine stepo ha 23 KR ?_; clear ha a; intro a ha
    refine stepo ha 24 KR ?_; clear ha a; intro a ha
    refine stepp ha 25 (.bool false) KR KR ?_; clear ha a; intro a ha
    refine stepp ha 26 (.bool false) KR KR ?_; clear ha a; intro a ha
    refine stepo ha 27 KR ?_; clear ha a; intro a ha
    refine stepo ha 28 KR ?_; clear ha a; intro a ha
    refine stepo ha 29 KR ?_; clear ha a; intro a ha
    refine stepp ha 30 (.bool false) KR KR ?_; clear ha a; intro a ha
    refine stepp ha 31 (.bool false) KR KR ?_; clear ha a; intro a ha
    refine stepo ha 32 KR ?_; clear ha a; intro a ha
    refine stepo ha 33 KR ?_; clear ha a; intro a ha
    refine stepo ha 34 KR ?_; clear ha a; intro a ha
    refine stepp ha 35 (.bool false) KR KR ?_; clear ha a; intro a ha
    refine stepp ha 36 (.bool false) KR KR ?_; clear ha a; intro a ha
    refine stepo ha 37 KR ?_; clear ha a; intro a ha
    refine stepo ha 38 KR ?_; clear ha a; intro a ha
    refine stepo ha 39 KR ?_; clear ha a; intro a ha
    refine stepp ha 40 (.bool false) KR KR ?_; clear ha a; intro a ha
    refine stepp ha 2 (.bool false) KR KR ?_; clear ha a; intro a ha
    refine endl ?_
    refine thenN (hK4576 _ _ ?_); clear hK4576
    refine wp_ret ?_
    obtain rfl := Option.some.inj h
    exact finv ha _ _ rfl (.tmp (v := .bool false) KR .nil) (.bool false) rfl ⟨rfl, HW.pick [] [] (by decide) (by decide) rfl KR⟩
/-! ### headgate/headgateref01.PutBig: function 71 -/
def headgateref01_PutBig.b0 (K : Nat) (again4643 : Int → (List Int) → Int → Option ByteArray) (x4644 : Int) (x4645 : List Int) (x4649 : Int) : Option ByteArray :=
  if x4649 ≥ 0 then (asrt (0 ≤ x4649) (asrt (x4649 < (x4645.length : Int)) (again4643 (IntKind.wrap .u64 (Int.tdiv x4644 256)) (x4645.set (x4649 : Int).toNat (IntKind.wrap .u8 (Int.tmod x4644 256))) (IntKind.wrap .i64 (x4649 - 1))))) else (some (strOfNums x4645))
def headgateref01_PutBig.l0 (K : Nat)  : Nat → Int → (List Int) → Int → Option ByteArray
  | 0, _, _, _ => none
  | k_ + 1, x4644, x4645, x4649 => headgateref01_PutBig.b0 K  (headgateref01_PutBig.l0 K  k_) x4644 x4645 x4649
def headgateref01_PutBig.f (K : Nat) (a0 : Int) (a1 : Int) : Option ByteArray :=
  if a1 < 1 then (some (⟨#[]⟩ : ByteArray)) else (if a1 > 8 then (some (⟨#[]⟩ : ByteArray)) else (asrt (0 ≤ a1) (asrt (a1 ≤ 281474976710656) (headgateref01_PutBig.l0 K  K a0 (List.replicate (a1 : Int).toNat (0 : Int)) (IntKind.wrap .i64 (a1 - 1))))))
set_option maxRecDepth 100000 in
set_option maxHeartbeats 4000000 in
theorem headgateref01_PutBig.calls (K : Nat) (a0 : Int) (a1 : Int)  (r : ByteArray) (w : World)  (h : headgateref01_PutBig.f K a0 a1 = some r) :
    Calls Tryd.prog 71 #[.int .u64 a0, .int .i64 a1] w (fun e W' => e = .returned (.string r) ∧ Wd w W' [] [] ) := by
  refine sxstart (n := 31) (l := [(0, .int .u64 a0), (1, .int .i64 a1)]) Tryd.func71 rfl rfl (Nat.le_of_ble_eq_true KR) (subsA_cons rfl (subsA_cons rfl (subsA_nil _))) ?_
  intro a ha
  have HW := Wd.refl w
  unfold headgateref01_PutBig.f at h
  refine wp_seq_k (fun K4584 hK4585 => ?_)
  refine wp_region_lit ?_
  refine stepp ha 4 (.string (⟨#[]⟩ : ByteArray)) KR KR ?_; clear ha a; intro a ha
  refine endl ?_
  refine thenN (hK4585 _ _ ?_); clear hK4585
  refine wp_seq_k (fun K4586 hK4587 => ?_)
  refine wp_seq_k (fun K4588 hK4589 => ?_)
  refine wp_region_lit ?_
  refine stepp ha 7 (.int .i64 a1) KR KR ?_; clear ha a; intro a ha
  refine stepp ha 8 (.bool (decide (a1 < 1))) KR KR ?_; clear ha a; intro a ha
  refine stepp ha 9 (.bool (decide (a1 < 1))) KR KR ?_; clear ha a; intro a ha
  by_cases hp4590 : a1 < 1
  · skip
    replace h := ite_pos' h hp4590
    replace ha := ha.bool 9 KR (decide_eq_true hp4590)
    refine stepo ha 10 KR ?_; clear ha a; intro a ha
    refine stepo ha 11 KR ?_; clear ha a; intro a ha
    refine stepp ha 12 (.bool true) KR KR ?_; clear ha a; intro a ha
    refine endl ?_
    refine thenN (hK4589 _ _ ?_); clear hK4589
    refine condT ha KR KR (t := true) (rfl) ?_
    refine wp_seq_k (fun K4591 hK4592 => ?_)
    refine wp_region_lit ?_
    refine stepp ha 4 (.string (⟨#[]⟩ : ByteArray)) KR KR ?_; clear ha a; intro a ha
    refine endl ?_
    refine thenN (hK4592 _ _ ?_); clear hK4592
    refine wp_ret ?_
    refine thenR ?_
    obtain rfl := Option.some.inj h
    exact finv ha _ _ rfl (.tmp (v := .string (⟨#[]⟩ : ByteArray)) KR .nil) (.string (⟨#[]⟩ : ByteArray)) rfl ⟨rfl, HW.pick [] [] (by decide) (by decide) rfl KR⟩
  · skip
    replace h := ite_neg' h hp4590
    replace ha := ha.bool 9 KR (decide_eq_false hp4590)
    refine stepp ha 10 (.int .i64 a1) KR KR ?_; clear ha a; intro a ha
    refine stepp ha 11 (.bool (decide (a1 > 8))) KR KR ?_; clear ha a; intro a ha
    refine stepp ha 12 (.bool (decide (a1 > 8))) KR KR ?_; clear ha a; intro a ha
    refine endl ?_
    refine thenN (hK4589 _ _ ?_); clear hK4589
    by_cases hp4593 : a1 > 8
    · skip
      replace h := ite_pos' h hp4593
      refine condT ha KR KR (t := decide (a1 > 8)) (decide_eq_true hp4593) ?_
      refine wp_seq_k (fun K4594 hK4595 => ?_)
      refine wp_region_lit ?_
      refine stepp ha 4 (.string (⟨#[]⟩ : ByteArray)) KR KR ?_; clear ha a; intro a ha
      refine endl ?_
      refine thenN (hK4595 _ _ ?_); clear hK4595
      refine wp_ret ?_
      refine thenR ?_
      obtain rfl := Option.some.inj h
      exact finv ha _ _ rfl (.tmp (v := .string (⟨#[]⟩ : ByteArray)) KR .nil) (.string (⟨#[]⟩ : ByteArray)) rfl ⟨rfl, HW.pick [] [] (by decide) (by decide) rfl KR⟩
    · skip
      replace h := ite_neg' h hp4593
      refine condF ha KR KR (t := decide (a1 > 8)) (decide_eq_false hp4593) ?_
      refine wp_skip ?_
      refine thenN (hK4587 _ _ ?_); clear hK4587
      refine wp_seq_k (fun K4596 hK4597 => ?_)
      refine wp_region_lit ?_
      refine stepp ha 13 (.int .i64 a1) KR KR ?_; clear ha a; intro a ha
      obtain ⟨hA4598, h_⟩ := asrt_some h; clear h; have h := h_; clear h_
      obtain ⟨hA4599, h_⟩ := asrt_some h; clear h; have h := h_; clear h_
      refine stepmk (encI .u8) (0 : Int) ha HW 14 97 5 (.tmp 13) (.tmp 13) .i64 .i64 a1 (.int .u8 0) 1 rfl KR KR KR KR rfl rfl hA4598 (by have := hA4599; omega) (by have := hA4599; omega) KR ?_; clear ha HW a; intro b4600 a W4601 HW ha
      refine stepp ha 5 (.slice (some ⟨b4600, 0, none⟩) (List.replicate (a1 : Int).toNat (0 : Int)).length ((a1 : Int).toNat)) KR KR ?_; clear ha a; intro a ha
      refine endl ?_
      refine thenN (hK4597 _ _ ?_); clear hK4597
      refine wp_seq_k (fun K4603 hK4604 => ?_)
      refine wp_seq_k (fun K4605 hK4606 => ?_)
      refine wp_region_lit ?_
      refine stepp ha 15 (.int .i64 a1) KR KR ?_; clear ha a; intro a ha
      refine stepp ha 16 (.int .i64 (IntKind.wrap .i64 (a1 - 1))) KR KR ?_; clear ha a; intro a ha
      refine stepp ha 6 (.int .i64 (IntKind.wrap .i64 (a1 - 1))) KR KR ?_; clear ha a; intro a ha
      refine endl ?_
      refine thenN (hK4606 _ _ ?_); clear hK4606
      refine wp_block ?_
      refine loopk (fun k => fun a W4650 => ∃ (x4644 : Int), ∃ (x4645 : List Int), ∃ A4646, ∃ c4647, ∃ (x4649 : Int), headgateref01_PutBig.l0 K  k x4644 x4645 x4649 = some r ∧ Has 31 [(0, .int .u64 x4644), (5, .slice A4646 x4645.length c4647), (6, .int .i64 x4649)] a ∧ Wd w W4650 [] [⟨5, 1, .slice A4646 x4645.length c4647, x4645.length, encs (encI .u8) x4645⟩]) K ?_ ?_
      · skip
        exact ⟨a0, List.replicate (a1 : Int).toNat (0 : Int), some ⟨b4600, 0, none⟩, (a1 : Int).toNat, IntKind.wrap .i64 (a1 - 1), h, ha.sub (subs_cons KR (subs_cons KR (subs_cons KR (subs_nil _)))), HW.pick [] [0] (by decide) (by decide) KR KR⟩
      · skip
        intro k a W4650 hI
        obtain ⟨x4644, x4645, A4646, c4647, x4649, h, ha, HW⟩ := hI
        cases k with
        | zero => exact (none_some (show none = some r from h)).elim
        | succ k4651 =>
          replace h : headgateref01_PutBig.b0 K  (headgateref01_PutBig.l0 K  k4651) x4644 x4645 x4649 = some r := h
          obtain ⟨again4643, hag4652⟩ : ∃ g_, g_ = headgateref01_PutBig.l0 K  k4651 := ⟨_, rfl⟩
          rw [← hag4652] at h
          unfold headgateref01_PutBig.b0 at h
          refine wp_seq_k (fun K4653 hK4654 => ?_)
          refine wp_seq_k (fun K4655 hK4656 => ?_)
          refine wp_region_lit ?_
          refine stepp ha 17 (.int .i64 x4649) KR KR ?_; clear ha a; intro a ha
          refine stepp ha 18 (.bool (decide (x4649 ≥ 0))) KR KR ?_; clear ha a; intro a ha
          refine endl ?_
          refine thenN (hK4656 _ _ ?_); clear hK4656
          by_cases hp4657 : x4649 ≥ 0
          · skip
            replace h := ite_pos' h hp4657
            refine condT ha KR KR (t := decide (x4649 ≥ 0)) (decide_eq_true hp4657) ?_
            refine wp_skip ?_
            refine thenN (hK4654 _ _ ?_); clear hK4654
            refine wp_seq_k (fun K4658 hK4659 => ?_)
            refine wp_block ?_
            refine wp_seq_k (fun K4660 hK4661 => ?_)
            refine wp_region_lit ?_
            refine stepp ha 21 (.slice A4646 x4645.length c4647) KR KR ?_; clear ha a; intro a ha
            refine stepp ha 22 (.int .i64 x4649) KR KR ?_; clear ha a; intro a ha
            refine stepp ha 23 (.int .u64 x4644) KR KR ?_; clear ha a; intro a ha
            refine stepp ha 24 (.int .u64 (Int.tmod x4644 256)) KR KR ?_; clear ha a; intro a ha
            refine stepp ha 25 (.int .u8 (IntKind.wrap .u8 (Int.tmod x4644 256))) KR KR ?_; clear ha a; intro a ha
            obtain ⟨hA4662, h_⟩ := asrt_some h; clear h; have h := h_; clear h_
            obtain ⟨hA4663, h_⟩ := asrt_some h; clear h; have h := h_; clear h_
            refine stepio (encI .u8) ha HW 26 0 (sz := 1) (e := 5) (v := .slice A4646 x4645.length c4647) (xs := x4645) KR 97 (.tmp 21) (.tmp 22) .i64 x4649 rfl KR KR KR KR hA4662 (show (x4649 : Int) < ((x4645).length : Int) from hA4663) KR ?_; clear ha a; intro b4664 a hb4665 ha
            refine stepos (encI .u8) (0 : Int) ha HW 0 (sz := 1) (e := 5) (fun _ => rfl) (v := .slice A4646 x4645.length c4647) (xs := x4645) KR hb4665 x4649 hA4662 (show (x4649 : Int) < ((x4645).length : Int) from hA4663) 5 0 (.tmp 26) (.tmp 25) (.int .u8 (IntKind.wrap .u8 (Int.tmod x4644 256))) (IntKind.wrap .u8 (Int.tmod x4644 256)) rfl KR KR KR KR KR KR KR (.slice A4646 (x4645.set (x4649 : Int).toNat (IntKind.wrap .u8 (Int.tmod x4644 256))).length c4647) (by rw [List.length_set]) ?_; clear ha HW a; intro a W4666 HW ha
            replace ha := ha.turn 5 (v := .slice A4646 (x4645.set (x4649 : Int).toNat (IntKind.wrap .u8 (Int.tmod x4644 256))).length c4647) KR (by rw [List.length_set])
            replace ha := ha.turn 21 (v := .slice A4646 (x4645.set (x4649 : Int).toNat (IntKind.wrap .u8 (Int.tmod x4644 256))).length c4647) KR (by rw [List.length_set])
            replace HW : Wd w W4666 [] [⟨5, 1, .slice A4646 (x4645.set (x4649 : Int).toNat (IntKind.wrap .u8 (Int.tmod x4644 256))).length c4647, (x4645.set (x4649 : Int).toNat (IntKind.wrap .u8 (Int.tmod x4644 256))).length, encs (encI .u8) (x4645.set (x4649 : Int).toNat (IntKind.wrap .u8 (Int.tmod x4644 256)))⟩] := HW
            refine endl ?_
            refine thenN (hK4661 _ _ ?_); clear hK4661
            refine wp_region_lit ?_
            refine stepp ha 27 (.int .u64 x4644) KR KR ?_; clear ha a; intro a ha
            refine stepp ha 28 (.int .u64 (IntKind.wrap .u64 (Int.tdiv x4644 256))) KR KR ?_; clear ha a; intro a ha
            refine stepp ha 0 (.int .u64 (IntKind.wrap .u64 (Int.tdiv x4644 256))) KR KR ?_; clear ha a; intro a ha
            refine endl ?_
            refine blkN ?_
            refine thenN (hK4659 _ _ ?_); clear hK4659
            refine wp_region_lit ?_
            refine stepp ha 19 (.int .i64 x4649) KR KR ?_; clear ha a; intro a ha
            refine stepp ha 20 (.int .i64 (IntKind.wrap .i64 (x4649 - 1))) KR KR ?_; clear ha a; intro a ha
            refine stepp ha 6 (.int .i64 (IntKind.wrap .i64 (x4649 - 1))) KR KR ?_; clear ha a; intro a ha
            refine endl ?_
            exact thenN ⟨k4651, Nat.lt_succ_self k4651, IntKind.wrap .u64 (Int.tdiv x4644 256), x4645.set (x4649 : Int).toNat (IntKind.wrap .u8 (Int.tmod x4644 256)), A4646, c4647, IntKind.wrap .i64 (x4649 - 1), (by rw [← hag4652]; exact h), ha.sub (subs_cons KR (subs_cons KR (subs_cons KR (subs_nil _)))), HW.pick [] [0] (by decide) (by decide) KR KR⟩
          · skip
            replace h := ite_neg' h hp4657
            refine condF ha KR KR (t := decide (x4649 ≥ 0)) (decide_eq_false hp4657) ?_
            refine wp_exit ?_
            refine thenE ?_
            refine thenE ?_
            refine inBlk ?_
            refine thenN (hK4604 _ _ ?_); clear hK4604
            refine wp_seq_k (fun K4667 hK4668 => ?_)
            refine wp_region_lit ?_
            refine stepp ha 29 (.slice A4646 x4645.length c4647) KR KR ?_; clear ha a; intro a ha
            refine stepbt ha 30 97 9 5 (.tmp 29) (v := .slice A4646 x4645.length c4647) (xs := x4645) (HW.rdo (i := 0) (q := ⟨5, 1, .slice A4646 x4645.length c4647, x4645.length, encs (encI .u8) x4645⟩) KR) rfl KR KR KR KR KR ?_; clear ha a; intro a ha
            refine stepp ha 4 (.string (strOfNums x4645)) KR KR ?_; clear ha a; intro a ha
            refine endl ?_
            refine thenN (hK4668 _ _ ?_); clear hK4668
            refine wp_ret ?_
            obtain rfl := Option.some.inj h
            exact finv ha _ _ rfl (.tmp (v := .string (strOfNums x4645)) KR .nil) (.string (strOfNums x4645)) rfl ⟨rfl, HW.pick [] [] (by decide) (by decide) rfl KR⟩
/-! ### headgate/headgateref16.Bytes: function 38 -/
def headgateref16_Bytes.j0 (K : Nat) (a0 : T_api_Sense) (x4692 : Int) (x4693 : Int) : Option (ByteArray × Int) :=
  (headgateref01_PutBig.f K (IntKind.wrap .u64 x4693) 4).bind fun t4703 => (asrt ((strOfNums ([x4692, 0, IntKind.wrap .u8 a0.f0] : List Int)).size + t4703.size ≤ 9223372036854775807) (asrt (((strOfNums ([x4692, 0, IntKind.wrap .u8 a0.f0] : List Int)) ++ t4703).size + (strOfNums ([10, 0, 0, 0, 0, IntKind.wrap .u8 a0.f1, IntKind.wrap .u8 a0.f2, 0, 0, 0, 0] : List Int)).size ≤ 9223372036854775807) (some (((strOfNums ([x4692, 0, IntKind.wrap .u8 a0.f0] : List Int)) ++ t4703) ++ (strOfNums ([10, 0, 0, 0, 0, IntKind.wrap .u8 a0.f1, IntKind.wrap .u8 a0.f2, 0, 0, 0, 0] : List Int)), 0))))
def headgateref16_Bytes.f (K : Nat) (a0 : T_api_Sense) : Option (ByteArray × Int) :=
  (headgateref16_may.f a0).bind fun t4677 => (if t4677 = true then (if a0.f3 ≥ 0 then (headgateref16_Bytes.j0 K a0 240 a0.f3) else (headgateref16_Bytes.j0 K a0 112 0)) else (some ((⟨#[]⟩ : ByteArray), 160)))
set_option maxRecDepth 100000 in
set_option maxHeartbeats 4000000 in
theorem headgateref16_Bytes.calls (K : Nat) (a0 : T_api_Sense)  (r : ByteArray × Int) (w : World)  (h : headgateref16_Bytes.f K a0 = some r) :
    Calls Tryd.prog 38 #[.agg #[.int .i64 a0.f0, .int .i64 a0.f1, .int .i64 a0.f2, .int .i64 a0.f3]] w (fun e W' => e = .returned (.tuple #[.string r.1, .int .i64 r.2]) ∧ Wd w W' [] [] ) := by
  refine sxstart (n := 33) (l := [(0, .agg #[.int .i64 a0.f0, .int .i64 a0.f1, .int .i64 a0.f2, .int .i64 a0.f3])]) Tryd.func38 rfl rfl (Nat.le_of_ble_eq_true KR) (subsA_cons rfl (subsA_nil _)) ?_
  intro a ha
  have HW := Wd.refl w
  unfold headgateref16_Bytes.f at h
  refine wp_seq_k (fun K4669 hK4670 => ?_)
  refine wp_region_lit ?_
  refine stepnew ha HW 1 #[.int .i64 a0.f0, .int .i64 a0.f1, .int .i64 a0.f2, .int .i64 a0.f3] 66 KR KR ?_; clear ha HW a; intro b4671 a W4672 HW ha
  refine stepp ha 2 (.string (⟨#[]⟩ : ByteArray)) KR KR ?_; clear ha a; intro a ha
  refine stepp ha 3 (.int .i64 0) KR KR ?_; clear ha a; intro a ha
  refine endl ?_
  refine thenN (hK4670 _ _ ?_); clear hK4670
  refine wp_seq_k (fun K4673 hK4674 => ?_)
  refine wp_seq_k (fun K4675 hK4676 => ?_)
  refine wp_region_lit ?_
  refine stepl ha 6 (HW.ca (i := 0) (b := b4671) (C := #[.int .i64 a0.f0, .int .i64 a0.f1, .int .i64 a0.f2, .int .i64 a0.f3]) (T := 66) (fr := (0, 0)) KR) 66 0 (.tmp 1) (.agg #[.int .i64 a0.f0, .int .i64 a0.f1, .int .i64 a0.f2, .int .i64 a0.f3]) rfl KR KR KR ?_; clear ha a; intro a ha
  obtain ⟨t4677, ht4678, h_⟩ := bind_some' h; clear h; have h := h_; clear h_
  refine stepc ha 7 KR KR (headgateref16_may.calls a0 t4677 _ ht4678) ?_; clear ha a; rintro e W4679 ⟨rfl, HX4680⟩
  refine ⟨_, rfl, ?_⟩; intro a ha; replace HW := HW.callw HX4680; clear HX4680
  refine stepp ha 8 (.bool (!t4677)) KR KR ?_; clear ha a; intro a ha
  refine endl ?_
  refine thenN (hK4676 _ _ ?_); clear hK4676
  by_cases hp4681 : t4677 = true
  · skip
    replace h := ite_pos' h hp4681
    refine condF ha KR KR (t := (!t4677)) (not_f (hp4681)) ?_
    refine wp_skip ?_
    refine thenN (hK4674 _ _ ?_); clear hK4674
    refine wp_seq_k (fun K4684 hK4685 => ?_)
    refine wp_region_lit ?_
    refine stepp ha 4 (.int .u8 112) KR KR ?_; clear ha a; intro a ha
    refine stepp ha 5 (.int .i64 0) KR KR ?_; clear ha a; intro a ha
    refine endl ?_
    refine thenN (hK4685 _ _ ?_); clear hK4685
    refine wp_seq_k (fun K4686 hK4687 => ?_)
    refine cutn (fun a W4694 => ∃ (x4692 : Int), ∃ (x4693 : Int), headgateref16_Bytes.j0 K a0 x4692 x4693 = some r ∧ Has 33 [(1, .pointer (some ⟨b4671, 0, none⟩)), (4, .int .u8 x4692), (5, .int .i64 x4693)] a ∧ Wd w W4694 [(b4671, .cells #[.int .i64 a0.f0, .int .i64 a0.f1, .int .i64 a0.f2, .int .i64 a0.f3] 66 (0, 0))] []) ?_ ?_
    · skip
      refine wp_seq_k (fun K4688 hK4689 => ?_)
      refine wp_region_lit ?_
      refine stepp ha 9 (.pointer (some ⟨b4671, 3, none⟩)) KR KR ?_; clear ha a; intro a ha
      refine stepl ha 10 (HW.ca (i := 0) (b := b4671) (C := #[.int .i64 a0.f0, .int .i64 a0.f1, .int .i64 a0.f2, .int .i64 a0.f3]) (T := 66) (fr := (0, 0)) KR) 3 3 (.tmp 9) (.int .i64 a0.f3) rfl KR KR KR ?_; clear ha a; intro a ha
      refine stepp ha 11 (.bool (decide (a0.f3 ≥ 0))) KR KR ?_; clear ha a; intro a ha
      refine endl ?_
      refine thenN (hK4689 _ _ ?_); clear hK4689
      by_cases hp4690 : a0.f3 ≥ 0
      · skip
        replace h := ite_pos' h hp4690
        refine condT ha KR KR (t := decide (a0.f3 ≥ 0)) (decide_eq_true hp4690) ?_
        refine regionG 3 KR KR ha HW [.fix (.pointer (some ⟨b4671, 3, none⟩)), .fix (.int .i64 a0.f3), .fix (.int .u8 240)] ?_ ?_
        · skip
          refine ⟨?_, ?_, ?_, trivial⟩
          · skip
            intro a wr hn hd HW hs; have ha := hasNil hn hd
            have ha := ha.add (seeE hs 1 (.pointer (some ⟨b4671, 0, none⟩)) KR KR)
            refine yStep ha 12 KR ?_; intro l_ ha HK
            refine stepp ha 12 (.pointer (some ⟨b4671, 3, none⟩)) KR KR ?_; intro ax hax; exact HK _ _ _ hax rfl (Below.refl _ _)
          · skip
            intro a wr hn hd HW hs; have ha := hasNil hn hd
            have ha := ha.add (seeF hs 12 0 (.pointer (some ⟨b4671, 3, none⟩)) KR KR)
            refine yStep ha 13 KR ?_; intro l_ ha HK
            refine stepl ha 13 (HW.ca (i := 0) (b := b4671) (C := #[.int .i64 a0.f0, .int .i64 a0.f1, .int .i64 a0.f2, .int .i64 a0.f3]) (T := 66) (fr := (0, 0)) KR) 3 3 (.tmp 12) (.int .i64 a0.f3) rfl KR KR KR ?_; intro ax hax; exact HK _ _ _ hax rfl (Below.refl _ _)
          · skip
            intro a wr hn hd HW hs; have ha := hasNil hn hd
            refine yStep ha 4 KR ?_; intro l_ ha HK
            refine stepp ha 4 (.int .u8 240) KR KR ?_; intro ax hax; exact HK _ _ _ hax rfl (Below.refl _ _)
        · skip
          intro a W4691 ha HW he hf
          replace ha := ha.add (he 1 (.pointer (some ⟨b4671, 0, none⟩)) KR KR)
          replace ha := ha.add (gotF (m := 3) (j := 2) (d := 4) (v := .int .u8 240) hf KR KR KR)
          replace ha := ha.add (gotF (m := 3) (j := 1) (d := 13) (v := .int .i64 a0.f3) hf KR KR KR)
          clear he hf
          refine stepp ha 5 (.int .i64 a0.f3) KR KR ?_; clear ha a; intro a ha
          refine endl ?_
          exact thenN ⟨240, a0.f3, h, ha.sub (subs_cons KR (subs_cons KR (subs_cons KR (subs_nil _)))), HW.pick [0] [] (by decide) (by decide) KR KR⟩
      · skip
        replace h := ite_neg' h hp4690
        refine condF ha KR KR (t := decide (a0.f3 ≥ 0)) (decide_eq_false hp4690) ?_
        refine wp_skip ?_
        exact thenN ⟨112, 0, h, ha.sub (subs_cons KR (subs_cons KR (subs_cons KR (subs_nil _)))), HW.pick [0] [] (by decide) (by decide) KR KR⟩
    · skip
      intro a W4694 hJ
      obtain ⟨x4692, x4693, h, ha, HW⟩ := hJ
      replace h : headgateref16_Bytes.j0 K a0 x4692 x4693 = some r := h
      unfold headgateref16_Bytes.j0 at h
      refine hK4687 _ _ ?_; clear hK4687
      refine wp_seq_k (fun K4695 hK4696 => ?_)
      obtain ⟨t4703, ht4704, h_⟩ := bind_some' h; clear h; have h := h_; clear h_
      obtain ⟨hA4707, h_⟩ := asrt_some h; clear h; have h := h_; clear h_
      obtain ⟨hA4714, h_⟩ := asrt_some h; clear h; have h := h_; clear h_
      refine regionG 19 KR KR ha HW [.fix (.int .u8 x4692), .fix (.pointer (some ⟨b4671, 0, none⟩)), .fix (.int .i64 a0.f0), .fix (.int .u8 (IntKind.wrap .u8 a0.f0)), .rd 1 ([x4692, 0, IntKind.wrap .u8 a0.f0] : List Int).length (encs (encI .u8) ([x4692, 0, IntKind.wrap .u8 a0.f0] : List Int)), .fix (.string (strOfNums ([x4692, 0, IntKind.wrap .u8 a0.f0] : List Int))), .fix (.int .i64 x4693), .fix (.int .u64 (IntKind.wrap .u64 x4693)), .fix (.string t4703), .fix (.string ((strOfNums ([x4692, 0, IntKind.wrap .u8 a0.f0] : List Int)) ++ t4703)), .fix (.pointer (some ⟨b4671, 1, none⟩)), .fix (.int .i64 a0.f1), .fix (.int .u8 (IntKind.wrap .u8 a0.f1)), .fix (.pointer (some ⟨b4671, 2, none⟩)), .fix (.int .i64 a0.f2), .fix (.int .u8 (IntKind.wrap .u8 a0.f2)), .rd 1 ([10, 0, 0, 0, 0, IntKind.wrap .u8 a0.f1, IntKind.wrap .u8 a0.f2, 0, 0, 0, 0] : List Int).length (encs (encI .u8) ([10, 0, 0, 0, 0, IntKind.wrap .u8 a0.f1, IntKind.wrap .u8 a0.f2, 0, 0, 0, 0] : List Int)), .fix (.string (strOfNums ([10, 0, 0, 0, 0, IntKind.wrap .u8 a0.f1, IntKind.wrap .u8 a0.f2, 0, 0, 0, 0] : List Int))), .fix (.string (((strOfNums ([x4692, 0, IntKind.wrap .u8 a0.f0] : List Int)) ++ t4703) ++ (strOfNums ([10, 0, 0, 0, 0, IntKind.wrap .u8 a0.f1, IntKind.wrap .u8 a0.f2, 0, 0, 0, 0] : List Int))))] ?_ ?_
      · skip
        refine ⟨?_, ?_, ?_, ?_, ?_, ?_, ?_, ?_, ?_, ?_, ?_, ?_, ?_, ?_, ?_, ?_, ?_, ?_, ?_, trivial⟩
        · skip
          intro a wr hn hd HW hs; have ha := hasNil hn hd
          have ha := ha.add (seeE hs 4 (.int .u8 x4692) KR KR)
          refine yStep ha 14 KR ?_; intro l_ ha HK
          refine stepp ha 14 (.int .u8 x4692) KR KR ?_; intro ax hax; exact HK _ _ _ hax rfl (Below.refl _ _)
        · skip
          intro a wr hn hd HW hs; have ha := hasNil hn hd
          have ha := ha.add (seeE hs 1 (.pointer (some ⟨b4671, 0, none⟩)) KR KR)
          refine yStep ha 15 KR ?_; intro l_ ha HK
          refine stepp ha 15 (.pointer (some ⟨b4671, 0, none⟩)) KR KR ?_; intro ax hax; exact HK _ _ _ hax rfl (Below.refl _ _)
        · skip
          intro a wr hn hd HW hs; have ha := hasNil hn hd
          have ha := ha.add (seeF hs 15 1 (.pointer (some ⟨b4671, 0, none⟩)) KR KR)
          refine yStep ha 16 KR ?_; intro l_ ha HK
          refine stepl ha 16 (HW.ca (i := 0) (b := b4671) (C := #[.int .i64 a0.f0, .int .i64 a0.f1, .int .i64 a0.f2, .int .i64 a0.f3]) (T := 66) (fr := (0, 0)) KR) 3 0 (.tmp 15) (.int .i64 a0.f0) rfl KR KR KR ?_; intro ax hax; exact HK _ _ _ hax rfl (Below.refl _ _)
        · skip
          intro a wr hn hd HW hs; have ha := hasNil hn hd
          have ha := ha.add (seeF hs 16 2 (.int .i64 a0.f0) KR KR)
          refine yStep ha 17 KR ?_; intro l_ ha HK
          refine stepp ha 17 (.int .u8 (IntKind.wrap .u8 a0.f0)) KR KR ?_; intro ax hax; exact HK _ _ _ hax rfl (Below.refl _ _)
        · skip
          intro a wr hn hd HW hs; have ha := hasNil hn hd
          have ha := ha.add (seeF hs 14 0 (.int .u8 x4692) KR KR)
          have ha := ha.add (seeF hs 17 3 (.int .u8 (IntKind.wrap .u8 a0.f0)) KR KR)
          refine yStep ha 18 KR ?_; intro l_ ha HK
          refine stepbs ha (Wd.refl wr) 18 5 1 3 #[.int .u8 x4692, .int .u8 0, .int .u8 (IntKind.wrap .u8 a0.f0)] [.int .u8 x4692, .int .u8 0, .int .u8 (IntKind.wrap .u8 a0.f0)] (by decide) KR KR KR KR ?_; intro b4697 ax W4698 HV hax
          exact HK _ _ _ hax (show Rd 1 _ _ ([x4692, 0, IntKind.wrap .u8 a0.f0] : List Int).length (encs (encI .u8) ([x4692, 0, IntKind.wrap .u8 a0.f0] : List Int)) from HV.rdo (i := 0) (q := ⟨5, 1, .slice (some ⟨b4697, 0, none⟩) 3 3, 3, [.int .u8 x4692, .int .u8 0, .int .u8 (IntKind.wrap .u8 a0.f0)]⟩) KR) HV.below
        · skip
          intro a wr hn hd HW hs; have ha := hasNil hn hd
          obtain ⟨A4700, c4701, he_, hR4702⟩ := seeR hs 18 4 1 ([x4692, 0, IntKind.wrap .u8 a0.f0] : List Int).length (encs (encI .u8) ([x4692, 0, IntKind.wrap .u8 a0.f0] : List Int)) KR KR; have ha := ha.add he_
          refine yStep ha 19 KR ?_; intro l_ ha HK
          refine stepbt ha 19 97 9 5 (.tmp 18) (v := .slice A4700 ([x4692, 0, IntKind.wrap .u8 a0.f0] : List Int).length c4701) (xs := ([x4692, 0, IntKind.wrap .u8 a0.f0] : List Int)) hR4702 rfl KR KR KR KR KR ?_; intro ax hax; exact HK _ _ _ hax rfl (Below.refl _ _)
        · skip
          intro a wr hn hd HW hs; have ha := hasNil hn hd
          have ha := ha.add (seeE hs 5 (.int .i64 x4693) KR KR)
          refine yStep ha 20 KR ?_; intro l_ ha HK
          refine stepp ha 20 (.int .i64 x4693) KR KR ?_; intro ax hax; exact HK _ _ _ hax rfl (Below.refl _ _)
        · skip
          intro a wr hn hd HW hs; have ha := hasNil hn hd
          have ha := ha.add (seeF hs 20 6 (.int .i64 x4693) KR KR)
          refine yStep ha 21 KR ?_; intro l_ ha HK
          refine stepp ha 21 (.int .u64 (IntKind.wrap .u64 x4693)) KR KR ?_; intro ax hax; exact HK _ _ _ hax rfl (Below.refl _ _)
        · skip
          intro a wr hn hd HW hs; have ha := hasNil hn hd
          have ha := ha.add (seeF hs 21 7 (.int .u64 (IntKind.wrap .u64 x4693)) KR KR)
          refine yStep ha 22 KR ?_; intro l_ ha HK
          refine stepc ha 22 KR KR (headgateref01_PutBig.calls K (IntKind.wrap .u64 x4693) 4 t4703 _ ht4704) ?_; rintro e W4705 ⟨rfl, HX4706⟩
          refine ⟨_, rfl, ?_⟩; intro ax hax; exact HK _ _ _ hax rfl HX4706.below
        · skip
          intro a wr hn hd HW hs; have ha := hasNil hn hd
          have ha := ha.add (seeF hs 19 5 (.string (strOfNums ([x4692, 0, IntKind.wrap .u8 a0.f0] : List Int))) KR KR)
          have ha := ha.add (seeF hs 22 8 (.string t4703) KR KR)
          refine yStep ha 23 KR ?_; intro l_ ha HK
          refine stepsa ha 23 9 9 (.tmp 19) (.tmp 22) (strOfNums ([x4692, 0, IntKind.wrap .u8 a0.f0] : List Int)) t4703 rfl KR KR (show (strOfNums ([x4692, 0, IntKind.wrap .u8 a0.f0] : List Int)).size + (t4703).size ≤ 9223372036854775807 from hA4707) KR ?_; intro ax hax; exact HK _ _ _ hax rfl (Below.refl _ _)
        · skip
          intro a wr hn hd HW hs; have ha := hasNil hn hd
          have ha := ha.add (seeE hs 1 (.pointer (some ⟨b4671, 0, none⟩)) KR KR)
          refine yStep ha 24 KR ?_; intro l_ ha HK
          refine stepp ha 24 (.pointer (some ⟨b4671, 1, none⟩)) KR KR ?_; intro ax hax; exact HK _ _ _ hax rfl (Below.refl _ _)
        · skip
          intro a wr hn hd HW hs; have ha := hasNil hn hd
          have ha := ha.add (seeF hs 24 10 (.pointer (some ⟨b4671, 1, none⟩)) KR KR)
          refine yStep ha 25 KR ?_; intro l_ ha HK
          refine stepl ha 25 (HW.ca (i := 0) (b := b4671) (C := #[.int .i64 a0.f0, .int .i64 a0.f1, .int .i64 a0.f2, .int .i64 a0.f3]) (T := 66) (fr := (0, 0)) KR) 3 1 (.tmp 24) (.int .i64 a0.f1) rfl KR KR KR ?_; intro ax hax; exact HK _ _ _ hax rfl (Below.refl _ _)
        · skip
          intro a wr hn hd HW hs; have ha := hasNil hn hd
          have ha := ha.add (seeF hs 25 11 (.int .i64 a0.f1) KR KR)
          refine yStep ha 26 KR ?_; intro l_ ha HK
          refine stepp ha 26 (.int .u8 (IntKind.wrap .u8 a0.f1)) KR KR ?_; intro ax hax; exact HK _ _ _ hax rfl (Below.refl _ _)
        · skip
          intro a wr hn hd HW hs; have ha := hasNil hn hd
          have ha := ha.add (seeE hs 1 (.pointer (some ⟨b4671, 0, none⟩)) KR KR)
          refine yStep ha 27 KR ?_; intro l_ ha HK
          refine stepp ha 27 (.pointer (some ⟨b4671, 2, none⟩)) KR KR ?_; intro ax hax; exact HK _ _ _ hax rfl (Below.refl _ _)
        · skip
          intro a wr hn hd HW hs; have ha := hasNil hn hd
          have ha := ha.add (seeF hs 27 13 (.pointer (some ⟨b4671, 2, none⟩)) KR KR)
          refine yStep ha 28 KR ?_; intro l_ ha HK
          refine stepl ha 28 (HW.ca (i := 0) (b := b4671) (C := #[.int .i64 a0.f0, .int .i64 a0.f1, .int .i64 a0.f2, .int .i64 a0.f3]) (T := 66) (fr := (0, 0)) KR) 3 2 (.tmp 27) (.int .i64 a0.f2) rfl KR KR KR ?_; intro ax hax; exact HK _ _ _ hax rfl (Below.refl _ _)
        · skip
          intro a wr hn hd HW hs; have ha := hasNil hn hd
          have ha := ha.add (seeF hs 28 14 (.int .i64 a0.f2) KR KR)
          refine yStep ha 29 KR ?_; intro l_ ha HK
          refine stepp ha 29 (.int .u8 (IntKind.wrap .u8 a0.f2)) KR KR ?_; intro ax hax; exact HK _ _ _ hax rfl (Below.refl _ _)
        · skip
          intro a wr hn hd HW hs; have ha := hasNil hn hd
          have ha := ha.add (seeF hs 26 12 (.int .u8 (IntKind.wrap .u8 a0.f1)) KR KR)
          have ha := ha.add (seeF hs 29 15 (.int .u8 (IntKind.wrap .u8 a0.f2)) KR KR)
          refine yStep ha 30 KR ?_; intro l_ ha HK
          refine stepbs ha (Wd.refl wr) 30 5 1 11 #[.int .u8 10, .int .u8 0, .int .u8 0, .int .u8 0, .int .u8 0, .int .u8 (IntKind.wrap .u8 a0.f1), .int .u8 (IntKind.wrap .u8 a0.f2), .int .u8 0, .int .u8 0, .int .u8 0, .int .u8 0] [.int .u8 10, .int .u8 0, .int .u8 0, .int .u8 0, .int .u8 0, .int .u8 (IntKind.wrap .u8 a0.f1), .int .u8 (IntKind.wrap .u8 a0.f2), .int .u8 0, .int .u8 0, .int .u8 0, .int .u8 0] (by decide) KR KR KR KR ?_; intro b4708 ax W4709 HV hax
          exact HK _ _ _ hax (show Rd 1 _ _ ([10, 0, 0, 0, 0, IntKind.wrap .u8 a0.f1, IntKind.wrap .u8 a0.f2, 0, 0, 0, 0] : List Int).length (encs (encI .u8) ([10, 0, 0, 0, 0, IntKind.wrap .u8 a0.f1, IntKind.wrap .u8 a0.f2, 0, 0, 0, 0] : List Int)) from HV.rdo (i := 0) (q := ⟨5, 1, .slice (some ⟨b4708, 0, none⟩) 11 11, 11, [.int .u8 10, .int .u8 0, .int .u8 0, .int .u8 0, .int .u8 0, .int .u8 (IntKind.wrap .u8 a0.f1), .int .u8 (IntKind.wrap .u8 a0.f2), .int .u8 0, .int .u8 0, .int .u8 0, .int .u8 0]⟩) KR) HV.below
        · skip
          intro a wr hn hd HW hs; have ha := hasNil hn hd
          obtain ⟨A4711, c4712, he_, hR4713⟩ := seeR hs 30 16 1 ([10, 0, 0, 0, 0, IntKind.wrap .u8 a0.f1, IntKind.wrap .u8 a0.f2, 0, 0, 0, 0] : List Int).length (encs (encI .u8) ([10, 0, 0, 0, 0, IntKind.wrap .u8 a0.f1, IntKind.wrap .u8 a0.f2, 0, 0, 0, 0] : List Int)) KR KR; have ha := ha.add he_
          refine yStep ha 31 KR ?_; intro l_ ha HK
          refine stepbt ha 31 97 9 5 (.tmp 30) (v := .slice A4711 ([10, 0, 0, 0, 0, IntKind.wrap .u8 a0.f1, IntKind.wrap .u8 a0.f2, 0, 0, 0, 0] : List Int).length c4712) (xs := ([10, 0, 0, 0, 0, IntKind.wrap .u8 a0.f1, IntKind.wrap .u8 a0.f2, 0, 0, 0, 0] : List Int)) hR4713 rfl KR KR KR KR KR ?_; intro ax hax; exact HK _ _ _ hax rfl (Below.refl _ _)
        · skip
          intro a wr hn hd HW hs; have ha := hasNil hn hd
          have ha := ha.add (seeF hs 23 9 (.string ((strOfNums ([x4692, 0, IntKind.wrap .u8 a0.f0] : List Int)) ++ t4703)) KR KR)
          have ha := ha.add (seeF hs 31 17 (.string (strOfNums ([10, 0, 0, 0, 0, IntKind.wrap .u8 a0.f1, IntKind.wrap .u8 a0.f2, 0, 0, 0, 0] : List Int))) KR KR)
          refine yStep ha 32 KR ?_; intro l_ ha HK
          refine stepsa ha 32 9 9 (.tmp 23) (.tmp 31) ((strOfNums ([x4692, 0, IntKind.wrap .u8 a0.f0] : List Int)) ++ t4703) (strOfNums ([10, 0, 0, 0, 0, IntKind.wrap .u8 a0.f1, IntKind.wrap .u8 a0.f2, 0, 0, 0, 0] : List Int)) rfl KR KR (show ((strOfNums ([x4692, 0, IntKind.wrap .u8 a0.f0] : List Int)) ++ t4703).size + (strOfNums ([10, 0, 0, 0, 0, IntKind.wrap .u8 a0.f1, IntKind.wrap .u8 a0.f2, 0, 0, 0, 0] : List Int)).size ≤ 9223372036854775807 from hA4714) KR ?_; intro ax hax; exact HK _ _ _ hax rfl (Below.refl _ _)
      · skip
        intro a W4715 ha HW he hf
        replace ha := ha.add (gotF (m := 19) (j := 18) (d := 32) (v := .string (((strOfNums ([x4692, 0, IntKind.wrap .u8 a0.f0] : List Int)) ++ t4703) ++ (strOfNums ([10, 0, 0, 0, 0, IntKind.wrap .u8 a0.f1, IntKind.wrap .u8 a0.f2, 0, 0, 0, 0] : List Int)))) hf KR KR KR)
        clear he hf
        refine stepp ha 2 (.string (((strOfNums ([x4692, 0, IntKind.wrap .u8 a0.f0] : List Int)) ++ t4703) ++ (strOfNums ([10, 0, 0, 0, 0, IntKind.wrap .u8 a0.f1, IntKind.wrap .u8 a0.f2, 0, 0, 0, 0] : List Int)))) KR KR ?_; clear ha a; intro a ha
        refine stepp ha 3 (.int .i64 0) KR KR ?_; clear ha a; intro a ha
        refine endl ?_
        refine thenN (hK4696 _ _ ?_); clear hK4696
        refine wp_ret ?_
        obtain rfl := Option.some.inj h
        exact finv ha _ _ rfl (.tmp (v := .string (((strOfNums ([x4692, 0, IntKind.wrap .u8 a0.f0] : List Int)) ++ t4703) ++ (strOfNums ([10, 0, 0, 0, 0, IntKind.wrap .u8 a0.f1, IntKind.wrap .u8 a0.f2, 0, 0, 0, 0] : List Int)))) KR (.tmp (v := .int .i64 0) KR .nil)) (.tuple #[.string (((strOfNums ([x4692, 0, IntKind.wrap .u8 a0.f0] : List Int)) ++ t4703) ++ (strOfNums ([10, 0, 0, 0, 0, IntKind.wrap .u8 a0.f1, IntKind.wrap .u8 a0.f2, 0, 0, 0, 0] : List Int))), .int .i64 0]) rfl ⟨rfl, HW.pick [] [] (by decide) (by decide) rfl KR⟩
  · skip
    replace h := ite_neg' h hp4681
    refine condT ha KR KR (t := (!t4677)) (not_t (bool_f hp4681)) ?_
    refine wp_seq_k (fun K4682 hK4683 => ?_)
    refine wp_region_lit ?_
    refine stepp ha 2 (.string (⟨#[]⟩ : ByteArray)) KR KR ?_; clear ha a; intro a ha
    refine stepp ha 3 (.int .i64 160) KR KR ?_; clear ha a; intro a ha
    refine endl ?_
    refine thenN (hK4683 _ _ ?_); clear hK4683
    refine wp_ret ?_
    refine thenR ?_
    obtain rfl := Option.some.inj h
    exact finv ha _ _ rfl (.tmp (v := .string (⟨#[]⟩ : ByteArray)) KR (.tmp (v := .int .i64 160) KR .nil)) (.tuple #[.string (⟨#[]⟩ : ByteArray), .int .i64 160]) rfl ⟨rfl, HW.pick [] [] (by decide) (by decide) rfl KR⟩
/-! ### headgate/headgateref01.Big: function 73 -/
def headgateref01_Big.b0 (K : Nat) (a0 : ByteArray) (a1 : Int) (a2 : Int) (again4811 : Int → Int → Option (Int × Bool)) (x4812 : Int) (x4813 : Int) : Option (Int × Bool) :=
  if x4813 < a2 then (asrt (0 ≤ (IntKind.wrap .i64 (a1 + x4813))) (asrt ((IntKind.wrap .i64 (a1 + x4813)) < (a0.size : Int)) (again4811 (IntKind.wrap .u64 ((IntKind.wrap .u64 (x4812 * 256)) + (IntKind.wrap .u64 (bt a0 (IntKind.wrap .i64 (a1 + x4813)))))) (IntKind.wrap .i64 (x4813 + 1))))) else (some (x4812, true))
def headgateref01_Big.l0 (K : Nat) (a0 : ByteArray) (a1 : Int) (a2 : Int) : Nat → Int → Int → Option (Int × Bool)
  | 0, _, _ => none
  | k_ + 1, x4812, x4813 => headgateref01_Big.b0 K a0 a1 a2 (headgateref01_Big.l0 K a0 a1 a2 k_) x4812 x4813
def headgateref01_Big.f (K : Nat) (a0 : ByteArray) (a1 : Int) (a2 : Int) : Option (Int × Bool) :=
  if a2 < 1 then (some (0, false)) else (if a2 > 8 then (some (0, false)) else ((headgateref01_there.f a0 a1 a2).bind fun t4772 => (if t4772 = true then (headgateref01_Big.l0 K a0 a1 a2 K 0 0) else (some (0, false)))))
set_option maxRecDepth 100000 in
set_option maxHeartbeats 4000000 in
theorem headgateref01_Big.calls (K : Nat) (a0 : ByteArray) (a1 : Int) (a2 : Int)  (r : Int × Bool) (w : World)  (h : headgateref01_Big.f K a0 a1 a2 = some r) :
    Calls Tryd.prog 73 #[.string a0, .int .i64 a1, .int .i64 a2] w (fun e W' => e = .returned (.tuple #[.int .u64 r.1, .bool r.2]) ∧ Wd w W' [] [] ) := by
  refine sxstart (n := 38) (l := [(0, .string a0), (1, .int .i64 a1), (2, .int .i64 a2)]) Tryd.func73 rfl rfl (Nat.le_of_ble_eq_true KR) (subsA_cons rfl (subsA_cons rfl (subsA_cons rfl (subsA_nil _)))) ?_
  intro a ha
  have HW := Wd.refl w
  unfold headgateref01_Big.f at h
  refine wp_seq_k (fun K4764 hK4765 => ?_)
  refine wp_region_lit ?_
  refine stepp ha 6 (.int .u64 0) KR KR ?_; clear ha a; intro a ha
  refine stepp ha 7 (.bool false) KR KR ?_; clear ha a; intro a ha
  refine endl ?_
  refine thenN (hK4765 _ _ ?_); clear hK4765
  refine wp_seq_k (fun K4766 hK4767 => ?_)
  refine wp_seq_k (fun K4768 hK4769 => ?_)
  refine wp_region_lit ?_
  refine stepp ha 10 (.int .i64 a2) KR KR ?_; clear ha a; intro a ha
  refine stepp ha 11 (.bool (decide (a2 < 1))) KR KR ?_; clear ha a; intro a ha
  refine stepp ha 12 (.bool (decide (a2 < 1))) KR KR ?_; clear ha a; intro a ha
  by_cases hp4770 : a2 < 1
  · skip
    replace h := ite_pos' h hp4770
    replace ha := ha.bool 12 KR (decide_eq_true hp4770)
    refine stepo ha 13 KR ?_; clear ha a; intro a ha
    refine stepo ha 14 KR ?_; clear ha a; intro a ha
    refine stepp ha 15 (.bool true) KR KR ?_; clear ha a; intro a ha
    refine stepp ha 16 (.bool true) KR KR ?_; clear ha a; intro a ha
    refine stepo ha 17 KR ?_; clear ha a; intro a ha
    refine stepo ha 18 KR ?_; clear ha a; intro a ha
    refine stepo ha 19 KR ?_; clear ha a; intro a ha
    refine stepo ha 20 KR ?_; clear ha a; intro a ha
    refine stepo ha 21 KR ?_; clear ha a; intro a ha
    refine stepp ha 22 (.bool true) KR KR ?_; clear ha a; intro a ha
    refine endl ?_
    refine thenN (hK4769 _ _ ?_); clear hK4769
    refine condT ha KR KR (t := true) (rfl) ?_
    refine wp_seq_k (fun K4776 hK4777 => ?_)
    refine wp_region_lit ?_
    refine stepp ha 6 (.int .u64 0) KR KR ?_; clear ha a; intro a ha
    refine stepp ha 7 (.bool false) KR KR ?_; clear ha a; intro a ha
    refine endl ?_
    refine thenN (hK4777 _ _ ?_); clear hK4777
    refine wp_ret ?_
    refine thenR ?_
    obtain rfl := Option.some.inj h
    exact finv ha _ _ rfl (.tmp (v := .int .u64 0) KR (.tmp (v := .bool false) KR .nil)) (.tuple #[.int .u64 0, .bool false]) rfl ⟨rfl, HW.pick [] [] (by decide) (by decide) rfl KR⟩
  · skip
    replace h := ite_neg' h hp4770
    replace ha := ha.bool 12 KR (decide_eq_false hp4770)
    refine stepp ha 13 (.int .i64 a2) KR KR ?_; clear ha a; intro a ha
    refine stepp ha 14 (.bool (decide (a2 > 8))) KR KR ?_; clear ha a; intro a ha
    refine stepp ha 15 (.bool (decide (a2 > 8))) KR KR ?_; clear ha a; intro a ha
    refine stepp ha 16 (.bool (decide (a2 > 8))) KR KR ?_; clear ha a; intro a ha
    by_cases hp4771 : a2 > 8
    · skip
      replace h := ite_pos' h hp4771
      replace ha := ha.bool 16 KR (decide_eq_true hp4771)
      refine stepo ha 17 KR ?_; clear ha a; intro a ha
      refine stepo ha 18 KR ?_; clear ha a; intro a ha
      refine stepo ha 19 KR ?_; clear ha a; intro a ha
      refine stepo ha 20 KR ?_; clear ha a; intro a ha
      refine stepo ha 21 KR ?_; clear ha a; intro a ha
      refine stepp ha 22 (.bool true) KR KR ?_; clear ha a; intro a ha
      refine endl ?_
      refine thenN (hK4769 _ _ ?_); clear hK4769
      refine condT ha KR KR (t := true) (rfl) ?_
      refine wp_seq_k (fun K4778 hK4779 => ?_)
      refine wp_region_lit ?_
      refine stepp ha 6 (.int .u64 0) KR KR ?_; clear ha a; intro a ha
      refine stepp ha 7 (.bool false) KR KR ?_; clear ha a; intro a ha
      refine endl ?_
      refine thenN (hK4779 _ _ ?_); clear hK4779
      refine wp_ret ?_
      refine thenR ?_
      obtain rfl := Option.some.inj h
      exact finv ha _ _ rfl (.tmp (v := .int .u64 0) KR (.tmp (v := .bool false) KR .nil)) (.tuple #[.int .u64 0, .bool false]) rfl ⟨rfl, HW.pick [] [] (by decide) (by decide) rfl KR⟩
    · skip
      replace h := ite_neg' h hp4771
      replace ha := ha.bool 16 KR (decide_eq_false hp4771)
      refine stepp ha 17 (.string a0) KR KR ?_; clear ha a; intro a ha
      refine stepp ha 18 (.int .i64 a1) KR KR ?_; clear ha a; intro a ha
      refine stepp ha 19 (.int .i64 a2) KR KR ?_; clear ha a; intro a ha
      obtain ⟨t4772, ht4773, h_⟩ := bind_some' h; clear h; have h := h_; clear h_
      refine stepc ha 20 KR KR (headgateref01_there.calls a0 a1 a2 t4772 _ ht4773) ?_; clear ha a; rintro e W4774 ⟨rfl, HX4775⟩
      refine ⟨_, rfl, ?_⟩; intro a ha; replace HW := HW.callw HX4775; clear HX4775
      refine stepp ha 21 (.bool (!t4772)) KR KR ?_; clear ha a; intro a ha
      refine stepp ha 22 (.bool (!t4772)) KR KR ?_; clear ha a; intro a ha
      refine endl ?_
      refine thenN (hK4769 _ _ ?_); clear hK4769
      by_cases hp4780 : t4772 = true
      · skip
        replace h := ite_pos' h hp4780
        refine condF ha KR KR (t := (!t4772)) (not_f (hp4780)) ?_
        refine wp_skip ?_
        refine thenN (hK4767 _ _ ?_); clear hK4767
        refine wp_seq_k (fun K4783 hK4784 => ?_)
        refine wp_region_lit ?_
        refine stepp ha 8 (.int .u64 0) KR KR ?_; clear ha a; intro a ha
        refine endl ?_
        refine thenN (hK4784 _ _ ?_); clear hK4784
        refine wp_seq_k (fun K4785 hK4786 => ?_)
        refine wp_seq_k (fun K4787 hK4788 => ?_)
        refine wp_region_lit ?_
        refine stepp ha 9 (.int .i64 0) KR KR ?_; clear ha a; intro a ha
        refine endl ?_
        refine thenN (hK4788 _ _ ?_); clear hK4788
        refine wp_block ?_
        refine loopk (fun k => fun a W4814 => ∃ (x4812 : Int), ∃ (x4813 : Int), headgateref01_Big.l0 K a0 a1 a2 k x4812 x4813 = some r ∧ Has 38 [(0, .string a0), (1, .int .i64 a1), (2, .int .i64 a2), (8, .int .u64 x4812), (9, .int .i64 x4813)] a ∧ Wd w W4814 [] []) K ?_ ?_
        · skip
          exact ⟨0, 0, h, ha.sub (subs_cons KR (subs_cons KR (subs_cons KR (subs_cons KR (subs_cons KR (subs_nil _)))))), HW.pick [] [] (by decide) (by decide) KR KR⟩
        · skip
          intro k a W4814 hI
          obtain ⟨x4812, x4813, h, ha, HW⟩ := hI
          cases k with
          | zero => exact (none_some (show none = some r from h)).elim
          | succ k4815 =>
            replace h : headgateref01_Big.b0 K a0 a1 a2 (headgateref01_Big.l0 K a0 a1 a2 k4815) x4812 x4813 = some r := h
            obtain ⟨again4811, hag4816⟩ : ∃ g_, g_ = headgateref01_Big.l0 K a0 a1 a2 k4815 := ⟨_, rfl⟩
            rw [← hag4816] at h
            unfold headgateref01_Big.b0 at h
            refine wp_seq_k (fun K4817 hK4818 => ?_)
            refine wp_seq_k (fun K4819 hK4820 => ?_)
            refine wp_region_lit ?_
            refine stepp ha 23 (.int .i64 x4813) KR KR ?_; clear ha a; intro a ha
            refine stepp ha 24 (.int .i64 a2) KR KR ?_; clear ha a; intro a ha
            refine stepp ha 25 (.bool (decide (x4813 < a2))) KR KR ?_; clear ha a; intro a ha
            refine endl ?_
            refine thenN (hK4820 _ _ ?_); clear hK4820
            by_cases hp4821 : x4813 < a2
            · skip
              replace h := ite_pos' h hp4821
              refine condT ha KR KR (t := decide (x4813 < a2)) (decide_eq_true hp4821) ?_
              refine wp_skip ?_
              refine thenN (hK4818 _ _ ?_); clear hK4818
              refine wp_seq_k (fun K4822 hK4823 => ?_)
              refine wp_block ?_
              refine wp_region_lit ?_
              refine stepp ha 28 (.int .u64 x4812) KR KR ?_; clear ha a; intro a ha
              refine stepp ha 29 (.int .u64 (IntKind.wrap .u64 (x4812 * 256))) KR KR ?_; clear ha a; intro a ha
              refine stepp ha 30 (.string a0) KR KR ?_; clear ha a; intro a ha
              refine stepp ha 31 (.int .i64 a1) KR KR ?_; clear ha a; intro a ha
              refine stepp ha 32 (.int .i64 x4813) KR KR ?_; clear ha a; intro a ha
              refine stepp ha 33 (.int .i64 (IntKind.wrap .i64 (a1 + x4813))) KR KR ?_; clear ha a; intro a ha
              obtain ⟨hA4824, h_⟩ := asrt_some h; clear h; have h := h_; clear h_
              obtain ⟨hA4825, h_⟩ := asrt_some h; clear h; have h := h_; clear h_
              refine stepsi ha 34 9 (.tmp 30) (.tmp 33) a0 .i64 (IntKind.wrap .i64 (a1 + x4813)) rfl KR KR KR hA4824 (show (IntKind.wrap .i64 (a1 + x4813) : Int) < ((a0).size : Int) from hA4825) KR ?_; clear ha a; intro a ha
              refine stepp ha 35 (.int .u64 (IntKind.wrap .u64 (bt a0 (IntKind.wrap .i64 (a1 + x4813))))) KR KR ?_; clear ha a; intro a ha
              refine stepp ha 36 (.int .u64 (IntKind.wrap .u64 ((IntKind.wrap .u64 (x4812 * 256)) + (IntKind.wrap .u64 (bt a0 (IntKind.wrap .i64 (a1 + x4813))))))) KR KR ?_; clear ha a; intro a ha
              refine stepp ha 8 (.int .u64 (IntKind.wrap .u64 ((IntKind.wrap .u64 (x4812 * 256)) + (IntKind.wrap .u64 (bt a0 (IntKind.wrap .i64 (a1 + x4813))))))) KR KR ?_; clear ha a; intro a ha
              refine endl ?_
              refine blkN ?_
              refine thenN (hK4823 _ _ ?_); clear hK4823
              refine wp_region_lit ?_
              refine stepp ha 26 (.int .i64 x4813) KR KR ?_; clear ha a; intro a ha
              refine stepp ha 27 (.int .i64 (IntKind.wrap .i64 (x4813 + 1))) KR KR ?_; clear ha a; intro a ha
              refine stepp ha 9 (.int .i64 (IntKind.wrap .i64 (x4813 + 1))) KR KR ?_; clear ha a; intro a ha
              refine endl ?_
              exact thenN ⟨k4815, Nat.lt_succ_self k4815, IntKind.wrap .u64 ((IntKind.wrap .u64 (x4812 * 256)) + (IntKind.wrap .u64 (bt a0 (IntKind.wrap .i64 (a1 + x4813))))), IntKind.wrap .i64 (x4813 + 1), (by rw [← hag4816]; exact h), ha.sub (subs_cons KR (subs_cons KR (subs_cons KR (subs_cons KR (subs_cons KR (subs_nil _)))))), HW.pick [] [] (by decide) (by decide) KR KR⟩
            · skip
              replace h := ite_neg' h hp4821
              refine condF ha KR KR (t := decide (x4813 < a2)) (decide_eq_false hp4821) ?_
              refine wp_exit ?_
              refine thenE ?_
              refine thenE ?_
              refine inBlk ?_
              refine thenN (hK4786 _ _ ?_); clear hK4786
              refine wp_seq_k (fun K4826 hK4827 => ?_)
              refine wp_region_lit ?_
              refine stepp ha 37 (.int .u64 x4812) KR KR ?_; clear ha a; intro a ha
              refine stepp ha 6 (.int .u64 x4812) KR KR ?_; clear ha a; intro a ha
              refine stepp ha 7 (.bool true) KR KR ?_; clear ha a; intro a ha
              refine endl ?_
              refine thenN (hK4827 _ _ ?_); clear hK4827
              refine wp_ret ?_
              obtain rfl := Option.some.inj h
              exact finv ha _ _ rfl (.tmp (v := .int .u64 x4812) KR (.tmp (v := .bool true) KR .nil)) (.tuple #[.int .u64 x4812, .bool true]) rfl ⟨rfl, HW.pick [] [] (by decide) (by decide) rfl KR⟩
      · skip
        replace h := ite_neg' h hp4780
        refine condT ha KR KR (t := (!t4772)) (not_t (bool_f hp4780)) ?_
        refine wp_seq_k (fun K4781 hK4782 => ?_)
        refine wp_region_lit ?_
        refine stepp ha 6 (.int .u64 0) KR KR ?_; clear ha a; intro a ha
        refine stepp ha 7 (.bool false) KR KR ?_; clear ha a; intro a ha
        refine endl ?_
        refine thenN (hK4782 _ _ ?_); clear hK4782
        refine wp_ret ?_
        refine thenR ?_
        obtain rfl := Option.some.inj h
        exact finv ha _ _ rfl (.tmp (v := .int .u64 0) KR (.tmp (v := .bool false) KR .nil)) (.tuple #[.int .u64 0, .bool false]) rfl ⟨rfl, HW.pick [] [] (by decide) (by decide) rfl KR⟩
/-! ### headgate/headgateref16.Parse: function 40 -/
def headgateref16_Parse.j0 (K : Nat) (a0 : ByteArray) (x4862 : Int) : Option (T_api_Sense × Int) :=
  (headgateref16_Bytes.f K (⟨IntKind.wrap .i64 (bt a0 2), IntKind.wrap .i64 (bt a0 12), IntKind.wrap .i64 (bt a0 13), x4862⟩ : T_api_Sense)).bind fun t4866 => (if t4866.2 = 0 then (if t4866.1 = a0 then (some ((⟨IntKind.wrap .i64 (bt a0 2), IntKind.wrap .i64 (bt a0 12), IntKind.wrap .i64 (bt a0 13), x4862⟩ : T_api_Sense), 0)) else (some ((⟨0, 0, 0, 0⟩ : T_api_Sense), 160))) else (some ((⟨0, 0, 0, 0⟩ : T_api_Sense), 160)))
def headgateref16_Parse.f (K : Nat) (a0 : ByteArray) : Option (T_api_Sense × Int) :=
  if (a0.size : Int) = 18 then (asrt (2 < (a0.size : Int)) (asrt (12 < (a0.size : Int)) (asrt (13 < (a0.size : Int)) (asrt (0 < (a0.size : Int)) (if (bt a0 0) = 240 then ((headgateref01_Big.f K a0 3 4).bind fun t4857 => (headgateref16_Parse.j0 K a0 (IntKind.wrap .i64 t4857.1))) else (headgateref16_Parse.j0 K a0 (-1))))))) else (some ((⟨0, 0, 0, 0⟩ : T_api_Sense), 160))
set_option maxRecDepth 100000 in
set_option maxHeartbeats 4000000 in
theorem headgateref16_Parse.calls (K : Nat) (a0 : ByteArray)  (r : T_api_Sense × Int) (w : World)  (h : headgateref16_Parse.f K a0 = some r) :
    Calls Tryd.prog 40 #[.string a0] w (fun e W' => e = .returned (.tuple #[.agg #[.int .i64 r.1.f0, .int .i64 r.1.f1, .int .i64 r.1.f2, .int .i64 r.1.f3], .int .i64 r.2]) ∧ Wd w W' [] [] ) := by
  refine sxstart (n := 48) (l := [(0, .string a0)]) Tryd.func40 rfl rfl (Nat.le_of_ble_eq_true KR) (subsA_cons rfl (subsA_nil _)) ?_
  intro a ha
  have HW := Wd.refl w
  unfold headgateref16_Parse.f at h
  refine wp_seq_k (fun K4828 hK4829 => ?_)
  refine wp_region_lit ?_
  refine stepnew ha HW 2 #[.int .i64 0, .int .i64 0, .int .i64 0, .int .i64 0] 66 KR KR ?_; clear ha HW a; intro b4830 a W4831 HW ha
  refine stepp ha 3 (.int .i64 0) KR KR ?_; clear ha a; intro a ha
  refine endl ?_
  refine thenN (hK4829 _ _ ?_); clear hK4829
  refine wp_seq_k (fun K4832 hK4833 => ?_)
  refine wp_seq_k (fun K4834 hK4835 => ?_)
  refine wp_region_lit ?_
  refine stepp ha 9 (.string a0) KR KR ?_; clear ha a; intro a ha
  refine stepp ha 10 (.int .i64 (a0.size : Int)) KR KR ?_; clear ha a; intro a ha
  refine stepp ha 11 (.bool ((a0.size : Int) != 18)) KR KR ?_; clear ha a; intro a ha
  refine endl ?_
  refine thenN (hK4835 _ _ ?_); clear hK4835
  by_cases hp4836 : (a0.size : Int) = 18
  · skip
    replace h := ite_pos' h hp4836
    refine condF ha KR KR (t := ((a0.size : Int) != 18)) (ineq_f hp4836) ?_
    refine wp_skip ?_
    refine thenN (hK4833 _ _ ?_); clear hK4833
    refine wp_seq_k (fun K4840 hK4841 => ?_)
    obtain ⟨hA4842, h_⟩ := asrt_some h; clear h; have h := h_; clear h_
    obtain ⟨hA4843, h_⟩ := asrt_some h; clear h; have h := h_; clear h_
    obtain ⟨hA4844, h_⟩ := asrt_some h; clear h; have h := h_; clear h_
    refine regionG 11 KR KR ha HW [.fix (.string a0), .fix (.int .u8 (bt a0 2)), .fix (.int .i64 (IntKind.wrap .i64 (bt a0 2))), .fix (.string a0), .fix (.int .u8 (bt a0 12)), .fix (.int .i64 (IntKind.wrap .i64 (bt a0 12))), .fix (.string a0), .fix (.int .u8 (bt a0 13)), .fix (.int .i64 (IntKind.wrap .i64 (bt a0 13))), .fix (.agg #[.int .i64 (IntKind.wrap .i64 (bt a0 2)), .int .i64 (IntKind.wrap .i64 (bt a0 12)), .int .i64 (IntKind.wrap .i64 (bt a0 13)), .int .i64 (-1)]), .blk w #[.int .i64 0, .int .i64 0, .int .i64 0, .int .i64 0] 66 [(b4830, .cells #[.int .i64 0, .int .i64 0, .int .i64 0, .int .i64 0] 66 (0, 0))] []] ?_ ?_
    · skip
      refine ⟨?_, ?_, ?_, ?_, ?_, ?_, ?_, ?_, ?_, ?_, ?_, trivial⟩
      · skip
        intro a wr hn hd HW hs; have ha := hasNil hn hd
        have ha := ha.add (seeE hs 0 (.string a0) KR KR)
        refine yStep ha 13 KR ?_; intro l_ ha HK
        refine stepp ha 13 (.string a0) KR KR ?_; intro ax hax; exact HK _ _ _ hax rfl (Below.refl _ _)
      · skip
        intro a wr hn hd HW hs; have ha := hasNil hn hd
        have ha := ha.add (seeF hs 13 0 (.string a0) KR KR)
        refine yStep ha 14 KR ?_; intro l_ ha HK
        refine stepsi ha 14 9 (.tmp 13) (.const (.int .i64 2)) a0 .i64 2 rfl KR KR KR (by decide) (show (2 : Int) < ((a0).size : Int) from hA4842) KR ?_; intro ax hax; exact HK _ _ _ hax rfl (Below.refl _ _)
      · skip
        intro a wr hn hd HW hs; have ha := hasNil hn hd
        have ha := ha.add (seeF hs 14 1 (.int .u8 (bt a0 2)) KR KR)
        refine yStep ha 15 KR ?_; intro l_ ha HK
        refine stepp ha 15 (.int .i64 (IntKind.wrap .i64 (bt a0 2))) KR KR ?_; intro ax hax; exact HK _ _ _ hax rfl (Below.refl _ _)
      · skip
        intro a wr hn hd HW hs; have ha := hasNil hn hd
        have ha := ha.add (seeE hs 0 (.string a0) KR KR)
        refine yStep ha 16 KR ?_; intro l_ ha HK
        refine stepp ha 16 (.string a0) KR KR ?_; intro ax hax; exact HK _ _ _ hax rfl (Below.refl _ _)
      · skip
        intro a wr hn hd HW hs; have ha := hasNil hn hd
        have ha := ha.add (seeF hs 16 3 (.string a0) KR KR)
        refine yStep ha 17 KR ?_; intro l_ ha HK
        refine stepsi ha 17 9 (.tmp 16) (.const (.int .i64 12)) a0 .i64 12 rfl KR KR KR (by decide) (show (12 : Int) < ((a0).size : Int) from hA4843) KR ?_; intro ax hax; exact HK _ _ _ hax rfl (Below.refl _ _)
      · skip
        intro a wr hn hd HW hs; have ha := hasNil hn hd
        have ha := ha.add (seeF hs 17 4 (.int .u8 (bt a0 12)) KR KR)
        refine yStep ha 18 KR ?_; intro l_ ha HK
        refine stepp ha 18 (.int .i64 (IntKind.wrap .i64 (bt a0 12))) KR KR ?_; intro ax hax; exact HK _ _ _ hax rfl (Below.refl _ _)
      · skip
        intro a wr hn hd HW hs; have ha := hasNil hn hd
        have ha := ha.add (seeE hs 0 (.string a0) KR KR)
        refine yStep ha 19 KR ?_; intro l_ ha HK
        refine stepp ha 19 (.string a0) KR KR ?_; intro ax hax; exact HK _ _ _ hax rfl (Below.refl _ _)
      · skip
        intro a wr hn hd HW hs; have ha := hasNil hn hd
        have ha := ha.add (seeF hs 19 6 (.string a0) KR KR)
        refine yStep ha 20 KR ?_; intro l_ ha HK
        refine stepsi ha 20 9 (.tmp 19) (.const (.int .i64 13)) a0 .i64 13 rfl KR KR KR (by decide) (show (13 : Int) < ((a0).size : Int) from hA4844) KR ?_; intro ax hax; exact HK _ _ _ hax rfl (Below.refl _ _)
      · skip
        intro a wr hn hd HW hs; have ha := hasNil hn hd
        have ha := ha.add (seeF hs 20 7 (.int .u8 (bt a0 13)) KR KR)
        refine yStep ha 21 KR ?_; intro l_ ha HK
        refine stepp ha 21 (.int .i64 (IntKind.wrap .i64 (bt a0 13))) KR KR ?_; intro ax hax; exact HK _ _ _ hax rfl (Below.refl _ _)
      · skip
        intro a wr hn hd HW hs; have ha := hasNil hn hd
        have ha := ha.add (seeF hs 15 2 (.int .i64 (IntKind.wrap .i64 (bt a0 2))) KR KR)
        have ha := ha.add (seeF hs 18 5 (.int .i64 (IntKind.wrap .i64 (bt a0 12))) KR KR)
        have ha := ha.add (seeF hs 21 8 (.int .i64 (IntKind.wrap .i64 (bt a0 13))) KR KR)
        refine yStep ha 22 KR ?_; intro l_ ha HK
        refine stepp ha 22 (.agg #[.int .i64 (IntKind.wrap .i64 (bt a0 2)), .int .i64 (IntKind.wrap .i64 (bt a0 12)), .int .i64 (IntKind.wrap .i64 (bt a0 13)), .int .i64 (-1)]) KR KR ?_; intro ax hax; exact HK _ _ _ hax rfl (Below.refl _ _)
      · skip
        intro a wr hn hd HW hs; have ha := hasNil hn hd
        refine yStep ha 4 KR ?_; intro l_ ha HK
        refine stepnew ha (Wd.refl wr) 4 #[.int .i64 0, .int .i64 0, .int .i64 0, .int .i64 0] 66 KR KR ?_; intro b4845 ax W4846 HV hax
        exact HK _ _ _ hax ⟨b4845, rfl, HW.callw HV⟩ HV.below
    · skip
      intro a W4847 ha HW he hf
      replace ha := ha.add (he 0 (.string a0) KR KR)
      replace ha := ha.add (he 2 (.pointer (some ⟨b4830, 0, none⟩)) KR KR)
      obtain ⟨b4845, he_, HW⟩ := gotB (w1 := w) (m := 11) (j := 10) (d := 4) (C := #[.int .i64 0, .int .i64 0, .int .i64 0, .int .i64 0]) (T := 66) (bs1 := [(b4830, .cells #[.int .i64 0, .int .i64 0, .int .i64 0, .int .i64 0] 66 (0, 0))]) (os1 := []) hf KR KR KR; replace ha := ha.add he_; clear he_
      replace ha := ha.add (gotF (m := 11) (j := 9) (d := 22) (v := .agg #[.int .i64 (IntKind.wrap .i64 (bt a0 2)), .int .i64 (IntKind.wrap .i64 (bt a0 12)), .int .i64 (IntKind.wrap .i64 (bt a0 13)), .int .i64 (-1)]) hf KR KR KR)
      clear he hf
      refine stepst ha HW 0 (b := b4845) (C := #[.int .i64 0, .int .i64 0, .int .i64 0, .int .i64 0]) (T := 66) KR 66 0 (.tmp 4) (.tmp 22) (.agg #[.int .i64 (IntKind.wrap .i64 (bt a0 2)), .int .i64 (IntKind.wrap .i64 (bt a0 12)), .int .i64 (IntKind.wrap .i64 (bt a0 13)), .int .i64 (-1)]) #[.int .i64 (IntKind.wrap .i64 (bt a0 2)), .int .i64 (IntKind.wrap .i64 (bt a0 12)), .int .i64 (IntKind.wrap .i64 (bt a0 13)), .int .i64 (-1)] rfl KR KR KR KR KR KR KR ?_; clear ha HW a; intro a W4848 HW ha
      refine endl ?_
      refine thenN (hK4841 _ _ ?_); clear hK4841
      refine wp_seq_k (fun K4849 hK4850 => ?_)
      refine cutn (fun a W4863 => ∃ (x4862 : Int), headgateref16_Parse.j0 K a0 x4862 = some r ∧ Has 48 [(0, .string a0), (2, .pointer (some ⟨b4830, 0, none⟩)), (4, .pointer (some ⟨b4845, 0, none⟩))] a ∧ Wd w W4863 [(b4830, .cells #[.int .i64 0, .int .i64 0, .int .i64 0, .int .i64 0] 66 (0, 0)), (b4845, .cells #[.int .i64 (IntKind.wrap .i64 (bt a0 2)), .int .i64 (IntKind.wrap .i64 (bt a0 12)), .int .i64 (IntKind.wrap .i64 (bt a0 13)), .int .i64 x4862] 66 (0, 0))] []) ?_ ?_
      · skip
        refine wp_seq_k (fun K4851 hK4852 => ?_)
        refine wp_region_lit ?_
        refine stepp ha 23 (.string a0) KR KR ?_; clear ha a; intro a ha
        obtain ⟨hA4853, h_⟩ := asrt_some h; clear h; have h := h_; clear h_
        refine stepsi ha 24 9 (.tmp 23) (.const (.int .i64 0)) a0 .i64 0 rfl KR KR KR (by decide) (show (0 : Int) < ((a0).size : Int) from hA4853) KR ?_; clear ha a; intro a ha
        refine stepp ha 25 (.bool ((bt a0 0) == 240)) KR KR ?_; clear ha a; intro a ha
        refine endl ?_
        refine thenN (hK4852 _ _ ?_); clear hK4852
        by_cases hp4854 : (bt a0 0) = 240
        · skip
          replace h := ite_pos' h hp4854
          refine condT ha KR KR (t := ((bt a0 0) == 240)) (ieq_t hp4854) ?_
          refine wp_seq_k (fun K4855 hK4856 => ?_)
          refine wp_region_lit ?_
          refine stepp ha 27 (.string a0) KR KR ?_; clear ha a; intro a ha
          obtain ⟨t4857, ht4858, h_⟩ := bind_some' h; clear h; have h := h_; clear h_
          refine stepc ha 28 KR KR (headgateref01_Big.calls K a0 3 4 t4857 _ ht4858) ?_; clear ha a; rintro e W4859 ⟨rfl, HX4860⟩
          refine ⟨_, rfl, ?_⟩; intro a ha; replace HW := HW.callw HX4860; clear HX4860
          refine stepp ha 26 (.tuple #[.int .u64 t4857.1, .bool t4857.2]) KR KR ?_; clear ha a; intro a ha
          refine stepp ha 29 (.int .u64 t4857.1) KR KR ?_; clear ha a; intro a ha
          refine stepp ha 30 (.bool t4857.2) KR KR ?_; clear ha a; intro a ha
          refine stepp ha 5 (.int .u64 t4857.1) KR KR ?_; clear ha a; intro a ha
          refine stepp ha 6 (.bool t4857.2) KR KR ?_; clear ha a; intro a ha
          refine endl ?_
          refine thenN (hK4856 _ _ ?_); clear hK4856
          refine wp_region_lit ?_
          refine stepp ha 31 (.int .u64 t4857.1) KR KR ?_; clear ha a; intro a ha
          refine stepp ha 32 (.int .i64 (IntKind.wrap .i64 t4857.1)) KR KR ?_; clear ha a; intro a ha
          refine stepp ha 33 (.pointer (some ⟨b4845, 3, none⟩)) KR KR ?_; clear ha a; intro a ha
          refine stepst ha HW 0 (b := b4845) (C := #[.int .i64 (IntKind.wrap .i64 (bt a0 2)), .int .i64 (IntKind.wrap .i64 (bt a0 12)), .int .i64 (IntKind.wrap .i64 (bt a0 13)), .int .i64 (-1)]) (T := 66) KR 3 3 (.tmp 33) (.tmp 32) (.int .i64 (IntKind.wrap .i64 t4857.1)) #[.int .i64 (IntKind.wrap .i64 (bt a0 2)), .int .i64 (IntKind.wrap .i64 (bt a0 12)), .int .i64 (IntKind.wrap .i64 (bt a0 13)), .int .i64 (IntKind.wrap .i64 t4857.1)] rfl KR KR KR KR KR KR KR ?_; clear ha HW a; intro a W4861 HW ha
          refine endl ?_
          exact thenN ⟨IntKind.wrap .i64 t4857.1, h, ha.sub (subs_cons KR (subs_cons KR (subs_cons KR (subs_nil _)))), HW.pick [1, 0] [] (by decide) (by decide) KR KR⟩
        · skip
          replace h := ite_neg' h hp4854
          refine condF ha KR KR (t := ((bt a0 0) == 240)) (ieq_f hp4854) ?_
          refine wp_skip ?_
          exact thenN ⟨(-1), h, ha.sub (subs_cons KR (subs_cons KR (subs_cons KR (subs_nil _)))), HW.pick [1, 0] [] (by decide) (by decide) KR KR⟩
      · skip
        intro a W4863 hJ
        obtain ⟨x4862, h, ha, HW⟩ := hJ
        replace h : headgateref16_Parse.j0 K a0 x4862 = some r := h
        unfold headgateref16_Parse.j0 at h
        refine hK4850 _ _ ?_; clear hK4850
        refine wp_seq_k (fun K4864 hK4865 => ?_)
        refine wp_region_lit ?_
        refine stepl ha 35 (HW.ca (i := 1) (b := b4845) (C := #[.int .i64 (IntKind.wrap .i64 (bt a0 2)), .int .i64 (IntKind.wrap .i64 (bt a0 12)), .int .i64 (IntKind.wrap .i64 (bt a0 13)), .int .i64 x4862]) (T := 66) (fr := (0, 0)) KR) 66 0 (.tmp 4) (.agg #[.int .i64 (IntKind.wrap .i64 (bt a0 2)), .int .i64 (IntKind.wrap .i64 (bt a0 12)), .int .i64 (IntKind.wrap .i64 (bt a0 13)), .int .i64 x4862]) rfl KR KR KR ?_; clear ha a; intro a ha
        obtain ⟨t4866, ht4867, h_⟩ := bind_some' h; clear h; have h := h_; clear h_
        refine stepc ha 36 KR KR (headgateref16_Bytes.calls K (⟨IntKind.wrap .i64 (bt a0 2), IntKind.wrap .i64 (bt a0 12), IntKind.wrap .i64 (bt a0 13), x4862⟩ : T_api_Sense) t4866 _ ht4867) ?_; clear ha a; rintro e W4868 ⟨rfl, HX4869⟩
        refine ⟨_, rfl, ?_⟩; intro a ha; replace HW := HW.callw HX4869; clear HX4869
        refine stepp ha 34 (.tuple #[.string t4866.1, .int .i64 t4866.2]) KR KR ?_; clear ha a; intro a ha
        refine stepp ha 37 (.string t4866.1) KR KR ?_; clear ha a; intro a ha
        refine stepp ha 38 (.int .i64 t4866.2) KR KR ?_; clear ha a; intro a ha
        refine stepp ha 7 (.string t4866.1) KR KR ?_; clear ha a; intro a ha
        refine stepp ha 8 (.int .i64 t4866.2) KR KR ?_; clear ha a; intro a ha
        refine endl ?_
        refine thenN (hK4865 _ _ ?_); clear hK4865
        refine wp_seq_k (fun K4870 hK4871 => ?_)
        refine wp_seq_k (fun K4872 hK4873 => ?_)
        refine wp_region_lit ?_
        refine stepp ha 39 (.int .i64 t4866.2) KR KR ?_; clear ha a; intro a ha
        refine stepp ha 40 (.bool (t4866.2 != 0)) KR KR ?_; clear ha a; intro a ha
        refine stepp ha 41 (.bool (t4866.2 != 0)) KR KR ?_; clear ha a; intro a ha
        by_cases hp4874 : t4866.2 = 0
        · skip
          replace h := ite_pos' h hp4874
          replace ha := ha.bool 41 KR (ineq_f hp4874)
          refine stepp ha 42 (.string t4866.1) KR KR ?_; clear ha a; intro a ha
          refine stepp ha 43 (.string a0) KR KR ?_; clear ha a; intro a ha
          refine stepp ha 44 (.bool (!(t4866.1.toList == a0.toList))) KR KR ?_; clear ha a; intro a ha
          refine stepp ha 45 (.bool (!(t4866.1.toList == a0.toList))) KR KR ?_; clear ha a; intro a ha
          refine endl ?_
          refine thenN (hK4873 _ _ ?_); clear hK4873
          by_cases hp4875 : t4866.1 = a0
          · skip
            replace h := ite_pos' h hp4875
            refine condF ha KR KR (t := (!(t4866.1.toList == a0.toList))) (str_ne_f hp4875) ?_
            refine wp_skip ?_
            refine thenN (hK4871 _ _ ?_); clear hK4871
            refine wp_seq_k (fun K4882 hK4883 => ?_)
            refine wp_region_lit ?_
            refine stepl ha 47 (HW.ca (i := 1) (b := b4845) (C := #[.int .i64 (IntKind.wrap .i64 (bt a0 2)), .int .i64 (IntKind.wrap .i64 (bt a0 12)), .int .i64 (IntKind.wrap .i64 (bt a0 13)), .int .i64 x4862]) (T := 66) (fr := (0, 0)) KR) 66 0 (.tmp 4) (.agg #[.int .i64 (IntKind.wrap .i64 (bt a0 2)), .int .i64 (IntKind.wrap .i64 (bt a0 12)), .int .i64 (IntKind.wrap .i64 (bt a0 13)), .int .i64 x4862]) rfl KR KR KR ?_; clear ha a; intro a ha
            refine stepst ha HW 0 (b := b4830) (C := #[.int .i64 0, .int .i64 0, .int .i64 0, .int .i64 0]) (T := 66) KR 66 0 (.tmp 2) (.tmp 47) (.agg #[.int .i64 (IntKind.wrap .i64 (bt a0 2)), .int .i64 (IntKind.wrap .i64 (bt a0 12)), .int .i64 (IntKind.wrap .i64 (bt a0 13)), .int .i64 x4862]) #[.int .i64 (IntKind.wrap .i64 (bt a0 2)), .int .i64 (IntKind.wrap .i64 (bt a0 12)), .int .i64 (IntKind.wrap .i64 (bt a0 13)), .int .i64 x4862] rfl KR KR KR KR KR KR KR ?_; clear ha HW a; intro a W4884 HW ha
            refine stepp ha 3 (.int .i64 0) KR KR ?_; clear ha a; intro a ha
            refine endl ?_
            refine thenN (hK4883 _ _ ?_); clear hK4883
            refine wp_ret ?_
            obtain rfl := Option.some.inj h
            exact finv ha _ _ rfl (.cell (ad := ⟨b4830, 0, none⟩) (v := .agg #[.int .i64 (IntKind.wrap .i64 (bt a0 2)), .int .i64 (IntKind.wrap .i64 (bt a0 12)), .int .i64 (IntKind.wrap .i64 (bt a0 13)), .int .i64 x4862]) KR (run_loadVar_ca0 (HW.ca (i := 0) (b := b4830) (C := #[.int .i64 (IntKind.wrap .i64 (bt a0 2)), .int .i64 (IntKind.wrap .i64 (bt a0 12)), .int .i64 (IntKind.wrap .i64 (bt a0 13)), .int .i64 x4862]) (T := 66) (fr := (0, 0)) KR) 66 0 (.agg #[.int .i64 (IntKind.wrap .i64 (bt a0 2)), .int .i64 (IntKind.wrap .i64 (bt a0 12)), .int .i64 (IntKind.wrap .i64 (bt a0 13)), .int .i64 x4862]) KR) (.tmp (v := .int .i64 0) KR .nil)) (.tuple #[.agg #[.int .i64 (IntKind.wrap .i64 (bt a0 2)), .int .i64 (IntKind.wrap .i64 (bt a0 12)), .int .i64 (IntKind.wrap .i64 (bt a0 13)), .int .i64 x4862], .int .i64 0]) rfl ⟨rfl, HW.pick [] [] (by decide) (by decide) rfl KR⟩
          · skip
            replace h := ite_neg' h hp4875
            refine condT ha KR KR (t := (!(t4866.1.toList == a0.toList))) (str_ne_t hp4875) ?_
            refine wp_seq_k (fun K4876 hK4877 => ?_)
            refine wp_region_lit ?_
            refine stepp ha 46 (.agg #[.int .i64 0, .int .i64 0, .int .i64 0, .int .i64 0]) KR KR ?_; clear ha a; intro a ha
            refine stepst ha HW 0 (b := b4830) (C := #[.int .i64 0, .int .i64 0, .int .i64 0, .int .i64 0]) (T := 66) KR 66 0 (.tmp 2) (.tmp 46) (.agg #[.int .i64 0, .int .i64 0, .int .i64 0, .int .i64 0]) #[.int .i64 0, .int .i64 0, .int .i64 0, .int .i64 0] rfl KR KR KR KR KR KR KR ?_; clear ha HW a; intro a W4878 HW ha
            refine stepp ha 3 (.int .i64 160) KR KR ?_; clear ha a; intro a ha
            refine endl ?_
            refine thenN (hK4877 _ _ ?_); clear hK4877
            refine wp_ret ?_
            refine thenR ?_
            obtain rfl := Option.some.inj h
            exact finv ha _ _ rfl (.cell (ad := ⟨b4830, 0, none⟩) (v := .agg #[.int .i64 0, .int .i64 0, .int .i64 0, .int .i64 0]) KR (run_loadVar_ca0 (HW.ca (i := 0) (b := b4830) (C := #[.int .i64 0, .int .i64 0, .int .i64 0, .int .i64 0]) (T := 66) (fr := (0, 0)) KR) 66 0 (.agg #[.int .i64 0, .int .i64 0, .int .i64 0, .int .i64 0]) KR) (.tmp (v := .int .i64 160) KR .nil)) (.tuple #[.agg #[.int .i64 0, .int .i64 0, .int .i64 0, .int .i64 0], .int .i64 160]) rfl ⟨rfl, HW.pick [] [] (by decide) (by decide) rfl KR⟩
        · skip
          replace h := ite_neg' h hp4874
          replace ha := ha.bool 41 KR (ineq_t hp4874)
          refine stepo ha 42 KR ?_; clear ha a; intro a ha
          refine stepo ha 43 KR ?_; clear ha a; intro a ha
          refine stepo ha 44 KR ?_; clear ha a; intro a ha
          refine stepp ha 45 (.bool true) KR KR ?_; clear ha a; intro a ha
          refine endl ?_
          refine thenN (hK4873 _ _ ?_); clear hK4873
          refine condT ha KR KR (t := true) (rfl) ?_
          refine wp_seq_k (fun K4879 hK4880 => ?_)
          refine wp_region_lit ?_
          refine stepp ha 46 (.agg #[.int .i64 0, .int .i64 0, .int .i64 0, .int .i64 0]) KR KR ?_; clear ha a; intro a ha
          refine stepst ha HW 0 (b := b4830) (C := #[.int .i64 0, .int .i64 0, .int .i64 0, .int .i64 0]) (T := 66) KR 66 0 (.tmp 2) (.tmp 46) (.agg #[.int .i64 0, .int .i64 0, .int .i64 0, .int .i64 0]) #[.int .i64 0, .int .i64 0, .int .i64 0, .int .i64 0] rfl KR KR KR KR KR KR KR ?_; clear ha HW a; intro a W4881 HW ha
          refine stepp ha 3 (.int .i64 160) KR KR ?_; clear ha a; intro a ha
          refine endl ?_
          refine thenN (hK4880 _ _ ?_); clear hK4880
          refine wp_ret ?_
          refine thenR ?_
          obtain rfl := Option.some.inj h
          exact finv ha _ _ rfl (.cell (ad := ⟨b4830, 0, none⟩) (v := .agg #[.int .i64 0, .int .i64 0, .int .i64 0, .int .i64 0]) KR (run_loadVar_ca0 (HW.ca (i := 0) (b := b4830) (C := #[.int .i64 0, .int .i64 0, .int .i64 0, .int .i64 0]) (T := 66) (fr := (0, 0)) KR) 66 0 (.agg #[.int .i64 0, .int .i64 0, .int .i64 0, .int .i64 0]) KR) (.tmp (v := .int .i64 160) KR .nil)) (.tuple #[.agg #[.int .i64 0, .int .i64 0, .int .i64 0, .int .i64 0], .int .i64 160]) rfl ⟨rfl, HW.pick [] [] (by decide) (by decide) rfl KR⟩
  · skip
    replace h := ite_neg' h hp4836
    refine condT ha KR KR (t := ((a0.size : Int) != 18)) (ineq_t hp4836) ?_
    refine wp_seq_k (fun K4837 hK4838 => ?_)
    refine wp_region_lit ?_
    refine stepp ha 12 (.agg #[.int .i64 0, .int .i64 0, .int .i64 0, .int .i64 0]) KR KR ?_; clear ha a; intro a ha
    refine stepst ha HW 0 (b := b4830) (C := #[.int .i64 0, .int .i64 0, .int .i64 0, .int .i64 0]) (T := 66) KR 66 0 (.tmp 2) (.tmp 12) (.agg #[.int .i64 0, .int .i64 0, .int .i64 0, .int .i64 0]) #[.int .i64 0, .int .i64 0, .int .i64 0, .int .i64 0] rfl KR KR KR KR KR KR KR ?_; clear ha HW a; intro a W4839 HW ha
    refine stepp ha 3 (.int .i64 160) KR KR ?_; clear ha a; intro a ha
    refine endl ?_
    refine thenN (hK4838 _ _ ?_); clear hK4838
    refine wp_ret ?_
    refine thenR ?_
    obtain rfl := Option.some.inj h
    exact finv ha _ _ rfl (.cell (ad := ⟨b4830, 0, none⟩) (v := .agg #[.int .i64 0, .int .i64 0, .int .i64 0, .int .i64 0]) KR (run_loadVar_ca0 (HW.ca (i := 0) (b := b4830) (C := #[.int .i64 0, .int .i64 0, .int .i64 0, .int .i64 0]) (T := 66) (fr := (0, 0)) KR) 66 0 (.agg #[.int .i64 0, .int .i64 0, .int .i64 0, .int .i64 0]) KR) (.tmp (v := .int .i64 160) KR .nil)) (.tuple #[.agg #[.int .i64 0, .int .i64 0, .int .i64 0, .int .i64 0], .int .i64 160]) rfl ⟨rfl, HW.pick [] [] (by decide) (by decide) rfl KR⟩
end Go.Proofs.YthjjbkgifelooaaDoor.F
