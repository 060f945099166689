/- headgate/headgateref16.may, headgate/headgateref01.PutBig, headgate/headgateref16.Bytes, headgate/headgateref01.Big, headgate/headgateref16.Parse, headgate/headgatelaw16.SenseBytes: plain functions, and that the calls come to what they say. No condition. -/
import Derived.Test.YthjjbkgifelooaaDoorFT
import Derived.Test.YthjjbkgifelooaaDoorF37
import Derived.Test.YthjjbkgifelooaaDoorF39
import Derived.Test.YthjjbkgifelooaaDoorF64
import Derived.Test.YthjjbkgifelooaaDoorF78
namespace Go.Proofs.YthjjbkgifelooaaDoor.F
open Go Go.RowKit Go.Proofs.YthjjbkgifelooaaDoor.X
set_option linter.unusedVariables false
set_option linter.unusedSimpArgs false
/-! ### headgate/headgateref16.may: function 70 -/
def headgateref16_may.f (a0 : T_api_Sense) : Option Bool :=
  if a0.f0 ≥ 0 then (if a0.f0 ≤ 15 then (if a0.f1 ≥ 0 then (if a0.f1 ≤ 255 then (if a0.f2 ≥ 0 then (if a0.f2 ≤ 255 then (if a0.f3 ≥ (-1) then (some (decide (a0.f3 < 4294967296))) else (some false)) else (some false)) else (some false)) else (some false)) else (some false)) else (some false)) else (some false)
set_option maxRecDepth 100000 in
set_option maxHeartbeats 4000000 in
theorem headgateref16_may.calls (a0 : T_api_Sense)  (r : Bool) (w : World)  (h : headgateref16_may.f a0 = some r) :
    Calls Tryd.prog 70 #[.agg #[.int .i64 a0.f0, .int .i64 a0.f1, .int .i64 a0.f2, .int .i64 a0.f3]] w (fun e W' => e = .returned (.bool r) ∧ Wd w W' [] [] ) := by
  refine sxstart (n := 41) (l := [(0, .agg #[.int .i64 a0.f0, .int .i64 a0.f1, .int .i64 a0.f2, .int .i64 a0.f3])]) Tryd.func70 rfl rfl (Nat.le_of_ble_eq_true KR) (subsA_cons rfl (subsA_nil _)) ?_
  intro a ha
  have HW := Wd.refl w
  unfold headgateref16_may.f at h
  refine wp_seq_k (fun K5632 hK5633 => ?_)
  refine wp_region_lit ?_
  refine stepnew ha HW 1 #[.int .i64 a0.f0, .int .i64 a0.f1, .int .i64 a0.f2, .int .i64 a0.f3] 66 KR KR ?_; clear ha HW a; intro b5634 a W5635 HW ha
  refine stepp ha 2 (.bool false) KR KR ?_; clear ha a; intro a ha
  refine endl ?_
  refine thenN (hK5633 _ _ ?_); clear hK5633
  refine wp_seq_k (fun K5636 hK5637 => ?_)
  refine wp_region_lit ?_
  refine stepp ha 3 (.pointer (some ⟨b5634, 0, none⟩)) KR KR ?_; clear ha a; intro a ha
  refine stepl ha 4 (HW.ca (i := 0) (b := b5634) (C := #[.int .i64 a0.f0, .int .i64 a0.f1, .int .i64 a0.f2, .int .i64 a0.f3]) (T := 66) (fr := (0, 0)) KR) 3 0 (.tmp 3) (.int .i64 a0.f0) rfl KR KR KR ?_; clear ha a; intro a ha
  refine stepp ha 5 (.bool (decide (a0.f0 ≥ 0))) KR KR ?_; clear ha a; intro a ha
  refine stepp ha 6 (.bool (decide (a0.f0 ≥ 0))) KR KR ?_; clear ha a; intro a ha
  by_cases hp5638 : a0.f0 ≥ 0
  · skip
    replace h := ite_pos' h hp5638
    replace ha := ha.bool 6 KR (decide_eq_true hp5638)
    refine stepp ha 7 (.pointer (some ⟨b5634, 0, none⟩)) KR KR ?_; clear ha a; intro a ha
    refine stepl ha 8 (HW.ca (i := 0) (b := b5634) (C := #[.int .i64 a0.f0, .int .i64 a0.f1, .int .i64 a0.f2, .int .i64 a0.f3]) (T := 66) (fr := (0, 0)) KR) 3 0 (.tmp 7) (.int .i64 a0.f0) rfl KR KR KR ?_; clear ha a; intro a ha
    refine stepp ha 9 (.bool (decide (a0.f0 ≤ 15))) KR KR ?_; clear ha a; intro a ha
    refine stepp ha 10 (.bool (decide (a0.f0 ≤ 15))) KR KR ?_; clear ha a; intro a ha
    refine stepp ha 11 (.bool (decide (a0.f0 ≤ 15))) KR KR ?_; clear ha a; intro a ha
    by_cases hp5639 : a0.f0 ≤ 15
    · skip
      replace h := ite_pos' h hp5639
      replace ha := ha.bool 11 KR (decide_eq_true hp5639)
      refine stepp ha 12 (.pointer (some ⟨b5634, 1, none⟩)) KR KR ?_; clear ha a; intro a ha
      refine stepl ha 13 (HW.ca (i := 0) (b := b5634) (C := #[.int .i64 a0.f0, .int .i64 a0.f1, .int .i64 a0.f2, .int .i64 a0.f3]) (T := 66) (fr := (0, 0)) KR) 3 1 (.tmp 12) (.int .i64 a0.f1) rfl KR KR KR ?_; clear ha a; intro a ha
      refine stepp ha 14 (.bool (decide (a0.f1 ≥ 0))) KR KR ?_; clear ha a; intro a ha
      refine stepp ha 15 (.bool (decide (a0.f1 ≥ 0))) KR KR ?_; clear ha a; intro a ha
      refine stepp ha 16 (.bool (decide (a0.f1 ≥ 0))) KR KR ?_; clear ha a; intro a ha
      by_cases hp5640 : a0.f1 ≥ 0
      · skip
        replace h := ite_pos' h hp5640
        replace ha := ha.bool 16 KR (decide_eq_true hp5640)
        refine stepp ha 17 (.pointer (some ⟨b5634, 1, none⟩)) KR KR ?_; clear ha a; intro a ha
        refine stepl ha 18 (HW.ca (i := 0) (b := b5634) (C := #[.int .i64 a0.f0, .int .i64 a0.f1, .int .i64 a0.f2, .int .i64 a0.f3]) (T := 66) (fr := (0, 0)) KR) 3 1 (.tmp 17) (.int .i64 a0.f1) rfl KR KR KR ?_; clear ha a; intro a ha
        refine stepp ha 19 (.bool (decide (a0.f1 ≤ 255))) KR KR ?_; clear ha a; intro a ha
        refine stepp ha 20 (.bool (decide (a0.f1 ≤ 255))) KR KR ?_; clear ha a; intro a ha
        refine stepp ha 21 (.bool (decide (a0.f1 ≤ 255))) KR KR ?_; clear ha a; intro a ha
        by_cases hp5641 : a0.f1 ≤ 255
        · skip
          replace h := ite_pos' h hp5641
          replace ha := ha.bool 21 KR (decide_eq_true hp5641)
          refine stepp ha 22 (.pointer (some ⟨b5634, 2, none⟩)) KR KR ?_; clear ha a; intro a ha
          refine stepl ha 23 (HW.ca (i := 0) (b := b5634) (C := #[.int .i64 a0.f0, .int .i64 a0.f1, .int .i64 a0.f2, .int .i64 a0.f3]) (T := 66) (fr := (0, 0)) KR) 3 2 (.tmp 22) (.int .i64 a0.f2) rfl KR KR KR ?_; clear ha a; intro a ha
          refine stepp ha 24 (.bool (decide (a0.f2 ≥ 0))) KR KR ?_; clear ha a; intro a ha
          refine stepp ha 25 (.bool (decide (a0.f2 ≥ 0))) KR KR ?_; clear ha a; intro a ha
          refine stepp ha 26 (.bool (decide (a0.f2 ≥ 0))) KR KR ?_; clear ha a; intro a ha
          by_cases hp5642 : a0.f2 ≥ 0
          · skip
            replace h := ite_pos' h hp5642
            replace ha := ha.bool 26 KR (decide_eq_true hp5642)
            refine stepp ha 27 (.pointer (some ⟨b5634, 2, none⟩)) KR KR ?_; clear ha a; intro a ha
            refine stepl ha 28 (HW.ca (i := 0) (b := b5634) (C := #[.int .i64 a0.f0, .int .i64 a0.f1, .int .i64 a0.f2, .int .i64 a0.f3]) (T := 66) (fr := (0, 0)) KR) 3 2 (.tmp 27) (.int .i64 a0.f2) rfl KR KR KR ?_; clear ha a; intro a ha
            refine stepp ha 29 (.bool (decide (a0.f2 ≤ 255))) KR KR ?_; clear ha a; intro a ha
            refine stepp ha 30 (.bool (decide (a0.f2 ≤ 255))) KR KR ?_; clear ha a; intro a ha
            refine stepp ha 31 (.bool (decide (a0.f2 ≤ 255))) KR KR ?_; clear ha a; intro a ha
            by_cases hp5643 : a0.f2 ≤ 255
            · skip
              replace h := ite_pos' h hp5643
              replace ha := ha.bool 31 KR (decide_eq_true hp5643)
              refine stepp ha 32 (.pointer (some ⟨b5634, 3, none⟩)) KR KR ?_; clear ha a; intro a ha
              refine stepl ha 33 (HW.ca (i := 0) (b := b5634) (C := #[.int .i64 a0.f0, .int .i64 a0.f1, .int .i64 a0.f2, .int .i64 a0.f3]) (T := 66) (fr := (0, 0)) KR) 3 3 (.tmp 32) (.int .i64 a0.f3) rfl KR KR KR ?_; clear ha a; intro a ha
              refine stepp ha 34 (.bool (decide (a0.f3 ≥ (-1)))) KR KR ?_; clear ha a; intro a ha
              refine stepp ha 35 (.bool (decide (a0.f3 ≥ (-1)))) KR KR ?_; clear ha a; intro a ha
              refine stepp ha 36 (.bool (decide (a0.f3 ≥ (-1)))) KR KR ?_; clear ha a; intro a ha
              by_cases hp5644 : a0.f3 ≥ (-1)
              · skip
                replace h := ite_pos' h hp5644
                replace ha := ha.bool 36 KR (decide_eq_true hp5644)
                refine stepp ha 37 (.pointer (some ⟨b5634, 3, none⟩)) KR KR ?_; clear ha a; intro a ha
                refine stepl ha 38 (HW.ca (i := 0) (b := b5634) (C := #[.int .i64 a0.f0, .int .i64 a0.f1, .int .i64 a0.f2, .int .i64 a0.f3]) (T := 66) (fr := (0, 0)) KR) 3 3 (.tmp 37) (.int .i64 a0.f3) rfl KR KR KR ?_; clear ha a; intro a ha
                refine stepp ha 39 (.bool (decide (a0.f3 < 4294967296))) KR KR ?_; clear ha a; intro a ha
                refine stepp ha 40 (.bool (decide (a0.f3 < 4294967296))) KR KR ?_; clear ha a; intro a ha
                refine stepp ha 2 (.bool (decide (a0.f3 < 4294967296))) KR KR ?_; clear ha a; intro a ha
                refine endl ?_
                refine thenN (hK5637 _ _ ?_); clear hK5637
                refine wp_ret ?_
                obtain rfl := Option.some.inj h
                exact finv ha _ _ rfl (.tmp (v := .bool (decide (a0.f3 < 4294967296))) KR .nil) (.bool (decide (a0.f3 < 4294967296))) rfl ⟨rfl, HW.pick [] [] (by decide) (by decide) rfl KR⟩
              · skip
                replace h := ite_neg' h hp5644
                replace ha := ha.bool 36 KR (decide_eq_false hp5644)
                refine stepo ha 37 KR ?_; clear ha a; intro a ha
                refine stepo ha 38 KR ?_; clear ha a; intro a ha
                refine stepo ha 39 KR ?_; clear ha a; intro a ha
                refine stepp ha 40 (.bool false) KR KR ?_; clear ha a; intro a ha
                refine stepp ha 2 (.bool false) KR KR ?_; clear ha a; intro a ha
                refine endl ?_
                refine thenN (hK5637 _ _ ?_); clear hK5637
                refine wp_ret ?_
                obtain rfl := Option.some.inj h
                exact finv ha _ _ rfl (.tmp (v := .bool false) KR .nil) (.bool false) rfl ⟨rfl, HW.pick [] [] (by decide) (by decide) rfl KR⟩
            · skip
              replace h := ite_neg' h hp5643
              replace ha := ha.bool 31 KR (decide_eq_false hp5643)
              refine stepo ha 32 KR ?_; clear ha a; intro a ha
              refine stepo ha 33 KR ?_; clear ha a; intro a ha
              refine stepo ha 34 KR ?_; clear ha a; intro a ha
              refine stepp ha 35 (.bool false) KR KR ?_; clear ha a; intro a ha
              refine stepp ha 36 (.bool false) KR KR ?_; clear ha a; intro a ha
              refine stepo ha 37 KR ?_; clear ha a; intro a ha
              refine stepo ha 38 KR ?_; clear ha a; intro a ha
              refine stepo ha 39 KR ?_; clear ha a; intro a ha
              refine stepp ha 40 (.bool false) KR KR ?_; clear ha a; intro a ha
              refine stepp ha 2 (.bool false) KR KR ?_; clear ha a; intro a ha
              refine endl ?_
              refine thenN (hK5637 _ _ ?_); clear hK5637
              refine wp_ret ?_
              obtain rfl := Option.some.inj h
              exact finv ha _ _ rfl (.tmp (v := .bool false) KR .nil) (.bool false) rfl ⟨rfl, HW.pick [] [] (by decide) (by decide) rfl KR⟩
          · skip
            replace h := ite_neg' h hp5642
            replace ha := ha.bool 26 KR (decide_eq_false hp5642)
            refine stepo ha 27 KR ?_; clear ha a; intro a ha
            refine stepo ha 28 KR ?_; clear ha a; intro a ha
            refine stepo ha 29 KR ?_; clear ha a; intro a ha
            refine stepp ha 30 (.bool false) KR KR ?_; clear ha a; intro a ha
            refine stepp ha 31 (.bool false) KR KR ?_; clear ha a; intro a ha
            refine stepo ha 32 KR ?_; clear ha a; intro a ha
            refine stepo ha 33 KR ?_; clear ha a; intro a ha
            refine stepo ha 34 KR ?_; clear ha a; intro a ha
            refine stepp ha 35 (.bool false) KR KR ?_; clear ha a; intro a ha
            refine stepp ha 36 (.bool false) KR KR ?_; clear ha a; intro a ha
            refine stepo ha 37 KR ?_; clear ha a; intro a ha
            refine stepo ha 38 KR ?_; clear ha a; intro a ha
            refine stepo ha 39 KR ?_; clear ha a; intro a ha
            refine stepp ha 40 (.bool false) KR KR ?_; clear ha a; intro a ha
            refine stepp ha 2 (.bool false) KR KR ?_; clear ha a; intro a ha
            refine endl ?_
            refine thenN (hK5637 _ _ ?_); clear hK5637
            refine wp_ret ?_
            obtain rfl := Option.some.inj h
            exact finv ha _ _ rfl (.tmp (v := .bool false) KR .nil) (.bool false) rfl ⟨rfl, HW.pick [] [] (by decide) (by decide) rfl KR⟩
        · skip
          replace h := ite_neg' h hp5641
          replace ha := ha.bool 21 KR (decide_eq_false hp5641)
          refine stepo ha 22 KR ?_; clear ha a; intro a ha
          refine stepo ha 23 KR ?_; clear ha a; intro a ha
          refine stepo ha 24 KR ?_; clear ha a; intro a ha
          refine stepp ha 25 (.bool false) KR KR ?_; clear ha a; intro a ha
          refine stepp ha 26 (.bool false) KR KR ?_; clear ha a; intro a ha
          refine stepo ha 27 KR ?_; clear ha a; intro a ha
          refine stepo ha 28 KR ?_; clear ha a; intro a ha
          refine stepo ha 29 KR ?_; clear ha a; intro a ha
          refine stepp ha 30 (.bool false) KR KR ?_; clear ha a; intro a ha
          refine stepp ha 31 (.bool false) KR KR ?_; clear ha a; intro a ha
          refine stepo ha 32 KR ?_; clear ha a; intro a ha
          refine stepo ha 33 KR ?_; clear ha a; intro a ha
          refine stepo ha 34 KR ?_; clear ha a; intro a ha
          refine stepp ha 35 (.bool false) KR KR ?_; clear ha a; intro a ha
          refine stepp ha 36 (.bool false) KR KR ?_; clear ha a; intro a ha
          refine stepo ha 37 KR ?_; clear ha a; intro a ha
          refine stepo ha 38 KR ?_; clear ha a; intro a ha
          refine stepo ha 39 KR ?_; clear ha a; intro a ha
          refine stepp ha 40 (.bool false) KR KR ?_; clear ha a; intro a ha
          refine stepp ha 2 (.bool false) KR KR ?_; clear ha a; intro a ha
          refine endl ?_
          refine thenN (hK5637 _ _ ?_); clear hK5637
          refine wp_ret ?_
          obtain rfl := Option.some.inj h
          exact finv ha _ _ rfl (.tmp (v := .bool false) KR .nil) (.bool false) rfl ⟨rfl, HW.pick [] [] (by decide) (by decide) rfl KR⟩
      · skip
        replace h := ite_neg' h hp5640
        replace ha := ha.bool 16 KR (decide_eq_false hp5640)
        refine stepo ha 17 KR ?_; clear ha a; intro a ha
        refine stepo ha 18 KR ?_; clear ha a; intro a ha
        refine stepo ha 19 KR ?_; clear ha a; intro a ha
        refine stepp ha 20 (.bool false) KR KR ?_; clear ha a; intro a ha
        refine stepp ha 21 (.bool false) KR KR ?_; clear ha a; intro a ha
        refine stepo ha 22 KR ?_; clear ha a; intro a ha
        refine stepo ha 23 KR ?_; clear ha a; intro a ha
        refine stepo ha 24 KR ?_; clear ha a; intro a ha
        refine stepp ha 25 (.bool false) KR KR ?_; clear ha a; intro a ha
        refine stepp ha 26 (.bool false) KR KR ?_; clear ha a; intro a ha
        refine stepo ha 27 KR ?_; clear ha a; intro a ha
        refine stepo ha 28 KR ?_; clear ha a; intro a ha
        refine stepo ha 29 KR ?_; clear ha a; intro a ha
        refine stepp ha 30 (.bool false) KR KR ?_; clear ha a; intro a ha
        refine stepp ha 31 (.bool false) KR KR ?_; clear ha a; intro a ha
        refine stepo ha 32 KR ?_; clear ha a; intro a ha
        refine stepo ha 33 KR ?_; clear ha a; intro a ha
        refine stepo ha 34 KR ?_; clear ha a; intro a ha
        refine stepp ha 35 (.bool false) KR KR ?_; clear ha a; intro a ha
        refine stepp ha 36 (.bool false) KR KR ?_; clear ha a; intro a ha
        refine stepo ha 37 KR ?_; clear ha a; intro a ha
        refine stepo ha 38 KR ?_; clear ha a; intro a ha
        refine stepo ha 39 KR ?_; clear ha a; intro a ha
        refine stepp ha 40 (.bool false) KR KR ?_; clear ha a; intro a ha
        refine stepp ha 2 (.bool false) KR KR ?_; clear ha a; intro a ha
        refine endl ?_
        refine thenN (hK5637 _ _ ?_); clear hK5637
        refine wp_ret ?_
        obtain rfl := Option.some.inj h
        exact finv ha _ _ rfl (.tmp (v := .bool false) KR .nil) (.bool false) rfl ⟨rfl, HW.pick [] [] (by decide) (by decide) rfl KR⟩
    · skip
      replace h := ite_neg' h hp5639
      replace ha := ha.bool 11 KR (decide_eq_false hp5639)
      refine stepo ha 12 KR ?_; clear ha a; intro a ha
      refine stepo ha 13 KR ?_; clear ha a; intro a ha
      refine stepo ha 14 KR ?_; clear ha a; intro a ha
      refine stepp ha 15 (.bool false) KR KR ?_; clear ha a; intro a ha
      refine stepp ha 16 (.bool false) KR KR ?_; clear ha a; intro a ha
      refine stepo ha 17 KR ?_; clear ha a; intro a ha
      refine stepo ha 18 KR ?_; clear ha a; intro a ha
      refine stepo ha 19 KR ?_; clear ha a; intro a ha
      refine stepp ha 20 (.bool false) KR KR ?_; clear ha a; intro a ha
      refine stepp ha 21 (.bool false) KR KR ?_; clear ha a; intro a ha
      refine stepo ha 22 KR ?_; clear ha a; intro a ha
      refine stepo ha 23 KR ?_; clear ha a; intro a ha
      refine stepo ha 24 KR ?_; clear ha a; intro a ha
      refine stepp ha 25 (.bool false) KR KR ?_; clear ha a; intro a ha
      refine stepp ha 26 (.bool false) KR KR ?_; clear ha a; intro a ha
      refine stepo ha 27 KR ?_; clear ha a; intro a ha
      refine stepo ha 28 KR ?_; clear ha a; intro a ha
      refine stepo ha 29 KR ?_; clear ha a; intro a ha
      refine stepp ha 30 (.bool false) KR KR ?_; clear ha a; intro a ha
      refine stepp ha 31 (.bool false) KR KR ?_; clear ha a; intro a ha
      refine stepo ha 32 KR ?_; clear ha a; intro a ha
      refine stepo ha 33 KR ?_; clear ha a; intro a ha
      refine stepo ha 34 KR ?_; clear ha a; intro a ha
      refine stepp ha 35 (.bool false) KR KR ?_; clear ha a; intro a ha
      refine stepp ha 36 (.bool false) KR KR ?_; clear ha a; intro a ha
      refine stepo ha 37 KR ?_; clear ha a; intro a ha
      refine stepo ha 38 KR ?_; clear ha a; intro a ha
      refine stepo ha 39 KR ?_; clear ha a; intro a ha
      refine stepp ha 40 (.bool false) KR KR ?_; clear ha a; intro a ha
      refine stepp ha 2 (.bool false) KR KR ?_; clear ha a; intro a ha
      refine endl ?_
      refine thenN (hK5637 _ _ ?_); clear hK5637
      refine wp_ret ?_
      obtain rfl := Option.some.inj h
      exact finv ha _ _ rfl (.tmp (v := .bool false) KR .nil) (.bool false) rfl ⟨rfl, HW.pick [] [] (by decide) (by decide) rfl KR⟩
  · skip
    replace h := ite_neg' h hp5638
    replace ha := ha.bool 6 KR (decide_eq_false hp5638)
    refine stepo ha 7 KR ?_; clear ha a; intro a ha
    refine stepo ha 8 KR ?_; clear ha a; intro a ha
    refine stepo ha 9 KR ?_; clear ha a; intro a ha
    refine stepp ha 10 (.bool false) KR KR ?_; clear ha a; intro a ha
    refine stepp ha 11 (.bool false) KR KR ?_; clear ha a; intro a ha
    refine stepo ha 12 KR ?_; clear ha a; intro a ha
    refine stepo ha 13 KR ?_; clear ha a; intro a ha
    refine stepo ha 14 KR ?_; clear ha a; intro a ha
    refine stepp ha 15 (.bool false) KR KR ?_; clear ha a; intro a ha
    refine stepp ha 16 (.bool false) KR KR ?_; clear ha a; intro a ha
    refine stepo ha 17 KR ?_; clear ha a; intro a ha
    refine stepo ha 18 KR ?_; clear ha a; intro a ha
    refine stepo ha 19 KR ?_; clear ha a; intro a ha
    refine stepp ha 20 (.bool false) KR KR ?_; clear ha a; intro a ha
    refine stepp ha 21 (.bool false) KR KR ?_; clear ha a; intro a ha
    refine stepo ha 22 KR ?_; clear ha a; intro a ha
    refine stepo ha 23 KR ?_; clear ha a; intro a ha
    refine stepo ha 24 KR ?_; clear ha a; intro a ha
    refine stepp ha 25 (.bool false) KR KR ?_; clear ha a; intro a ha
    refine stepp ha 26 (.bool false) KR KR ?_; clear ha a; intro a ha
    refine stepo ha 27 KR ?_; clear ha a; intro a ha
    refine stepo ha 28 KR ?_; clear ha a; intro a ha
    refine stepo ha 29 KR ?_; clear ha a; intro a ha
    refine stepp ha 30 (.bool false) KR KR ?_; clear ha a; intro a ha
    refine stepp ha 31 (.bool false) KR KR ?_; clear ha a; intro a ha
    refine stepo ha 32 KR ?_; clear ha a; intro a ha
    refine stepo ha 33 KR ?_; clear ha a; intro a ha
    refine stepo ha 34 KR ?_; clear ha a; intro a ha
    refine stepp ha 35 (.bool false) KR KR ?_; clear ha a; intro a ha
    refine stepp ha 36 (.bool false) KR KR ?_; clear ha a; intro a ha
    refine stepo ha 37 KR ?_; clear ha a; intro a ha
    refine stepo ha 38 KR ?_; clear ha a; intro a ha
    refine stepo ha 39 KR ?_; clear ha a; intro a ha
    refine stepp ha 40 (.bool false) KR KR ?_; clear ha a; intro a ha
    refine stepp ha 2 (.bool false) KR KR ?_; clear ha a; intro a ha
    refine endl ?_
    refine thenN (hK5637 _ _ ?_); clear hK5637
    refine wp_ret ?_
    obtain rfl := Option.some.inj h
    exact finv ha _ _ rfl (.tmp (v := .bool false) KR .nil) (.bool false) rfl ⟨rfl, HW.pick [] [] (by decide) (by decide) rfl KR⟩
/-! ### headgate/headgateref01.PutBig: function 71 -/
def headgateref01_PutBig.b0 (K : Nat) (again5704 : Int → (List Int) → Int → Option ByteArray) (x5705 : Int) (x5706 : List Int) (x5710 : Int) : Option ByteArray :=
  if x5710 ≥ 0 then (asrt (0 ≤ x5710) (asrt (x5710 < (x5706.length : Int)) (again5704 (IntKind.wrap .u64 (Int.tdiv x5705 256)) (x5706.set (x5710 : Int).toNat (IntKind.wrap .u8 (Int.tmod x5705 256))) (IntKind.wrap .i64 (x5710 - 1))))) else (some (strOfNums x5706))
def headgateref01_PutBig.l0 (K : Nat)  : Nat → Int → (List Int) → Int → Option ByteArray
  | 0, _, _, _ => none
  | k_ + 1, x5705, x5706, x5710 => headgateref01_PutBig.b0 K  (headgateref01_PutBig.l0 K  k_) x5705 x5706 x5710
def headgateref01_PutBig.f (K : Nat) (a0 : Int) (a1 : Int) : Option ByteArray :=
  if a1 < 1 then (some (⟨#[]⟩ : ByteArray)) else (if a1 > 8 then (some (⟨#[]⟩ : ByteArray)) else (asrt (0 ≤ a1) (asrt (a1 ≤ 281474976710656) (headgateref01_PutBig.l0 K  K a0 (List.replicate (a1 : Int).toNat (0 : Int)) (IntKind.wrap .i64 (a1 - 1))))))
set_option maxRecDepth 100000 in
set_option maxHeartbeats 4000000 in
theorem headgateref01_PutBig.calls (K : Nat) (a0 : Int) (a1 : Int)  (r : ByteArray) (w : World)  (h : headgateref01_PutBig.f K a0 a1 = some r) :
    Calls Tryd.prog 71 #[.int .u64 a0, .int .i64 a1] w (fun e W' => e = .returned (.string r) ∧ Wd w W' [] [] ) := by
  refine sxstart (n := 31) (l := [(0, .int .u64 a0), (1, .int .i64 a1)]) Tryd.func71 rfl rfl (Nat.le_of_ble_eq_true KR) (subsA_cons rfl (subsA_cons rfl (subsA_nil _))) ?_
  intro a ha
  have HW := Wd.refl w
  unfold headgateref01_PutBig.f at h
  refine wp_seq_k (fun K5645 hK5646 => ?_)
  refine wp_region_lit ?_
  refine stepp ha 4 (.string (⟨#[]⟩ : ByteArray)) KR KR ?_; clear ha a; intro a ha
  refine endl ?_
  refine thenN (hK5646 _ _ ?_); clear hK5646
  refine wp_seq_k (fun K5647 hK5648 => ?_)
  refine wp_seq_k (fun K5649 hK5650 => ?_)
  refine wp_region_lit ?_
  refine stepp ha 7 (.int .i64 a1) KR KR ?_; clear ha a; intro a ha
  refine stepp ha 8 (.bool (decide (a1 < 1))) KR KR ?_; clear ha a; intro a ha
  refine stepp ha 9 (.bool (decide (a1 < 1))) KR KR ?_; clear ha a; intro a ha
  by_cases hp5651 : a1 < 1
  · skip
    replace h := ite_pos' h hp5651
    replace ha := ha.bool 9 KR (decide_eq_true hp5651)
    refine stepo ha 10 KR ?_; clear ha a; intro a ha
    refine stepo ha 11 KR ?_; clear ha a; intro a ha
    refine stepp ha 12 (.bool true) KR KR ?_; clear ha a; intro a ha
    refine endl ?_
    refine thenN (hK5650 _ _ ?_); clear hK5650
    refine condT ha KR KR (t := true) (rfl) ?_
    refine wp_seq_k (fun K5652 hK5653 => ?_)
    refine wp_region_lit ?_
    refine stepp ha 4 (.string (⟨#[]⟩ : ByteArray)) KR KR ?_; clear ha a; intro a ha
    refine endl ?_
    refine thenN (hK5653 _ _ ?_); clear hK5653
    refine wp_ret ?_
    refine thenR ?_
    obtain rfl := Option.some.inj h
    exact finv ha _ _ rfl (.tmp (v := .string (⟨#[]⟩ : ByteArray)) KR .nil) (.string (⟨#[]⟩ : ByteArray)) rfl ⟨rfl, HW.pick [] [] (by decide) (by decide) rfl KR⟩
  · skip
    replace h := ite_neg' h hp5651
    replace ha := ha.bool 9 KR (decide_eq_false hp5651)
    refine stepp ha 10 (.int .i64 a1) KR KR ?_; clear ha a; intro a ha
    refine stepp ha 11 (.bool (decide (a1 > 8))) KR KR ?_; clear ha a; intro a ha
    refine stepp ha 12 (.bool (decide (a1 > 8))) KR KR ?_; clear ha a; intro a ha
    refine endl ?_
    refine thenN (hK5650 _ _ ?_); clear hK5650
    by_cases hp5654 : a1 > 8
    · skip
      replace h := ite_pos' h hp5654
      refine condT ha KR KR (t := decide (a1 > 8)) (decide_eq_true hp5654) ?_
      refine wp_seq_k (fun K5655 hK5656 => ?_)
      refine wp_region_lit ?_
      refine stepp ha 4 (.string (⟨#[]⟩ : ByteArray)) KR KR ?_; clear ha a; intro a ha
      refine endl ?_
      refine thenN (hK5656 _ _ ?_); clear hK5656
      refine wp_ret ?_
      refine thenR ?_
      obtain rfl := Option.some.inj h
      exact finv ha _ _ rfl (.tmp (v := .string (⟨#[]⟩ : ByteArray)) KR .nil) (.string (⟨#[]⟩ : ByteArray)) rfl ⟨rfl, HW.pick [] [] (by decide) (by decide) rfl KR⟩
    · skip
      replace h := ite_neg' h hp5654
      refine condF ha KR KR (t := decide (a1 > 8)) (decide_eq_false hp5654) ?_
      refine wp_skip ?_
      refine thenN (hK5648 _ _ ?_); clear hK5648
      refine wp_seq_k (fun K5657 hK5658 => ?_)
      refine wp_region_lit ?_
      refine stepp ha 13 (.int .i64 a1) KR KR ?_; clear ha a; intro a ha
      obtain ⟨hA5659, h_⟩ := asrt_some h; clear h; have h := h_; clear h_
      obtain ⟨hA5660, h_⟩ := asrt_some h; clear h; have h := h_; clear h_
      refine stepmk (encI .u8) (0 : Int) ha HW 14 97 5 (.tmp 13) (.tmp 13) .i64 .i64 a1 (.int .u8 0) 1 rfl KR KR KR KR rfl rfl hA5659 (by have := hA5660; omega) (by have := hA5660; omega) KR ?_; clear ha HW a; intro b5661 a W5662 HW ha
      refine stepp ha 5 (.slice (some ⟨b5661, 0, none⟩) (List.replicate (a1 : Int).toNat (0 : Int)).length ((a1 : Int).toNat)) KR KR ?_; clear ha a; intro a ha
      refine endl ?_
      refine thenN (hK5658 _ _ ?_); clear hK5658
      refine wp_seq_k (fun K5664 hK5665 => ?_)
      refine wp_seq_k (fun K5666 hK5667 => ?_)
      refine wp_region_lit ?_
      refine stepp ha 15 (.int .i64 a1) KR KR ?_; clear ha a; intro a ha
      refine stepp ha 16 (.int .i64 (IntKind.wrap .i64 (a1 - 1))) KR KR ?_; clear ha a; intro a ha
      refine stepp ha 6 (.int .i64 (IntKind.wrap .i64 (a1 - 1))) KR KR ?_; clear ha a; intro a ha
      refine endl ?_
      refine thenN (hK5667 _ _ ?_); clear hK5667
      refine wp_block ?_
      refine loopk (fun k => fun a W5711 => ∃ (x5705 : Int), ∃ (x5706 : List Int), ∃ A5707, ∃ c5708, ∃ (x5710 : Int), headgateref01_PutBig.l0 K  k x5705 x5706 x5710 = some r ∧ Has 31 [(0, .int .u64 x5705), (5, .slice A5707 x5706.length c5708), (6, .int .i64 x5710)] a ∧ Wd w W5711 [] [⟨5, 1, .slice A5707 x5706.length c5708, x5706.length, encs (encI .u8) x5706⟩]) K ?_ ?_
      · skip
        exact ⟨a0, List.replicate (a1 : Int).toNat (0 : Int), some ⟨b5661, 0, none⟩, (a1 : Int).toNat, IntKind.wrap .i64 (a1 - 1), h, ha.sub (subs_cons KR (subs_cons KR (subs_cons KR (subs_nil _)))), HW.pick [] [0] (by decide) (by decide) KR KR⟩
      · skip
        intro k a W5711 hI
        obtain ⟨x5705, x5706, A5707, c5708, x5710, h, ha, HW⟩ := hI
        cases k with
        | zero => exact (none_some (show none = some r from h)).elim
        | succ k5712 =>
          replace h : headgateref01_PutBig.b0 K  (headgateref01_PutBig.l0 K  k5712) x5705 x5706 x5710 = some r := h
          obtain ⟨again5704, hag5713⟩ : ∃ g_, g_ = headgateref01_PutBig.l0 K  k5712 := ⟨_, rfl⟩
          rw [← hag5713] at h
          unfold headgateref01_PutBig.b0 at h
          refine wp_seq_k (fun K5714 hK5715 => ?_)
          refine wp_seq_k (fun K5716 hK5717 => ?_)
          refine wp_region_lit ?_
          refine stepp ha 17 (.int .i64 x5710) KR KR ?_; clear ha a; intro a ha
          refine stepp ha 18 (.bool (decide (x5710 ≥ 0))) KR KR ?_; clear ha a; intro a ha
          refine endl ?_
          refine thenN (hK5717 _ _ ?_); clear hK5717
          by_cases hp5718 : x5710 ≥ 0
          · skip
            replace h := ite_pos' h hp5718
            refine condT ha KR KR (t := decide (x5710 ≥ 0)) (decide_eq_true hp5718) ?_
            refine wp_skip ?_
            refine thenN (hK5715 _ _ ?_); clear hK5715
            refine wp_seq_k (fun K5719 hK5720 => ?_)
            refine wp_block ?_
            refine wp_seq_k (fun K5721 hK5722 => ?_)
            refine wp_region_lit ?_
            refine stepp ha 21 (.slice A5707 x5706.length c5708) KR KR ?_; clear ha a; intro a ha
            refine stepp ha 22 (.int .i64 x5710) KR KR ?_; clear ha a; intro a ha
            refine stepp ha 23 (.int .u64 x5705) KR KR ?_; clear ha a; intro a ha
            refine stepp ha 24 (.int .u64 (Int.tmod x5705 256)) KR KR ?_; clear ha a; intro a ha
            refine stepp ha 25 (.int .u8 (IntKind.wrap .u8 (Int.tmod x5705 256))) KR KR ?_; clear ha a; intro a ha
            obtain ⟨hA5723, h_⟩ := asrt_some h; clear h; have h := h_; clear h_
            obtain ⟨hA5724, h_⟩ := asrt_some h; clear h; have h := h_; clear h_
            refine stepio (encI .u8) ha HW 26 0 (sz := 1) (e := 5) (v := .slice A5707 x5706.length c5708) (xs := x5706) KR 97 (.tmp 21) (.tmp 22) .i64 x5710 rfl KR KR KR KR hA5723 (show (x5710 : Int) < ((x5706).length : Int) from hA5724) KR ?_; clear ha a; intro b5725 a hb5726 ha
            refine stepos (encI .u8) (0 : Int) ha HW 0 (sz := 1) (e := 5) (fun _ => rfl) (v := .slice A5707 x5706.length c5708) (xs := x5706) KR hb5726 x5710 hA5723 (show (x5710 : Int) < ((x5706).length : Int) from hA5724) 5 0 (.tmp 26) (.tmp 25) (.int .u8 (IntKind.wrap .u8 (Int.tmod x5705 256))) (IntKind.wrap .u8 (Int.tmod x5705 256)) rfl KR KR KR KR KR KR KR (.slice A5707 (x5706.set (x5710 : Int).toNat (IntKind.wrap .u8 (Int.tmod x5705 256))).length c5708) (by rw [List.length_set]) ?_; clear ha HW a; intro a W5727 HW ha
            replace ha := ha.turn 5 (v := .slice A5707 (x5706.set (x5710 : Int).toNat (IntKind.wrap .u8 (Int.tmod x5705 256))).length c5708) KR (by rw [List.length_set])
            replace ha := ha.turn 21 (v := .slice A5707 (x5706.set (x5710 : Int).toNat (IntKind.wrap .u8 (Int.tmod x5705 256))).length c5708) KR (by rw [List.length_set])
            replace HW : Wd w W5727 [] [⟨5, 1, .slice A5707 (x5706.set (x5710 : Int).toNat (IntKind.wrap .u8 (Int.tmod x5705 256))).length c5708, (x5706.set (x5710 : Int).toNat (IntKind.wrap .u8 (Int.tmod x5705 256))).length, encs (encI .u8) (x5706.set (x5710 : Int).toNat (IntKind.wrap .u8 (Int.tmod x5705 256)))⟩] := HW
            refine endl ?_
            refine thenN (hK5722 _ _ ?_); clear hK5722
            refine wp_region_lit ?_
            refine stepp ha 27 (.int .u64 x5705) KR KR ?_; clear ha a; intro a ha
            refine stepp ha 28 (.int .u64 (IntKind.wrap .u64 (Int.tdiv x5705 256))) KR KR ?_; clear ha a; intro a ha
            refine stepp ha 0 (.int .u64 (IntKind.wrap .u64 (Int.tdiv x5705 256))) KR KR ?_; clear ha a; intro a ha
            refine endl ?_
            refine blkN ?_
            refine thenN (hK5720 _ _ ?_); clear hK5720
            refine wp_region_lit ?_
            refine stepp ha 19 (.int .i64 x5710) KR KR ?_; clear ha a; intro a ha
            refine stepp ha 20 (.int .i64 (IntKind.wrap .i64 (x5710 - 1))) KR KR ?_; clear ha a; intro a ha
            refine stepp ha 6 (.int .i64 (IntKind.wrap .i64 (x5710 - 1))) KR KR ?_; clear ha a; intro a ha
            refine endl ?_
            exact thenN ⟨k5712, Nat.lt_succ_self k5712, IntKind.wrap .u64 (Int.tdiv x5705 256), x5706.set (x5710 : Int).toNat (IntKind.wrap .u8 (Int.tmod x5705 256)), A5707, c5708, IntKind.wrap .i64 (x5710 - 1), (by rw [← hag5713]; exact h), ha.sub (subs_cons KR (subs_cons KR (subs_cons KR (subs_nil _)))), HW.pick [] [0] (by decide) (by decide) KR KR⟩
          · skip
            replace h := ite_neg' h hp5718
            refine condF ha KR KR (t := decide (x5710 ≥ 0)) (decide_eq_false hp5718) ?_
            refine wp_exit ?_
            refine thenE ?_
            refine thenE ?_
            refine inBlk ?_
            refine thenN (hK5665 _ _ ?_); clear hK5665
            refine wp_seq_k (fun K5728 hK5729 => ?_)
            refine wp_region_lit ?_
            refine stepp ha 29 (.slice A5707 x5706.length c5708) KR KR ?_; clear ha a; intro a ha
            refine stepbt ha 30 97 9 5 (.tmp 29) (v := .slice A5707 x5706.length c5708) (xs := x5706) (HW.rdo (i := 0) (q := ⟨5, 1, .slice A5707 x5706.length c5708, x5706.length, encs (encI .u8) x5706⟩) KR) rfl KR KR KR KR KR ?_; clear ha a; intro a ha
            refine stepp ha 4 (.string (strOfNums x5706)) KR KR ?_; clear ha a; intro a ha
            refine endl ?_
            refine thenN (hK5729 _ _ ?_); clear hK5729
            refine wp_ret ?_
            obtain rfl := Option.some.inj h
            exact finv ha _ _ rfl (.tmp (v := .string (strOfNums x5706)) KR .nil) (.string (strOfNums x5706)) rfl ⟨rfl, HW.pick [] [] (by decide) (by decide) rfl KR⟩
/-! ### headgate/headgateref16.Bytes: function 38 -/
def headgateref16_Bytes.j0 (K : Nat) (a0 : T_api_Sense) (x5753 : Int) (x5754 : Int) : Option (ByteArray × Int) :=
  (headgateref01_PutBig.f K (IntKind.wrap .u64 x5754) 4).bind fun t5762 => (asrt ((strOfNums ([x5753, 0, IntKind.wrap .u8 a0.f0] : List Int)).size + t5762.size ≤ 9223372036854775807) (asrt (((strOfNums ([x5753, 0, IntKind.wrap .u8 a0.f0] : List Int)) ++ t5762).size + (strOfNums ([10, 0, 0, 0, 0, IntKind.wrap .u8 a0.f1, IntKind.wrap .u8 a0.f2, 0, 0, 0, 0] : List Int)).size ≤ 9223372036854775807) (some (((strOfNums ([x5753, 0, IntKind.wrap .u8 a0.f0] : List Int)) ++ t5762) ++ (strOfNums ([10, 0, 0, 0, 0, IntKind.wrap .u8 a0.f1, IntKind.wrap .u8 a0.f2, 0, 0, 0, 0] : List Int)), 0))))
def headgateref16_Bytes.f (K : Nat) (a0 : T_api_Sense) : Option (ByteArray × Int) :=
  (headgateref16_may.f a0).bind fun t5738 => (if t5738 = true then (if a0.f3 ≥ 0 then (headgateref16_Bytes.j0 K a0 240 a0.f3) else (headgateref16_Bytes.j0 K a0 112 0)) else (some ((⟨#[]⟩ : ByteArray), 160)))
set_option maxRecDepth 100000 in
set_option maxHeartbeats 4000000 in
theorem headgateref16_Bytes.calls (K : Nat) (a0 : T_api_Sense)  (r : ByteArray × Int) (w : World)  (h : headgateref16_Bytes.f K a0 = some r) :
    Calls Tryd.prog 38 #[.agg #[.int .i64 a0.f0, .int .i64 a0.f1, .int .i64 a0.f2, .int .i64 a0.f3]] w (fun e W' => e = .returned (.tuple #[.string r.1, .int .i64 r.2]) ∧ Wd w W' [] [] ) := by
  refine sxstart (n := 33) (l := [(0, .agg #[.int .i64 a0.f0, .int .i64 a0.f1, .int .i64 a0.f2, .int .i64 a0.f3])]) Tryd.func38 rfl rfl (Nat.le_of_ble_eq_true KR) (subsA_cons rfl (subsA_nil _)) ?_
  intro a ha
  have HW := Wd.refl w
  unfold headgateref16_Bytes.f at h
  refine wp_seq_k (fun K5730 hK5731 => ?_)
  refine wp_region_lit ?_
  refine stepnew ha HW 1 #[.int .i64 a0.f0, .int .i64 a0.f1, .int .i64 a0.f2, .int .i64 a0.f3] 66 KR KR ?_; clear ha HW a; intro b5732 a W5733 HW ha
  refine stepp ha 2 (.string (⟨#[]⟩ : ByteArray)) KR KR ?_; clear ha a; intro a ha
  refine stepp ha 3 (.int .i64 0) KR KR ?_; clear ha a; intro a ha
  refine endl ?_
  refine thenN (hK5731 _ _ ?_); clear hK5731
  refine wp_seq_k (fun K5734 hK5735 => ?_)
  refine wp_seq_k (fun K5736 hK5737 => ?_)
  refine wp_region_lit ?_
  refine stepl ha 6 (HW.ca (i := 0) (b := b5732) (C := #[.int .i64 a0.f0, .int .i64 a0.f1, .int .i64 a0.f2, .int .i64 a0.f3]) (T := 66) (fr := (0, 0)) KR) 66 0 (.tmp 1) (.agg #[.int .i64 a0.f0, .int .i64 a0.f1, .int .i64 a0.f2, .int .i64 a0.f3]) rfl KR KR KR ?_; clear ha a; intro a ha
  obtain ⟨t5738, ht5739, h_⟩ := bind_some' h; clear h; have h := h_; clear h_
  refine stepc ha 7 KR KR (headgateref16_may.calls a0 t5738 _ ht5739) ?_; clear ha a; rintro e W5740 ⟨rfl, HX5741⟩
  refine ⟨_, rfl, ?_⟩; intro a ha; replace HW := HW.callw HX5741; clear HX5741
  refine stepp ha 8 (.bool (!t5738)) KR KR ?_; clear ha a; intro a ha
  refine endl ?_
  refine thenN (hK5737 _ _ ?_); clear hK5737
  by_cases hp5742 : t5738 = true
  · skip
    replace h := ite_pos' h hp5742
    refine condF ha KR KR (t := (!t5738)) (not_f (hp5742)) ?_
    refine wp_skip ?_
    refine thenN (hK5735 _ _ ?_); clear hK5735
    refine wp_seq_k (fun K5745 hK5746 => ?_)
    refine wp_region_lit ?_
    refine stepp ha 4 (.int .u8 112) KR KR ?_; clear ha a; intro a ha
    refine stepp ha 5 (.int .i64 0) KR KR ?_; clear ha a; intro a ha
    refine endl ?_
    refine thenN (hK5746 _ _ ?_); clear hK5746
    refine wp_seq_k (fun K5747 hK5748 => ?_)
    refine cutn (fun a W5755 => ∃ (x5753 : Int), ∃ (x5754 : Int), headgateref16_Bytes.j0 K a0 x5753 x5754 = some r ∧ Has 33 [(1, .pointer (some ⟨b5732, 0, none⟩)), (4, .int .u8 x5753), (5, .int .i64 x5754)] a ∧ Wd w W5755 [(b5732, .cells #[.int .i64 a0.f0, .int .i64 a0.f1, .int .i64 a0.f2, .int .i64 a0.f3] 66 (0, 0))] []) ?_ ?_
    · skip
      refine wp_seq_k (fun K5749 hK5750 => ?_)
      refine wp_region_lit ?_
      refine stepp ha 9 (.pointer (some ⟨b5732, 3, none⟩)) KR KR ?_; clear ha a; intro a ha
      refine stepl ha 10 (HW.ca (i := 0) (b := b5732) (C := #[.int .i64 a0.f0, .int .i64 a0.f1, .int .i64 a0.f2, .int .i64 a0.f3]) (T := 66) (fr := (0, 0)) KR) 3 3 (.tmp 9) (.int .i64 a0.f3) rfl KR KR KR ?_; clear ha a; intro a ha
      refine stepp ha 11 (.bool (decide (a0.f3 ≥ 0))) KR KR ?_; clear ha a; intro a ha
      refine endl ?_
      refine thenN (hK5750 _ _ ?_); clear hK5750
      by_cases hp5751 : a0.f3 ≥ 0
      · skip
        replace h := ite_pos' h hp5751
        refine condT ha KR KR (t := decide (a0.f3 ≥ 0)) (decide_eq_true hp5751) ?_
        refine regionG 3 KR KR ha HW [.fix (.pointer (some ⟨b5732, 3, none⟩)), .fix (.int .i64 a0.f3), .fix (.int .u8 240)] ?_ ?_
        · skip
          refine ⟨?_, ?_, ?_, trivial⟩
          · skip
            intro a wr hn hd HW hs; have ha := hasNil hn hd
            have ha := ha.add (seeE hs 1 (.pointer (some ⟨b5732, 0, none⟩)) KR KR)
            refine yStep ha 12 KR ?_; intro l_ ha HK
            refine stepp ha 12 (.pointer (some ⟨b5732, 3, none⟩)) KR KR ?_; intro ax hax; exact HK _ _ _ hax rfl (Below.refl _ _)
          · skip
            intro a wr hn hd HW hs; have ha := hasNil hn hd
            have ha := ha.add (seeF hs 12 0 (.pointer (some ⟨b5732, 3, none⟩)) KR KR)
            refine yStep ha 13 KR ?_; intro l_ ha HK
            refine stepl ha 13 (HW.ca (i := 0) (b := b5732) (C := #[.int .i64 a0.f0, .int .i64 a0.f1, .int .i64 a0.f2, .int .i64 a0.f3]) (T := 66) (fr := (0, 0)) KR) 3 3 (.tmp 12) (.int .i64 a0.f3) rfl KR KR KR ?_; intro ax hax; exact HK _ _ _ hax rfl (Below.refl _ _)
          · skip
            intro a wr hn hd HW hs; have ha := hasNil hn hd
            refine yStep ha 4 KR ?_; intro l_ ha HK
            refine stepp ha 4 (.int .u8 240) KR KR ?_; intro ax hax; exact HK _ _ _ hax rfl (Below.refl _ _)
        · skip
          intro a W5752 ha HW he hf
          replace ha := ha.add (he 1 (.pointer (some ⟨b5732, 0, none⟩)) KR KR)
          replace ha := ha.add (gotF (m := 3) (j := 2) (d := 4) (v := .int .u8 240) hf KR KR KR)
          replace ha := ha.add (gotF (m := 3) (j := 1) (d := 13) (v := .int .i64 a0.f3) hf KR KR KR)
          clear he hf
          refine stepp ha 5 (.int .i64 a0.f3) KR KR ?_; clear ha a; intro a ha
          refine endl ?_
          exact thenN ⟨240, a0.f3, h, ha.sub (subs_cons KR (subs_cons KR (subs_cons KR (subs_nil _)))), HW.pick [0] [] (by decide) (by decide) KR KR⟩
      · skip
        replace h := ite_neg' h hp5751
        refine condF ha KR KR (t := decide (a0.f3 ≥ 0)) (decide_eq_false hp5751) ?_
        refine wp_skip ?_
        exact thenN ⟨112, 0, h, ha.sub (subs_cons KR (subs_cons KR (subs_cons KR (subs_nil _)))), HW.pick [0] [] (by decide) (by decide) KR KR⟩
    · skip
      intro a W5755 hJ
      obtain ⟨x5753, x5754, h, ha, HW⟩ := hJ
      replace h : headgateref16_Bytes.j0 K a0 x5753 x5754 = some r := h
      unfold headgateref16_Bytes.j0 at h
      refine hK5748 _ _ ?_; clear hK5748
      refine wp_seq_k (fun K5756 hK5757 => ?_)
      obtain ⟨t5762, ht5763, h_⟩ := bind_some' h; clear h; have h := h_; clear h_
      obtain ⟨hA5766, h_⟩ := asrt_some h; clear h; have h := h_; clear h_
      obtain ⟨hA5771, h_⟩ := asrt_some h; clear h; have h := h_; clear h_
      refine regionG 19 KR KR ha HW [.fix (.int .u8 x5753), .fix (.pointer (some ⟨b5732, 0, none⟩)), .fix (.int .i64 a0.f0), .fix (.int .u8 (IntKind.wrap .u8 a0.f0)), .lit w 5 ([x5753, 0, IntKind.wrap .u8 a0.f0] : List Int).length #[.int .u8 x5753, .int .u8 0, .int .u8 (IntKind.wrap .u8 a0.f0)] [(b5732, .cells #[.int .i64 a0.f0, .int .i64 a0.f1, .int .i64 a0.f2, .int .i64 a0.f3] 66 (0, 0))] [], .fix (.string (strOfNums ([x5753, 0, IntKind.wrap .u8 a0.f0] : List Int))), .fix (.int .i64 x5754), .fix (.int .u64 (IntKind.wrap .u64 x5754)), .fix (.string t5762), .fix (.string ((strOfNums ([x5753, 0, IntKind.wrap .u8 a0.f0] : List Int)) ++ t5762)), .fix (.pointer (some ⟨b5732, 1, none⟩)), .fix (.int .i64 a0.f1), .fix (.int .u8 (IntKind.wrap .u8 a0.f1)), .fix (.pointer (some ⟨b5732, 2, none⟩)), .fix (.int .i64 a0.f2), .fix (.int .u8 (IntKind.wrap .u8 a0.f2)), .lit w 5 ([10, 0, 0, 0, 0, IntKind.wrap .u8 a0.f1, IntKind.wrap .u8 a0.f2, 0, 0, 0, 0] : List Int).length #[.int .u8 10, .int .u8 0, .int .u8 0, .int .u8 0, .int .u8 0, .int .u8 (IntKind.wrap .u8 a0.f1), .int .u8 (IntKind.wrap .u8 a0.f2), .int .u8 0, .int .u8 0, .int .u8 0, .int .u8 0] [(b5732, .cells #[.int .i64 a0.f0, .int .i64 a0.f1, .int .i64 a0.f2, .int .i64 a0.f3] 66 (0, 0))] [], .fix (.string (strOfNums ([10, 0, 0, 0, 0, IntKind.wrap .u8 a0.f1, IntKind.wrap .u8 a0.f2, 0, 0, 0, 0] : List Int))), .fix (.string (((strOfNums ([x5753, 0, IntKind.wrap .u8 a0.f0] : List Int)) ++ t5762) ++ (strOfNums ([10, 0, 0, 0, 0, IntKind.wrap .u8 a0.f1, IntKind.wrap .u8 a0.f2, 0, 0, 0, 0] : List Int))))] ?_ ?_
      · skip
        refine ⟨?_, ?_, ?_, ?_, ?_, ?_, ?_, ?_, ?_, ?_, ?_, ?_, ?_, ?_, ?_, ?_, ?_, ?_, ?_, trivial⟩
        · skip
          intro a wr hn hd HW hs; have ha := hasNil hn hd
          have ha := ha.add (seeE hs 4 (.int .u8 x5753) KR KR)
          refine yStep ha 14 KR ?_; intro l_ ha HK
          refine stepp ha 14 (.int .u8 x5753) KR KR ?_; intro ax hax; exact HK _ _ _ hax rfl (Below.refl _ _)
        · skip
          intro a wr hn hd HW hs; have ha := hasNil hn hd
          have ha := ha.add (seeE hs 1 (.pointer (some ⟨b5732, 0, none⟩)) KR KR)
          refine yStep ha 15 KR ?_; intro l_ ha HK
          refine stepp ha 15 (.pointer (some ⟨b5732, 0, none⟩)) KR KR ?_; intro ax hax; exact HK _ _ _ hax rfl (Below.refl _ _)
        · skip
          intro a wr hn hd HW hs; have ha := hasNil hn hd
          have ha := ha.add (seeF hs 15 1 (.pointer (some ⟨b5732, 0, none⟩)) KR KR)
          refine yStep ha 16 KR ?_; intro l_ ha HK
          refine stepl ha 16 (HW.ca (i := 0) (b := b5732) (C := #[.int .i64 a0.f0, .int .i64 a0.f1, .int .i64 a0.f2, .int .i64 a0.f3]) (T := 66) (fr := (0, 0)) KR) 3 0 (.tmp 15) (.int .i64 a0.f0) rfl KR KR KR ?_; intro ax hax; exact HK _ _ _ hax rfl (Below.refl _ _)
        · skip
          intro a wr hn hd HW hs; have ha := hasNil hn hd
          have ha := ha.add (seeF hs 16 2 (.int .i64 a0.f0) KR KR)
          refine yStep ha 17 KR ?_; intro l_ ha HK
          refine stepp ha 17 (.int .u8 (IntKind.wrap .u8 a0.f0)) KR KR ?_; intro ax hax; exact HK _ _ _ hax rfl (Below.refl _ _)
        · skip
          intro a wr hn hd HW hs; have ha := hasNil hn hd
          have ha := ha.add (seeF hs 14 0 (.int .u8 x5753) KR KR)
          have ha := ha.add (seeF hs 17 3 (.int .u8 (IntKind.wrap .u8 a0.f0)) KR KR)
          refine yStep ha 18 KR ?_; intro l_ ha HK
          refine stepbk ha (Wd.refl wr) 18 5 3 #[.int .u8 x5753, .int .u8 0, .int .u8 (IntKind.wrap .u8 a0.f0)] KR KR ?_; intro b5758 ax W5759 HV hax
          exact HK _ _ _ hax ⟨b5758, rfl, HW.callw HV⟩ HV.below
        · skip
          intro a wr hn hd HW hs; have ha := hasNil hn hd
          obtain ⟨b5758, he_, hR5761⟩ := seeL (enc := (encI .u8)) hs 18 4 1 5 #[.int .u8 x5753, .int .u8 0, .int .u8 (IntKind.wrap .u8 a0.f0)] ([x5753, 0, IntKind.wrap .u8 a0.f0] : List Int) (w1 := w) (bs1 := [(b5732, .cells #[.int .i64 a0.f0, .int .i64 a0.f1, .int .i64 a0.f2, .int .i64 a0.f3] 66 (0, 0))]) (os1 := []) KR KR (fun _ => rfl) rfl; have ha := ha.add he_
          refine yStep ha 19 KR ?_; intro l_ ha HK
          refine stepbt ha 19 97 9 5 (.tmp 18) (v := .slice (some ⟨b5758, 0, none⟩) ([x5753, 0, IntKind.wrap .u8 a0.f0] : List Int).length (([x5753, 0, IntKind.wrap .u8 a0.f0] : List Int).length)) (xs := ([x5753, 0, IntKind.wrap .u8 a0.f0] : List Int)) hR5761 rfl KR KR KR KR KR ?_; intro ax hax; exact HK _ _ _ hax rfl (Below.refl _ _)
        · skip
          intro a wr hn hd HW hs; have ha := hasNil hn hd
          have ha := ha.add (seeE hs 5 (.int .i64 x5754) KR KR)
          refine yStep ha 20 KR ?_; intro l_ ha HK
          refine stepp ha 20 (.int .i64 x5754) KR KR ?_; intro ax hax; exact HK _ _ _ hax rfl (Below.refl _ _)
        · skip
          intro a wr hn hd HW hs; have ha := hasNil hn hd
          have ha := ha.add (seeF hs 20 6 (.int .i64 x5754) KR KR)
          refine yStep ha 21 KR ?_; intro l_ ha HK
          refine stepp ha 21 (.int .u64 (IntKind.wrap .u64 x5754)) KR KR ?_; intro ax hax; exact HK _ _ _ hax rfl (Below.refl _ _)
        · skip
          intro a wr hn hd HW hs; have ha := hasNil hn hd
          have ha := ha.add (seeF hs 21 7 (.int .u64 (IntKind.wrap .u64 x5754)) KR KR)
          refine yStep ha 22 KR ?_; intro l_ ha HK
          refine stepc ha 22 KR KR (headgateref01_PutBig.calls K (IntKind.wrap .u64 x5754) 4 t5762 _ ht5763) ?_; rintro e W5764 ⟨rfl, HX5765⟩
          refine ⟨_, rfl, ?_⟩; intro ax hax; exact HK _ _ _ hax rfl HX5765.below
        · skip
          intro a wr hn hd HW hs; have ha := hasNil hn hd
          have ha := ha.add (seeF hs 19 5 (.string (strOfNums ([x5753, 0, IntKind.wrap .u8 a0.f0] : List Int))) KR KR)
          have ha := ha.add (seeF hs 22 8 (.string t5762) KR KR)
          refine yStep ha 23 KR ?_; intro l_ ha HK
          refine stepsa ha 23 9 9 (.tmp 19) (.tmp 22) (strOfNums ([x5753, 0, IntKind.wrap .u8 a0.f0] : List Int)) t5762 rfl KR KR (show (strOfNums ([x5753, 0, IntKind.wrap .u8 a0.f0] : List Int)).size + (t5762).size ≤ 9223372036854775807 from hA5766) KR ?_; intro ax hax; exact HK _ _ _ hax rfl (Below.refl _ _)
        · skip
          intro a wr hn hd HW hs; have ha := hasNil hn hd
          have ha := ha.add (seeE hs 1 (.pointer (some ⟨b5732, 0, none⟩)) KR KR)
          refine yStep ha 24 KR ?_; intro l_ ha HK
          refine stepp ha 24 (.pointer (some ⟨b5732, 1, none⟩)) KR KR ?_; intro ax hax; exact HK _ _ _ hax rfl (Below.refl _ _)
        · skip
          intro a wr hn hd HW hs; have ha := hasNil hn hd
          have ha := ha.add (seeF hs 24 10 (.pointer (some ⟨b5732, 1, none⟩)) KR KR)
          refine yStep ha 25 KR ?_; intro l_ ha HK
          refine stepl ha 25 (HW.ca (i := 0) (b := b5732) (C := #[.int .i64 a0.f0, .int .i64 a0.f1, .int .i64 a0.f2, .int .i64 a0.f3]) (T := 66) (fr := (0, 0)) KR) 3 1 (.tmp 24) (.int .i64 a0.f1) rfl KR KR KR ?_; intro ax hax; exact HK _ _ _ hax rfl (Below.refl _ _)
        · skip
          intro a wr hn hd HW hs; have ha := hasNil hn hd
          have ha := ha.add (seeF hs 25 11 (.int .i64 a0.f1) KR KR)
          refine yStep ha 26 KR ?_; intro l_ ha HK
          refine stepp ha 26 (.int .u8 (IntKind.wrap .u8 a0.f1)) KR KR ?_; intro ax hax; exact HK _ _ _ hax rfl (Below.refl _ _)
        · skip
          intro a wr hn hd HW hs; have ha := hasNil hn hd
          have ha := ha.add (seeE hs 1 (.pointer (some ⟨b5732, 0, none⟩)) KR KR)
          refine yStep ha 27 KR ?_; intro l_ ha HK
          refine stepp ha 27 (.pointer (some ⟨b5732, 2, none⟩)) KR KR ?_; intro ax hax; exact HK _ _ _ hax rfl (Below.refl _ _)
        · skip
          intro a wr hn hd HW hs; have ha := hasNil hn hd
          have ha := ha.add (seeF hs 27 13 (.pointer (some ⟨b5732, 2, none⟩)) KR KR)
          refine yStep ha 28 KR ?_; intro l_ ha HK
          refine stepl ha 28 (HW.ca (i := 0) (b := b5732) (C := #[.int .i64 a0.f0, .int .i64 a0.f1, .int .i64 a0.f2, .int .i64 a0.f3]) (T := 66) (fr := (0, 0)) KR) 3 2 (.tmp 27) (.int .i64 a0.f2) rfl KR KR KR ?_; intro ax hax; exact HK _ _ _ hax rfl (Below.refl _ _)
        · skip
          intro a wr hn hd HW hs; have ha := hasNil hn hd
          have ha := ha.add (seeF hs 28 14 (.int .i64 a0.f2) KR KR)
          refine yStep ha 29 KR ?_; intro l_ ha HK
          refine stepp ha 29 (.int .u8 (IntKind.wrap .u8 a0.f2)) KR KR ?_; intro ax hax; exact HK _ _ _ hax rfl (Below.refl _ _)
        · skip
          intro a wr hn hd HW hs; have ha := hasNil hn hd
          have ha := ha.add (seeF hs 26 12 (.int .u8 (IntKind.wrap .u8 a0.f1)) KR KR)
          have ha := ha.add (seeF hs 29 15 (.int .u8 (IntKind.wrap .u8 a0.f2)) KR KR)
          refine yStep ha 30 KR ?_; intro l_ ha HK
          refine stepbk ha (Wd.refl wr) 30 5 11 #[.int .u8 10, .int .u8 0, .int .u8 0, .int .u8 0, .int .u8 0, .int .u8 (IntKind.wrap .u8 a0.f1), .int .u8 (IntKind.wrap .u8 a0.f2), .int .u8 0, .int .u8 0, .int .u8 0, .int .u8 0] KR KR ?_; intro b5767 ax W5768 HV hax
          exact HK _ _ _ hax ⟨b5767, rfl, HW.callw HV⟩ HV.below
        · skip
          intro a wr hn hd HW hs; have ha := hasNil hn hd
          obtain ⟨b5767, he_, hR5770⟩ := seeL (enc := (encI .u8)) hs 30 16 1 5 #[.int .u8 10, .int .u8 0, .int .u8 0, .int .u8 0, .int .u8 0, .int .u8 (IntKind.wrap .u8 a0.f1), .int .u8 (IntKind.wrap .u8 a0.f2), .int .u8 0, .int .u8 0, .int .u8 0, .int .u8 0] ([10, 0, 0, 0, 0, IntKind.wrap .u8 a0.f1, IntKind.wrap .u8 a0.f2, 0, 0, 0, 0] : List Int) (w1 := w) (bs1 := [(b5732, .cells #[.int .i64 a0.f0, .int .i64 a0.f1, .int .i64 a0.f2, .int .i64 a0.f3] 66 (0, 0))]) (os1 := []) KR KR (fun _ => rfl) rfl; have ha := ha.add he_
          refine yStep ha 31 KR ?_; intro l_ ha HK
          refine stepbt ha 31 97 9 5 (.tmp 30) (v := .slice (some ⟨b5767, 0, none⟩) ([10, 0, 0, 0, 0, IntKind.wrap .u8 a0.f1, IntKind.wrap .u8 a0.f2, 0, 0, 0, 0] : List Int).length (([10, 0, 0, 0, 0, IntKind.wrap .u8 a0.f1, IntKind.wrap .u8 a0.f2, 0, 0, 0, 0] : List Int).length)) (xs := ([10, 0, 0, 0, 0, IntKind.wrap .u8 a0.f1, IntKind.wrap .u8 a0.f2, 0, 0, 0, 0] : List Int)) hR5770 rfl KR KR KR KR KR ?_; intro ax hax; exact HK _ _ _ hax rfl (Below.refl _ _)
        · skip
          intro a wr hn hd HW hs; have ha := hasNil hn hd
          have ha := ha.add (seeF hs 23 9 (.string ((strOfNums ([x5753, 0, IntKind.wrap .u8 a0.f0] : List Int)) ++ t5762)) KR KR)
          have ha := ha.add (seeF hs 31 17 (.string (strOfNums ([10, 0, 0, 0, 0, IntKind.wrap .u8 a0.f1, IntKind.wrap .u8 a0.f2, 0, 0, 0, 0] : List Int))) KR KR)
          refine yStep ha 32 KR ?_; intro l_ ha HK
          refine stepsa ha 32 9 9 (.tmp 23) (.tmp 31) ((strOfNums ([x5753, 0, IntKind.wrap .u8 a0.f0] : List Int)) ++ t5762) (strOfNums ([10, 0, 0, 0, 0, IntKind.wrap .u8 a0.f1, IntKind.wrap .u8 a0.f2, 0, 0, 0, 0] : List Int)) rfl KR KR (show ((strOfNums ([x5753, 0, IntKind.wrap .u8 a0.f0] : List Int)) ++ t5762).size + (strOfNums ([10, 0, 0, 0, 0, IntKind.wrap .u8 a0.f1, IntKind.wrap .u8 a0.f2, 0, 0, 0, 0] : List Int)).size ≤ 9223372036854775807 from hA5771) KR ?_; intro ax hax; exact HK _ _ _ hax rfl (Below.refl _ _)
      · skip
        intro a W5772 ha HW he hf
        replace ha := ha.add (gotF (m := 19) (j := 18) (d := 32) (v := .string (((strOfNums ([x5753, 0, IntKind.wrap .u8 a0.f0] : List Int)) ++ t5762) ++ (strOfNums ([10, 0, 0, 0, 0, IntKind.wrap .u8 a0.f1, IntKind.wrap .u8 a0.f2, 0, 0, 0, 0] : List Int)))) hf KR KR KR)
        clear he hf
        refine stepp ha 2 (.string (((strOfNums ([x5753, 0, IntKind.wrap .u8 a0.f0] : List Int)) ++ t5762) ++ (strOfNums ([10, 0, 0, 0, 0, IntKind.wrap .u8 a0.f1, IntKind.wrap .u8 a0.f2, 0, 0, 0, 0] : List Int)))) KR KR ?_; clear ha a; intro a ha
        refine stepp ha 3 (.int .i64 0) KR KR ?_; clear ha a; intro a ha
        refine endl ?_
        refine thenN (hK5757 _ _ ?_); clear hK5757
        refine wp_ret ?_
        obtain rfl := Option.some.inj h
        exact finv ha _ _ rfl (.tmp (v := .string (((strOfNums ([x5753, 0, IntKind.wrap .u8 a0.f0] : List Int)) ++ t5762) ++ (strOfNums ([10, 0, 0, 0, 0, IntKind.wrap .u8 a0.f1, IntKind.wrap .u8 a0.f2, 0, 0, 0, 0] : List Int)))) KR (.tmp (v := .int .i64 0) KR .nil)) (.tuple #[.string (((strOfNums ([x5753, 0, IntKind.wrap .u8 a0.f0] : List Int)) ++ t5762) ++ (strOfNums ([10, 0, 0, 0, 0, IntKind.wrap .u8 a0.f1, IntKind.wrap .u8 a0.f2, 0, 0, 0, 0] : List Int))), .int .i64 0]) rfl ⟨rfl, HW.pick [] [] (by decide) (by decide) rfl KR⟩
  · skip
    replace h := ite_neg' h hp5742
    refine condT ha KR KR (t := (!t5738)) (not_t (bool_f hp5742)) ?_
    refine wp_seq_k (fun K5743 hK5744 => ?_)
    refine wp_region_lit ?_
    refine stepp ha 2 (.string (⟨#[]⟩ : ByteArray)) KR KR ?_; clear ha a; intro a ha
    refine stepp ha 3 (.int .i64 160) KR KR ?_; clear ha a; intro a ha
    refine endl ?_
    refine thenN (hK5744 _ _ ?_); clear hK5744
    refine wp_ret ?_
    refine thenR ?_
    obtain rfl := Option.some.inj h
    exact finv ha _ _ rfl (.tmp (v := .string (⟨#[]⟩ : ByteArray)) KR (.tmp (v := .int .i64 160) KR .nil)) (.tuple #[.string (⟨#[]⟩ : ByteArray), .int .i64 160]) rfl ⟨rfl, HW.pick [] [] (by decide) (by decide) rfl KR⟩
/-! ### headgate/headgateref01.Big: function 73 -/
def headgateref01_Big.b0 (K : Nat) (a0 : ByteArray) (a1 : Int) (a2 : Int) (again5885 : Int → Int → Option (Int × Bool)) (x5886 : Int) (x5887 : Int) : Option (Int × Bool) :=
  if x5887 < a2 then (asrt (0 ≤ (IntKind.wrap .i64 (a1 + x5887))) (asrt ((IntKind.wrap .i64 (a1 + x5887)) < (a0.size : Int)) (again5885 (IntKind.wrap .u64 ((IntKind.wrap .u64 (x5886 * 256)) + (IntKind.wrap .u64 (bt a0 (IntKind.wrap .i64 (a1 + x5887)))))) (IntKind.wrap .i64 (x5887 + 1))))) else (some (x5886, true))
def headgateref01_Big.l0 (K : Nat) (a0 : ByteArray) (a1 : Int) (a2 : Int) : Nat → Int → Int → Option (Int × Bool)
  | 0, _, _ => none
  | k_ + 1, x5886, x5887 => headgateref01_Big.b0 K a0 a1 a2 (headgateref01_Big.l0 K a0 a1 a2 k_) x5886 x5887
def headgateref01_Big.f (K : Nat) (a0 : ByteArray) (a1 : Int) (a2 : Int) : Option (Int × Bool) :=
  if a2 < 1 then (some (0, false)) else (if a2 > 8 then (some (0, false)) else ((headgateref01_there.f a0 a1 a2).bind fun t5846 => (if t5846 = true then (headgateref01_Big.l0 K a0 a1 a2 K 0 0) else (some (0, false)))))
set_option maxRecDepth 100000 in
set_option maxHeartbeats 4000000 in
theorem headgateref01_Big.calls (K : Nat) (a0 : ByteArray) (a1 : Int) (a2 : Int)  (r : Int × Bool) (w : World)  (h : headgateref01_Big.f K a0 a1 a2 = some r) :
    Calls Tryd.prog 73 #[.string a0, .int .i64 a1, .int .i64 a2] w (fun e W' => e = .returned (.tuple #[.int .u64 r.1, .bool r.2]) ∧ Wd w W' [] [] ) := by
  refine sxstart (n := 38) (l := [(0, .string a0), (1, .int .i64 a1), (2, .int .i64 a2)]) Tryd.func73 rfl rfl (Nat.le_of_ble_eq_true KR) (subsA_cons rfl (subsA_cons rfl (subsA_cons rfl (subsA_nil _)))) ?_
  intro a ha
  have HW := Wd.refl w
  unfold headgateref01_Big.f at h
  refine wp_seq_k (fun K5838 hK5839 => ?_)
  refine wp_region_lit ?_
  refine stepp ha 6 (.int .u64 0) KR KR ?_; clear ha a; intro a ha
  refine stepp ha 7 (.bool false) KR KR ?_; clear ha a; intro a ha
  refine endl ?_
  refine thenN (hK5839 _ _ ?_); clear hK5839
  refine wp_seq_k (fun K5840 hK5841 => ?_)
  refine wp_seq_k (fun K5842 hK5843 => ?_)
  refine wp_region_lit ?_
  refine stepp ha 10 (.int .i64 a2) KR KR ?_; clear ha a; intro a ha
  refine stepp ha 11 (.bool (decide (a2 < 1))) KR KR ?_; clear ha a; intro a ha
  refine stepp ha 12 (.bool (decide (a2 < 1))) KR KR ?_; clear ha a; intro a ha
  by_cases hp5844 : a2 < 1
  · skip
    replace h := ite_pos' h hp5844
    replace ha := ha.bool 12 KR (decide_eq_true hp5844)
    refine stepo ha 13 KR ?_; clear ha a; intro a ha
    refine stepo ha 14 KR ?_; clear ha a; intro a ha
    refine stepp ha 15 (.bool true) KR KR ?_; clear ha a; intro a ha
    refine stepp ha 16 (.bool true) KR KR ?_; clear ha a; intro a ha
    refine stepo ha 17 KR ?_; clear ha a; intro a ha
    refine stepo ha 18 KR ?_; clear ha a; intro a ha
    refine stepo ha 19 KR ?_; clear ha a; intro a ha
    refine stepo ha 20 KR ?_; clear ha a; intro a ha
    refine stepo ha 21 KR ?_; clear ha a; intro a ha
    refine stepp ha 22 (.bool true) KR KR ?_; clear ha a; intro a ha
    refine endl ?_
    refine thenN (hK5843 _ _ ?_); clear hK5843
    refine condT ha KR KR (t := true) (rfl) ?_
    refine wp_seq_k (fun K5850 hK5851 => ?_)
    refine wp_region_lit ?_
    refine stepp ha 6 (.int .u64 0) KR KR ?_; clear ha a; intro a ha
    refine stepp ha 7 (.bool false) KR KR ?_; clear ha a; intro a ha
    refine endl ?_
    refine thenN (hK5851 _ _ ?_); clear hK5851
    refine wp_ret ?_
    refine thenR ?_
    obtain rfl := Option.some.inj h
    exact finv ha _ _ rfl (.tmp (v := .int .u64 0) KR (.tmp (v := .bool false) KR .nil)) (.tuple #[.int .u64 0, .bool false]) rfl ⟨rfl, HW.pick [] [] (by decide) (by decide) rfl KR⟩
  · skip
    replace h := ite_neg' h hp5844
    replace ha := ha.bool 12 KR (decide_eq_false hp5844)
    refine stepp ha 13 (.int .i64 a2) KR KR ?_; clear ha a; intro a ha
    refine stepp ha 14 (.bool (decide (a2 > 8))) KR KR ?_; clear ha a; intro a ha
    refine stepp ha 15 (.bool (decide (a2 > 8))) KR KR ?_; clear ha a; intro a ha
    refine stepp ha 16 (.bool (decide (a2 > 8))) KR KR ?_; clear ha a; intro a ha
    by_cases hp5845 : a2 > 8
    · skip
      replace h := ite_pos' h hp5845
      replace ha := ha.bool 16 KR (decide_eq_true hp5845)
      refine stepo ha 17 KR ?_; clear ha a; intro a ha
      refine stepo ha 18 KR ?_; clear ha a; intro a ha
      refine stepo ha 19 KR ?_; clear ha a; intro a ha
      refine stepo ha 20 KR ?_; clear ha a; intro a ha
      refine stepo ha 21 KR ?_; clear ha a; intro a ha
      refine stepp ha 22 (.bool true) KR KR ?_; clear ha a; intro a ha
      refine endl ?_
      refine thenN (hK5843 _ _ ?_); clear hK5843
      refine condT ha KR KR (t := true) (rfl) ?_
      refine wp_seq_k (fun K5852 hK5853 => ?_)
      refine wp_region_lit ?_
      refine stepp ha 6 (.int .u64 0) KR KR ?_; clear ha a; intro a ha
      refine stepp ha 7 (.bool false) KR KR ?_; clear ha a; intro a ha
      refine endl ?_
      refine thenN (hK5853 _ _ ?_); clear hK5853
      refine wp_ret ?_
      refine thenR ?_
      obtain rfl := Option.some.inj h
      exact finv ha _ _ rfl (.tmp (v := .int .u64 0) KR (.tmp (v := .bool false) KR .nil)) (.tuple #[.int .u64 0, .bool false]) rfl ⟨rfl, HW.pick [] [] (by decide) (by decide) rfl KR⟩
    · skip
      replace h := ite_neg' h hp5845
      replace ha := ha.bool 16 KR (decide_eq_false hp5845)
      refine stepp ha 17 (.string a0) KR KR ?_; clear ha a; intro a ha
      refine stepp ha 18 (.int .i64 a1) KR KR ?_; clear ha a; intro a ha
      refine stepp ha 19 (.int .i64 a2) KR KR ?_; clear ha a; intro a ha
      obtain ⟨t5846, ht5847, h_⟩ := bind_some' h; clear h; have h := h_; clear h_
      refine stepc ha 20 KR KR (headgateref01_there.calls a0 a1 a2 t5846 _ ht5847) ?_; clear ha a; rintro e W5848 ⟨rfl, HX5849⟩
      refine ⟨_, rfl, ?_⟩; intro a ha; replace HW := HW.callw HX5849; clear HX5849
      refine stepp ha 21 (.bool (!t5846)) KR KR ?_; clear ha a; intro a ha
      refine stepp ha 22 (.bool (!t5846)) KR KR ?_; clear ha a; intro a ha
      refine endl ?_
      refine thenN (hK5843 _ _ ?_); clear hK5843
      by_cases hp5854 : t5846 = true
      · skip
        replace h := ite_pos' h hp5854
        refine condF ha KR KR (t := (!t5846)) (not_f (hp5854)) ?_
        refine wp_skip ?_
        refine thenN (hK5841 _ _ ?_); clear hK5841
        refine wp_seq_k (fun K5857 hK5858 => ?_)
        refine wp_region_lit ?_
        refine stepp ha 8 (.int .u64 0) KR KR ?_; clear ha a; intro a ha
        refine endl ?_
        refine thenN (hK5858 _ _ ?_); clear hK5858
        refine wp_seq_k (fun K5859 hK5860 => ?_)
        refine wp_seq_k (fun K5861 hK5862 => ?_)
        refine wp_region_lit ?_
        refine stepp ha 9 (.int .i64 0) KR KR ?_; clear ha a; intro a ha
        refine endl ?_
        refine thenN (hK5862 _ _ ?_); clear hK5862
        refine wp_block ?_
        refine loopk (fun k => fun a W5888 => ∃ (x5886 : Int), ∃ (x5887 : Int), headgateref01_Big.l0 K a0 a1 a2 k x5886 x5887 = some r ∧ Has 38 [(0, .string a0), (1, .int .i64 a1), (2, .int .i64 a2), (8, .int .u64 x5886), (9, .int .i64 x5887)] a ∧ Wd w W5888 [] []) K ?_ ?_
        · skip
          exact ⟨0, 0, h, ha.sub (subs_cons KR (subs_cons KR (subs_cons KR (subs_cons KR (subs_cons KR (subs_nil _)))))), HW.pick [] [] (by decide) (by decide) KR KR⟩
        · skip
          intro k a W5888 hI
          obtain ⟨x5886, x5887, h, ha, HW⟩ := hI
          cases k with
          | zero => exact (none_some (show none = some r from h)).elim
          | succ k5889 =>
            replace h : headgateref01_Big.b0 K a0 a1 a2 (headgateref01_Big.l0 K a0 a1 a2 k5889) x5886 x5887 = some r := h
            obtain ⟨again5885, hag5890⟩ : ∃ g_, g_ = headgateref01_Big.l0 K a0 a1 a2 k5889 := ⟨_, rfl⟩
            rw [← hag5890] at h
            unfold headgateref01_Big.b0 at h
            refine wp_seq_k (fun K5891 hK5892 => ?_)
            refine wp_seq_k (fun K5893 hK5894 => ?_)
            refine wp_region_lit ?_
            refine stepp ha 23 (.int .i64 x5887) KR KR ?_; clear ha a; intro a ha
            refine stepp ha 24 (.int .i64 a2) KR KR ?_; clear ha a; intro a ha
            refine stepp ha 25 (.bool (decide (x5887 < a2))) KR KR ?_; clear ha a; intro a ha
            refine endl ?_
            refine thenN (hK5894 _ _ ?_); clear hK5894
            by_cases hp5895 : x5887 < a2
            · skip
              replace h := ite_pos' h hp5895
              refine condT ha KR KR (t := decide (x5887 < a2)) (decide_eq_true hp5895) ?_
              refine wp_skip ?_
              refine thenN (hK5892 _ _ ?_); clear hK5892
              refine wp_seq_k (fun K5896 hK5897 => ?_)
              refine wp_block ?_
              refine wp_region_lit ?_
              refine stepp ha 28 (.int .u64 x5886) KR KR ?_; clear ha a; intro a ha
              refine stepp ha 29 (.int .u64 (IntKind.wrap .u64 (x5886 * 256))) KR KR ?_; clear ha a; intro a ha
              refine stepp ha 30 (.string a0) KR KR ?_; clear ha a; intro a ha
              refine stepp ha 31 (.int .i64 a1) KR KR ?_; clear ha a; intro a ha
              refine stepp ha 32 (.int .i64 x5887) KR KR ?_; clear ha a; intro a ha
              refine stepp ha 33 (.int .i64 (IntKind.wrap .i64 (a1 + x5887))) KR KR ?_; clear ha a; intro a ha
              obtain ⟨hA5898, h_⟩ := asrt_some h; clear h; have h := h_; clear h_
              obtain ⟨hA5899, h_⟩ := asrt_some h; clear h; have h := h_; clear h_
              refine stepsi ha 34 9 (.tmp 30) (.tmp 33) a0 .i64 (IntKind.wrap .i64 (a1 + x5887)) rfl KR KR KR hA5898 (show (IntKind.wrap .i64 (a1 + x5887) : Int) < ((a0).size : Int) from hA5899) KR ?_; clear ha a; intro a ha
              refine stepp ha 35 (.int .u64 (IntKind.wrap .u64 (bt a0 (IntKind.wrap .i64 (a1 + x5887))))) KR KR ?_; clear ha a; intro a ha
              refine stepp ha 36 (.int .u64 (IntKind.wrap .u64 ((IntKind.wrap .u64 (x5886 * 256)) + (IntKind.wrap .u64 (bt a0 (IntKind.wrap .i64 (a1 + x5887))))))) KR KR ?_; clear ha a; intro a ha
              refine stepp ha 8 (.int .u64 (IntKind.wrap .u64 ((IntKind.wrap .u64 (x5886 * 256)) + (IntKind.wrap .u64 (bt a0 (IntKind.wrap .i64 (a1 + x5887))))))) KR KR ?_; clear ha a; intro a ha
              refine endl ?_
              refine blkN ?_
              refine thenN (hK5897 _ _ ?_); clear hK5897
              refine wp_region_lit ?_
              refine stepp ha 26 (.int .i64 x5887) KR KR ?_; clear ha a; intro a ha
              refine stepp ha 27 (.int .i64 (IntKind.wrap .i64 (x5887 + 1))) KR KR ?_; clear ha a; intro a ha
              refine stepp ha 9 (.int .i64 (IntKind.wrap .i64 (x5887 + 1))) KR KR ?_; clear ha a; intro a ha
              refine endl ?_
              exact thenN ⟨k5889, Nat.lt_succ_self k5889, IntKind.wrap .u64 ((IntKind.wrap .u64 (x5886 * 256)) + (IntKind.wrap .u64 (bt a0 (IntKind.wrap .i64 (a1 + x5887))))), IntKind.wrap .i64 (x5887 + 1), (by rw [← hag5890]; exact h), ha.sub (subs_cons KR (subs_cons KR (subs_cons KR (subs_cons KR (subs_cons KR (subs_nil _)))))), HW.pick [] [] (by decide) (by decide) KR KR⟩
            · skip
              replace h := ite_neg' h hp5895
              refine condF ha KR KR (t := decide (x5887 < a2)) (decide_eq_false hp5895) ?_
              refine wp_exit ?_
              refine thenE ?_
              refine thenE ?_
              refine inBlk ?_
              refine thenN (hK5860 _ _ ?_); clear hK5860
              refine wp_seq_k (fun K5900 hK5901 => ?_)
              refine wp_region_lit ?_
              refine stepp ha 37 (.int .u64 x5886) KR KR ?_; clear ha a; intro a ha
              refine stepp ha 6 (.int .u64 x5886) KR KR ?_; clear ha a; intro a ha
              refine stepp ha 7 (.bool true) KR KR ?_; clear ha a; intro a ha
              refine endl ?_
              refine thenN (hK5901 _ _ ?_); clear hK5901
              refine wp_ret ?_
              obtain rfl := Option.some.inj h
              exact finv ha _ _ rfl (.tmp (v := .int .u64 x5886) KR (.tmp (v := .bool true) KR .nil)) (.tuple #[.int .u64 x5886, .bool true]) rfl ⟨rfl, HW.pick [] [] (by decide) (by decide) rfl KR⟩
      · skip
        replace h := ite_neg' h hp5854
        refine condT ha KR KR (t := (!t5846)) (not_t (bool_f hp5854)) ?_
        refine wp_seq_k (fun K5855 hK5856 => ?_)
        refine wp_region_lit ?_
        refine stepp ha 6 (.int .u64 0) KR KR ?_; clear ha a; intro a ha
        refine stepp ha 7 (.bool false) KR KR ?_; clear ha a; intro a ha
        refine endl ?_
        refine thenN (hK5856 _ _ ?_); clear hK5856
        refine wp_ret ?_
        refine thenR ?_
        obtain rfl := Option.some.inj h
        exact finv ha _ _ rfl (.tmp (v := .int .u64 0) KR (.tmp (v := .bool false) KR .nil)) (.tuple #[.int .u64 0, .bool false]) rfl ⟨rfl, HW.pick [] [] (by decide) (by decide) rfl KR⟩
/-! ### headgate/headgateref16.Parse: function 40 -/
def headgateref16_Parse.j0 (K : Nat) (a0 : ByteArray) (x5936 : Int) : Option (T_api_Sense × Int) :=
  (headgateref16_Bytes.f K (⟨IntKind.wrap .i64 (bt a0 2), IntKind.wrap .i64 (bt a0 12), IntKind.wrap .i64 (bt a0 13), x5936⟩ : T_api_Sense)).bind fun t5940 => (if t5940.2 = 0 then (if t5940.1 = a0 then (some ((⟨IntKind.wrap .i64 (bt a0 2), IntKind.wrap .i64 (bt a0 12), IntKind.wrap .i64 (bt a0 13), x5936⟩ : T_api_Sense), 0)) else (some ((⟨0, 0, 0, 0⟩ : T_api_Sense), 160))) else (some ((⟨0, 0, 0, 0⟩ : T_api_Sense), 160)))
def headgateref16_Parse.f (K : Nat) (a0 : ByteArray) : Option (T_api_Sense × Int) :=
  if (a0.size : Int) = 18 then (asrt (2 < (a0.size : Int)) (asrt (12 < (a0.size : Int)) (asrt (13 < (a0.size : Int)) (asrt (0 < (a0.size : Int)) (if (bt a0 0) = 240 then ((headgateref01_Big.f K a0 3 4).bind fun t5931 => (headgateref16_Parse.j0 K a0 (IntKind.wrap .i64 t5931.1))) else (headgateref16_Parse.j0 K a0 (-1))))))) else (some ((⟨0, 0, 0, 0⟩ : T_api_Sense), 160))
set_option maxRecDepth 100000 in
set_option maxHeartbeats 4000000 in
theorem headgateref16_Parse.calls (K : Nat) (a0 : ByteArray)  (r : T_api_Sense × Int) (w : World)  (h : headgateref16_Parse.f K a0 = some r) :
    Calls Tryd.prog 40 #[.string a0] w (fun e W' => e = .returned (.tuple #[.agg #[.int .i64 r.1.f0, .int .i64 r.1.f1, .int .i64 r.1.f2, .int .i64 r.1.f3], .int .i64 r.2]) ∧ Wd w W' [] [] ) := by
  refine sxstart (n := 48) (l := [(0, .string a0)]) Tryd.func40 rfl rfl (Nat.le_of_ble_eq_true KR) (subsA_cons rfl (subsA_nil _)) ?_
  intro a ha
  have HW := Wd.refl w
  unfold headgateref16_Parse.f at h
  refine wp_seq_k (fun K5902 hK5903 => ?_)
  refine wp_region_lit ?_
  refine stepnew ha HW 2 #[.int .i64 0, .int .i64 0, .int .i64 0, .int .i64 0] 66 KR KR ?_; clear ha HW a; intro b5904 a W5905 HW ha
  refine stepp ha 3 (.int .i64 0) KR KR ?_; clear ha a; intro a ha
  refine endl ?_
  refine thenN (hK5903 _ _ ?_); clear hK5903
  refine wp_seq_k (fun K5906 hK5907 => ?_)
  refine wp_seq_k (fun K5908 hK5909 => ?_)
  refine wp_region_lit ?_
  refine stepp ha 9 (.string a0) KR KR ?_; clear ha a; intro a ha
  refine stepp ha 10 (.int .i64 (a0.size : Int)) KR KR ?_; clear ha a; intro a ha
  refine stepp ha 11 (.bool ((a0.size : Int) != 18)) KR KR ?_; clear ha a; intro a ha
  refine endl ?_
  refine thenN (hK5909 _ _ ?_); clear hK5909
  by_cases hp5910 : (a0.size : Int) = 18
  · skip
    replace h := ite_pos' h hp5910
    refine condF ha KR KR (t := ((a0.size : Int) != 18)) (ineq_f hp5910) ?_
    refine wp_skip ?_
    refine thenN (hK5907 _ _ ?_); clear hK5907
    refine wp_seq_k (fun K5914 hK5915 => ?_)
    obtain ⟨hA5916, h_⟩ := asrt_some h; clear h; have h := h_; clear h_
    obtain ⟨hA5917, h_⟩ := asrt_some h; clear h; have h := h_; clear h_
    obtain ⟨hA5918, h_⟩ := asrt_some h; clear h; have h := h_; clear h_
    refine regionG 11 KR KR ha HW [.fix (.string a0), .fix (.int .u8 (bt a0 2)), .fix (.int .i64 (IntKind.wrap .i64 (bt a0 2))), .fix (.string a0), .fix (.int .u8 (bt a0 12)), .fix (.int .i64 (IntKind.wrap .i64 (bt a0 12))), .fix (.string a0), .fix (.int .u8 (bt a0 13)), .fix (.int .i64 (IntKind.wrap .i64 (bt a0 13))), .fix (.agg #[.int .i64 (IntKind.wrap .i64 (bt a0 2)), .int .i64 (IntKind.wrap .i64 (bt a0 12)), .int .i64 (IntKind.wrap .i64 (bt a0 13)), .int .i64 (-1)]), .blk w #[.int .i64 0, .int .i64 0, .int .i64 0, .int .i64 0] 66 [(b5904, .cells #[.int .i64 0, .int .i64 0, .int .i64 0, .int .i64 0] 66 (0, 0))] []] ?_ ?_
    · skip
      refine ⟨?_, ?_, ?_, ?_, ?_, ?_, ?_, ?_, ?_, ?_, ?_, trivial⟩
      · skip
        intro a wr hn hd HW hs; have ha := hasNil hn hd
        have ha := ha.add (seeE hs 0 (.string a0) KR KR)
        refine yStep ha 13 KR ?_; intro l_ ha HK
        refine stepp ha 13 (.string a0) KR KR ?_; intro ax hax; exact HK _ _ _ hax rfl (Below.refl _ _)
      · skip
        intro a wr hn hd HW hs; have ha := hasNil hn hd
        have ha := ha.add (seeF hs 13 0 (.string a0) KR KR)
        refine yStep ha 14 KR ?_; intro l_ ha HK
        refine stepsi ha 14 9 (.tmp 13) (.const (.int .i64 2)) a0 .i64 2 rfl KR KR KR (by decide) (show (2 : Int) < ((a0).size : Int) from hA5916) KR ?_; intro ax hax; exact HK _ _ _ hax rfl (Below.refl _ _)
      · skip
        intro a wr hn hd HW hs; have ha := hasNil hn hd
        have ha := ha.add (seeF hs 14 1 (.int .u8 (bt a0 2)) KR KR)
        refine yStep ha 15 KR ?_; intro l_ ha HK
        refine stepp ha 15 (.int .i64 (IntKind.wrap .i64 (bt a0 2))) KR KR ?_; intro ax hax; exact HK _ _ _ hax rfl (Below.refl _ _)
      · skip
        intro a wr hn hd HW hs; have ha := hasNil hn hd
        have ha := ha.add (seeE hs 0 (.string a0) KR KR)
        refine yStep ha 16 KR ?_; intro l_ ha HK
        refine stepp ha 16 (.string a0) KR KR ?_; intro ax hax; exact HK _ _ _ hax rfl (Below.refl _ _)
      · skip
        intro a wr hn hd HW hs; have ha := hasNil hn hd
        have ha := ha.add (seeF hs 16 3 (.string a0) KR KR)
        refine yStep ha 17 KR ?_; intro l_ ha HK
        refine stepsi ha 17 9 (.tmp 16) (.const (.int .i64 12)) a0 .i64 12 rfl KR KR KR (by decide) (show (12 : Int) < ((a0).size : Int) from hA5917) KR ?_; intro ax hax; exact HK _ _ _ hax rfl (Below.refl _ _)
      · skip
        intro a wr hn hd HW hs; have ha := hasNil hn hd
        have ha := ha.add (seeF hs 17 4 (.int .u8 (bt a0 12)) KR KR)
        refine yStep ha 18 KR ?_; intro l_ ha HK
        refine stepp ha 18 (.int .i64 (IntKind.wrap .i64 (bt a0 12))) KR KR ?_; intro ax hax; exact HK _ _ _ hax rfl (Below.refl _ _)
      · skip
        intro a wr hn hd HW hs; have ha := hasNil hn hd
        have ha := ha.add (seeE hs 0 (.string a0) KR KR)
        refine yStep ha 19 KR ?_; intro l_ ha HK
        refine stepp ha 19 (.string a0) KR KR ?_; intro ax hax; exact HK _ _ _ hax rfl (Below.refl _ _)
      · skip
        intro a wr hn hd HW hs; have ha := hasNil hn hd
        have ha := ha.add (seeF hs 19 6 (.string a0) KR KR)
        refine yStep ha 20 KR ?_; intro l_ ha HK
        refine stepsi ha 20 9 (.tmp 19) (.const (.int .i64 13)) a0 .i64 13 rfl KR KR KR (by decide) (show (13 : Int) < ((a0).size : Int) from hA5918) KR ?_; intro ax hax; exact HK _ _ _ hax rfl (Below.refl _ _)
      · skip
        intro a wr hn hd HW hs; have ha := hasNil hn hd
        have ha := ha.add (seeF hs 20 7 (.int .u8 (bt a0 13)) KR KR)
        refine yStep ha 21 KR ?_; intro l_ ha HK
        refine stepp ha 21 (.int .i64 (IntKind.wrap .i64 (bt a0 13))) KR KR ?_; intro ax hax; exact HK _ _ _ hax rfl (Below.refl _ _)
      · skip
        intro a wr hn hd HW hs; have ha := hasNil hn hd
        have ha := ha.add (seeF hs 15 2 (.int .i64 (IntKind.wrap .i64 (bt a0 2))) KR KR)
        have ha := ha.add (seeF hs 18 5 (.int .i64 (IntKind.wrap .i64 (bt a0 12))) KR KR)
        have ha := ha.add (seeF hs 21 8 (.int .i64 (IntKind.wrap .i64 (bt a0 13))) KR KR)
        refine yStep ha 22 KR ?_; intro l_ ha HK
        refine stepp ha 22 (.agg #[.int .i64 (IntKind.wrap .i64 (bt a0 2)), .int .i64 (IntKind.wrap .i64 (bt a0 12)), .int .i64 (IntKind.wrap .i64 (bt a0 13)), .int .i64 (-1)]) KR KR ?_; intro ax hax; exact HK _ _ _ hax rfl (Below.refl _ _)
      · skip
        intro a wr hn hd HW hs; have ha := hasNil hn hd
        refine yStep ha 4 KR ?_; intro l_ ha HK
        refine stepnew ha (Wd.refl wr) 4 #[.int .i64 0, .int .i64 0, .int .i64 0, .int .i64 0] 66 KR KR ?_; intro b5919 ax W5920 HV hax
        exact HK _ _ _ hax ⟨b5919, rfl, HW.callw HV⟩ HV.below
    · skip
      intro a W5921 ha HW he hf
      replace ha := ha.add (he 0 (.string a0) KR KR)
      replace ha := ha.add (he 2 (.pointer (some ⟨b5904, 0, none⟩)) KR KR)
      obtain ⟨b5919, he_, HW⟩ := gotB (w1 := w) (m := 11) (j := 10) (d := 4) (C := #[.int .i64 0, .int .i64 0, .int .i64 0, .int .i64 0]) (T := 66) (bs1 := [(b5904, .cells #[.int .i64 0, .int .i64 0, .int .i64 0, .int .i64 0] 66 (0, 0))]) (os1 := []) hf KR KR KR; replace ha := ha.add he_; clear he_
      replace ha := ha.add (gotF (m := 11) (j := 9) (d := 22) (v := .agg #[.int .i64 (IntKind.wrap .i64 (bt a0 2)), .int .i64 (IntKind.wrap .i64 (bt a0 12)), .int .i64 (IntKind.wrap .i64 (bt a0 13)), .int .i64 (-1)]) hf KR KR KR)
      clear he hf
      refine stepst ha HW 0 (b := b5919) (C := #[.int .i64 0, .int .i64 0, .int .i64 0, .int .i64 0]) (T := 66) KR 66 0 (.tmp 4) (.tmp 22) (.agg #[.int .i64 (IntKind.wrap .i64 (bt a0 2)), .int .i64 (IntKind.wrap .i64 (bt a0 12)), .int .i64 (IntKind.wrap .i64 (bt a0 13)), .int .i64 (-1)]) #[.int .i64 (IntKind.wrap .i64 (bt a0 2)), .int .i64 (IntKind.wrap .i64 (bt a0 12)), .int .i64 (IntKind.wrap .i64 (bt a0 13)), .int .i64 (-1)] rfl KR KR KR KR KR KR KR ?_; clear ha HW a; intro a W5922 HW ha
      refine endl ?_
      refine thenN (hK5915 _ _ ?_); clear hK5915
      refine wp_seq_k (fun K5923 hK5924 => ?_)
      refine cutn (fun a W5937 => ∃ (x5936 : Int), headgateref16_Parse.j0 K a0 x5936 = some r ∧ Has 48 [(0, .string a0), (2, .pointer (some ⟨b5904, 0, none⟩)), (4, .pointer (some ⟨b5919, 0, none⟩))] a ∧ Wd w W5937 [(b5904, .cells #[.int .i64 0, .int .i64 0, .int .i64 0, .int .i64 0] 66 (0, 0)), (b5919, .cells #[.int .i64 (IntKind.wrap .i64 (bt a0 2)), .int .i64 (IntKind.wrap .i64 (bt a0 12)), .int .i64 (IntKind.wrap .i64 (bt a0 13)), .int .i64 x5936] 66 (0, 0))] []) ?_ ?_
      · skip
        refine wp_seq_k (fun K5925 hK5926 => ?_)
        refine wp_region_lit ?_
        refine stepp ha 23 (.string a0) KR KR ?_; clear ha a; intro a ha
        obtain ⟨hA5927, h_⟩ := asrt_some h; clear h; have h := h_; clear h_
        refine stepsi ha 24 9 (.tmp 23) (.const (.int .i64 0)) a0 .i64 0 rfl KR KR KR (by decide) (show (0 : Int) < ((a0).size : Int) from hA5927) KR ?_; clear ha a; intro a ha
        refine stepp ha 25 (.bool ((bt a0 0) == 240)) KR KR ?_; clear ha a; intro a ha
        refine endl ?_
        refine thenN (hK5926 _ _ ?_); clear hK5926
        by_cases hp5928 : (bt a0 0) = 240
        · skip
          replace h := ite_pos' h hp5928
          refine condT ha KR KR (t := ((bt a0 0) == 240)) (ieq_t hp5928) ?_
          refine wp_seq_k (fun K5929 hK5930 => ?_)
          refine wp_region_lit ?_
          refine stepp ha 27 (.string a0) KR KR ?_; clear ha a; intro a ha
          obtain ⟨t5931, ht5932, h_⟩ := bind_some' h; clear h; have h := h_; clear h_
          refine stepc ha 28 KR KR (headgateref01_Big.calls K a0 3 4 t5931 _ ht5932) ?_; clear ha a; rintro e W5933 ⟨rfl, HX5934⟩
          refine ⟨_, rfl, ?_⟩; intro a ha; replace HW := HW.callw HX5934; clear HX5934
          refine stepp ha 26 (.tuple #[.int .u64 t5931.1, .bool t5931.2]) KR KR ?_; clear ha a; intro a ha
          refine stepp ha 29 (.int .u64 t5931.1) KR KR ?_; clear ha a; intro a ha
          refine stepp ha 30 (.bool t5931.2) KR KR ?_; clear ha a; intro a ha
          refine stepp ha 5 (.int .u64 t5931.1) KR KR ?_; clear ha a; intro a ha
          refine stepp ha 6 (.bool t5931.2) KR KR ?_; clear ha a; intro a ha
          refine endl ?_
          refine thenN (hK5930 _ _ ?_); clear hK5930
          refine wp_region_lit ?_
          refine stepp ha 31 (.int .u64 t5931.1) KR KR ?_; clear ha a; intro a ha
          refine stepp ha 32 (.int .i64 (IntKind.wrap .i64 t5931.1)) KR KR ?_; clear ha a; intro a ha
          refine stepp ha 33 (.pointer (some ⟨b5919, 3, none⟩)) KR KR ?_; clear ha a; intro a ha
          refine stepst ha HW 0 (b := b5919) (C := #[.int .i64 (IntKind.wrap .i64 (bt a0 2)), .int .i64 (IntKind.wrap .i64 (bt a0 12)), .int .i64 (IntKind.wrap .i64 (bt a0 13)), .int .i64 (-1)]) (T := 66) KR 3 3 (.tmp 33) (.tmp 32) (.int .i64 (IntKind.wrap .i64 t5931.1)) #[.int .i64 (IntKind.wrap .i64 (bt a0 2)), .int .i64 (IntKind.wrap .i64 (bt a0 12)), .int .i64 (IntKind.wrap .i64 (bt a0 13)), .int .i64 (IntKind.wrap .i64 t5931.1)] rfl KR KR KR KR KR KR KR ?_; clear ha HW a; intro a W5935 HW ha
          refine endl ?_
          exact thenN ⟨IntKind.wrap .i64 t5931.1, h, ha.sub (subs_cons KR (subs_cons KR (subs_cons KR (subs_nil _)))), HW.pick [1, 0] [] (by decide) (by decide) KR KR⟩
        · skip
          replace h := ite_neg' h hp5928
          refine condF ha KR KR (t := ((bt a0 0) == 240)) (ieq_f hp5928) ?_
          refine wp_skip ?_
          exact thenN ⟨(-1), h, ha.sub (subs_cons KR (subs_cons KR (subs_cons KR (subs_nil _)))), HW.pick [1, 0] [] (by decide) (by decide) KR KR⟩
      · skip
        intro a W5937 hJ
        obtain ⟨x5936, h, ha, HW⟩ := hJ
        replace h : headgateref16_Parse.j0 K a0 x5936 = some r := h
        unfold headgateref16_Parse.j0 at h
        refine hK5924 _ _ ?_; clear hK5924
        refine wp_seq_k (fun K5938 hK5939 => ?_)
        refine wp_region_lit ?_
        refine stepl ha 35 (HW.ca (i := 1) (b := b5919) (C := #[.int .i64 (IntKind.wrap .i64 (bt a0 2)), .int .i64 (IntKind.wrap .i64 (bt a0 12)), .int .i64 (IntKind.wrap .i64 (bt a0 13)), .int .i64 x5936]) (T := 66) (fr := (0, 0)) KR) 66 0 (.tmp 4) (.agg #[.int .i64 (IntKind.wrap .i64 (bt a0 2)), .int .i64 (IntKind.wrap .i64 (bt a0 12)), .int .i64 (IntKind.wrap .i64 (bt a0 13)), .int .i64 x5936]) rfl KR KR KR ?_; clear ha a; intro a ha
        obtain ⟨t5940, ht5941, h_⟩ := bind_some' h; clear h; have h := h_; clear h_
        refine stepc ha 36 KR KR (headgateref16_Bytes.calls K (⟨IntKind.wrap .i64 (bt a0 2), IntKind.wrap .i64 (bt a0 12), IntKind.wrap .i64 (bt a0 13), x5936⟩ : T_api_Sense) t5940 _ ht5941) ?_; clear ha a; rintro e W5942 ⟨rfl, HX5943⟩
        refine ⟨_, rfl, ?_⟩; intro a ha; replace HW := HW.callw HX5943; clear HX5943
        refine stepp ha 34 (.tuple #[.string t5940.1, .int .i64 t5940.2]) KR KR ?_; clear ha a; intro a ha
        refine stepp ha 37 (.string t5940.1) KR KR ?_; clear ha a; intro a ha
        refine stepp ha 38 (.int .i64 t5940.2) KR KR ?_; clear ha a; intro a ha
        refine stepp ha 7 (.string t5940.1) KR KR ?_; clear ha a; intro a ha
        refine stepp ha 8 (.int .i64 t5940.2) KR KR ?_; clear ha a; intro a ha
        refine endl ?_
        refine thenN (hK5939 _ _ ?_); clear hK5939
        refine wp_seq_k (fun K5944 hK5945 => ?_)
        refine wp_seq_k (fun K5946 hK5947 => ?_)
        refine wp_region_lit ?_
        refine stepp ha 39 (.int .i64 t5940.2) KR KR ?_; clear ha a; intro a ha
        refine stepp ha 40 (.bool (t5940.2 != 0)) KR KR ?_; clear ha a; intro a ha
        refine stepp ha 41 (.bool (t5940.2 != 0)) KR KR ?_; clear ha a; intro a ha
        by_cases hp5948 : t5940.2 = 0
        · skip
          replace h := ite_pos' h hp5948
          replace ha := ha.bool 41 KR (ineq_f hp5948)
          refine stepp ha 42 (.string t5940.1) KR KR ?_; clear ha a; intro a ha
          refine stepp ha 43 (.string a0) KR KR ?_; clear ha a; intro a ha
          refine stepp ha 44 (.bool (!(t5940.1.toList == a0.toList))) KR KR ?_; clear ha a; intro a ha
          refine stepp ha 45 (.bool (!(t5940.1.toList == a0.toList))) KR KR ?_; clear ha a; intro a ha
          refine endl ?_
          refine thenN (hK5947 _ _ ?_); clear hK5947
          by_cases hp5949 : t5940.1 = a0
          · skip
            replace h := ite_pos' h hp5949
            refine condF ha KR KR (t := (!(t5940.1.toList == a0.toList))) (str_ne_f hp5949) ?_
            refine wp_skip ?_
            refine thenN (hK5945 _ _ ?_); clear hK5945
            refine wp_seq_k (fun K5956 hK5957 => ?_)
            refine wp_region_lit ?_
            refine stepl ha 47 (HW.ca (i := 1) (b := b5919) (C := #[.int .i64 (IntKind.wrap .i64 (bt a0 2)), .int .i64 (IntKind.wrap .i64 (bt a0 12)), .int .i64 (IntKind.wrap .i64 (bt a0 13)), .int .i64 x5936]) (T := 66) (fr := (0, 0)) KR) 66 0 (.tmp 4) (.agg #[.int .i64 (IntKind.wrap .i64 (bt a0 2)), .int .i64 (IntKind.wrap .i64 (bt a0 12)), .int .i64 (IntKind.wrap .i64 (bt a0 13)), .int .i64 x5936]) rfl KR KR KR ?_; clear ha a; intro a ha
            refine stepst ha HW 0 (b := b5904) (C := #[.int .i64 0, .int .i64 0, .int .i64 0, .int .i64 0]) (T := 66) KR 66 0 (.tmp 2) (.tmp 47) (.agg #[.int .i64 (IntKind.wrap .i64 (bt a0 2)), .int .i64 (IntKind.wrap .i64 (bt a0 12)), .int .i64 (IntKind.wrap .i64 (bt a0 13)), .int .i64 x5936]) #[.int .i64 (IntKind.wrap .i64 (bt a0 2)), .int .i64 (IntKind.wrap .i64 (bt a0 12)), .int .i64 (IntKind.wrap .i64 (bt a0 13)), .int .i64 x5936] rfl KR KR KR KR KR KR KR ?_; clear ha HW a; intro a W5958 HW ha
            refine stepp ha 3 (.int .i64 0) KR KR ?_; clear ha a; intro a ha
            refine endl ?_
            refine thenN (hK5957 _ _ ?_); clear hK5957
            refine wp_ret ?_
            obtain rfl := Option.some.inj h
            exact finv ha _ _ rfl (.cell (ad := ⟨b5904, 0, none⟩) (v := .agg #[.int .i64 (IntKind.wrap .i64 (bt a0 2)), .int .i64 (IntKind.wrap .i64 (bt a0 12)), .int .i64 (IntKind.wrap .i64 (bt a0 13)), .int .i64 x5936]) KR (run_loadVar_ca0 (HW.ca (i := 0) (b := b5904) (C := #[.int .i64 (IntKind.wrap .i64 (bt a0 2)), .int .i64 (IntKind.wrap .i64 (bt a0 12)), .int .i64 (IntKind.wrap .i64 (bt a0 13)), .int .i64 x5936]) (T := 66) (fr := (0, 0)) KR) 66 0 (.agg #[.int .i64 (IntKind.wrap .i64 (bt a0 2)), .int .i64 (IntKind.wrap .i64 (bt a0 12)), .int .i64 (IntKind.wrap .i64 (bt a0 13)), .int .i64 x5936]) KR) (.tmp (v := .int .i64 0) KR .nil)) (.tuple #[.agg #[.int .i64 (IntKind.wrap .i64 (bt a0 2)), .int .i64 (IntKind.wrap .i64 (bt a0 12)), .int .i64 (IntKind.wrap .i64 (bt a0 13)), .int .i64 x5936], .int .i64 0]) rfl ⟨rfl, HW.pick [] [] (by decide) (by decide) rfl KR⟩
          · skip
            replace h := ite_neg' h hp5949
            refine condT ha KR KR (t := (!(t5940.1.toList == a0.toList))) (str_ne_t hp5949) ?_
            refine wp_seq_k (fun K5950 hK5951 => ?_)
            refine wp_region_lit ?_
            refine stepp ha 46 (.agg #[.int .i64 0, .int .i64 0, .int .i64 0, .int .i64 0]) KR KR ?_; clear ha a; intro a ha
            refine stepst ha HW 0 (b := b5904) (C := #[.int .i64 0, .int .i64 0, .int .i64 0, .int .i64 0]) (T := 66) KR 66 0 (.tmp 2) (.tmp 46) (.agg #[.int .i64 0, .int .i64 0, .int .i64 0, .int .i64 0]) #[.int .i64 0, .int .i64 0, .int .i64 0, .int .i64 0] rfl KR KR KR KR KR KR KR ?_; clear ha HW a; intro a W5952 HW ha
            refine stepp ha 3 (.int .i64 160) KR KR ?_; clear ha a; intro a ha
            refine endl ?_
            refine thenN (hK5951 _ _ ?_); clear hK5951
            refine wp_ret ?_
            refine thenR ?_
            obtain rfl := Option.some.inj h
            exact finv ha _ _ rfl (.cell (ad := ⟨b5904, 0, none⟩) (v := .agg #[.int .i64 0, .int .i64 0, .int .i64 0, .int .i64 0]) KR (run_loadVar_ca0 (HW.ca (i := 0) (b := b5904) (C := #[.int .i64 0, .int .i64 0, .int .i64 0, .int .i64 0]) (T := 66) (fr := (0, 0)) KR) 66 0 (.agg #[.int .i64 0, .int .i64 0, .int .i64 0, .int .i64 0]) KR) (.tmp (v := .int .i64 160) KR .nil)) (.tuple #[.agg #[.int .i64 0, .int .i64 0, .int .i64 0, .int .i64 0], .int .i64 160]) rfl ⟨rfl, HW.pick [] [] (by decide) (by decide) rfl KR⟩
        · skip
          replace h := ite_neg' h hp5948
          replace ha := ha.bool 41 KR (ineq_t hp5948)
          refine stepo ha 42 KR ?_; clear ha a; intro a ha
          refine stepo ha 43 KR ?_; clear ha a; intro a ha
          refine stepo ha 44 KR ?_; clear ha a; intro a ha
          refine stepp ha 45 (.bool true) KR KR ?_; clear ha a; intro a ha
          refine endl ?_
          refine thenN (hK5947 _ _ ?_); clear hK5947
          refine condT ha KR KR (t := true) (rfl) ?_
          refine wp_seq_k (fun K5953 hK5954 => ?_)
          refine wp_region_lit ?_
          refine stepp ha 46 (.agg #[.int .i64 0, .int .i64 0, .int .i64 0, .int .i64 0]) KR KR ?_; clear ha a; intro a ha
          refine stepst ha HW 0 (b := b5904) (C := #[.int .i64 0, .int .i64 0, .int .i64 0, .int .i64 0]) (T := 66) KR 66 0 (.tmp 2) (.tmp 46) (.agg #[.int .i64 0, .int .i64 0, .int .i64 0, .int .i64 0]) #[.int .i64 0, .int .i64 0, .int .i64 0, .int .i64 0] rfl KR KR KR KR KR KR KR ?_; clear ha HW a; intro a W5955 HW ha
          refine stepp ha 3 (.int .i64 160) KR KR ?_; clear ha a; intro a ha
          refine endl ?_
          refine thenN (hK5954 _ _ ?_); clear hK5954
          refine wp_ret ?_
          refine thenR ?_
          obtain rfl := Option.some.inj h
          exact finv ha _ _ rfl (.cell (ad := ⟨b5904, 0, none⟩) (v := .agg #[.int .i64 0, .int .i64 0, .int .i64 0, .int .i64 0]) KR (run_loadVar_ca0 (HW.ca (i := 0) (b := b5904) (C := #[.int .i64 0, .int .i64 0, .int .i64 0, .int .i64 0]) (T := 66) (fr := (0, 0)) KR) 66 0 (.agg #[.int .i64 0, .int .i64 0, .int .i64 0, .int .i64 0]) KR) (.tmp (v := .int .i64 160) KR .nil)) (.tuple #[.agg #[.int .i64 0, .int .i64 0, .int .i64 0, .int .i64 0], .int .i64 160]) rfl ⟨rfl, HW.pick [] [] (by decide) (by decide) rfl KR⟩
  · skip
    replace h := ite_neg' h hp5910
    refine condT ha KR KR (t := ((a0.size : Int) != 18)) (ineq_t hp5910) ?_
    refine wp_seq_k (fun K5911 hK5912 => ?_)
    refine wp_region_lit ?_
    refine stepp ha 12 (.agg #[.int .i64 0, .int .i64 0, .int .i64 0, .int .i64 0]) KR KR ?_; clear ha a; intro a ha
    refine stepst ha HW 0 (b := b5904) (C := #[.int .i64 0, .int .i64 0, .int .i64 0, .int .i64 0]) (T := 66) KR 66 0 (.tmp 2) (.tmp 12) (.agg #[.int .i64 0, .int .i64 0, .int .i64 0, .int .i64 0]) #[.int .i64 0, .int .i64 0, .int .i64 0, .int .i64 0] rfl KR KR KR KR KR KR KR ?_; clear ha HW a; intro a W5913 HW ha
    refine stepp ha 3 (.int .i64 160) KR KR ?_; clear ha a; intro a ha
    refine endl ?_
    refine thenN (hK5912 _ _ ?_); clear hK5912
    refine wp_ret ?_
    refine thenR ?_
    obtain rfl := Option.some.inj h
    exact finv ha _ _ rfl (.cell (ad := ⟨b5904, 0, none⟩) (v := .agg #[.int .i64 0, .int .i64 0, .int .i64 0, .int .i64 0]) KR (run_loadVar_ca0 (HW.ca (i := 0) (b := b5904) (C := #[.int .i64 0, .int .i64 0, .int .i64 0, .int .i64 0]) (T := 66) (fr := (0, 0)) KR) 66 0 (.agg #[.int .i64 0, .int .i64 0, .int .i64 0, .int .i64 0]) KR) (.tmp (v := .int .i64 160) KR .nil)) (.tuple #[.agg #[.int .i64 0, .int .i64 0, .int .i64 0, .int .i64 0], .int .i64 160]) rfl ⟨rfl, HW.pick [] [] (by decide) (by decide) rfl KR⟩
/-! ### headgate/headgatelaw16.SenseBytes: function 9 -/
def headgatelaw16_SenseBytes.f (K : Nat) (a0 : T_api_Sense) (a1 : ByteArray) : Option Bool :=
  if (a1.size : Int) > 5000 then ((headgatelaw16_wakes.f K).bind fun t5970 => (some t5970)) else ((sense_Bytes.f K a0).bind fun t5976 => ((headgateref16_Bytes.f K a0).bind fun t5982 => ((sense_Parse.f K a1).bind fun t5988 => ((headgateref16_Parse.f K a1).bind fun t5997 => (if t5976.1 = t5982.1 then (if t5976.2 = t5982.2 then ((headgatekeep_Senses.f (⟨t5988.1.f0, t5988.1.f1, t5988.1.f2, t5988.1.f3⟩ : T_api_Sense) (⟨t5997.1.f0, t5997.1.f1, t5997.1.f2, t5997.1.f3⟩ : T_api_Sense)).bind fun t6008 => (if t6008 = true then (if t5988.2 = t5997.2 then ((headgatelaw16_wakes.f K).bind fun t6014 => (some t6014)) else (some false)) else (some false))) else (some false)) else (some false))))))
set_option maxRecDepth 100000 in
set_option maxHeartbeats 4000000 in
theorem headgatelaw16_SenseBytes.calls (K : Nat) (a0 : T_api_Sense) (a1 : ByteArray)  (r : Bool) (w : World) (hG3 : CA w 3 0 (encs T_sense_row.enc G_sense_rows).toArray) (h : headgatelaw16_SenseBytes.f K a0 a1 = some r) :
    Calls Tryd.prog 9 #[.agg #[.int .i64 a0.f0, .int .i64 a0.f1, .int .i64 a0.f2, .int .i64 a0.f3], .string a1] w (fun e W' => e = .returned (.bool r) ∧ Wd w W' [] [] ) := by
  refine sxstart (n := 58) (l := [(0, .agg #[.int .i64 a0.f0, .int .i64 a0.f1, .int .i64 a0.f2, .int .i64 a0.f3]), (1, .string a1)]) Tryd.func9 rfl rfl (Nat.le_of_ble_eq_true KR) (subsA_cons rfl (subsA_cons rfl (subsA_nil _))) ?_
  intro a ha
  have HW := Wd.refl w
  unfold headgatelaw16_SenseBytes.f at h
  refine wp_seq_k (fun K5959 hK5960 => ?_)
  refine wp_region_lit ?_
  refine stepnew ha HW 2 #[.int .i64 a0.f0, .int .i64 a0.f1, .int .i64 a0.f2, .int .i64 a0.f3] 66 KR KR ?_; clear ha HW a; intro b5961 a W5962 HW ha
  refine stepp ha 4 (.bool false) KR KR ?_; clear ha a; intro a ha
  refine endl ?_
  refine thenN (hK5960 _ _ ?_); clear hK5960
  refine wp_seq_k (fun K5963 hK5964 => ?_)
  refine wp_seq_k (fun K5965 hK5966 => ?_)
  refine wp_region_lit ?_
  refine stepp ha 13 (.string a1) KR KR ?_; clear ha a; intro a ha
  refine stepp ha 14 (.int .i64 (a1.size : Int)) KR KR ?_; clear ha a; intro a ha
  refine stepp ha 15 (.bool (decide ((a1.size : Int) > 5000))) KR KR ?_; clear ha a; intro a ha
  refine endl ?_
  refine thenN (hK5966 _ _ ?_); clear hK5966
  by_cases hp5967 : (a1.size : Int) > 5000
  · skip
    replace h := ite_pos' h hp5967
    refine condT ha KR KR (t := decide ((a1.size : Int) > 5000)) (decide_eq_true hp5967) ?_
    refine wp_seq_k (fun K5968 hK5969 => ?_)
    refine wp_region_lit ?_
    obtain ⟨t5970, ht5971, h_⟩ := bind_some' h; clear h; have h := h_; clear h_
    refine stepc ha 16 KR KR (headgatelaw16_wakes.calls K t5970 _ (HW.ca0 hG3) ht5971) ?_; clear ha a; rintro e W5972 ⟨rfl, HX5973⟩
    refine ⟨_, rfl, ?_⟩; intro a ha; replace HW := HW.callw HX5973; clear HX5973
    refine stepp ha 4 (.bool t5970) KR KR ?_; clear ha a; intro a ha
    refine endl ?_
    refine thenN (hK5969 _ _ ?_); clear hK5969
    refine wp_ret ?_
    refine thenR ?_
    obtain rfl := Option.some.inj h
    exact finv ha _ _ rfl (.tmp (v := .bool t5970) KR .nil) (.bool t5970) rfl ⟨rfl, HW.pick [] [] (by decide) (by decide) rfl KR⟩
  · skip
    replace h := ite_neg' h hp5967
    refine condF ha KR KR (t := decide ((a1.size : Int) > 5000)) (decide_eq_false hp5967) ?_
    refine wp_skip ?_
    refine thenN (hK5964 _ _ ?_); clear hK5964
    refine wp_seq_k (fun K5974 hK5975 => ?_)
    refine wp_region_lit ?_
    refine stepl ha 18 (HW.ca (i := 0) (b := b5961) (C := #[.int .i64 a0.f0, .int .i64 a0.f1, .int .i64 a0.f2, .int .i64 a0.f3]) (T := 66) (fr := (0, 0)) KR) 66 0 (.tmp 2) (.agg #[.int .i64 a0.f0, .int .i64 a0.f1, .int .i64 a0.f2, .int .i64 a0.f3]) rfl KR KR KR ?_; clear ha a; intro a ha
    obtain ⟨t5976, ht5977, h_⟩ := bind_some' h; clear h; have h := h_; clear h_
    refine stepc ha 19 KR KR (sense_Bytes.calls K a0 t5976 _ ht5977) ?_; clear ha a; rintro e W5978 ⟨rfl, HX5979⟩
    refine ⟨_, rfl, ?_⟩; intro a ha; replace HW := HW.callw HX5979; clear HX5979
    refine stepp ha 17 (.tuple #[.string t5976.1, .int .i64 t5976.2]) KR KR ?_; clear ha a; intro a ha
    refine stepp ha 20 (.string t5976.1) KR KR ?_; clear ha a; intro a ha
    refine stepp ha 21 (.int .i64 t5976.2) KR KR ?_; clear ha a; intro a ha
    refine stepp ha 5 (.string t5976.1) KR KR ?_; clear ha a; intro a ha
    refine stepp ha 6 (.int .i64 t5976.2) KR KR ?_; clear ha a; intro a ha
    refine endl ?_
    refine thenN (hK5975 _ _ ?_); clear hK5975
    refine wp_seq_k (fun K5980 hK5981 => ?_)
    refine wp_region_lit ?_
    refine stepl ha 23 (HW.ca (i := 0) (b := b5961) (C := #[.int .i64 a0.f0, .int .i64 a0.f1, .int .i64 a0.f2, .int .i64 a0.f3]) (T := 66) (fr := (0, 0)) KR) 66 0 (.tmp 2) (.agg #[.int .i64 a0.f0, .int .i64 a0.f1, .int .i64 a0.f2, .int .i64 a0.f3]) rfl KR KR KR ?_; clear ha a; intro a ha
    obtain ⟨t5982, ht5983, h_⟩ := bind_some' h; clear h; have h := h_; clear h_
    refine stepc ha 24 KR KR (headgateref16_Bytes.calls K a0 t5982 _ ht5983) ?_; clear ha a; rintro e W5984 ⟨rfl, HX5985⟩
    refine ⟨_, rfl, ?_⟩; intro a ha; replace HW := HW.callw HX5985; clear HX5985
    refine stepp ha 22 (.tuple #[.string t5982.1, .int .i64 t5982.2]) KR KR ?_; clear ha a; intro a ha
    refine stepp ha 25 (.string t5982.1) KR KR ?_; clear ha a; intro a ha
    refine stepp ha 26 (.int .i64 t5982.2) KR KR ?_; clear ha a; intro a ha
    refine stepp ha 7 (.string t5982.1) KR KR ?_; clear ha a; intro a ha
    refine stepp ha 8 (.int .i64 t5982.2) KR KR ?_; clear ha a; intro a ha
    refine endl ?_
    refine thenN (hK5981 _ _ ?_); clear hK5981
    refine wp_seq_k (fun K5986 hK5987 => ?_)
    refine wp_region_lit ?_
    refine stepp ha 28 (.string a1) KR KR ?_; clear ha a; intro a ha
    obtain ⟨t5988, ht5989, h_⟩ := bind_some' h; clear h; have h := h_; clear h_
    refine stepc ha 29 KR KR (sense_Parse.calls K a1 t5988 _ ht5989) ?_; clear ha a; rintro e W5990 ⟨rfl, HX5991⟩
    refine ⟨_, rfl, ?_⟩; intro a ha; replace HW := HW.callw HX5991; clear HX5991
    refine stepp ha 27 (.tuple #[.agg #[.int .i64 t5988.1.f0, .int .i64 t5988.1.f1, .int .i64 t5988.1.f2, .int .i64 t5988.1.f3], .int .i64 t5988.2]) KR KR ?_; clear ha a; intro a ha
    refine stepp ha 30 (.agg #[.int .i64 t5988.1.f0, .int .i64 t5988.1.f1, .int .i64 t5988.1.f2, .int .i64 t5988.1.f3]) KR KR ?_; clear ha a; intro a ha
    refine stepp ha 31 (.int .i64 t5988.2) KR KR ?_; clear ha a; intro a ha
    refine stepnew ha HW 9 #[.int .i64 0, .int .i64 0, .int .i64 0, .int .i64 0] 66 KR KR ?_; clear ha HW a; intro b5992 a W5993 HW ha
    refine stepst ha HW 0 (b := b5992) (C := #[.int .i64 0, .int .i64 0, .int .i64 0, .int .i64 0]) (T := 66) KR 66 0 (.tmp 9) (.tmp 30) (.agg #[.int .i64 t5988.1.f0, .int .i64 t5988.1.f1, .int .i64 t5988.1.f2, .int .i64 t5988.1.f3]) #[.int .i64 t5988.1.f0, .int .i64 t5988.1.f1, .int .i64 t5988.1.f2, .int .i64 t5988.1.f3] rfl KR KR KR KR KR KR KR ?_; clear ha HW a; intro a W5994 HW ha
    refine stepp ha 10 (.int .i64 t5988.2) KR KR ?_; clear ha a; intro a ha
    refine endl ?_
    refine thenN (hK5987 _ _ ?_); clear hK5987
    refine wp_seq_k (fun K5995 hK5996 => ?_)
    refine wp_region_lit ?_
    refine stepp ha 33 (.string a1) KR KR ?_; clear ha a; intro a ha
    obtain ⟨t5997, ht5998, h_⟩ := bind_some' h; clear h; have h := h_; clear h_
    refine stepc ha 34 KR KR (headgateref16_Parse.calls K a1 t5997 _ ht5998) ?_; clear ha a; rintro e W5999 ⟨rfl, HX6000⟩
    refine ⟨_, rfl, ?_⟩; intro a ha; replace HW := HW.callw HX6000; clear HX6000
    refine stepp ha 32 (.tuple #[.agg #[.int .i64 t5997.1.f0, .int .i64 t5997.1.f1, .int .i64 t5997.1.f2, .int .i64 t5997.1.f3], .int .i64 t5997.2]) KR KR ?_; clear ha a; intro a ha
    refine stepp ha 35 (.agg #[.int .i64 t5997.1.f0, .int .i64 t5997.1.f1, .int .i64 t5997.1.f2, .int .i64 t5997.1.f3]) KR KR ?_; clear ha a; intro a ha
    refine stepp ha 36 (.int .i64 t5997.2) KR KR ?_; clear ha a; intro a ha
    refine stepnew ha HW 11 #[.int .i64 0, .int .i64 0, .int .i64 0, .int .i64 0] 66 KR KR ?_; clear ha HW a; intro b6001 a W6002 HW ha
    refine stepst ha HW 0 (b := b6001) (C := #[.int .i64 0, .int .i64 0, .int .i64 0, .int .i64 0]) (T := 66) KR 66 0 (.tmp 11) (.tmp 35) (.agg #[.int .i64 t5997.1.f0, .int .i64 t5997.1.f1, .int .i64 t5997.1.f2, .int .i64 t5997.1.f3]) #[.int .i64 t5997.1.f0, .int .i64 t5997.1.f1, .int .i64 t5997.1.f2, .int .i64 t5997.1.f3] rfl KR KR KR KR KR KR KR ?_; clear ha HW a; intro a W6003 HW ha
    refine stepp ha 12 (.int .i64 t5997.2) KR KR ?_; clear ha a; intro a ha
    refine endl ?_
    refine thenN (hK5996 _ _ ?_); clear hK5996
    refine wp_seq_k (fun K6004 hK6005 => ?_)
    refine wp_region_lit ?_
    refine stepp ha 37 (.string t5976.1) KR KR ?_; clear ha a; intro a ha
    refine stepp ha 38 (.string t5982.1) KR KR ?_; clear ha a; intro a ha
    refine stepp ha 39 (.bool (t5976.1.toList == t5982.1.toList)) KR KR ?_; clear ha a; intro a ha
    refine stepp ha 40 (.bool (t5976.1.toList == t5982.1.toList)) KR KR ?_; clear ha a; intro a ha
    by_cases hp6006 : t5976.1 = t5982.1
    · skip
      replace h := ite_pos' h hp6006
      replace ha := ha.bool 40 KR (str_eq_t hp6006)
      refine stepp ha 41 (.int .i64 t5976.2) KR KR ?_; clear ha a; intro a ha
      refine stepp ha 42 (.int .i64 t5982.2) KR KR ?_; clear ha a; intro a ha
      refine stepp ha 43 (.bool (t5976.2 == t5982.2)) KR KR ?_; clear ha a; intro a ha
      refine stepp ha 44 (.bool (t5976.2 == t5982.2)) KR KR ?_; clear ha a; intro a ha
      refine stepp ha 45 (.bool (t5976.2 == t5982.2)) KR KR ?_; clear ha a; intro a ha
      by_cases hp6007 : t5976.2 = t5982.2
      · skip
        replace h := ite_pos' h hp6007
        replace ha := ha.bool 45 KR (ieq_t hp6007)
        refine stepl ha 46 (HW.ca (i := 1) (b := b5992) (C := #[.int .i64 t5988.1.f0, .int .i64 t5988.1.f1, .int .i64 t5988.1.f2, .int .i64 t5988.1.f3]) (T := 66) (fr := (0, 0)) KR) 66 0 (.tmp 9) (.agg #[.int .i64 t5988.1.f0, .int .i64 t5988.1.f1, .int .i64 t5988.1.f2, .int .i64 t5988.1.f3]) rfl KR KR KR ?_; clear ha a; intro a ha
        refine stepl ha 47 (HW.ca (i := 0) (b := b6001) (C := #[.int .i64 t5997.1.f0, .int .i64 t5997.1.f1, .int .i64 t5997.1.f2, .int .i64 t5997.1.f3]) (T := 66) (fr := (0, 0)) KR) 66 0 (.tmp 11) (.agg #[.int .i64 t5997.1.f0, .int .i64 t5997.1.f1, .int .i64 t5997.1.f2, .int .i64 t5997.1.f3]) rfl KR KR KR ?_; clear ha a; intro a ha
        obtain ⟨t6008, ht6009, h_⟩ := bind_some' h; clear h; have h := h_; clear h_
        refine stepc ha 48 KR KR (headgatekeep_Senses.calls (⟨t5988.1.f0, t5988.1.f1, t5988.1.f2, t5988.1.f3⟩ : T_api_Sense) (⟨t5997.1.f0, t5997.1.f1, t5997.1.f2, t5997.1.f3⟩ : T_api_Sense) t6008 _ ht6009) ?_; clear ha a; rintro e W6010 ⟨rfl, HX6011⟩
        refine ⟨_, rfl, ?_⟩; intro a ha; replace HW := HW.callw HX6011; clear HX6011
        refine stepp ha 49 (.bool t6008) KR KR ?_; clear ha a; intro a ha
        refine stepp ha 50 (.bool t6008) KR KR ?_; clear ha a; intro a ha
        by_cases hp6012 : t6008 = true
        · skip
          replace h := ite_pos' h hp6012
          replace ha := ha.bool 50 KR (hp6012)
          refine stepp ha 51 (.int .i64 t5988.2) KR KR ?_; clear ha a; intro a ha
          refine stepp ha 52 (.int .i64 t5997.2) KR KR ?_; clear ha a; intro a ha
          refine stepp ha 53 (.bool (t5988.2 == t5997.2)) KR KR ?_; clear ha a; intro a ha
          refine stepp ha 54 (.bool (t5988.2 == t5997.2)) KR KR ?_; clear ha a; intro a ha
          refine stepp ha 55 (.bool (t5988.2 == t5997.2)) KR KR ?_; clear ha a; intro a ha
          by_cases hp6013 : t5988.2 = t5997.2
          · skip
            replace h := ite_pos' h hp6013
            replace ha := ha.bool 55 KR (ieq_t hp6013)
            obtain ⟨t6014, ht6015, h_⟩ := bind_some' h; clear h; have h := h_; clear h_
            refine stepc ha 56 KR KR (headgatelaw16_wakes.calls K t6014 _ (HW.ca0 hG3) ht6015) ?_; clear ha a; rintro e W6016 ⟨rfl, HX6017⟩
            refine ⟨_, rfl, ?_⟩; intro a ha; replace HW := HW.callw HX6017; clear HX6017
            refine stepp ha 57 (.bool t6014) KR KR ?_; clear ha a; intro a ha
            refine stepp ha 4 (.bool t6014) KR KR ?_; clear ha a; intro a ha
            refine endl ?_
            refine thenN (hK6005 _ _ ?_); clear hK6005
            refine wp_ret ?_
            obtain rfl := Option.some.inj h
            exact finv ha _ _ rfl (.tmp (v := .bool t6014) KR .nil) (.bool t6014) rfl ⟨rfl, HW.pick [] [] (by decide) (by decide) rfl KR⟩
          · skip
            replace h := ite_neg' h hp6013
            replace ha := ha.bool 55 KR (ieq_f hp6013)
            refine stepo ha 56 KR ?_; clear ha a; intro a ha
            refine stepp ha 57 (.bool false) KR KR ?_; clear ha a; intro a ha
            refine stepp ha 4 (.bool false) KR KR ?_; clear ha a; intro a ha
            refine endl ?_
            refine thenN (hK6005 _ _ ?_); clear hK6005
            refine wp_ret ?_
            obtain rfl := Option.some.inj h
            exact finv ha _ _ rfl (.tmp (v := .bool false) KR .nil) (.bool false) rfl ⟨rfl, HW.pick [] [] (by decide) (by decide) rfl KR⟩
        · skip
          replace h := ite_neg' h hp6012
          replace ha := ha.bool 50 KR (bool_f hp6012)
          refine stepo ha 51 KR ?_; clear ha a; intro a ha
          refine stepo ha 52 KR ?_; clear ha a; intro a ha
          refine stepo ha 53 KR ?_; clear ha a; intro a ha
          refine stepp ha 54 (.bool false) KR KR ?_; clear ha a; intro a ha
          refine stepp ha 55 (.bool false) KR KR ?_; clear ha a; intro a ha
          refine stepo ha 56 KR ?_; clear ha a; intro a ha
          refine stepp ha 57 (.bool false) KR KR ?_; clear ha a; intro a ha
          refine stepp ha 4 (.bool false) KR KR ?_; clear ha a; intro a ha
          refine endl ?_
          refine thenN (hK6005 _ _ ?_); clear hK6005
          refine wp_ret ?_
          obtain rfl := Option.some.inj h
          exact finv ha _ _ rfl (.tmp (v := .bool false) KR .nil) (.bool false) rfl ⟨rfl, HW.pick [] [] (by decide) (by decide) rfl KR⟩
      · skip
        replace h := ite_neg' h hp6007
        replace ha := ha.bool 45 KR (ieq_f hp6007)
        refine stepo ha 46 KR ?_; clear ha a; intro a ha
        refine stepo ha 47 KR ?_; clear ha a; intro a ha
        refine stepo ha 48 KR ?_; clear ha a; intro a ha
        refine stepp ha 49 (.bool false) KR KR ?_; clear ha a; intro a ha
        refine stepp ha 50 (.bool false) KR KR ?_; clear ha a; intro a ha
        refine stepo ha 51 KR ?_; clear ha a; intro a ha
        refine stepo ha 52 KR ?_; clear ha a; intro a ha
        refine stepo ha 53 KR ?_; clear ha a; intro a ha
        refine stepp ha 54 (.bool false) KR KR ?_; clear ha a; intro a ha
        refine stepp ha 55 (.bool false) KR KR ?_; clear ha a; intro a ha
        refine stepo ha 56 KR ?_; clear ha a; intro a ha
        refine stepp ha 57 (.bool false) KR KR ?_; clear ha a; intro a ha
        refine stepp ha 4 (.bool false) KR KR ?_; clear ha a; intro a ha
        refine endl ?_
        refine thenN (hK6005 _ _ ?_); clear hK6005
        refine wp_ret ?_
        obtain rfl := Option.some.inj h
        exact finv ha _ _ rfl (.tmp (v := .bool false) KR .nil) (.bool false) rfl ⟨rfl, HW.pick [] [] (by decide) (by decide) rfl KR⟩
    · skip
      replace h := ite_neg' h hp6006
      replace ha := ha.bool 40 KR (str_eq_f hp6006)
      refine stepo ha 41 KR ?_; clear ha a; intro a ha
      refine stepo ha 42 KR ?_; clear ha a; intro a ha
      refine stepo ha 43 KR ?_; clear ha a; intro a ha
      refine stepp ha 44 (.bool false) KR KR ?_; clear ha a; intro a ha
      refine stepp ha 45 (.bool false) KR KR ?_; clear ha a; intro a ha
      refine stepo ha 46 KR ?_; clear ha a; intro a ha
      refine stepo ha 47 KR ?_; clear ha a; intro a ha
      refine stepo ha 48 KR ?_; clear ha a; intro a ha
      refine stepp ha 49 (.bool false) KR KR ?_; clear ha a; intro a ha
      refine stepp ha 50 (.bool false) KR KR ?_; clear ha a; intro a ha
      refine stepo ha 51 KR ?_; clear ha a; intro a ha
      refine stepo ha 52 KR ?_; clear ha a; intro a ha
      refine stepo ha 53 KR ?_; clear ha a; intro a ha
      refine stepp ha 54 (.bool false) KR KR ?_; clear ha a; intro a ha
      refine stepp ha 55 (.bool false) KR KR ?_; clear ha a; intro a ha
      refine stepo ha 56 KR ?_; clear ha a; intro a ha
      refine stepp ha 57 (.bool false) KR KR ?_; clear ha a; intro a ha
      refine stepp ha 4 (.bool false) KR KR ?_; clear ha a; intro a ha
      refine endl ?_
      refine thenN (hK6005 _ _ ?_); clear hK6005
      refine wp_ret ?_
      obtain rfl := Option.some.inj h
      exact finv ha _ _ rfl (.tmp (v := .bool false) KR .nil) (.bool false) rfl ⟨rfl, HW.pick [] [] (by decide) (by decide) rfl KR⟩
end Go.Proofs.YthjjbkgifelooaaDoor.F
