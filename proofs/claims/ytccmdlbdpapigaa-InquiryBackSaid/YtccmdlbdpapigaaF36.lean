/- headgate/headgateref01.there: plain functions, and that the calls come to what they say. No condition. -/
import Derived.Test.YtccmdlbdpapigaaFT
namespace Go.Proofs.Ytccmdlbdpapigaa.F
open Go Go.RowKit Go.Proofs.Ytccmdlbdpapigaa.X
set_option linter.unusedVariables false
set_option linter.unusedSimpArgs false
/-! ### headgate/headgateref01.there: function 36 -/
def headgateref01_there.f (a0 : ByteArray) (a1 : Int) (a2 : Int) : Option Bool :=
  if a1 ≥ 0 then (if a2 ≥ 0 then (if a1 ≤ (a0.size : Int) then (some (decide (a2 ≤ (IntKind.wrap .i64 ((a0.size : Int) - a1))))) else (some false)) else (some false)) else (some false)
set_option maxRecDepth 100000 in
set_option maxHeartbeats 4000000 in
theorem headgateref01_there.calls (a0 : ByteArray) (a1 : Int) (a2 : Int)  (r : Bool) (w : World)  (h : headgateref01_there.f a0 a1 a2 = some r) :
    Calls Try.prog 36 #[.string a0, .int .i64 a1, .int .i64 a2] w (fun e W' => e = .returned (.bool r) ∧ Wd w W' [] [] ) := by
  refine sxstart (n := 27) (l := [(0, .string a0), (1, .int .i64 a1), (2, .int .i64 a2)]) Try.func36 rfl rfl (Nat.le_of_ble_eq_true KR) (subsA_cons rfl (subsA_cons rfl (subsA_cons rfl (subsA_nil _)))) ?_
  intro a ha
  have HW := Wd.refl w
  unfold headgateref01_there.f at h
  refine wp_seq_k (fun K578 hK579 => ?_)
  refine wp_region_lit ?_
  refine stepp ha 6 (.bool false) KR KR ?_; clear ha a; intro a ha
  refine endl ?_
  refine thenN (hK579 _ _ ?_); clear hK579
  refine wp_seq_k (fun K580 hK581 => ?_)
  refine wp_region_lit ?_
  refine stepp ha 7 (.int .i64 a1) KR KR ?_; clear ha a; intro a ha
  refine stepp ha 8 (.bool (decide (a1 ≥ 0))) KR KR ?_; clear ha a; intro a ha
  refine stepp ha 9 (.bool (decide (a1 ≥ 0))) KR KR ?_; clear ha a; intro a ha
  by_cases hp582 : a1 ≥ 0
  · skip
    replace h := ite_pos' h hp582
    replace ha := ha.bool 9 KR (decide_eq_true hp582)
    refine stepp ha 10 (.int .i64 a2) KR KR ?_; clear ha a; intro a ha
    refine stepp ha 11 (.bool (decide (a2 ≥ 0))) KR KR ?_; clear ha a; intro a ha
    refine stepp ha 12 (.bool (decide (a2 ≥ 0))) KR KR ?_; clear ha a; intro a ha
    refine stepp ha 13 (.bool (decide (a2 ≥ 0))) KR KR ?_; clear ha a; intro a ha
    by_cases hp583 : a2 ≥ 0
    · skip
      replace h := ite_pos' h hp583
      replace ha := ha.bool 13 KR (decide_eq_true hp583)
      refine stepp ha 14 (.int .i64 a1) KR KR ?_; clear ha a; intro a ha
      refine stepp ha 15 (.string a0) KR KR ?_; clear ha a; intro a ha
      refine stepp ha 16 (.int .i64 (a0.size : Int)) KR KR ?_; clear ha a; intro a ha
      refine stepp ha 17 (.bool (decide (a1 ≤ (a0.size : Int)))) KR KR ?_; clear ha a; intro a ha
      refine stepp ha 18 (.bool (decide (a1 ≤ (a0.size : Int)))) KR KR ?_; clear ha a; intro a ha
      refine stepp ha 19 (.bool (decide (a1 ≤ (a0.size : Int)))) KR KR ?_; clear ha a; intro a ha
      by_cases hp584 : a1 ≤ (a0.size : Int)
      · skip
        replace h := ite_pos' h hp584
        replace ha := ha.bool 19 KR (decide_eq_true hp584)
        refine stepp ha 20 (.int .i64 a2) KR KR ?_; clear ha a; intro a ha
        refine stepp ha 21 (.string a0) KR KR ?_; clear ha a; intro a ha
        refine stepp ha 22 (.int .i64 (a0.size : Int)) KR KR ?_; clear ha a; intro a ha
        refine stepp ha 23 (.int .i64 a1) KR KR ?_; clear ha a; intro a ha
        refine stepp ha 24 (.int .i64 (IntKind.wrap .i64 ((a0.size : Int) - a1))) KR KR ?_; clear ha a; intro a ha
        refine stepp ha 25 (.bool (decide (a2 ≤ (IntKind.wrap .i64 ((a0.size : Int) - a1))))) KR KR ?_; clear ha a; intro a ha
        refine stepp ha 26 (.bool (decide (a2 ≤ (IntKind.wrap .i64 ((a0.size : Int) - a1))))) KR KR ?_; clear ha a; intro a ha
        refine stepp ha 6 (.bool (decide (a2 ≤ (IntKind.wrap .i64 ((a0.size : Int) - a1))))) KR KR ?_; clear ha a; intro a ha
        refine endl ?_
        refine thenN (hK581 _ _ ?_); clear hK581
        refine wp_ret ?_
        obtain rfl := Option.some.inj h
        exact finv ha _ _ rfl (.tmp (v := .bool (decide (a2 ≤ (IntKind.wrap .i64 ((a0.size : Int) - a1))))) KR .nil) (.bool (decide (a2 ≤ (IntKind.wrap .i64 ((a0.size : Int) - a1))))) rfl ⟨rfl, HW.pick [] [] (by decide) (by decide) rfl KR⟩
      · skip
        replace h := ite_neg' h hp584
        replace ha := ha.bool 19 KR (decide_eq_false hp584)
        refine stepo ha 20 KR ?_; clear ha a; intro a ha
        refine stepo ha 21 KR ?_; clear ha a; intro a ha
        refine stepo ha 22 KR ?_; clear ha a; intro a ha
        refine stepo ha 23 KR ?_; clear ha a; intro a ha
        refine stepo ha 24 KR ?_; clear ha a; intro a ha
        refine stepo ha 25 KR ?_; clear ha a; intro a ha
        refine stepp ha 26 (.bool false) KR KR ?_; clear ha a; intro a ha
        refine stepp ha 6 (.bool false) KR KR ?_; clear ha a; intro a ha
        refine endl ?_
        refine thenN (hK581 _ _ ?_); clear hK581
        refine wp_ret ?_
        obtain rfl := Option.some.inj h
        exact finv ha _ _ rfl (.tmp (v := .bool false) KR .nil) (.bool false) rfl ⟨rfl, HW.pick [] [] (by decide) (by decide) rfl KR⟩
    · skip
      replace h := ite_neg' h hp583
      replace ha := ha.bool 13 KR (decide_eq_false hp583)
      refine stepo ha 14 KR ?_; clear ha a; intro a ha
      refine stepo ha 15 KR ?_; clear ha a; intro a ha
      refine stepo ha 16 KR ?_; clear ha a; intro a ha
      refine stepo ha 17 KR ?_; clear ha a; intro a ha
      refine stepp ha 18 (.bool false) KR KR ?_; clear ha a; intro a ha
      refine stepp ha 19 (.bool false) KR KR ?_; clear ha a; intro a ha
      refine stepo ha 20 KR ?_; clear ha a; intro a ha
      refine stepo ha 21 KR ?_; clear ha a; intro a ha
      refine stepo ha 22 KR ?_; clear ha a; intro a ha
      refine stepo ha 23 KR ?_; clear ha a; intro a ha
      refine stepo ha 24 KR ?_; clear ha a; intro a ha
      refine stepo ha 25 KR ?_; clear ha a; intro a ha
      refine stepp ha 26 (.bool false) KR KR ?_; clear ha a; intro a ha
      refine stepp ha 6 (.bool false) KR KR ?_; clear ha a; intro a ha
      refine endl ?_
      refine thenN (hK581 _ _ ?_); clear hK581
      refine wp_ret ?_
      obtain rfl := Option.some.inj h
      exact finv ha _ _ rfl (.tmp (v := .bool false) KR .nil) (.bool false) rfl ⟨rfl, HW.pick [] [] (by decide) (by decide) rfl KR⟩
  · skip
    replace h := ite_neg' h hp582
    replace ha := ha.bool 9 KR (decide_eq_false hp582)
    refine stepo ha 10 KR ?_; clear ha a; intro a ha
    refine stepo ha 11 KR ?_; clear ha a; intro a ha
    refine stepp ha 12 (.bool false) KR KR ?_; clear ha a; intro a ha
    refine stepp ha 13 (.bool false) KR KR ?_; clear ha a; intro a ha
    refine stepo ha 14 KR ?_; clear ha a; intro a ha
    refine stepo ha 15 KR ?_; clear ha a; intro a ha
    refine stepo ha 16 KR ?_; clear ha a; intro a ha
    refine stepo ha 17 KR ?_; clear ha a; intro a ha
    refine stepp ha 18 (.bool false) KR KR ?_; clear ha a; intro a ha
    refine stepp ha 19 (.bool false) KR KR ?_; clear ha a; intro a ha
    refine stepo ha 20 KR ?_; clear ha a; intro a ha
    refine stepo ha 21 KR ?_; clear ha a; intro a ha
    refine stepo ha 22 KR ?_; clear ha a; intro a ha
    refine stepo ha 23 KR ?_; clear ha a; intro a ha
    refine stepo ha 24 KR ?_; clear ha a; intro a ha
    refine stepo ha 25 KR ?_; clear ha a; intro a ha
    refine stepp ha 26 (.bool false) KR KR ?_; clear ha a; intro a ha
    refine stepp ha 6 (.bool false) KR KR ?_; clear ha a; intro a ha
    refine endl ?_
    refine thenN (hK581 _ _ ?_); clear hK581
    refine wp_ret ?_
    obtain rfl := Option.some.inj h
    exact finv ha _ _ rfl (.tmp (v := .bool false) KR .nil) (.bool false) rfl ⟨rfl, HW.pick [] [] (by decide) (by decide) rfl KR⟩
end Go.Proofs.Ytccmdlbdpapigaa.F
