/- headgate/headgateref25.in: a plain function, and that the call comes to what it says. No condition. -/
import Derived.Test.YtceagilmillgfaaDoorFT
namespace Go.Proofs.YtceagilmillgfaaDoor.F
open Go Go.RowKit Go.Proofs.YtceagilmillgfaaDoor.X
set_option linter.unusedVariables false
set_option linter.unusedSimpArgs false
/-! ### headgate/headgateref25.in: function 45 -/
def headgateref25_in.f (a0 : Int) (a1 : Int) : Option Bool :=
  if a0 ≥ 0 then (some (decide (a0 ≤ a1))) else (some false)
set_option maxRecDepth 100000 in
set_option maxHeartbeats 4000000 in
theorem headgateref25_in.calls (a0 : Int) (a1 : Int)  (r : Bool) (w : World)  (h : headgateref25_in.f a0 a1 = some r) :
    Calls Tryd.prog 45 #[.int .i64 a0, .int .i64 a1] w (fun e W' => e = .returned (.bool r) ∧ Wd w W' [] [] ) := by
  refine sxstart (n := 12) (l := [(0, .int .i64 a0), (1, .int .i64 a1)]) Tryd.func45 rfl rfl (Nat.le_of_ble_eq_true (by kernel_rfl)) (subsA_cons rfl (subsA_cons rfl (subsA_nil _))) ?_
  intro a ha
  have HW := Wd.refl w
  unfold headgateref25_in.f at h
  refine wp_seq_k (fun K722 hK723 => ?_)
  refine wp_region_lit ?_
  refine stepp ha 4 (.bool false) (by kernel_rfl) (by kernel_rfl) ?_; clear ha a; intro a ha
  refine endl ?_
  refine thenN (hK723 _ _ ?_); clear hK723
  refine wp_seq_k (fun K724 hK725 => ?_)
  refine wp_region_lit ?_
  refine stepp ha 5 (.int .i64 a0) (by kernel_rfl) (by kernel_rfl) ?_; clear ha a; intro a ha
  refine stepp ha 6 (.bool (decide (a0 ≥ 0))) (by kernel_rfl) (by kernel_rfl) ?_; clear ha a; intro a ha
  refine stepp ha 7 (.bool (decide (a0 ≥ 0))) (by kernel_rfl) (by kernel_rfl) ?_; clear ha a; intro a ha
  by_cases hp726 : a0 ≥ 0
  · skip
    replace h := ite_pos' h hp726
    replace ha := ha.bool 7 (by kernel_rfl) (decide_eq_true hp726)
    refine stepp ha 8 (.int .i64 a0) (by kernel_rfl) (by kernel_rfl) ?_; clear ha a; intro a ha
    refine stepp ha 9 (.int .i64 a1) (by kernel_rfl) (by kernel_rfl) ?_; clear ha a; intro a ha
    refine stepp ha 10 (.bool (decide (a0 ≤ a1))) (by kernel_rfl) (by kernel_rfl) ?_; clear ha a; intro a ha
    refine stepp ha 11 (.bool (decide (a0 ≤ a1))) (by kernel_rfl) (by kernel_rfl) ?_; clear ha a; intro a ha
    refine stepp ha 4 (.bool (decide (a0 ≤ a1))) (by kernel_rfl) (by kernel_rfl) ?_; clear ha a; intro a ha
    refine endl ?_
    refine thenN (hK725 _ _ ?_); clear hK725
    refine wp_ret ?_
    obtain rfl := Option.some.inj h
    exact finv ha _ _ rfl (.tmp (v := .bool (decide (a0 ≤ a1))) (by kernel_rfl) .nil) (.bool (decide (a0 ≤ a1))) rfl ⟨rfl, HW.pick [] [] (by decide) (by decide) rfl (by kernel_rfl)⟩
  · skip
    replace h := ite_neg' h hp726
    replace ha := ha.bool 7 (by kernel_rfl) (decide_eq_false hp726)
    refine stepo ha 8 (by kernel_rfl) ?_; clear ha a; intro a ha
    refine stepo ha 9 (by kernel_rfl) ?_; clear ha a; intro a ha
    refine stepo ha 10 (by kernel_rfl) ?_; clear ha a; intro a ha
    refine stepp ha 11 (.bool false) (by kernel_rfl) (by kernel_rfl) ?_; clear ha a; intro a ha
    refine stepp ha 4 (.bool false) (by kernel_rfl) (by kernel_rfl) ?_; clear ha a; intro a ha
    refine endl ?_
    refine thenN (hK725 _ _ ?_); clear hK725
    refine wp_ret ?_
    obtain rfl := Option.some.inj h
    exact finv ha _ _ rfl (.tmp (v := .bool false) (by kernel_rfl) .nil) (.bool false) rfl ⟨rfl, HW.pick [] [] (by decide) (by decide) rfl (by kernel_rfl)⟩
end Go.Proofs.YtceagilmillgfaaDoor.F
