/- headgate/headgateref25.num: a plain function, and that the call comes to what it says. No condition. -/
import Derived.Test.YtceagilmillgfaaDoorFT
import Derived.Test.YtceagilmillgfaaDoorF67
namespace Go.Proofs.YtceagilmillgfaaDoor.F
open Go Go.RowKit Go.Proofs.YtceagilmillgfaaDoor.X
set_option linter.unusedVariables false
set_option linter.unusedSimpArgs false
/-! ### headgate/headgateref25.num: function 54 -/
def headgateref25_num.f (K : Nat) (a0 : ByteArray) (a1 : Int) (a2 : Int) : Option Int :=
  (headgateref01_Little.f K a0 a1 a2).bind fun t2470 => (some (IntKind.wrap .i64 t2470.1))
set_option maxRecDepth 100000 in
set_option maxHeartbeats 4000000 in
theorem headgateref25_num.calls (K : Nat) (a0 : ByteArray) (a1 : Int) (a2 : Int)  (r : Int) (w : World)  (h : headgateref25_num.f K a0 a1 a2 = some r) :
    Calls Tryd.prog 54 #[.string a0, .int .i64 a1, .int .i64 a2] w (fun e W' => e = .returned (.int .i64 r) ∧ Wd w W' [] [] ) := by
  refine sxstart (n := 18) (l := [(0, .string a0), (1, .int .i64 a1), (2, .int .i64 a2)]) Tryd.func54 rfl rfl (Nat.le_of_ble_eq_true (by kernel_rfl)) (subsA_cons rfl (subsA_cons rfl (subsA_cons rfl (subsA_nil _)))) ?_
  intro a ha
  have HW := Wd.refl w
  unfold headgateref25_num.f at h
  refine wp_seq_k (fun K2466 hK2467 => ?_)
  refine wp_region_lit ?_
  refine stepp ha 6 (.int .i64 0) (by kernel_rfl) (by kernel_rfl) ?_; clear ha a; intro a ha
  refine endl ?_
  refine thenN (hK2467 _ _ ?_); clear hK2467
  refine wp_seq_k (fun K2468 hK2469 => ?_)
  refine wp_region_lit ?_
  refine stepp ha 10 (.string a0) (by kernel_rfl) (by kernel_rfl) ?_; clear ha a; intro a ha
  refine stepp ha 11 (.int .i64 a1) (by kernel_rfl) (by kernel_rfl) ?_; clear ha a; intro a ha
  refine stepp ha 12 (.int .i64 a2) (by kernel_rfl) (by kernel_rfl) ?_; clear ha a; intro a ha
  obtain ⟨t2470, ht2471, h_⟩ := bind_some' h; clear h; have h := h_; clear h_
  refine stepc ha 13 (by kernel_rfl) (by kernel_rfl) (headgateref01_Little.calls K a0 a1 a2 t2470 _ ht2471) ?_; clear ha a; rintro e W2472 ⟨rfl, HX2473⟩
  refine ⟨_, rfl, ?_⟩; intro a ha; replace HW := HW.callw HX2473; clear HX2473
  refine stepp ha 9 (.tuple #[.int .u64 t2470.1, .bool t2470.2]) (by kernel_rfl) (by kernel_rfl) ?_; clear ha a; intro a ha
  refine stepp ha 14 (.int .u64 t2470.1) (by kernel_rfl) (by kernel_rfl) ?_; clear ha a; intro a ha
  refine stepp ha 15 (.bool t2470.2) (by kernel_rfl) (by kernel_rfl) ?_; clear ha a; intro a ha
  refine stepp ha 7 (.int .u64 t2470.1) (by kernel_rfl) (by kernel_rfl) ?_; clear ha a; intro a ha
  refine stepp ha 8 (.bool t2470.2) (by kernel_rfl) (by kernel_rfl) ?_; clear ha a; intro a ha
  refine endl ?_
  refine thenN (hK2469 _ _ ?_); clear hK2469
  refine wp_seq_k (fun K2474 hK2475 => ?_)
  refine wp_region_lit ?_
  refine stepp ha 16 (.int .u64 t2470.1) (by kernel_rfl) (by kernel_rfl) ?_; clear ha a; intro a ha
  refine stepp ha 17 (.int .i64 (IntKind.wrap .i64 t2470.1)) (by kernel_rfl) (by kernel_rfl) ?_; clear ha a; intro a ha
  refine stepp ha 6 (.int .i64 (IntKind.wrap .i64 t2470.1)) (by kernel_rfl) (by kernel_rfl) ?_; clear ha a; intro a ha
  refine endl ?_
  refine thenN (hK2475 _ _ ?_); clear hK2475
  refine wp_ret ?_
  obtain rfl := Option.some.inj h
  exact finv ha _ _ rfl (.tmp (v := .int .i64 (IntKind.wrap .i64 t2470.1)) (by kernel_rfl) .nil) (.int .i64 (IntKind.wrap .i64 t2470.1)) rfl ⟨rfl, HW.pick [] [] (by decide) (by decide) rfl (by kernel_rfl)⟩
end Go.Proofs.YtceagilmillgfaaDoor.F
