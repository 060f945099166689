/- headgate/prout.ops: a plain function, and that the call comes to what it says. No condition. -/
import Derived.Test.YtceagilmillgfaaFT
namespace Go.Proofs.Ytceagilmillgfaa.F
open Go Go.RowKit Go.Proofs.Ytceagilmillgfaa.X
set_option linter.unusedVariables false
set_option linter.unusedSimpArgs false
/-! ### headgate/prout.ops: function 13 -/
def prout_ops.f  : Option T_arr7_3 :=
  some (⟨8, 9, 10, 11, 12, 0, 8⟩ : T_arr7_3)
set_option maxRecDepth 100000 in
set_option maxHeartbeats 4000000 in
theorem prout_ops.calls   (r : T_arr7_3) (w : World)  (h : prout_ops.f  = some r) :
    Calls Try.prog 13 #[] w (fun e W' => e = .returned (.agg #[.int .i64 r.f0, .int .i64 r.f1, .int .i64 r.f2, .int .i64 r.f3, .int .i64 r.f4, .int .i64 r.f5, .int .i64 r.f6]) ∧ Wd w W' [] [] ) := by
  refine sxstart (n := 2) (l := []) Try.func13 rfl rfl (Nat.le_of_ble_eq_true (by kernel_rfl)) (subsA_nil _) ?_
  intro a ha
  have HW := Wd.refl w
  unfold prout_ops.f at h
  refine wp_seq_k (fun K9 hK10 => ?_)
  refine wp_region_lit ?_
  refine stepnew ha HW 0 #[.int .i64 0, .int .i64 0, .int .i64 0, .int .i64 0, .int .i64 0, .int .i64 0, .int .i64 0] 48 (by kernel_rfl) (by kernel_rfl) ?_; clear ha HW a; intro b11 a W12 HW ha
  refine endl ?_
  refine thenN (hK10 _ _ ?_); clear hK10
  refine wp_seq_k (fun K13 hK14 => ?_)
  refine wp_region_lit ?_
  refine stepp ha 1 (.agg #[.int .i64 8, .int .i64 9, .int .i64 10, .int .i64 11, .int .i64 12, .int .i64 0, .int .i64 8]) (by kernel_rfl) (by kernel_rfl) ?_; clear ha a; intro a ha
  refine stepst ha HW 0 (b := b11) (C := #[.int .i64 0, .int .i64 0, .int .i64 0, .int .i64 0, .int .i64 0, .int .i64 0, .int .i64 0]) (T := 48) (by kernel_rfl) 48 0 (.tmp 0) (.tmp 1) (.agg #[.int .i64 8, .int .i64 9, .int .i64 10, .int .i64 11, .int .i64 12, .int .i64 0, .int .i64 8]) #[.int .i64 8, .int .i64 9, .int .i64 10, .int .i64 11, .int .i64 12, .int .i64 0, .int .i64 8] rfl (by kernel_rfl) (by kernel_rfl) (by kernel_rfl) (by kernel_rfl) (by kernel_rfl) (by kernel_rfl) (by kernel_rfl) ?_; clear ha HW a; intro a W15 HW ha
  refine endl ?_
  refine thenN (hK14 _ _ ?_); clear hK14
  refine wp_ret ?_
  obtain rfl := Option.some.inj h
  exact finv ha _ _ rfl (.cell (ad := ⟨b11, 0, none⟩) (v := .agg #[.int .i64 8, .int .i64 9, .int .i64 10, .int .i64 11, .int .i64 12, .int .i64 0, .int .i64 8]) (by kernel_rfl) (run_loadVar_ca0 (HW.ca (i := 0) (b := b11) (C := #[.int .i64 8, .int .i64 9, .int .i64 10, .int .i64 11, .int .i64 12, .int .i64 0, .int .i64 8]) (T := 48) (fr := (0, 0)) (by kernel_rfl)) 48 0 (.agg #[.int .i64 8, .int .i64 9, .int .i64 10, .int .i64 11, .int .i64 12, .int .i64 0, .int .i64 8]) (by kernel_rfl)) .nil) (.agg #[.int .i64 8, .int .i64 9, .int .i64 10, .int .i64 11, .int .i64 12, .int .i64 0, .int .i64 8]) rfl ⟨rfl, HW.pick [] [] (by decide) (by decide) rfl (by kernel_rfl)⟩
end Go.Proofs.Ytceagilmillgfaa.F
