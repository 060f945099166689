/- headgate/prout.key: a plain function, and that the call comes to what it says. No condition. -/
import Derived.Test.YtceagilmillgfaaFT
import Derived.Test.YtceagilmillgfaaF21
namespace Go.Proofs.Ytceagilmillgfaa.F
open Go Go.RowKit Go.Proofs.Ytceagilmillgfaa.X
set_option linter.unusedVariables false
set_option linter.unusedSimpArgs false
/-! ### headgate/prout.key: function 16 -/
def prout_key.f (K : Nat) (a0 : Int) : Option ByteArray :=
  (fields_PutBig.f K a0 8).bind fun t486 => (some t486)
set_option maxRecDepth 100000 in
set_option maxHeartbeats 4000000 in
theorem prout_key.calls (K : Nat) (a0 : Int)  (r : ByteArray) (w : World)  (h : prout_key.f K a0 = some r) :
    Calls Try.prog 16 #[.int .u64 a0] w (fun e W' => e = .returned (.string r) ∧ Wd w W' [] [] ) := by
  refine sxstart (n := 5) (l := [(0, .int .u64 a0)]) Try.func16 rfl rfl (Nat.le_of_ble_eq_true (by kernel_rfl)) (subsA_cons rfl (subsA_nil _)) ?_
  intro a ha
  have HW := Wd.refl w
  unfold prout_key.f at h
  refine wp_seq_k (fun K482 hK483 => ?_)
  refine wp_region_lit ?_
  refine stepp ha 2 (.string (⟨#[]⟩ : ByteArray)) (by kernel_rfl) (by kernel_rfl) ?_; clear ha a; intro a ha
  refine endl ?_
  refine thenN (hK483 _ _ ?_); clear hK483
  refine wp_seq_k (fun K484 hK485 => ?_)
  refine wp_region_lit ?_
  refine stepp ha 3 (.int .u64 a0) (by kernel_rfl) (by kernel_rfl) ?_; clear ha a; intro a ha
  obtain ⟨t486, ht487, h_⟩ := bind_some' h; clear h; have h := h_; clear h_
  refine stepc ha 4 (by kernel_rfl) (by kernel_rfl) (fields_PutBig.calls K a0 8 t486 _ ht487) ?_; clear ha a; rintro e W488 ⟨rfl, HX489⟩
  refine ⟨_, rfl, ?_⟩; intro a ha; replace HW := HW.callw HX489; clear HX489
  refine stepp ha 2 (.string t486) (by kernel_rfl) (by kernel_rfl) ?_; clear ha a; intro a ha
  refine endl ?_
  refine thenN (hK485 _ _ ?_); clear hK485
  refine wp_ret ?_
  obtain rfl := Option.some.inj h
  exact finv ha _ _ rfl (.tmp (v := .string t486) (by kernel_rfl) .nil) (.string t486) rfl ⟨rfl, HW.pick [] [] (by decide) (by decide) rfl (by kernel_rfl)⟩
end Go.Proofs.Ytceagilmillgfaa.F
