/- headgate/fields.PutLittle: a plain function, and that the call comes to what it says. No condition. -/
import Derived.Test.YtceagilmillgfaaDoorFT
import Derived.Test.YtceagilmillgfaaDoorF63
namespace Go.Proofs.YtceagilmillgfaaDoor.F
open Go Go.RowKit Go.Proofs.YtceagilmillgfaaDoor.X
set_option linter.unusedVariables false
set_option linter.unusedSimpArgs false
/-! ### headgate/fields.PutLittle: function 47 -/
def fields_PutLittle.f (K : Nat) (a0 : Int) (a1 : Int) : Option ByteArray :=
  (fields_put_uint64.f K a0 a1 false).bind fun t260 => (some t260)
set_option maxRecDepth 100000 in
set_option maxHeartbeats 4000000 in
theorem fields_PutLittle.calls (K : Nat) (a0 : Int) (a1 : Int)  (r : ByteArray) (w : World)  (h : fields_PutLittle.f K a0 a1 = some r) :
    Calls Tryd.prog 47 #[.int .u64 a0, .int .i64 a1] w (fun e W' => e = .returned (.string r) ∧ Wd w W' [] [] ) := by
  refine sxstart (n := 8) (l := [(0, .int .u64 a0), (1, .int .i64 a1)]) Tryd.func47 rfl rfl (Nat.le_of_ble_eq_true (by kernel_rfl)) (subsA_cons rfl (subsA_cons rfl (subsA_nil _))) ?_
  intro a ha
  have HW := Wd.refl w
  unfold fields_PutLittle.f at h
  refine wp_seq_k (fun K256 hK257 => ?_)
  refine wp_region_lit ?_
  refine stepp ha 4 (.string (⟨#[]⟩ : ByteArray)) (by kernel_rfl) (by kernel_rfl) ?_; clear ha a; intro a ha
  refine endl ?_
  refine thenN (hK257 _ _ ?_); clear hK257
  refine wp_seq_k (fun K258 hK259 => ?_)
  refine wp_region_lit ?_
  refine stepp ha 5 (.int .u64 a0) (by kernel_rfl) (by kernel_rfl) ?_; clear ha a; intro a ha
  refine stepp ha 6 (.int .i64 a1) (by kernel_rfl) (by kernel_rfl) ?_; clear ha a; intro a ha
  obtain ⟨t260, ht261, h_⟩ := bind_some' h; clear h; have h := h_; clear h_
  refine stepc ha 7 (by kernel_rfl) (by kernel_rfl) (fields_put_uint64.calls K a0 a1 false t260 _ ht261) ?_; clear ha a; rintro e W262 ⟨rfl, HX263⟩
  refine ⟨_, rfl, ?_⟩; intro a ha; replace HW := HW.callw HX263; clear HX263
  refine stepp ha 4 (.string t260) (by kernel_rfl) (by kernel_rfl) ?_; clear ha a; intro a ha
  refine endl ?_
  refine thenN (hK259 _ _ ?_); clear hK259
  refine wp_ret ?_
  obtain rfl := Option.some.inj h
  exact finv ha _ _ rfl (.tmp (v := .string t260) (by kernel_rfl) .nil) (.string t260) rfl ⟨rfl, HW.pick [] [] (by decide) (by decide) rfl (by kernel_rfl)⟩
end Go.Proofs.YtceagilmillgfaaDoor.F
