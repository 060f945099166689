/- headgate/fields.Little: a plain function, and that the call comes to what it says. No condition. -/
import Derived.Test.YtceagilmillgfaaDoorFT
import Derived.Test.YtceagilmillgfaaDoorF68
namespace Go.Proofs.YtceagilmillgfaaDoor.F
open Go Go.RowKit Go.Proofs.YtceagilmillgfaaDoor.X
set_option linter.unusedVariables false
set_option linter.unusedSimpArgs false
/-! ### headgate/fields.Little: function 66 -/
def fields_Little.f (K : Nat) (a0 : ByteArray) (a1 : Int) (a2 : Int) : Option (Int × Bool) :=
  (fields_get_uint64.f K a0 a1 a2 false).bind fun t1153 => (some (t1153.1, t1153.2))
set_option maxRecDepth 100000 in
set_option maxHeartbeats 4000000 in
theorem fields_Little.calls (K : Nat) (a0 : ByteArray) (a1 : Int) (a2 : Int)  (r : Int × Bool) (w : World)  (h : fields_Little.f K a0 a1 a2 = some r) :
    Calls Tryd.prog 66 #[.string a0, .int .i64 a1, .int .i64 a2] w (fun e W' => e = .returned (.tuple #[.int .u64 r.1, .bool r.2]) ∧ Wd w W' [] [] ) := by
  refine sxstart (n := 14) (l := [(0, .string a0), (1, .int .i64 a1), (2, .int .i64 a2)]) Tryd.func66 rfl rfl (Nat.le_of_ble_eq_true (by kernel_rfl)) (subsA_cons rfl (subsA_cons rfl (subsA_cons rfl (subsA_nil _)))) ?_
  intro a ha
  have HW := Wd.refl w
  unfold fields_Little.f at h
  refine wp_seq_k (fun K1149 hK1150 => ?_)
  refine wp_region_lit ?_
  refine stepp ha 6 (.int .u64 0) (by kernel_rfl) (by kernel_rfl) ?_; clear ha a; intro a ha
  refine stepp ha 7 (.bool false) (by kernel_rfl) (by kernel_rfl) ?_; clear ha a; intro a ha
  refine endl ?_
  refine thenN (hK1150 _ _ ?_); clear hK1150
  refine wp_seq_k (fun K1151 hK1152 => ?_)
  refine wp_region_lit ?_
  refine stepp ha 8 (.string a0) (by kernel_rfl) (by kernel_rfl) ?_; clear ha a; intro a ha
  refine stepp ha 9 (.int .i64 a1) (by kernel_rfl) (by kernel_rfl) ?_; clear ha a; intro a ha
  refine stepp ha 10 (.int .i64 a2) (by kernel_rfl) (by kernel_rfl) ?_; clear ha a; intro a ha
  obtain ⟨t1153, ht1154, h_⟩ := bind_some' h; clear h; have h := h_; clear h_
  refine stepc ha 11 (by kernel_rfl) (by kernel_rfl) (fields_get_uint64.calls K a0 a1 a2 false t1153 _ ht1154) ?_; clear ha a; rintro e W1155 ⟨rfl, HX1156⟩
  refine ⟨_, rfl, ?_⟩; intro a ha; replace HW := HW.callw HX1156; clear HX1156
  refine stepp ha 12 (.int .u64 t1153.1) (by kernel_rfl) (by kernel_rfl) ?_; clear ha a; intro a ha
  refine stepp ha 13 (.bool t1153.2) (by kernel_rfl) (by kernel_rfl) ?_; clear ha a; intro a ha
  refine stepp ha 6 (.int .u64 t1153.1) (by kernel_rfl) (by kernel_rfl) ?_; clear ha a; intro a ha
  refine stepp ha 7 (.bool t1153.2) (by kernel_rfl) (by kernel_rfl) ?_; clear ha a; intro a ha
  refine endl ?_
  refine thenN (hK1152 _ _ ?_); clear hK1152
  refine wp_ret ?_
  obtain rfl := Option.some.inj h
  exact finv ha _ _ rfl (.tmp (v := .int .u64 t1153.1) (by kernel_rfl) (.tmp (v := .bool t1153.2) (by kernel_rfl) .nil)) (.tuple #[.int .u64 t1153.1, .bool t1153.2]) rfl ⟨rfl, HW.pick [] [] (by decide) (by decide) rfl (by kernel_rfl)⟩
end Go.Proofs.YtceagilmillgfaaDoor.F
