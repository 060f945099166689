/- headgate/fields.Big: plain functions, and that the calls come to what they say. No condition. -/
import Derived.Test.YthjjbkgifelooaaDoorFT
import Derived.Test.YthjjbkgifelooaaDoorF77
namespace Go.Proofs.YthjjbkgifelooaaDoor.F
open Go Go.RowKit Go.Proofs.YthjjbkgifelooaaDoor.X
set_option linter.unusedVariables false
set_option linter.unusedSimpArgs false
/-! ### headgate/fields.Big: function 72 -/
def fields_Big.f (K : Nat) (a0 : ByteArray) (a1 : Int) (a2 : Int) : Option (Int × Bool) :=
  (fields_get_uint64.f K a0 a1 a2 true).bind fun t5777 => (some (t5777.1, t5777.2))
set_option maxRecDepth 100000 in
set_option maxHeartbeats 4000000 in
theorem fields_Big.calls (K : Nat) (a0 : ByteArray) (a1 : Int) (a2 : Int)  (r : Int × Bool) (w : World)  (h : fields_Big.f K a0 a1 a2 = some r) :
    Calls Tryd.prog 72 #[.string a0, .int .i64 a1, .int .i64 a2] w (fun e W' => e = .returned (.tuple #[.int .u64 r.1, .bool r.2]) ∧ Wd w W' [] [] ) := by
  refine sxstart (n := 14) (l := [(0, .string a0), (1, .int .i64 a1), (2, .int .i64 a2)]) Tryd.func72 rfl rfl (Nat.le_of_ble_eq_true KR) (subsA_cons rfl (subsA_cons rfl (subsA_cons rfl (subsA_nil _)))) ?_
  intro a ha
  have HW := Wd.refl w
  unfold fields_Big.f at h
  refine wp_seq_k (fun K5773 hK5774 => ?_)
  refine wp_region_lit ?_
  refine stepp ha 6 (.int .u64 0) KR KR ?_; clear ha a; intro a ha
  refine stepp ha 7 (.bool false) KR KR ?_; clear ha a; intro a ha
  refine endl ?_
  refine thenN (hK5774 _ _ ?_); clear hK5774
  refine wp_seq_k (fun K5775 hK5776 => ?_)
  refine wp_region_lit ?_
  refine stepp ha 8 (.string a0) KR KR ?_; clear ha a; intro a ha
  refine stepp ha 9 (.int .i64 a1) KR KR ?_; clear ha a; intro a ha
  refine stepp ha 10 (.int .i64 a2) KR KR ?_; clear ha a; intro a ha
  obtain ⟨t5777, ht5778, h_⟩ := bind_some' h; clear h; have h := h_; clear h_
  refine stepc ha 11 KR KR (fields_get_uint64.calls K a0 a1 a2 true t5777 _ ht5778) ?_; clear ha a; rintro e W5779 ⟨rfl, HX5780⟩
  refine ⟨_, rfl, ?_⟩; intro a ha; replace HW := HW.callw HX5780; clear HX5780
  refine stepp ha 12 (.int .u64 t5777.1) KR KR ?_; clear ha a; intro a ha
  refine stepp ha 13 (.bool t5777.2) KR KR ?_; clear ha a; intro a ha
  refine stepp ha 6 (.int .u64 t5777.1) KR KR ?_; clear ha a; intro a ha
  refine stepp ha 7 (.bool t5777.2) KR KR ?_; clear ha a; intro a ha
  refine endl ?_
  refine thenN (hK5776 _ _ ?_); clear hK5776
  refine wp_ret ?_
  obtain rfl := Option.some.inj h
  exact finv ha _ _ rfl (.tmp (v := .int .u64 t5777.1) KR (.tmp (v := .bool t5777.2) KR .nil)) (.tuple #[.int .u64 t5777.1, .bool t5777.2]) rfl ⟨rfl, HW.pick [] [] (by decide) (by decide) rfl KR⟩
end Go.Proofs.YthjjbkgifelooaaDoor.F
