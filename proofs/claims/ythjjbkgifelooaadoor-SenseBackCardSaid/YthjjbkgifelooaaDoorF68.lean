/- headgate/fields.PutBig: plain functions, and that the calls come to what they say. No condition. -/
import Derived.Test.YthjjbkgifelooaaDoorFT
import Derived.Test.YthjjbkgifelooaaDoorF90
namespace Go.Proofs.YthjjbkgifelooaaDoor.F
open Go Go.RowKit Go.Proofs.YthjjbkgifelooaaDoor.X
set_option linter.unusedVariables false
set_option linter.unusedSimpArgs false
/-! ### headgate/fields.PutBig: function 68 -/
def fields_PutBig.f (K : Nat) (a0 : Int) (a1 : Int) : Option ByteArray :=
  (fields_put_uint64.f K a0 a1 true).bind fun t5335 => (some t5335)
set_option maxRecDepth 100000 in
set_option maxHeartbeats 4000000 in
theorem fields_PutBig.calls (K : Nat) (a0 : Int) (a1 : Int)  (r : ByteArray) (w : World)  (h : fields_PutBig.f K a0 a1 = some r) :
    Calls Tryd.prog 68 #[.int .u64 a0, .int .i64 a1] w (fun e W' => e = .returned (.string r) ∧ Wd w W' [] [] ) := by
  refine sxstart (n := 8) (l := [(0, .int .u64 a0), (1, .int .i64 a1)]) Tryd.func68 rfl rfl (Nat.le_of_ble_eq_true KR) (subsA_cons rfl (subsA_cons rfl (subsA_nil _))) ?_
  intro a ha
  have HW := Wd.refl w
  unfold fields_PutBig.f at h
  refine wp_seq_k (fun K5331 hK5332 => ?_)
  refine wp_region_lit ?_
  refine stepp ha 4 (.string (⟨#[]⟩ : ByteArray)) KR KR ?_; clear ha a; intro a ha
  refine endl ?_
  refine thenN (hK5332 _ _ ?_); clear hK5332
  refine wp_seq_k (fun K5333 hK5334 => ?_)
  refine wp_region_lit ?_
  refine stepp ha 5 (.int .u64 a0) KR KR ?_; clear ha a; intro a ha
  refine stepp ha 6 (.int .i64 a1) KR KR ?_; clear ha a; intro a ha
  obtain ⟨t5335, ht5336, h_⟩ := bind_some' h; clear h; have h := h_; clear h_
  refine stepc ha 7 KR KR (fields_put_uint64.calls K a0 a1 true t5335 _ ht5336) ?_; clear ha a; rintro e W5337 ⟨rfl, HX5338⟩
  refine ⟨_, rfl, ?_⟩; intro a ha; replace HW := HW.callw HX5338; clear HX5338
  refine stepp ha 4 (.string t5335) KR KR ?_; clear ha a; intro a ha
  refine endl ?_
  refine thenN (hK5334 _ _ ?_); clear hK5334
  refine wp_ret ?_
  obtain rfl := Option.some.inj h
  exact finv ha _ _ rfl (.tmp (v := .string t5335) KR .nil) (.string t5335) rfl ⟨rfl, HW.pick [] [] (by decide) (by decide) rfl KR⟩
end Go.Proofs.YthjjbkgifelooaaDoor.F
