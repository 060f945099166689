/- headgate/prout.few: a plain function, and that the call comes to what it says. No condition. -/
import Derived.Test.YtceagilmillgfaaFT
namespace Go.Proofs.Ytceagilmillgfaa.F
open Go Go.RowKit Go.Proofs.Ytceagilmillgfaa.X
set_option linter.unusedVariables false
set_option linter.unusedSimpArgs false
/-! ### headgate/prout.few: function 20 -/
def prout_few.f (a0 : List T_api_Reg) : Option (List T_api_Reg) :=
  asrt (0 ≤ (mn (a0.length : Int) 16)) (asrt ((mn (a0.length : Int) 16) ≤ (a0.length : Int)) (some (a0.take (mn (a0.length : Int) 16 : Int).toNat)))
set_option maxRecDepth 100000 in
set_option maxHeartbeats 4000000 in
theorem prout_few.calls (a0 : List T_api_Reg) (A0_0 : Option Addr) (c0_0 : Nat) (r : List T_api_Reg) (w : World) (hr0_0 : Rd 2 w (.slice A0_0 a0.length c0_0) a0.length (encs T_api_Reg.enc a0)) (h : prout_few.f a0 = some r) :
    Calls Try.prog 20 #[.slice A0_0 a0.length c0_0] w (fun e W' => ∃ A_0 c_0, e = .returned (.slice A_0 r.length c_0) ∧ Wd w W' [] [] ∧ (∀ w1, Rd 2 w1 (.slice A0_0 a0.length c0_0) a0.length (encs T_api_Reg.enc a0) → Rd 2 w1 (.slice A_0 r.length c_0) r.length (encs T_api_Reg.enc r))) := by
  refine sxstart (n := 8) (l := [(0, .slice A0_0 a0.length c0_0)]) Try.func20 rfl rfl (Nat.le_of_ble_eq_true (by kernel_rfl)) (subsA_cons rfl (subsA_nil _)) ?_
  intro a ha
  have HW := Wd.refl w
  unfold prout_few.f at h
  refine wp_seq_k (fun K753 hK754 => ?_)
  refine wp_region_lit ?_
  refine stepp ha 2 (.slice none 0 0) (by kernel_rfl) (by kernel_rfl) ?_; clear ha a; intro a ha
  refine endl ?_
  refine thenN (hK754 _ _ ?_); clear hK754
  refine wp_seq_k (fun K755 hK756 => ?_)
  refine wp_region_lit ?_
  refine stepp ha 3 (.slice A0_0 a0.length c0_0) (by kernel_rfl) (by kernel_rfl) ?_; clear ha a; intro a ha
  refine stepp ha 4 (.slice A0_0 a0.length c0_0) (by kernel_rfl) (by kernel_rfl) ?_; clear ha a; intro a ha
  refine stepp ha 5 (.int .i64 (a0.length : Int)) (by kernel_rfl) (by kernel_rfl) ?_; clear ha a; intro a ha
  refine stepmn ha 6 #[3, 3] (.tmp 5) (.const (.int .i64 16)) .i64 (a0.length : Int) 16 rfl (by kernel_rfl) (by kernel_rfl) (by kernel_rfl) ?_; clear ha a; intro a ha
  obtain ⟨hA757, h_⟩ := asrt_some h; clear h; have h := h_; clear h_
  obtain ⟨hA758, h_⟩ := asrt_some h; clear h; have h := h_; clear h_
  refine stepslt T_api_Reg.enc ha 7 47 46 2 (fun _ => rfl) (.tmp 3) (.tmp 6) .i64 (mn (a0.length : Int) 16) (A := A0_0) (c := c0_0) a0 rfl (by kernel_rfl) (by kernel_rfl) (by kernel_rfl) (by kernel_rfl) (Rd.cap ((HW.rd0 hr0_0))) hA757 (show (mn (a0.length : Int) 16 : Int) ≤ ((a0).length : Int) from hA758) (by kernel_rfl) ?_; clear ha a; intro A759 c760 a hT761 ha
  refine stepp ha 2 (.slice A759 (a0.take (mn (a0.length : Int) 16 : Int).toNat).length c760) (by kernel_rfl) (by kernel_rfl) ?_; clear ha a; intro a ha
  refine endl ?_
  refine thenN (hK756 _ _ ?_); clear hK756
  refine wp_ret ?_
  obtain rfl := Option.some.inj h
  exact finv ha _ _ rfl (.tmp (v := .slice A759 (a0.take (mn (a0.length : Int) 16 : Int).toNat).length c760) (by kernel_rfl) .nil) (.slice A759 (a0.take (mn (a0.length : Int) 16 : Int).toNat).length c760) rfl ⟨A759, c760, rfl, HW.pick [] [] (by decide) (by decide) rfl (by kernel_rfl), fun w1 hb_ => hT761 _ hb_⟩
end Go.Proofs.Ytceagilmillgfaa.F
