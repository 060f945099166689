/- The plain law of headgatelaw27.NresvSides: whatever the input, it is true. No condition. -/
import Derived.Test.YthjjbkgifelooaaDoorUProutList
import Derived.Test.YthjjbkgifelooaaDoorUNresvWords
import Derived.Test.YthjjbkgifelooaaDoorF11
import Derived.Test.YthjjbkgifelooaaDoorF23
import Derived.Test.YthjjbkgifelooaaDoorF77
import Derived.KernelRfl
namespace Go.Proofs.YthjjbkgifelooaaDoor.F
open Go Go.RowKit Go.Proofs.YthjjbkgifelooaaDoor.X
open Classical
set_option linter.unusedVariables false
set_option linter.unusedSimpArgs false

theorem headgatelaw27_wakes.is (k : Nat) : headgatelaw27_wakes.f (k + 200) = some true := by kernel_rfl
theorem headgatelaw27_large.is (c : T_api_Cmd) : ∃ b, headgatelaw27_large.f c = some b ∧ (b = false → c.f7.length ≤ 100) := by
  unfold headgatelaw27_large.f
  split
  · exact ⟨true, rfl, by simp⟩
  · split
    · exact ⟨true, rfl, by simp⟩
    · exact ⟨_, rfl, by simp; omega⟩

theorem lst_self (c : T_api_Cmd) (h : (lst c).2.2 = 0) (hk : 0 ≤ c.f8 ∧ c.f8 ≤ 18446744073709551615) (hm : 0 ≤ mOf c ∧ mOf c ≤ 18446744073709551615) : chg (lst c).1 c.f11 (lst c).2.1 = (c, 0) := by
  unfold lst at h ⊢
  by_cases h' : chgv (nOf c) c.f11 c.f8 (mOf c) (rOf c) = (c, 0)
  · rw [if_pos h']
    have hr : rOf c = 0 ∨ rOf c = 16777216 := by unfold rOf; split <;> simp
    rw [chg_str _ _ _ _ _ hk hm (by omega)]
    exact h'
  · rw [if_neg h'] at h
    exact absurd h (by decide)

theorem headgatelaw27_NresvSides.pure (a0 : T_api_Cmd) (o0 : a0.ok) : ∃ K, headgatelaw27_NresvSides.f K a0 = some true := by
  refine ⟨200, ?_⟩
  have hw : headgatelaw27_wakes.f 200 = some true := headgatelaw27_wakes.is 0
  have hm := mOf_range a0 o0.f9 o0.f10
  unfold headgatelaw27_NresvSides.f
  obtain ⟨b, hb, hb2⟩ := headgatelaw27_large.is a0
  rw [hb, Option.bind_some]
  cases b with
  | true => rw [if_pos rfl, hw]; rfl
  | false =>
    have hl := hb2 rfl
    have jt : ∀ t u, headgatelaw27_NresvSides.j0 200 a0 t u true = some true := fun t u => by
      unfold headgatelaw27_NresvSides.j0
      rw [if_pos rfl, hw]; rfl
    obtain ⟨r, hr, hg⟩ := nresv_Words.weak a0 o0.f8.1 hm.1 130
    rw [if_neg (by simp), show prout_List.f 200 a0 = some (lst a0) from prout_List.is a0 o0.f8 hm 191, Option.bind_some, show nresv_Words.f 200 a0 = some r from hr, Option.bind_some]
    by_cases h1 : (lst a0).2.2 = 0
    · rw [if_pos h1]
      by_cases h2 : r.2.2.2 = 0
      · rw [show (r.2.2.2 != 0) = false by simp [h2]]
        unfold headgatelaw27_NresvSides.j0
        rw [if_neg (by simp), show prout_Change.f 200 (lst a0).1 a0.f11 (lst a0).2.1 = some (chg (lst a0).1 a0.f11 (lst a0).2.1) from prout_Change.is _ _ _ 191, Option.bind_some, lst_self a0 h1 o0.f8 hm,
          show nresv_Change.f 200 r.1 r.2.1 r.2.2.1 = some (nchg r.1 r.2.1 r.2.2.1) from nresv_Change.is _ _ hg.1.1 hg.1.2 _ 130, Option.bind_some, hg.2 h2, if_pos rfl, if_pos rfl, headgatekeep_Cmds.is _ _ _ (by simp only; omega) (by simp only; omega), Option.bind_some, if_pos (by simp), Option.bind_some, if_pos (by simp), hw]
        rfl
      · rw [show (r.2.2.2 != 0) = true by simp [h2]]; exact jt _ _
    · rw [if_neg h1]; exact jt _ _

end Go.Proofs.YthjjbkgifelooaaDoor.F
