/- The plain law of headgatelaw18.ProutChanges: whatever the input, it is true. No condition. -/
import Derived.Test.YtceagilmillgfaaUProutList
import Derived.Test.YtceagilmillgfaaF3
import Derived.Test.YtceagilmillgfaaF5
import Derived.Test.YtceagilmillgfaaF6
import Derived.KernelRfl
namespace Go.Proofs.Ytceagilmillgfaa.F
open Go Go.RowKit Go.Proofs.Ytceagilmillgfaa.X
open Classical
set_option linter.unusedVariables false
set_option linter.unusedSimpArgs false

theorem headgatelaw18_wakes.is (k : Nat) : headgatelaw18_wakes.f (k + 200) = some true := by kernel_rfl
theorem headgatelaw18_large.is (c : T_api_Cmd) : ∃ b, headgatelaw18_large.f c = some b ∧ (b = false → c.f7.length ≤ 100) := by
  unfold headgatelaw18_large.f
  split
  · exact ⟨true, rfl, by simp⟩
  · split
    · exact ⟨true, rfl, by simp⟩
    · exact ⟨_, rfl, by simp; omega⟩

theorem headgatelaw18_ProutChanges.pure (a0 : T_arr2_3) (a1 : ByteArray) (a2 : T_api_Cmd) (o0 : a0.ok) (o1 : a1.size ≤ 140737488351232) (o2 : a2.ok) : ∃ K, headgatelaw18_ProutChanges.f K a0 a1 a2 = some true := by
  refine ⟨191 + 9, ?_⟩
  have hw := headgatelaw18_wakes.is 0
  have jt : headgatelaw18_ProutChanges.j0 (191 + 9) a0 a1 a2 true = some true := by
    unfold headgatelaw18_ProutChanges.j0
    rw [if_pos rfl]
    exact (congrArg (fun x => Option.bind x fun t => some t) hw).trans rfl
  unfold headgatelaw18_ProutChanges.f
  by_cases h : (a1.size : Int) > 5000
  · rw [if_pos h]; exact jt
  · rw [if_neg h]
    obtain ⟨b, hb, hb2⟩ := headgatelaw18_large.is a2
    rw [hb, Option.bind_some]
    cases b with
    | true => exact jt
    | false =>
      have hl := hb2 rfl
      unfold headgatelaw18_ProutChanges.j0
      rw [if_neg (by simp), prout_Change.is, Option.bind_some, headgateref18_Change.is, Option.bind_some, prout_List.is a2 o2.f8 (mOf_range a2 o2.f9 o2.f10), Option.bind_some,
        same_list a2 o2.f8 o2.f9 o2.f10 191 (by omega) (by omega), Option.bind_some]
      have he : (chg a0.f0 a0.f1 a1).1.f7 = [] := by
        unfold chg; split
        · exact chgv_empty _ _ _ _ _
        · rfl
      rw [headgatekeep_Cmds.is _ _ _ (by simp [he]) (by simp [he])]
      simp only [decide_true, Option.bind_some, if_true]
      exact (congrArg (fun x => Option.bind x fun t => some t) hw).trans rfl

end Go.Proofs.Ytceagilmillgfaa.F
