/- The plain law of headgatelaw27.NresvChanges: whatever the input, it is true. No condition. -/
import Derived.Test.YthjjbkgifelooaaDoorUNresvWordRef
import Derived.Test.YthjjbkgifelooaaDoorUNresvLaw
import Derived.Test.YthjjbkgifelooaaDoorF5
namespace Go.Proofs.YthjjbkgifelooaaDoor.F
open Go Go.RowKit Go.Proofs.YthjjbkgifelooaaDoor.X
open Classical
set_option linter.unusedVariables false
set_option linter.unusedSimpArgs false

theorem sizes_same (op : Int) : ∃ n, nresv_Size.f op = some n ∧ headgateref27_Size.f op = some n := by
  unfold nresv_Size.f headgateref27_Size.f
  by_cases h : op = 13
  · subst h; exact ⟨16, rfl, rfl⟩
  · by_cases h' : op = 17
    · subst h'; exact ⟨16, rfl, rfl⟩
    · by_cases h2 : op = 21
      · subst h2; exact ⟨8, rfl, rfl⟩
      · exact ⟨0, by simp [h, h', h2], by simp [h, h', h2]⟩

theorem headgatelaw27_NresvChanges.pure (a0 : T_headgatelaw27_Word) (a1 : T_api_Cmd) (o0 : a0.ok) (o1 : a1.ok) : ∃ K, headgatelaw27_NresvChanges.f K a0 a1 = some true := by
  refine ⟨200, ?_⟩
  have hw : headgatelaw27_wakes.f 200 = some true := headgatelaw27_wakes.is 0
  have jt : headgatelaw27_NresvChanges.j0 200 a0 a1 true = some true := by
    unfold headgatelaw27_NresvChanges.j0
    rw [if_pos rfl, hw]; rfl
  unfold headgatelaw27_NresvChanges.f
  split
  · exact jt
  obtain ⟨b, hb, hb2⟩ := headgatelaw27_large.is a1
  rw [hb, Option.bind_some]
  cases b with
  | true => exact jt
  | false =>
    have hl := hb2 rfl
    have h1 := o0.f1
    have hf7 := nchg_f7 a0.f0 a0.f1 a0.f2
    obtain ⟨n, hn1, hn2⟩ := sizes_same a0.f0
    unfold headgatelaw27_NresvChanges.j0
    rw [if_neg (by simp), show nresv_Change.f 200 a0.f0 a0.f1 a0.f2 = some (nchg a0.f0 a0.f1 a0.f2) from nresv_Change.is _ _ h1.1 h1.2 _ 130, Option.bind_some,
      show headgateref27_Change.f 200 a0.f0 a0.f1 a0.f2 = some (nchg a0.f0 a0.f1 a0.f2) from headgateref27_Change.is _ _ h1.1 h1.2 _ 130, Option.bind_some,
      show nresv_Words.f 200 a1 = some (wspec a1) from nresv_Words.is a1 o1 130, Option.bind_some, show headgateref27_Words.f 200 a1 = some (wspecR a1) from headgateref27_Words.is a1 o1 hl 0, Option.bind_some,
      headgatekeep_Cmds.is _ _ _ (by simp only [hf7]; simp) (by simp only [hf7]; simp), Option.bind_some, if_pos (by simp), if_pos rfl, if_pos (show (wspec a1).1 = (wspecR a1).1.f0 from rfl), if_pos (show (wspec a1).2.1 = (wspecR a1).1.f1 from rfl), if_pos (show (wspec a1).2.2.1 = (wspecR a1).1.f2 from rfl), if_pos (show (wspec a1).2.2.2 = (wspecR a1).2 from rfl), hn1, Option.bind_some, hn2, Option.bind_some, if_pos rfl, hw]
    rfl

end Go.Proofs.YthjjbkgifelooaaDoor.F
