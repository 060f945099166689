/- The plain law of headgatelaw05.FrameBack: whatever the input, it is true. No condition. -/
import Derived.Test.YtdcojinnjpihaaaDoorUWrites
import Derived.Test.YtdcojinnjpihaaaDoorUFrameW
import Derived.Test.YtdcojinnjpihaaaDoorF8
namespace Go.Proofs.YtdcojinnjpihaaaDoor.F
open Go Go.RowKit Go.Proofs.YtdcojinnjpihaaaDoor.X
set_option linter.unusedVariables false
set_option linter.unusedSimpArgs false

theorem headgatelaw05_FrameBack.pure (a0 : Int) (a1 : T_arr2_9) (a2 : List T_api_Write) (o0 : 0 ≤ a0 ∧ a0 ≤ 18446744073709551615) (o1 : a1.ok) (o2 : a2.length * 24 ≤ 140737488351232 ∧ ∀ y ∈ a2, y.ok) : ∃ K, headgatelaw05_FrameBack.f K a0 a1 a2 = some true := by
  refine ⟨200000 + 200, ?_⟩
  have hw : headgatelaw05_wakes.f (200000 + 200) = some true := headgatelaw05_wakes.is 200000
  have j1 : headgatelaw05_FrameBack.j0 (200000 + 200) a0 a1 a2 true = some true := by
    unfold headgatelaw05_FrameBack.j0
    rw [if_pos rfl, hw]
    rfl
  unfold headgatelaw05_FrameBack.f
  by_cases h : (a1.f0.size : Int) > 70000
  · rw [if_pos h]; exact j1
  by_cases h2 : (a1.f1.size : Int) > 70000
  · rw [if_neg h, if_pos h2]; exact j1
  rw [if_neg h, if_neg h2]
  by_cases h3 : (a2.length : Int) > 200
  · rw [decide_eq_true h3]; exact j1
  rw [decide_eq_false h3]
  unfold headgatelaw05_FrameBack.j0
  rw [if_neg (by simp), frame_Put.is a0 o0.1 o0.2 a1.f0 (by omega) _ (by omega), Option.bind_some]
  by_cases h4 : a1.f0.size > 65536
  · rw [if_pos h4]
    have z : (⟨#[]⟩ : ByteArray).size = 0 := rfl
    rw [asrt_pos (by simp only; omega), frame_Get.is _ (by simp only [ByteArray.size_append]; omega) _ (by simp only [ByteArray.size_append]; omega), Option.bind_some, if_neg (by simp), if_pos (by omega), if_pos rfl, hw]
    rfl
  rw [if_neg h4]
  have hp := putB_size a0 a1.f0
  have hs : sec a1.f0.size = (a1.f0.size + 535) / 512 := rfl
  rw [asrt_pos (by simp only; omega), frame_Get.is _ (by simp only [ByteArray.size_append]; omega) _ (by simp only [ByteArray.size_append]; omega), Option.bind_some, outB_put a0 o0.1 o0.2 a1.f0 (by omega)]
  dsimp only
  rw [if_pos rfl, if_pos rfl, if_pos rfl, if_pos rfl, if_pos rfl, frame_Sectors.isN _ (by omega), Option.bind_some, wi (by omega) (by omega), if_pos (by omega), List.nil_append, asrt_pos (by simp; omega), show 200000 + 200 = 200191 + 9 from rfl, frame_Writes.is _ _ (by omega), Option.bind_some]
  have hws := writesB_size a2
  by_cases h5 : (writesB a2).2 = 0
  · rw [if_pos h5, frame_Split.is _ (by omega) _ (by omega), Option.bind_some, split_writes a2 h5]
    dsimp only
    rw [if_pos rfl, headgateref05_Same.is _ (by omega) _ (by omega), Option.bind_some, if_pos rfl, show 200191 + 9 = 200000 + 200 from rfl, hw]
    rfl
  · rw [if_neg h5, if_pos (writesB_bad a2 h5), show 200191 + 9 = 200000 + 200 from rfl, hw]
    rfl

end Go.Proofs.YtdcojinnjpihaaaDoor.F
