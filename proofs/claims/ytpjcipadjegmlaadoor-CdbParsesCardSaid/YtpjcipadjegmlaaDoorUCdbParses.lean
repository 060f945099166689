/- The plain law of headgatelaw15.CdbParses: whatever the input, it is true. No condition. -/
import Derived.Test.YtpjcipadjegmlaaDoorUCdbRef
import Derived.Test.YtpjcipadjegmlaaDoorF4
namespace Go.Proofs.YtpjcipadjegmlaaDoor.F
open Go Go.RowKit Go.Proofs.YtpjcipadjegmlaaDoor.X
open Classical
set_option linter.unusedVariables false
set_option linter.unusedSimpArgs false

theorem headgatelaw15_CdbParses.pure (a0 : ByteArray) (o0 : a0.size ≤ 140737488351232) : ∃ K, headgatelaw15_CdbParses.f K a0 = some true := by
  refine ⟨200, ?_⟩
  have hw : headgatelaw15_wakes.f 200 = some true := headgatelaw15_wakes.is 0
  unfold headgatelaw15_CdbParses.f
  by_cases h : (a0.size : Int) > 5000
  · rw [if_pos h, hw]; rfl
  rw [if_neg h, show cdb_Parse.f 200 a0 = _ from cdb_Parse.is a0 (by omega) 130, Option.bind_some, show headgateref15_Parse.f 200 a0 = _ from headgateref15_Parse.is a0 (by omega) 130, Option.bind_some, headgatelaw15_own.is, Option.bind_some, headgateref15_Same.is, Option.bind_some, if_pos (by simp [toR]), if_pos rfl,
    show cdb_Length.f 200 a0 = _ from cdb_Length.is a0 130, Option.bind_some, headgateref15_Length.is, Option.bind_some, if_pos rfl, hw]
  rfl

end Go.Proofs.YtpjcipadjegmlaaDoor.F
