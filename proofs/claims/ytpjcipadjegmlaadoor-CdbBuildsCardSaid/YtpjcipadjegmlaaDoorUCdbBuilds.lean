/- The plain law of headgatelaw15.CdbBuilds: whatever the input, it is true. No condition. -/
import Derived.Test.YtpjcipadjegmlaaDoorUCdbBuildRefIs
import Derived.Test.YtpjcipadjegmlaaDoorF5
namespace Go.Proofs.YtpjcipadjegmlaaDoor.F
open Go Go.RowKit Go.Proofs.YtpjcipadjegmlaaDoor.X
open Classical
set_option linter.unusedVariables false
set_option linter.unusedSimpArgs false

theorem headgatelaw15_CdbBuilds.pure (a0 : T_cdb_Ask) (a1 : Int) (o0 : a0.ok) (o1 : (-9223372036854775808) ≤ a1 ∧ a1 ≤ 9223372036854775807) : ∃ K, headgatelaw15_CdbBuilds.f K a0 a1 = some true := by
  refine ⟨200, ?_⟩
  have hw : headgatelaw15_wakes.f 200 = some true := headgatelaw15_wakes.is 0
  unfold headgatelaw15_CdbBuilds.f
  rw [show cdb_Build.f 200 a0 = _ from cdb_Build.is a0 o0 0, Option.bind_some, show headgatelaw15_own.f _ = some (toR a0) from rfl, Option.bind_some, show headgateref15_Build.f 200 (toR a0) = _ from headgateref15_Build.is a0 o0 0, Option.bind_some, if_pos rfl, if_pos rfl,
    show cdb_Type.f 200 a1 = _ from cdb_Type.is a1 130, Option.bind_some, headgateref15_Type.is, Option.bind_some, if_pos rfl, cdb_Number.is, Option.bind_some, show headgateref15_Number.f 200 a1 = _ from headgateref15_Number.is a1 0, Option.bind_some, if_pos rfl, hw]
  rfl

end Go.Proofs.YtpjcipadjegmlaaDoor.F
