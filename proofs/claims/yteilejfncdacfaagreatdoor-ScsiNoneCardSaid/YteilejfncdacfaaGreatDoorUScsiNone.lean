/- The plain law of headgatelaw19.ScsiNone: whatever the input, it is true. No condition. -/
import Derived.Test.YteilejfncdacfaaGreatDoorUScsiNeed
import Derived.Test.YteilejfncdacfaaGreatDoorF10
import Derived.Test.YteilejfncdacfaaGreatDoorF10
import Derived.Test.YteilejfncdacfaaGreatDoorF5
namespace Go.Proofs.YteilejfncdacfaaGreatDoor.F
open Go Go.RowKit Go.Proofs.YteilejfncdacfaaGreatDoor.X
set_option linter.unusedVariables false
set_option linter.unusedSimpArgs false

theorem scsi_wrong.is : ∃ r, scsi_wrong.f (130 + 70) = some r ∧ r.f0 = 2 ∧ r.f1.f0 = 5 ∧ r.f1.f1 = 36 ∧ r.f2 = ⟨#[]⟩ := by
  have h : (scsi_wrong.f (130 + 70)).map (fun r => (r.f0, r.f1.f0, r.f1.f1, r.f2)) = some (2, 5, 36, ⟨#[]⟩) := by kernel_rfl
  cases hr : scsi_wrong.f (130 + 70) with
  | none => rw [hr] at h; cases h
  | some r =>
    rw [hr] at h
    simp only [Option.map_some, Option.some.injEq, Prod.mk.injEq] at h
    exact ⟨r, rfl, h.1, h.2.1, h.2.2.1, h.2.2.2⟩

theorem headgatelaw19_ScsiNone.pure (a0 : T_headgatelaw19_Ask) (o0 : a0.ok) : ∃ K, headgatelaw19_ScsiNone.f K a0 = some true := by
  refine ⟨130 + 70, ?_⟩
  have hw : headgatelaw19_wakes.f = some true := rfl
  unfold headgatelaw19_ScsiNone.f headgatelaw19_Ask_Fair.f
  by_cases h1 : (a0.f0.size : Int) ≤ 1000
  rotate_left
  · rw [if_neg h1, Option.bind_some, if_neg (by decide), hw]; rfl
  by_cases h2 : (a0.f2.size : Int) ≤ 1000
  rotate_left
  · rw [if_pos h1, if_neg h2, Option.bind_some, if_neg (by decide), hw]; rfl
  by_cases h3 : (a0.f3.size : Int) ≤ 70000
  rotate_left
  · rw [if_pos h1, if_pos h2, decide_eq_false h3, Option.bind_some, if_neg (by decide), hw]; rfl
  obtain ⟨r, hr, r0, r1, r2, r3⟩ := scsi_wrong.is
  unfold scsi_Do_nil.f
  rw [if_pos h1, if_pos h2, decide_eq_true h3, Option.bind_some, if_pos rfl, cdb_Parse.is a0.f2 (by omega) 130, Option.bind_some, scsi_Need.is a0.f2 (by omega) 130, Option.bind_some, hr, Option.bind_some, Option.bind_some, if_pos r0, if_pos r1, if_pos r2, if_pos r3, hw]
  rfl

end Go.Proofs.YteilejfncdacfaaGreatDoor.F
