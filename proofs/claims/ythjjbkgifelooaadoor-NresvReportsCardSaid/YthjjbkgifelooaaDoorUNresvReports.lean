/- The plain law of headgatelaw27.NresvReports: whatever the input, it is true. No condition. -/
import Derived.Test.YthjjbkgifelooaaDoorUNresvReportedRef
import Derived.Test.YthjjbkgifelooaaDoorUNresvLaw
import Derived.Test.YthjjbkgifelooaaDoorUNresvLarge
import Derived.Test.YthjjbkgifelooaaDoorF3
import Derived.Test.YthjjbkgifelooaaDoorF19
namespace Go.Proofs.YthjjbkgifelooaaDoor.F
open Go Go.RowKit Go.Proofs.YthjjbkgifelooaaDoor.X
open Classical
set_option linter.unusedVariables false
set_option linter.unusedSimpArgs false

theorem headgatekeep_Tables.same (t : T_api_Table) (K : Nat) (hK : t.f0.length < K) (hb : t.f0.length ≤ 1000000) : headgatekeep_Tables.f K t t = some true := by
  unfold headgatekeep_Tables.f
  rw [headgatekeep_Regs.is _ _ _ hK hb, Option.bind_some, if_pos (by simp), if_pos rfl, if_pos rfl, if_pos rfl]
  simp

theorem headgatelaw27_NresvReports.pure (a0 : T_api_Table) (a1 : ByteArray) (o0 : a0.ok) (o1 : a1.size ≤ 140737488351232) : ∃ K, headgatelaw27_NresvReports.f K a0 a1 = some true := by
  refine ⟨300, ?_⟩
  have hw : headgatelaw27_wakes.f 300 = some true := headgatelaw27_wakes.is 100
  have jt : headgatelaw27_NresvReports.j0 300 a0 a1 true = some true := by
    unfold headgatelaw27_NresvReports.j0
    rw [if_pos rfl, hw]; rfl
  unfold headgatelaw27_NresvReports.f
  obtain ⟨b, hb, hb2⟩ := headgatelaw10_Large.is a0 300 (by omega)
  rw [show headgatelaw10_Large.f 300 _ = some b from hb, Option.bind_some]
  cases b with
  | true => rw [if_pos rfl]; exact jt
  | false =>
    have hl := hb2 rfl
    rw [if_neg (by simp)]
    by_cases hs : (a1.size : Int) > 5000
    · rw [decide_eq_true hs]; exact jt
    · rw [decide_eq_false hs]
      have r1 : nresv_Reported.f 300 a1 = some (toldR a1) := nresv_Reported.is a1 (by omega) 230
      have r2 : headgateref27_Reported.f 300 a1 = some (toldT a1) := headgateref27_Reported.is a1 (by omega) 230
      have r3 : nresv_Report.f 300 a0 = some (strOfNums (repL a0)) := nresv_Report.is a0 o0 (by omega) 230 (by omega)
      have r4 : headgateref27_Report.f 300 a0 = some (strOfNums (repL a0)) := headgateref27_Report.is a0 o0 (by omega) 230 (by omega)
      have hreg : (toldR a1).2.2.1.length ≤ 16 := by
        unfold toldR
        by_cases h : okR a1
        · rw [if_pos h]; simp only [regsOf_length]; exact h.many
        · rw [if_neg h]; simp
      unfold headgatelaw27_NresvReports.j0
      rw [if_neg (by simp), show headgatekeep_CopyTable.f _ = some a0 from headgatekeep_CopyTable.is a0 (by omega), Option.bind_some, r1, Option.bind_some, r2, Option.bind_some, show nresv_Report.f 300 _ = _ from r3, Option.bind_some, show headgateref27_Report.f 300 _ = _ from r4, Option.bind_some, if_pos rfl,
        show headgatekeep_Tables.f 300 _ _ = some true from headgatekeep_Tables.same a0 300 (by omega) (by omega), Option.bind_some, if_pos rfl, if_pos (show (toldR a1).1 = (toldT a1).1.f0 from rfl), if_pos (show (toldR a1).2.1 = (toldT a1).1.f1 from rfl),
        headgatekeep_Regs.is _ _ _ (by omega) (by omega), Option.bind_some, if_pos (by rw [show (toldT a1).1.f2 = (toldR a1).2.2.1 from rfl]; simp), if_pos (show (toldR a1).2.2.2.1 = (toldT a1).1.f3 from rfl), if_pos (show (toldR a1).2.2.2.2 = (toldT a1).2 from rfl), hw]
      rfl

end Go.Proofs.YthjjbkgifelooaaDoor.F
