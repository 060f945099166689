/- The plain law of headgatelaw15.CdbForms: whatever the input, it is true. No condition. -/
import Derived.Test.YtpjcipadjegmlaaDoorUCdbBuildIs
import Derived.Test.YtpjcipadjegmlaaDoorF8
namespace Go.Proofs.YtpjcipadjegmlaaDoor.F
open Go Go.RowKit Go.Proofs.YtpjcipadjegmlaaDoor.X
open Classical
set_option linter.unusedVariables false
set_option linter.unusedSimpArgs false

set_option maxHeartbeats 1000000 in
theorem headgatelaw15_CdbForms.pure (a0 : Int) (a1 : Int) (a2 : Bool) (o0 : 0 ≤ a0 ∧ a0 ≤ 4294967295) (o1 : 0 ≤ a1 ∧ a1 ≤ 4294967295) (o2 : True) : ∃ K, headgatelaw15_CdbForms.f K a0 a1 a2 = some true := by
  refine ⟨200, ?_⟩
  have hw : headgatelaw15_wakes.f 200 = some true := headgatelaw15_wakes.is 0
  have en : IntKind.wrap .i64 (Int.tmod a0 2147483648) = a0 % 2147483648 := by rw [Int.tmod_eq_emod_of_nonneg o0.1, wi (by omega) (by omega)]
  have ek : IntKind.wrap .i64 (Int.tmod a1 65536) = a1 % 65536 := by rw [Int.tmod_eq_emod_of_nonneg o1.1, wi (by omega) (by omega)]
  have hn : 0 ≤ a0 % 2147483648 ∧ a0 % 2147483648 ≤ 2147483647 := by omega
  have hk : 0 ≤ a1 % 65536 ∧ a1 % 65536 ≤ 65535 := by omega
  have j0 : ∀ (again : Int → Option Bool) (i s l : Int) (u v : Bool), (s = 40 ∧ l = 136 ∧ u = false ∧ v = false) ∨ (s = 42 ∧ l = 138 ∧ u = v) → again (IntKind.wrap .i64 (i + 1)) = some true → headgatelaw15_CdbForms.j0 200 a0 a1 again i s u l v = some true := by
    intro again i s l u v hc ha
    unfold headgatelaw15_CdbForms.j0
    rw [en, ek]
    generalize a0 % 2147483648 = n at hn
    generalize a1 % 65536 = k at hk
    have huv : u = v := by rcases hc with h | h <;> simp_all
    have oS : (⟨s, n, k, u, 0, 0, 0⟩ : T_cdb_Ask).ok := by constructor <;> simp only <;> first | omega | trivial
    have oL : (⟨l, n, k, v, 0, 0, 0⟩ : T_cdb_Ask).ok := by constructor <;> simp only <;> first | omega | trivial
    have eS : opA ⟨s, n, k, u, 0, 0, 0⟩ = s := by unfold opA; rw [if_neg (by simp only; omega)]
    have eL : opA ⟨l, n, k, v, 0, 0, 0⟩ = l := by unfold opA; rw [if_neg (by simp only; omega)]
    have gS : goodA ⟨s, n, k, u, 0, 0, 0⟩ s := Or.inr (Or.inr (Or.inl ⟨by omega, by simp only; omega, by simp only; omega, by rcases hc with h | h <;> simp_all, rfl⟩))
    have gL : goodA ⟨l, n, k, v, 0, 0, 0⟩ l := Or.inr (Or.inr (Or.inr (Or.inl ⟨by omega, by simp only; omega, by simp only; omega, by rcases hc with h | h <;> simp_all, rfl⟩)))
    have bS : buildA ⟨s, n, k, u, 0, 0, 0⟩ = (strOfNums (layA ⟨s, n, k, u, 0, 0, 0⟩), 0) := by unfold buildA; rw [eS, if_pos gS]
    have bL : buildA ⟨l, n, k, v, 0, 0, 0⟩ = (strOfNums (layA ⟨l, n, k, v, 0, 0, 0⟩), 0) := by unfold buildA; rw [eL, if_pos gL]
    have zS : (strOfNums (layA ⟨s, n, k, u, 0, 0, 0⟩)).size = 10 := by
      rw [strOfNums_size]; unfold layA; rw [eS]
      rw [if_neg (by omega), if_neg (by omega), if_neg (by omega), if_pos (by omega)]
      simp [beB_length]
    have zL : (strOfNums (layA ⟨l, n, k, v, 0, 0, 0⟩)).size = 16 := by
      rw [strOfNums_size]; unfold layA; rw [eL]
      rw [if_neg (by omega), if_neg (by omega), if_neg (by omega), if_neg (by omega), if_pos (by omega)]
      simp [beB_length]
    rw [show cdb_Build.f 200 ⟨s, n, k, u, 0, 0, 0⟩ = _ from cdb_Build.is _ oS 0, Option.bind_some, show cdb_Build.f 200 ⟨l, n, k, v, 0, 0, 0⟩ = _ from cdb_Build.is _ oL 0, Option.bind_some, bS, bL,
      show cdb_Parse.f 200 (strOfNums (layA ⟨s, n, k, u, 0, 0, 0⟩)) = _ from cdb_Parse.is _ (by omega) 130, Option.bind_some, show cdb_Parse.f 200 (strOfNums (layA ⟨l, n, k, v, 0, 0, 0⟩)) = _ from cdb_Parse.is _ (by omega) 130, Option.bind_some, lay_parse _ _ gS, lay_parse _ _ gL]
    simp only [if_true]
    rw [if_pos (by omega), if_pos (by omega), if_pos huv]
    exact ha
  have e2 : headgatelaw15_CdbForms.l0 200 a0 a1 a2 198 2 = some true := by
    rw [headgatelaw15_CdbForms.l0]
    unfold headgatelaw15_CdbForms.b0
    rw [if_neg (by omega), hw]; rfl
  have e1 : headgatelaw15_CdbForms.l0 200 a0 a1 a2 199 1 = some true := by
    rw [headgatelaw15_CdbForms.l0]
    unfold headgatelaw15_CdbForms.b0
    rw [if_pos (by omega), if_pos rfl]
    exact j0 _ _ _ _ _ _ (Or.inr ⟨rfl, rfl, rfl⟩) e2
  unfold headgatelaw15_CdbForms.f
  rw [headgatelaw15_CdbForms.l0]
  unfold headgatelaw15_CdbForms.b0
  rw [if_pos (by omega), if_neg (by omega)]
  exact j0 _ _ _ _ _ _ (Or.inl ⟨rfl, rfl, rfl, rfl⟩) e1

end Go.Proofs.YtpjcipadjegmlaaDoor.F
