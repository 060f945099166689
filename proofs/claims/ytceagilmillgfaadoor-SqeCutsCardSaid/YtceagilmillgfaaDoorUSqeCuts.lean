/- The plain law of headgatelaw25.SqeCuts: whatever the input, it is true. No condition. -/
import Derived.Test.YtceagilmillgfaaDoorUSqeGets
import Derived.Test.YtceagilmillgfaaDoorF7
namespace Go.Proofs.YtceagilmillgfaaDoor.F
open Go Go.RowKit Go.Proofs.YtceagilmillgfaaDoor.X
open Classical
set_option linter.unusedVariables false
set_option linter.unusedSimpArgs false

theorem getSq_len (s : ByteArray) (h : s.size ≠ 64) : (getSq s).2.2 = 250 := by unfold getSq; rw [if_neg (fun h' => h h'.1)]
theorem endedCq_len (s : ByteArray) (h : s.size ≠ 16) : (endedCq s).2 = 250 := by unfold endedCq; rw [if_neg (fun h' => h h'.1)]

theorem cut_size (s : ByteArray) (v : Int) (n : Nat) (hn : 0 < n) (hs : s.size = n) (h64 : n ≤ 64) :
    ¬ (IntKind.wrap .u64 (s.size : Int)) = 0 ∧ 0 ≤ IntKind.wrap .i64 (Int.tmod (IntKind.wrap .u64 v) (IntKind.wrap .u64 (s.size : Int))) ∧ IntKind.wrap .i64 (Int.tmod (IntKind.wrap .u64 v) (IntKind.wrap .u64 (s.size : Int))) ≤ (s.size : Int) ∧
      (s.extract 0 (IntKind.wrap .i64 (Int.tmod (IntKind.wrap .u64 v) (IntKind.wrap .u64 (s.size : Int)))).toNat).size ≠ n := by
  have e : IntKind.wrap .u64 (s.size : Int) = (n : Int) := by rw [wu] <;> omega
  have hv : 0 ≤ IntKind.wrap .u64 v := wrapu64_lo v
  rw [e, Int.tmod_eq_emod_of_nonneg hv]
  have h1 := Int.emod_nonneg (IntKind.wrap .u64 v) (show (n : Int) ≠ 0 by omega)
  have h2 := Int.emod_lt_of_pos (IntKind.wrap .u64 v) (show (0 : Int) < n by omega)
  generalize IntKind.wrap .u64 v % (n : Int) = m at h1 h2
  rw [wi (by omega) (by omega)]
  refine ⟨by omega, h1, by omega, ?_⟩
  rw [ByteArray.size_extract]
  omega

theorem headgatelaw25_SqeCuts.pure (a0 : T_api_Sqe) (a1 : T_api_Cqe) (a2 : Int) (o0 : a0.ok) (o1 : a1.ok) (o2 : -9223372036854775808 ≤ a2 ∧ a2 ≤ 9223372036854775807) : ∃ K, headgatelaw25_SqeCuts.f K a0 a1 a2 = some true := by
  refine ⟨180 + 20, ?_⟩
  have hw : headgatelaw25_wakes.f (180 + 20) = some true := headgatelaw25_wakes.is 0
  have one : ((⟨#[0]⟩ : ByteArray)).size = 1 := rfl
  have j1 : headgatelaw25_SqeCuts.j1 (180 + 20) a2 (putCq a1) = some true := by
    unfold headgatelaw25_SqeCuts.j1 putCq
    by_cases hk : okCq a1
    · rw [if_pos hk, if_pos rfl]
      have hs : (strOfNums (layCq a1)).size = 16 := by rw [strOfNums_size]; rfl
      obtain ⟨c1, c2, c3, c4⟩ := cut_size (strOfNums (layCq a1)) a2 16 (by omega) hs (by omega)
      rw [asrt_pos c1, asrt_pos c2, asrt_pos c3, sqe_Ended.is, Option.bind_some, asrt_pos (by simp only [hs]; omega), sqe_Ended.is, Option.bind_some, if_pos (endedCq_len _ c4), if_pos (endedCq_len _ (by rw [ByteArray.size_append, one]; simp only [hs]; omega)), hw]
      rfl
    · rw [if_neg hk, if_neg (by decide), hw]; rfl
  have j0 : headgatelaw25_SqeCuts.j0 (180 + 20) a2 (putSq a0 (Int.tmod a2 2 == 0)) (putCq a1) = some true := by
    unfold headgatelaw25_SqeCuts.j0
    generalize (Int.tmod a2 2 == 0) = w
    have e : putSq a0 w = if okSq a0 then (strOfNums (laySq a0 w), 0) else (⟨#[]⟩, 250) := rfl
    rw [e]
    by_cases hk : okSq a0
    · rw [if_pos hk, if_pos rfl]
      have hs : (strOfNums (laySq a0 w)).size = 64 := by rw [strOfNums_size]; rfl
      obtain ⟨c1, c2, c3, c4⟩ := cut_size (strOfNums (laySq a0 w)) a2 64 (by omega) hs (by omega)
      rw [asrt_pos c1, asrt_pos c2, asrt_pos c3, sqe_Get.is, Option.bind_some, asrt_pos (by simp only [hs]; omega), sqe_Get.is, Option.bind_some, if_pos (getSq_len _ c4), if_pos (getSq_len _ (by rw [ByteArray.size_append, one]; simp only [hs]; omega))]
      exact j1
    · rw [if_neg hk, if_neg (by decide)]; exact j1
  unfold headgatelaw25_SqeCuts.f
  rw [sqe_Put.is _ o0, Option.bind_some, sqe_End.is _ o1, Option.bind_some]
  have n1 : (putSq a0 (Int.tmod a2 2 == 0)).2 = 0 → ¬ (putSq a0 (Int.tmod a2 2 == 0)).1 = (⟨#[]⟩ : ByteArray) := by
    intro h h'
    unfold putSq at h h'
    by_cases hk : okSq a0
    · rw [if_pos hk] at h'
      have := congrArg ByteArray.size h'
      simp only [strOfNums_size] at this
      have h2 : (64 : Nat) = 0 := this; omega
    · rw [if_neg hk] at h
      exact absurd h (by decide)
  have n2 : (putCq a1).2 = 0 → ¬ (putCq a1).1 = (⟨#[]⟩ : ByteArray) := by
    intro h h'
    unfold putCq at h h'
    by_cases hk : okCq a1
    · rw [if_pos hk] at h'
      have := congrArg ByteArray.size h'
      simp only [strOfNums_size] at this
      have h2 : (16 : Nat) = 0 := this; omega
    · rw [if_neg hk] at h
      exact absurd h (by decide)
  by_cases h1 : (putSq a0 (Int.tmod a2 2 == 0)).2 = 0
  · rw [if_pos h1, if_neg (n1 h1)]
    by_cases h2 : (putCq a1).2 = 0
    · rw [if_pos h2, if_neg (n2 h2)]; exact j0
    · rw [if_neg h2]; exact j0
  · rw [if_neg h1]
    by_cases h2 : (putCq a1).2 = 0
    · rw [if_pos h2, if_neg (n2 h2)]; exact j0
    · rw [if_neg h2]; exact j0

end Go.Proofs.YtceagilmillgfaaDoor.F
