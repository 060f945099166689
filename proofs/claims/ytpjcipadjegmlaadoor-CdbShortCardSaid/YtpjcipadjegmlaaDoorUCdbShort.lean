/- The plain law of headgatelaw15.CdbShort: whatever the input, it is true. No condition. -/
import Derived.Test.YtpjcipadjegmlaaDoorUCdbBuildIs
import Derived.Test.YtpjcipadjegmlaaDoorF7
namespace Go.Proofs.YtpjcipadjegmlaaDoor.F
open Go Go.RowKit Go.Proofs.YtpjcipadjegmlaaDoor.X
open Classical
set_option linter.unusedVariables false
set_option linter.unusedSimpArgs false

theorem cparse_good_size (s : ByteArray) (x : T_cdb_Ask) (h : cparse s = (x, 0)) : ¬ s.size = 0 ∧ (s.size : Int) = lenC (bt s 0) ∧ bt s (lenC (bt s 0) - 1) = 0 := by
  by_cases hb : s.size = 0 ∨ lenC (bt s 0) = 0 ∨ ¬ (s.size : Int) = lenC (bt s 0) ∨ ¬ bt s (lenC (bt s 0) - 1) = 0
  · rw [cparse_bad s hb] at h
    exact absurd (Prod.mk.inj h).2 (by decide)
  · simp only [not_or, Classical.not_not] at hb
    exact ⟨hb.1, hb.2.2.1, hb.2.2.2⟩
theorem headgatelaw15_CdbShort.pure (a0 : T_cdb_Ask) (a1 : Int) (a2 : Int) (o0 : a0.ok) (o1 : (-9223372036854775808) ≤ a1 ∧ a1 ≤ 9223372036854775807) (o2 : 0 ≤ a2 ∧ a2 ≤ 255) : ∃ K, headgatelaw15_CdbShort.f K a0 a1 a2 = some true := by
  refine ⟨200, ?_⟩
  have hw : headgatelaw15_wakes.f 200 = some true := headgatelaw15_wakes.is 0
  have pr : ∀ s : ByteArray, (s.size : Int) ≤ 5000 → cdb_Parse.f 200 s = some (cparse s) := fun s h => cdb_Parse.is s (by omega) 130
  unfold headgatelaw15_CdbShort.f
  rw [show cdb_Build.f 200 a0 = _ from cdb_Build.is a0 o0 0, Option.bind_some]
  unfold buildA
  by_cases hg : goodA a0 (opA a0)
  · rw [if_pos hg, if_pos rfl]
    dsimp only
    have hp : cparse (strOfNums (layA a0)) = (a0, 0) := lay_parse a0 _ hg
    generalize strOfNums (layA a0) = s at hp ⊢
    obtain ⟨c1, c2, c3⟩ := cparse_good_size s a0 hp
    have hop := (isOp_of_good s a0 hp).2
    have hz : 6 ≤ lenC (bt s 0) ∧ lenC (bt s 0) ≤ 16 := by rw [lenC_val _ hop]; (repeat' split) <;> omega
    have e1 : IntKind.wrap .u64 (s.size : Int) = s.size := by rw [wrapu64]; omega
    have hr : ∃ m : Nat, m < s.size ∧ IntKind.wrap .i64 (Int.tmod (IntKind.wrap .u64 a1) (s.size : Int)) = (m : Int) := by
      have h0 : 0 ≤ IntKind.wrap .u64 a1 := by rw [wrapu64]; omega
      rw [Int.tmod_eq_emod_of_nonneg h0]
      have q1 := Int.emod_nonneg (IntKind.wrap .u64 a1) (show (s.size : Int) ≠ 0 by omega)
      have q2 := Int.emod_lt_of_pos (IntKind.wrap .u64 a1) (show (0 : Int) < (s.size : Int) by omega)
      refine ⟨(IntKind.wrap .u64 a1 % (s.size : Int)).toNat, by omega, ?_⟩
      rw [wi (by omega) (by omega)]; omega
    obtain ⟨m, hm, em⟩ := hr
    have e2 : IntKind.wrap .i64 ((s.size : Int) - 1) = ((s.size - 1 : Nat) : Int) := by rw [wi (by omega) (by omega)]; omega
    rw [e1, em, e2, Int.toNat_natCast, Int.toNat_natCast]
    have x1 : (s.extract 0 m).size = m := by rw [extract_size s 0 m (by omega) (by omega)]; omega
    have x2 : (s.extract 0 (s.size - 1)).size = s.size - 1 := by rw [extract_size s 0 (s.size - 1) (by omega) (by omega)]; omega
    have x3 : (strOfNums [a2]).size = 1 := by rw [strOfNums_size]; rfl
    have p1 : cparse (s.extract 0 m) = (zA, 150) := by
      apply cparse_bad
      by_cases hm0 : m = 0
      · exact Or.inl (by rw [x1, hm0])
      · have : bt (s.extract 0 m) 0 = bt s 0 := by
          have := bt_extract s 0 m 0 (by omega) (by simp; omega) (by omega)
          simpa using this
        rw [this, x1]
        exact Or.inr (Or.inr (Or.inl (by omega)))
    have p2 : cparse (s ++ strOfNums [a2]) = (zA, 150) := by
      apply cparse_bad
      rw [bt_left s _ 0 (by simp; omega), ByteArray.size_append, x3]
      exact Or.inr (Or.inr (Or.inl (by omega)))
    have y1 : (s.extract 0 (s.size - 1) ++ strOfNums [a2]).size = s.size := by rw [ByteArray.size_append, x2, x3]; omega
    have yi : ∀ i : Int, 0 ≤ i → i < (s.size : Int) - 1 → bt (s.extract 0 (s.size - 1) ++ strOfNums [a2]) i = bt s i := by
      intro i h0 h1
      rw [bt_left _ _ i (by rw [x2]; omega)]
      have := bt_extract s 0 (s.size - 1) i h0 (by omega) (by omega)
      simpa using this
    have yl : bt (s.extract 0 (s.size - 1) ++ strOfNums [a2]) ((s.size : Int) - 1) = a2 := by
      rw [bt_right _ _ _ (by rw [x2]; omega), x2, bt_of _ (by simp only [inB_cons']; exact ⟨by omega, inB_nil⟩), show ((s.size : Int) - 1 - ((s.size - 1 : Nat) : Int)).toNat = 0 by omega]
      rfl
    have p3 : (cparse (s.extract 0 (s.size - 1) ++ strOfNums [a2])).2 = if a2 = 0 then 0 else 150 := by
      by_cases h : a2 = 0
      · have e : s.extract 0 (s.size - 1) ++ strOfNums [a2] = s := by
          refine text_ext y1 fun i hi => ?_
          rw [y1] at hi
          by_cases q : i < s.size - 1
          · exact yi i (by omega) (by omega)
          · rw [show (i : Int) = (s.size : Int) - 1 by omega, yl, h, c2, c3]
        rw [e, hp, if_pos h]
      · rw [if_neg h, cparse_bad]
        rw [yi 0 (by omega) (by omega), ← c2, yl]
        exact Or.inr (Or.inr (Or.inr h))
    rw [if_neg (fun e => c1 ((size0 s).1 e)), asrt_pos (by omega), asrt_pos (by omega), asrt_pos (by omega), pr _ (by rw [x1]; omega), Option.bind_some, asrt_pos (by rw [x3]; omega), pr _ (by rw [ByteArray.size_append, x3]; omega), Option.bind_some, asrt_pos (by omega), asrt_pos (by omega), asrt_pos (by rw [x2, x3]; omega),
      pr _ (by rw [y1]; omega), Option.bind_some, p1, p2, p3, if_pos rfl, if_pos rfl, hw]
    by_cases h : a2 = 0
    · rw [if_pos h, h]; rfl
    · rw [if_neg h, if_pos]
      · rfl
      · rw [show (a2 == 0) = false from by simp [h]]; rfl
  · rw [if_neg hg, if_neg (by decide), if_pos rfl, hw]; rfl
end Go.Proofs.YtpjcipadjegmlaaDoor.F
