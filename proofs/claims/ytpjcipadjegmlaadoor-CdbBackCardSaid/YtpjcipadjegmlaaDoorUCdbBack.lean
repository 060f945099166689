/- The plain law of headgatelaw15.CdbBack: whatever the input, it is true. No condition. -/
import Derived.Test.YtpjcipadjegmlaaDoorUCdbBuildIs
import Derived.Test.YtpjcipadjegmlaaDoorF6
namespace Go.Proofs.YtpjcipadjegmlaaDoor.F
open Go Go.RowKit Go.Proofs.YtpjcipadjegmlaaDoor.X
open Classical
set_option linter.unusedVariables false
set_option linter.unusedSimpArgs false

theorem cparse_size (s : ByteArray) (x : T_cdb_Ask) (h : cparse s = (x, 0)) : ¬ s.size = 0 ∧ (s.size : Int) = lenC (bt s 0) := by
  by_cases hb : s.size = 0 ∨ lenC (bt s 0) = 0 ∨ ¬ (s.size : Int) = lenC (bt s 0) ∨ ¬ bt s (lenC (bt s 0) - 1) = 0
  · rw [cparse_bad s hb] at h
    exact absurd (Prod.mk.inj h).2 (by decide)
  · simp only [not_or, Classical.not_not] at hb
    exact ⟨hb.1, hb.2.2.1⟩
theorem pbody_cases (s : ByteArray) (b : Int) : (pbody s b).2 = 0 ∨ pbody s b = (zA, 150) := by
  have p : ∀ (c : Prop) [Decidable c] (u v : T_cdb_Ask × Int), (u.2 = 0 ∨ u = (zA, 150)) → (v.2 = 0 ∨ v = (zA, 150)) → ((if c then u else v).2 = 0 ∨ (if c then u else v) = (zA, 150)) := by
    intro c _ u v hu hv
    split
    · exact hu
    · exact hv
  unfold pbody
  refine p _ _ _ (Or.inl rfl) (p _ _ _ (Or.inl rfl) (p _ _ _ (Or.inl rfl) (p _ _ _ (p _ _ _ (Or.inr rfl) (Or.inl rfl)) (p _ _ _ (p _ _ _ (Or.inr rfl) (Or.inl rfl)) (p _ _ _ (Or.inl rfl) (p _ _ _ (Or.inl rfl) (p _ _ _ (p _ _ _ (Or.inr rfl) (Or.inl rfl)) (p _ _ _ (Or.inr rfl) (p _ _ _ (p _ _ _ (Or.inr rfl) (Or.inl rfl)) (Or.inl rfl))))))))))
theorem cparse_cases (s : ByteArray) : (cparse s).2 = 0 ∨ cparse s = (zA, 150) := by
  unfold cparse
  split
  · exact Or.inr rfl
  · exact pbody_cases _ _
theorem good_ok (x : T_cdb_Ask) (b : Int) (h : goodA x b) : x.ok := by
  have := goodA_op x b h
  unfold goodA at h
  obtain ⟨f0, f1, f2, f3, f4, f5, f6⟩ := x
  simp only [T_cdb_Ask.mk.injEq] at h this
  constructor <;> simp only
  all_goals first
    | trivial
    | (rcases h with ⟨_, e⟩ | ⟨_, a1, a2, e⟩ | ⟨_, a1, a2, a3, e⟩ | ⟨_, a1, a2, a3, e⟩ | ⟨_, a1, a2, e⟩ | ⟨_, a1, e⟩ | ⟨_, a1, e⟩ | ⟨_, a0, a1, e⟩ | ⟨_, a0, e⟩ | ⟨_, a0, a1, e⟩ <;> omega)

theorem headgatelaw15_CdbBack.pure (a0 : T_cdb_Ask) (a1 : ByteArray) (o0 : a0.ok) (o1 : a1.size ≤ 140737488351232) : ∃ K, headgatelaw15_CdbBack.f K a0 a1 = some true := by
  refine ⟨200, ?_⟩
  have hw : headgatelaw15_wakes.f 200 = some true := headgatelaw15_wakes.is 0
  have laysz : ∀ x : T_cdb_Ask, goodA x (opA x) → ((strOfNums (layA x)).size : Int) = lenC (opA x) ∧ bt (strOfNums (layA x)) 0 = opA x := by
    intro x h
    have := isOp_of_good _ x (lay_parse x _ h)
    have e := (goodA_op x _ this.1).1
    rw [← e]
    exact ⟨(cparse_size _ x (lay_parse x _ h)).2, rfl⟩
  have small : ∀ op : Int, lenC op ≤ 16 := by
    intro op
    by_cases h : isOp op
    · rw [lenC_val op h]; (repeat' split) <;> omega
    · rw [lenC_none op h]; omega
  have pr : ∀ s : ByteArray, (s.size : Int) ≤ 5000 → cdb_Parse.f 200 s = some (cparse s) := fun s h => cdb_Parse.is s (by omega) 130
  unfold headgatelaw15_CdbBack.f
  by_cases hs : (a1.size : Int) > 5000
  · rw [if_pos hs, hw]; rfl
  rw [if_neg hs, show cdb_Build.f 200 a0 = _ from cdb_Build.is a0 o0 0, Option.bind_some]
  have j0 : headgatelaw15_CdbBack.j0 200 a1 = some true := by
    unfold headgatelaw15_CdbBack.j0
    rw [pr a1 (by omega), Option.bind_some]
    rcases cparse_cases a1 with h | h
    · have he : cparse a1 = ((cparse a1).1, 0) := by rw [← h]
      generalize (cparse a1).1 = y at he
      have hg := isOp_of_good a1 y he
      have e := (goodA_op y _ hg.1).1
      have hg1 := hg.1
      rw [e] at hg1
      have hsz := (cparse_size a1 y he).2
      rw [e] at hsz
      obtain ⟨z1, z2⟩ := laysz y hg1
      have hb : buildA y = (strOfNums (layA y), 0) := by unfold buildA; rw [if_pos hg1]
      rw [he, if_pos rfl, show cdb_Build.f 200 _ = some (buildA y) from cdb_Build.is y (good_ok y _ hg1) 0, Option.bind_some, hb]
      dsimp only
      rw [pr _ (by have := small (opA y); omega), Option.bind_some, lay_parse y _ hg1, if_pos rfl, if_pos rfl,
        show headgatelaw15_own.f _ = some (toR y) from rfl, Option.bind_some, Option.bind_some, headgateref15_Same.is, Option.bind_some, if_pos (by simp), if_pos (by omega), hw]
      rfl
    · rw [h, if_neg (by decide), if_pos rfl, show headgatelaw15_own.f _ = some (toR zA) from rfl, Option.bind_some, headgateref15_Same.is, Option.bind_some, if_pos (by simp [toR, zA]), hw]
      rfl
  unfold buildA
  by_cases hg : goodA a0 (opA a0)
  · obtain ⟨z1, z2⟩ := laysz a0 hg
    rw [if_pos hg, if_pos rfl]
    dsimp only
    rw [pr _ (by have := small (opA a0); omega), Option.bind_some, lay_parse a0 _ hg, if_pos rfl, show headgatelaw15_own.f _ = some (toR a0) from rfl, Option.bind_some, Option.bind_some, headgateref15_Same.is, Option.bind_some, if_pos (by simp),
      show cdb_Length.f 200 _ = _ from cdb_Length.is _ 130, Option.bind_some, if_pos]
    · exact j0
    · unfold lenS
      rw [if_neg (cparse_size _ a0 (lay_parse a0 _ hg)).1, z2]
      exact z1
  · rw [if_neg hg, if_neg (by decide)]
    exact j0

end Go.Proofs.YtpjcipadjegmlaaDoor.F
