/- The plain law of headgatelaw18.ProutBack: whatever the input, it is true. No condition. -/
import Derived.Test.YtceagilmillgfaaUProutChanges
import Derived.Test.YtceagilmillgfaaF4
namespace Go.Proofs.Ytceagilmillgfaa.F
open Go Go.RowKit Go.Proofs.Ytceagilmillgfaa.X
open Classical
set_option linter.unusedVariables false
set_option linter.unusedSimpArgs false

theorem chg_f7 (a b : Int) (s : ByteArray) : (chg a b s).1.f7 = [] := by
  unfold chg; split
  · exact chgv_empty _ _ _ _ _
  · rfl
theorem chgv_cases (a b k o r : Int) : chgv a b k o r = (zc, 180) ∨ (chgv a b k o r).2 = 0 := by
  unfold chgv
  (repeat' split) <;> simp
/-- The list of what was read asks the same. -/
theorem chgv_back (a b k o r : Int) (hk : 0 ≤ k ∧ k ≤ 18446744073709551615) (ho : 0 ≤ o ∧ o ≤ 18446744073709551615) (h : (chgv a b k o r).2 = 0) :
    nOf (chgv a b k o r).1 = a ∧ chgv a (chgv a b k o r).1.f11 (chgv a b k o r).1.f8 (mOf (chgv a b k o r).1) (rOf (chgv a b k o r).1) = (chgv a b k o r) ∧ (0 ≤ (chgv a b k o r).1.f8 ∧ (chgv a b k o r).1.f8 ≤ 18446744073709551615) ∧
      (0 ≤ (chgv a b k o r).1.f9 ∧ (chgv a b k o r).1.f9 ≤ 18446744073709551615) ∧ (0 ≤ (chgv a b k o r).1.f10 ∧ (chgv a b k o r).1.f10 ≤ 18446744073709551615) := by
  have b0 : bor .u64 o 0 = o := by
    obtain ⟨x, hx⟩ := Int.eq_ofNat_of_zero_le ho.1
    have := bits_or x 0 (by omega) (by omega)
    rw [hx]; simpa using this
  have b1 : bor .u64 0 o = o := by
    obtain ⟨x, hx⟩ := Int.eq_ofNat_of_zero_le ho.1
    have := bits_or 0 x (by omega) (by omega)
    rw [hx]; simpa using this
  have b2 : bor .u64 0 0 = 0 := rfl
  by_cases hr : r = 0 ∨ r = 16777216
  · by_cases c0 : a = 0 ∧ b = 0
    · obtain ⟨rfl, rfl⟩ := c0
      rcases hr with rfl | rfl <;> simp [chgv, nOf, mOf, rOf, b0, hk, ho]
    by_cases c6 : a = 6 ∧ b = 0
    · obtain ⟨rfl, rfl⟩ := c6
      rcases hr with rfl | rfl <;> simp [chgv, nOf, mOf, rOf, b0, hk, ho]
    by_cases c1 : a = 1 ∧ r = 0 ∧ o = 0
    · obtain ⟨rfl, rfl, rfl⟩ := c1
      simp [chgv, nOf, mOf, rOf, b2, hk, ho]
    by_cases c2 : a = 2 ∧ r = 0 ∧ o = 0
    · obtain ⟨rfl, rfl, rfl⟩ := c2
      simp [chgv, nOf, mOf, rOf, b2, hk, ho]
    by_cases c3 : a = 3 ∧ r = 0 ∧ o = 0 ∧ b = 0
    · obtain ⟨rfl, rfl, rfl, rfl⟩ := c3
      simp [chgv, nOf, mOf, rOf, b2, hk, ho]
    by_cases c4 : a = 4 ∧ r = 0
    · obtain ⟨rfl, rfl⟩ := c4
      simp [chgv, nOf, mOf, rOf, b1, hk, ho]
    exfalso
    unfold chgv at h
    rw [if_pos hr, if_neg c0, if_neg c6, if_neg c1, if_neg c2, if_neg c3, if_neg c4] at h
    exact absurd h (by decide)
  · exfalso
    unfold chgv at h
    rw [if_neg hr] at h
    exact absurd h (by decide)

theorem lst_back (c : T_api_Cmd) (h : (lst c).2.2 = 0) (hk : 0 ≤ c.f8 ∧ c.f8 ≤ 18446744073709551615) (hm : 0 ≤ mOf c ∧ mOf c ≤ 18446744073709551615) : chg (lst c).1 c.f11 (lst c).2.1 = (c, 0) := by
  unfold lst at h ⊢
  by_cases h' : chgv (nOf c) c.f11 c.f8 (mOf c) (rOf c) = (c, 0)
  · rw [if_pos h']
    have hr : rOf c = 0 ∨ rOf c = 16777216 := by unfold rOf; split <;> simp
    rw [chg_str _ _ _ _ _ hk hm (by omega)]
    exact h'
  · rw [if_neg h'] at h
    exact absurd h (by decide)

theorem headgatelaw18_ProutBack.pure (a0 : T_api_Cmd) (a1 : T_arr2_3) (a2 : ByteArray) (o0 : a0.ok) (o1 : a1.ok) (o2 : a2.size ≤ 140737488351232) : ∃ K, headgatelaw18_ProutBack.f K a0 a1 a2 = some true := by
  refine ⟨191 + 9, ?_⟩
  have hw := headgatelaw18_wakes.is 0
  have hw' : (headgatelaw18_wakes.f (191 + 9)).bind (fun t => some t) = some true := (congrArg (fun x => Option.bind x fun t => some t) hw).trans rfl
  have jt : headgatelaw18_ProutBack.j0 (191 + 9) a0 a1 a2 true = some true := by
    unfold headgatelaw18_ProutBack.j0
    rw [if_pos rfl]
    exact hw'
  have j1 : headgatelaw18_ProutBack.j1 (191 + 9) a1 a2 = some true := by
    unfold headgatelaw18_ProutBack.j1
    rw [prout_Change.is, Option.bind_some]
    have hk := be_lo a2 0 8; have hk2 := be_hi a2 0 8; have ho := be_lo a2 8 8; have ho2 := be_hi a2 8 8
    have hf7 := chg_f7 a1.f0 a1.f1 a2
    by_cases h0 : (chg a1.f0 a1.f1 a2).2 = 0
    · rw [if_pos h0]
      have hb : nOf (chg a1.f0 a1.f1 a2).1 = a1.f0 ∧ chgv a1.f0 (chg a1.f0 a1.f1 a2).1.f11 (chg a1.f0 a1.f1 a2).1.f8 (mOf (chg a1.f0 a1.f1 a2).1) (rOf (chg a1.f0 a1.f1 a2).1) = chg a1.f0 a1.f1 a2 ∧
          (0 ≤ (chg a1.f0 a1.f1 a2).1.f8 ∧ (chg a1.f0 a1.f1 a2).1.f8 ≤ 18446744073709551615) ∧ (0 ≤ (chg a1.f0 a1.f1 a2).1.f9 ∧ (chg a1.f0 a1.f1 a2).1.f9 ≤ 18446744073709551615) ∧ (0 ≤ (chg a1.f0 a1.f1 a2).1.f10 ∧ (chg a1.f0 a1.f1 a2).1.f10 ≤ 18446744073709551615) := by
        unfold chg at h0 ⊢
        by_cases hs : a2.size = 24
        · rw [if_pos hs] at h0 ⊢
          exact chgv_back _ _ _ _ _ (by omega) (by omega) h0
        · rw [if_neg hs] at h0
          exact absurd h0 (by decide)
      obtain ⟨hn, hc, h8, h9, h10⟩ := hb
      have hm := mOf_range _ h9 h10
      have e : chg a1.f0 a1.f1 a2 = ((chg a1.f0 a1.f1 a2).1, 0) := Prod.ext rfl h0
      rw [prout_List.is _ h8 hm, Option.bind_some, prout_Change.is, Option.bind_some]
      have hl : lst (chg a1.f0 a1.f1 a2).1 = (a1.f0, str (chg a1.f0 a1.f1 a2).1.f8 (mOf (chg a1.f0 a1.f1 a2).1) (rOf (chg a1.f0 a1.f1 a2).1), 0) := by
        unfold lst
        rw [hn, if_pos (hc.trans e)]
      have hb := lst_back (chg a1.f0 a1.f1 a2).1 (by rw [hl]) h8 hm
      rw [hb, hl]
      rw [if_pos rfl, if_pos rfl, if_pos rfl, headgatekeep_Cmds.is _ _ _ (by simp [hf7]) (by simp [hf7])]
      simp only [decide_true, Option.bind_some, if_true]
      exact hw'
    · rw [if_neg h0]
      have e : chg a1.f0 a1.f1 a2 = (zc, 180) := by
        unfold chg at h0 ⊢
        by_cases hs : a2.size = 24
        · rw [if_pos hs] at h0 ⊢
          exact (chgv_cases _ _ _ _ _).resolve_right h0
        · rw [if_neg hs]
      rw [e]
      rw [if_pos rfl, headgatekeep_Cmds.is _ _ _ (by simp [zc]) (by simp [zc])]
      simp only [zc, decide_true, Option.bind_some, if_true]
      exact hw'
  unfold headgatelaw18_ProutBack.f
  by_cases h : (a2.size : Int) > 5000
  · rw [if_pos h]; exact jt
  · rw [if_neg h]
    obtain ⟨b, hb, hb2⟩ := headgatelaw18_large.is a0
    rw [hb, Option.bind_some]
    cases b with
    | true => exact jt
    | false =>
      have hl := hb2 rfl
      have hm := mOf_range a0 o0.f9 o0.f10
      unfold headgatelaw18_ProutBack.j0
      rw [if_neg (by simp), prout_List.is a0 o0.f8 hm, Option.bind_some]
      by_cases h0 : (lst a0).2.2 = 0
      · rw [if_pos h0, prout_Change.is, Option.bind_some, lst_back a0 h0 o0.f8 hm, if_pos rfl, headgatekeep_Cmds.is _ _ _ (by omega) (by omega)]
        simp only [decide_true, Option.bind_some, if_true]
        exact j1
      · rw [if_neg h0]; exact j1

end Go.Proofs.Ytceagilmillgfaa.F
