/- The command of a list (layer 18): the program's and the document's are the same. No condition. -/
import Derived.Test.YtceagilmillgfaaUPut
import Derived.Test.YtceagilmillgfaaF7
import Derived.Test.YtceagilmillgfaaF8
import Derived.Test.YtceagilmillgfaaF13
namespace Go.Proofs.Ytceagilmillgfaa.F
open Go Go.RowKit Go.Proofs.Ytceagilmillgfaa.X
set_option linter.unusedVariables false
set_option linter.unusedSimpArgs false

def zc : T_api_Cmd := ⟨0, 0, ⟨#[]⟩, 0, 0, ⟨#[]⟩, false, [], 0, 0, 0, 0, false, 0⟩
def chgv (a0 a1 k o r : Int) : T_api_Cmd × Int :=
  if r = 0 ∨ r = 16777216 then
    if a0 = 0 ∧ a1 = 0 then (⟨8, 0, ⟨#[]⟩, 0, 0, ⟨#[]⟩, false, [], k, o, 0, 0, false, if r = 0 then 1 else 2⟩, 0)
    else if a0 = 6 ∧ a1 = 0 then (⟨8, 0, ⟨#[]⟩, 0, 0, ⟨#[]⟩, false, [], 0, o, 0, 0, true, if r = 0 then 1 else 2⟩, 0)
    else if a0 = 1 ∧ r = 0 ∧ o = 0 then (⟨9, 0, ⟨#[]⟩, 0, 0, ⟨#[]⟩, false, [], k, 0, 0, a1, false, 0⟩, 0)
    else if a0 = 2 ∧ r = 0 ∧ o = 0 then (⟨10, 0, ⟨#[]⟩, 0, 0, ⟨#[]⟩, false, [], k, 0, 0, a1, false, 0⟩, 0)
    else if a0 = 3 ∧ r = 0 ∧ o = 0 ∧ a1 = 0 then (⟨11, 0, ⟨#[]⟩, 0, 0, ⟨#[]⟩, false, [], k, 0, 0, 0, false, 0⟩, 0)
    else if a0 = 4 ∧ r = 0 then (⟨12, 0, ⟨#[]⟩, 0, 0, ⟨#[]⟩, false, [], k, 0, o, a1, false, 0⟩, 0)
    else (zc, 180)
  else (zc, 180)
def chg (a0 a1 : Int) (s : ByteArray) : T_api_Cmd × Int := if s.size = 24 then chgv a0 a1 (be s 0 8) (be s 8 8) (be s 16 8) else (zc, 180)
theorem chgv_out (a0 a1 k o r : Int) (h : a0 < 0 ∨ a0 > 6 ∨ a0 = 5) : chgv a0 a1 k o r = (zc, 180) := by
  unfold chgv
  split
  · repeat rw [if_neg (by omega)]
  · rfl

theorem prout_Change.is (a0 a1 : Int) (s : ByteArray) (K : Nat) : prout_Change.f (K + 9) a0 a1 s = some (chg a0 a1 s) := by
  by_cases hs : s.size = 24
  · have hsz : (s.size : Int) = 24 := by omega
    have B0 : fields_Big.f (K + 9) s 0 8 = some (be s 0 8, true) := (fields_Big.is s 0 8 K (by omega) (by omega) (by omega)).trans (by rw [if_pos (by omega)])
    have B8 : fields_Big.f (K + 9) s 8 8 = some (be s 8 8, true) := (fields_Big.is s 8 8 K (by omega) (by omega) (by omega)).trans (by rw [if_pos (by omega)])
    have B16 : fields_Big.f (K + 9) s 16 8 = some (be s 16 8, true) := (fields_Big.is s 16 8 K (by omega) (by omega) (by omega)).trans (by rw [if_pos (by omega)])
    have hr0 := be_lo s 16 8
    have hr1 := be_hi s 16 8
    have hN : bandNot .u64 (be s 16 8) 16777216 = 0 ↔ be s 16 8 = 0 ∨ be s 16 8 = 16777216 := by
      obtain ⟨r, hr⟩ := Int.eq_ofNat_of_zero_le hr0
      rw [hr] at hr1 ⊢
      have := bandNot_pow (x := r) (k := 24) (by omega) (by omega)
      have e : ((2 ^ 24 : Nat) : Int) = 16777216 := rfl
      rw [e] at this
      rw [this]
      omega
    have hB : band .u64 ((be s 16 8).fdiv 16777216) 1 = be s 16 8 / 16777216 % 2 := by
      rw [Int.fdiv_eq_ediv_of_nonneg _ (by omega), band_one] <;> omega
    have hops : prout_ops.f = some ⟨8, 9, 10, 11, 12, 0, 8⟩ := rfl
    rw [chg, if_pos hs]
    generalize be s 16 8 = r at *
    generalize be s 8 8 = o at *
    generalize be s 0 8 = k at *
    have hr : (r = 0 ∨ r = 16777216) ∨ ¬ (r = 0 ∨ r = 16777216) := Classical.em _
    unfold prout_Change.f
    simp only [hops, Option.bind_some, hsz, B0, B8, B16, hB, if_pos]
    rcases (by omega : a0 < 0 ∨ a0 > 6 ∨ a0 = 0 ∨ a0 = 1 ∨ a0 = 2 ∨ a0 = 3 ∨ a0 = 4 ∨ a0 = 5 ∨ a0 = 6) with h | h | rfl | rfl | rfl | rfl | rfl | rfl | rfl
    · rw [if_pos h, chgv_out _ _ _ _ _ (by omega)]; rfl
    · rw [if_neg (by omega), if_pos h, chgv_out _ _ _ _ _ (by omega)]; rfl
    all_goals
      rcases hr with (rfl | rfl) | hr
      · simp [chgv, zc, rdL, asrt, prout_Change.j0, prout_Change.j1, prout_Change.j2, hN] <;> (repeat' split) <;> simp_all
      · simp [chgv, zc, rdL, asrt, prout_Change.j0, prout_Change.j1, prout_Change.j2, hN] <;> (repeat' split) <;> simp_all
      · simp [chgv, zc, rdL, asrt, prout_Change.j0, prout_Change.j1, prout_Change.j2, hN, hr]
  · rw [chg, if_neg hs]
    have hsz : ¬ (s.size : Int) = 24 := by omega
    unfold prout_Change.f
    have hops : prout_ops.f = some ⟨8, 9, 10, 11, 12, 0, 8⟩ := rfl
    simp only [hops, Option.bind_some, if_neg hsz]
    by_cases h : a0 < 0
    · rw [if_pos h]; rfl
    · rw [if_neg h]
      by_cases h : a0 > 6
      · rw [if_pos h]; rfl
      · rw [if_neg h, asrt_pos (by omega), asrt_pos (by omega), ite_self]; rfl

def okAt (s : ByteArray) (i : Int) : Prop := bt s i = 0 ∨ i = 20 ∧ bt s i = 1
theorem refchg_loop (a0 a1 : Int) (s : ByteArray) (hs : (s.size : Int) = 24) (t u : Int × Bool) (K : Nat) : ∀ (m j : Nat), m ≤ 8 →
    ((∀ i : Int, 24 - m ≤ i → i < 24 → okAt s i) → headgateref18_Change.l0 K a0 a1 s t u (m + 1 + j) (24 - m) = headgateref18_Change.b0 K a0 a1 s t u (fun _ => none) 24) ∧
    (¬ (∀ i : Int, 24 - m ≤ i → i < 24 → okAt s i) → headgateref18_Change.l0 K a0 a1 s t u (m + 1 + j) (24 - m) = some (zc, 180)) := by
  intro m
  induction m with
  | zero =>
    intro j h
    refine ⟨fun _ => ?_, fun h => absurd (fun i h1 h2 => by omega) h⟩
    rw [show 0 + 1 + j = j + 1 by omega, headgateref18_Change.l0]
    unfold headgateref18_Change.b0
    simp only [Int.natCast_zero, Int.sub_zero, Int.lt_irrefl, if_false]
  | succ m ih =>
    intro j h
    obtain ⟨i1, i2⟩ := ih j (by omega)
    have e1 : IntKind.wrap .i64 (24 - ((m + 1 : Nat) : Int) + 1) = 24 - (m : Int) := by rw [wi] <;> omega
    rw [show m + 1 + 1 + j = (m + 1 + j) + 1 by omega, headgateref18_Change.l0]
    unfold headgateref18_Change.b0
    rw [if_pos (by omega), asrt_pos (by omega), asrt_pos (by omega), e1, if_neg (by omega : ¬ (24 : Int) < 24)]
    unfold headgateref18_Change.b0 at i1
    rw [if_neg (by omega : ¬ (24 : Int) < 24)] at i1
    have split_ : (∀ i : Int, 24 - ((m + 1 : Nat) : Int) ≤ i → i < 24 → okAt s i) ↔ okAt s (24 - ((m + 1 : Nat) : Int)) ∧ (∀ i : Int, 24 - (m : Int) ≤ i → i < 24 → okAt s i) := by
      refine ⟨fun h' => ⟨h' _ (by omega) (by omega), fun i h1 h2 => h' i (by omega) h2⟩, fun ⟨h1, h2⟩ i h3 h4 => ?_⟩
      by_cases hi : i = 24 - ((m + 1 : Nat) : Int)
      · rw [hi]; exact h1
      · exact h2 i (by omega) h4
    rw [split_]
    by_cases h1 : bt s (24 - ((m + 1 : Nat) : Int)) = 0
    · rw [if_pos h1]
      refine ⟨fun h' => i1 h'.2, fun h' => i2 fun h'' => h' ⟨.inl h1, h''⟩⟩
    · rw [if_neg h1]
      by_cases h2 : 24 - ((m + 1 : Nat) : Int) = 20
      · rw [if_pos h2]
        by_cases h3 : bt s (24 - ((m + 1 : Nat) : Int)) = 1
        · rw [if_pos h3]
          refine ⟨fun h' => i1 h'.2, fun h' => i2 fun h'' => h' ⟨.inr ⟨h2, h3⟩, h''⟩⟩
        · rw [if_neg h3]
          refine ⟨fun h' => ?_, fun h' => rfl⟩
          rcases h'.1 with h4 | h4
          · exact absurd h4 h1
          · exact absurd h4.2 h3
      · rw [if_neg h2]
        refine ⟨fun h' => ?_, fun h' => rfl⟩
        rcases h'.1 with h4 | h4
        · exact absurd h4 h1
        · exact absurd h4.1 h2

theorem allOk_iff (s : ByteArray) : (∀ i : Int, 16 ≤ i → i < 24 → okAt s i) ↔ (be s 16 8 = 0 ∨ be s 16 8 = 16777216) := by
  have e : be s 16 8 = (((((((bt s 16 * 256 + bt s 17) * 256 + bt s 18) * 256 + bt s 19) * 256 + bt s 20) * 256 + bt s 21) * 256 + bt s 22) * 256 + bt s 23) := by
    simp [be]
  rw [e]
  have h0 := bt_lo s 16; have h1 := bt_lo s 17; have h2 := bt_lo s 18; have h3 := bt_lo s 19; have h4 := bt_lo s 20; have h5 := bt_lo s 21; have h6 := bt_lo s 22; have h7 := bt_lo s 23
  have k0 := bt_hi s 16; have k1 := bt_hi s 17; have k2 := bt_hi s 18; have k3 := bt_hi s 19; have k4 := bt_hi s 20; have k5 := bt_hi s 21; have k6 := bt_hi s 22; have k7 := bt_hi s 23
  constructor
  · intro h
    have g0 := h 16 (by omega) (by omega); have g1 := h 17 (by omega) (by omega); have g2 := h 18 (by omega) (by omega); have g3 := h 19 (by omega) (by omega)
    have g4 := h 20 (by omega) (by omega); have g5 := h 21 (by omega) (by omega); have g6 := h 22 (by omega) (by omega); have g7 := h 23 (by omega) (by omega)
    unfold okAt at *
    omega
  · intro h i i1 i2
    unfold okAt
    rcases (by omega : i = 16 ∨ i = 17 ∨ i = 18 ∨ i = 19 ∨ i = 20 ∨ i = 21 ∨ i = 22 ∨ i = 23) with rfl | rfl | rfl | rfl | rfl | rfl | rfl | rfl <;> omega

theorem bt20 (s : ByteArray) (h : be s 16 8 = 0 ∨ be s 16 8 = 16777216) : bt s 20 = 1 ↔ be s 16 8 = 16777216 := by
  have e : be s 16 8 = (((((((bt s 16 * 256 + bt s 17) * 256 + bt s 18) * 256 + bt s 19) * 256 + bt s 20) * 256 + bt s 21) * 256 + bt s 22) * 256 + bt s 23) := by
    simp [be]
  rw [e] at h ⊢
  have h0 := bt_lo s 16; have h1 := bt_lo s 17; have h2 := bt_lo s 18; have h3 := bt_lo s 19; have h4 := bt_lo s 20; have h5 := bt_lo s 21; have h6 := bt_lo s 22; have h7 := bt_lo s 23
  have k0 := bt_hi s 16; have k1 := bt_hi s 17; have k2 := bt_hi s 18; have k3 := bt_hi s 19; have k4 := bt_hi s 20; have k5 := bt_hi s 21; have k6 := bt_hi s 22; have k7 := bt_hi s 23
  omega

theorem headgateref18_Change.is (a0 a1 : Int) (s : ByteArray) (K : Nat) : headgateref18_Change.f (K + 9) a0 a1 s = some (chg a0 a1 s) := by
  by_cases hs : s.size = 24
  · have hsz : (s.size : Int) = 24 := by omega
    have B0 : headgateref01_Big.f (K + 9) s 0 8 = some (be s 0 8, true) := (headgateref01_Big.is s 0 8 K (by omega) (by omega) (by omega)).trans (by rw [if_pos (by omega)])
    have B8 : headgateref01_Big.f (K + 9) s 8 8 = some (be s 8 8, true) := (headgateref01_Big.is s 8 8 K (by omega) (by omega) (by omega)).trans (by rw [if_pos (by omega)])
    have hL := refchg_loop a0 a1 s hsz (be s 0 8, true) (be s 8 8, true) (K + 9) 8 K (by omega)
    rw [show 8 + 1 + K = K + 9 by omega, show (24 : Int) - (8 : Nat) = 16 by omega, allOk_iff] at hL
    have h20 := bt20 s
    rw [chg, if_pos hs]
    unfold headgateref18_Change.f
    rw [if_pos hsz]
    generalize be s 16 8 = r at *
    generalize be s 8 8 = o at *
    generalize be s 0 8 = k at *
    rcases (by omega : a0 < 0 ∨ a0 > 6 ∨ a0 = 5 ∨ a0 = 0 ∨ a0 = 1 ∨ a0 = 2 ∨ a0 = 3 ∨ a0 = 4 ∨ a0 = 6) with h | h | rfl | h
    · rw [if_pos h, chgv_out _ _ _ _ _ (by omega)]; rfl
    · rw [if_neg (by omega), if_pos h, chgv_out _ _ _ _ _ (by omega)]; rfl
    · rw [if_neg (by omega), if_neg (by omega), if_pos rfl, chgv_out _ _ _ _ _ (by omega)]; rfl
    · rw [if_neg (by omega), if_neg (by omega), if_neg (by omega), B0, B8]
      simp only [Option.bind_some]
      by_cases hr : r = 0 ∨ r = 16777216
      · rw [hL.1 hr]
        have h20 := h20 hr
        unfold headgateref18_Change.b0
        rw [if_neg (by omega : ¬ (24 : Int) < 24), asrt_pos (by omega)]
        rcases hr with rfl | rfl <;> rcases h with rfl | rfl | rfl | rfl | rfl | rfl <;> simp [chgv, zc, headgateref18_Change.j0, headgateref18_Change.j1, h20] <;> (repeat' split) <;> simp_all
      · rw [hL.2 hr]
        unfold chgv
        rw [if_neg hr]
  · rw [chg, if_neg hs]
    have hsz : ¬ (s.size : Int) = 24 := by omega
    unfold headgateref18_Change.f
    rw [if_neg hsz]; rfl

end Go.Proofs.Ytceagilmillgfaa.F
