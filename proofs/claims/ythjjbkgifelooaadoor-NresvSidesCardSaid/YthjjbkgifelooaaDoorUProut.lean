/- The command of a list (layer 18): the program's and the document's are the same. No condition. -/
import Derived.Test.YthjjbkgifelooaaDoorUPut
import Derived.Test.YthjjbkgifelooaaDoorF68
import Derived.Test.YthjjbkgifelooaaDoorF68
namespace Go.Proofs.YthjjbkgifelooaaDoor.F
open Go Go.RowKit Go.Proofs.YthjjbkgifelooaaDoor.X
set_option linter.unusedVariables false
set_option linter.unusedSimpArgs false

def zc : T_api_Cmd := ⟨0, 0, ⟨#[]⟩, 0, 0, ⟨#[]⟩, false, [], 0, 0, 0, 0, false, 0⟩
def chgv (a0 a1 k o r : Int) : T_api_Cmd × Int :=
  if r = 0 ∨ r = 16777216 then
    if a0 = 0 ∧ a1 = 0 then (⟨8, 0, ⟨#[]⟩, 0, 0, ⟨#[]⟩, false, [], k, o, 0, 0, false, if r = 0 then 1 else 2⟩, 0)
    else if a0 = 6 ∧ a1 = 0 then (⟨8, 0, ⟨#[]⟩, 0, 0, ⟨#[]⟩, false, [], 0, o, 0, 0, true, if r = 0 then 1 else 2⟩, 0)
    else if a0 = 1 ∧ r = 0 ∧ o = 0 then (⟨9, 0, ⟨#[]⟩, 0, 0, ⟨#[]⟩, false, [], k, 0, 0, a1, false, 0⟩, 0)
    else if a0 = 2 ∧ r = 0 ∧ o = 0 then (⟨10, 0, ⟨#[]⟩, 0, 0, ⟨#[]⟩, false, [], k, 0, 0, a1, false, 0⟩, 0)
    else if a0 = 3 ∧ r = 0 ∧ o = 0 ∧ a1 = 0 then (⟨11, 0, ⟨#[]⟩, 0, 0, ⟨#[]⟩, false, [], k, 0, 0, 0, false, 0⟩, 0)
    else if a0 = 4 ∧ r = 0 then (⟨12, 0, ⟨#[]⟩, 0, 0, ⟨#[]⟩, false, [], k, 0, o, a1, false, 0⟩, 0)
    else (zc, 180)
  else (zc, 180)
def chg (a0 a1 : Int) (s : ByteArray) : T_api_Cmd × Int := if s.size = 24 then chgv a0 a1 (be s 0 8) (be s 8 8) (be s 16 8) else (zc, 180)
theorem chgv_out (a0 a1 k o r : Int) (h : a0 < 0 ∨ a0 > 6 ∨ a0 = 5) : chgv a0 a1 k o r = (zc, 180) := by
  unfold chgv
  split
  · repeat rw [if_neg (by omega)]
  · rfl

theorem prout_Change.is (a0 a1 : Int) (s : ByteArray) (K : Nat) : prout_Change.f (K + 9) a0 a1 s = some (chg a0 a1 s) := by
  by_cases hs : s.size = 24
  · have hsz : (s.size : Int) = 24 := by omega
    have B0 : fields_Big.f (K + 9) s 0 8 = some (be s 0 8, true) := (fields_Big.is s 0 8 K (by omega) (by omega) (by omega)).trans (by rw [if_pos (by omega)])
    have B8 : fields_Big.f (K + 9) s 8 8 = some (be s 8 8, true) := (fields_Big.is s 8 8 K (by omega) (by omega) (by omega)).trans (by rw [if_pos (by omega)])
    have B16 : fields_Big.f (K + 9) s 16 8 = some (be s 16 8, true) := (fields_Big.is s 16 8 K (by omega) (by omega) (by omega)).trans (by rw [if_pos (by omega)])
    have hr0 := be_lo s 16 8
    have hr1 := be_hi s 16 8
    have hN : bandNot .u64 (be s 16 8) 16777216 = 0 ↔ be s 16 8 = 0 ∨ be s 16 8 = 16777216 := by
      obtain ⟨r, hr⟩ := Int.eq_ofNat_of_zero_le hr0
      rw [hr] at hr1 ⊢
      have := bandNot_pow (x := r) (k := 24) (by omega) (by omega)
      have e : ((2 ^ 24 : Nat) : Int) = 16777216 := rfl
      rw [e] at this
      rw [this]
      omega
    have hB : band .u64 ((be s 16 8).fdiv 16777216) 1 = be s 16 8 / 16777216 % 2 := by
      rw [Int.fdiv_eq_ediv_of_nonneg _ (by omega), band_one] <;> omega
    have hops : prout_ops.f = some ⟨8, 9, 10, 11, 12, 0, 8⟩ := rfl
    rw [chg, if_pos hs]
    generalize be s 16 8 = r at *
    generalize be s 8 8 = o at *
    generalize be s 0 8 = k at *
    have hr : (r = 0 ∨ r = 16777216) ∨ ¬ (r = 0 ∨ r = 16777216) := Classical.em _
    unfold prout_Change.f
    simp only [hops, Option.bind_some, hsz, B0, B8, B16, hB, if_pos]
    rcases (by omega : a0 < 0 ∨ a0 > 6 ∨ a0 = 0 ∨ a0 = 1 ∨ a0 = 2 ∨ a0 = 3 ∨ a0 = 4 ∨ a0 = 5 ∨ a0 = 6) with h | h | rfl | rfl | rfl | rfl | rfl | rfl | rfl
    · rw [if_pos h, chgv_out _ _ _ _ _ (by omega)]; rfl
    · rw [if_neg (by omega), if_pos h, chgv_out _ _ _ _ _ (by omega)]; rfl
    all_goals
      rcases hr with (rfl | rfl) | hr
      · simp [chgv, zc, rdL, asrt, prout_Change.j0, prout_Change.j1, prout_Change.j2, hN] <;> (repeat' split) <;> simp_all
      · simp [chgv, zc, rdL, asrt, prout_Change.j0, prout_Change.j1, prout_Change.j2, hN] <;> (repeat' split) <;> simp_all
      · simp [chgv, zc, rdL, asrt, prout_Change.j0, prout_Change.j1, prout_Change.j2, hN, hr]
  · rw [chg, if_neg hs]
    have hsz : ¬ (s.size : Int) = 24 := by omega
    unfold prout_Change.f
    have hops : prout_ops.f = some ⟨8, 9, 10, 11, 12, 0, 8⟩ := rfl
    simp only [hops, Option.bind_some, if_neg hsz]
    by_cases h : a0 < 0
    · rw [if_pos h]; rfl
    · rw [if_neg h]
      by_cases h : a0 > 6
      · rw [if_pos h]; rfl
      · rw [if_neg h, asrt_pos (by omega), asrt_pos (by omega), ite_self]; rfl

end Go.Proofs.YthjjbkgifelooaaDoor.F
