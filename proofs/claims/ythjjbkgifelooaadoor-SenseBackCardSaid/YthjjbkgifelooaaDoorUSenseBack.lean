/- The plain law of headgatelaw16.SenseBack: whatever the input, it is true. No condition. -/
import Derived.Test.YthjjbkgifelooaaDoorUSenseParse
import Derived.Test.YthjjbkgifelooaaDoorUSenseSame
import Derived.Test.YthjjbkgifelooaaDoorF10
namespace Go.Proofs.YthjjbkgifelooaaDoor.F
open Go Go.RowKit Go.Proofs.YthjjbkgifelooaaDoor.X
set_option linter.unusedVariables false
set_option linter.unusedSimpArgs false
theorem parse_bytes (x : T_api_Sense) (hg : goodS x) (first p : Int) (hf : first = 112 ∧ p = 0 ∧ x.f3 = -1 ∨ first = 240 ∧ p = x.f3 ∧ 0 ≤ x.f3) : parseS (strOfNums (layS first p x)) = (x, 0) := by
  have hb : bytesS x = (strOfNums (layS first p x), 0) := by
    unfold bytesS
    rw [if_pos hg]
    rcases hf with ⟨h1, h2, h3⟩ | ⟨h1, h2, h3⟩
    · rw [if_pos h3, h1, h2]
    · rw [if_neg (by omega), h1, h2]
  have hi : inB (layS first p x) := layS_in _ _ _ hg (by omega)
  have hl : (beB p 4).length = 4 := beB_length _ _
  have hx : senS (strOfNums (layS first p x)) x.f3 = x := by
    unfold senS
    rw [bt_of _ hi, bt_of _ hi, bt_of _ hi]
    rfl
  have h0 : bt (strOfNums (layS first p x)) 0 = first := by rw [bt_of _ hi]; rfl
  have hz : ((strOfNums (layS first p x)).size : Int) = 18 := by rw [strOfNums_size, layS_length]; rfl
  unfold parseS
  rw [if_pos hz, h0]
  have hp : (if first = 112 then -1 else be (strOfNums (layS first p x)) 3 4) = x.f3 := by
    rcases hf with ⟨h1, h2, h3⟩ | ⟨h1, h2, h3⟩
    · rw [if_pos h1, h3]
    · rw [if_neg (by omega)]
      refine be_of _ hi 3 4 x.f3 h3 (by have := hg.2.2.2; omega) ?_
      intro i hlt
      rw [h2]
      have : i = 0 ∨ i = 1 ∨ i = 2 ∨ i = 3 := by omega
      rcases this with rfl | rfl | rfl | rfl <;> rfl
  rw [hp]
  unfold parS
  rw [hx, hb, if_pos ⟨rfl, rfl⟩]
theorem parse_back (x : T_api_Sense) (s : ByteArray) (h : bytesS x = (s, 0)) : parseS s = (x, 0) := by
  unfold bytesS at h
  by_cases hg : goodS x
  · rw [if_pos hg] at h
    by_cases h1 : x.f3 = -1
    · rw [if_pos h1] at h
      rw [← (Prod.mk.inj h).1]
      exact parse_bytes x hg _ _ (Or.inl ⟨rfl, rfl, h1⟩)
    · rw [if_neg h1] at h
      rw [← (Prod.mk.inj h).1]
      exact parse_bytes x hg _ _ (Or.inr ⟨rfl, rfl, by have := hg.2.2.2; omega⟩)
  · rw [if_neg hg] at h
    exact absurd (Prod.mk.inj h).2 (by decide)
theorem parseS_cases (s : ByteArray) : parseS s = (⟨0, 0, 0, 0⟩, 160) ∨ ∃ y, bytesS y = (s, 0) ∧ parseS s = (y, 0) := by
  unfold parseS
  by_cases h : (s.size : Int) = 18
  · rw [if_pos h]
    rcases parS_cases s (if bt s 0 = 112 then -1 else be s 3 4) with h | ⟨_, h1, h2⟩
    · exact Or.inl h
    · exact Or.inr ⟨_, h1, h2⟩
  · rw [if_neg h]; exact Or.inl rfl
theorem headgatelaw16_SenseBack.pure (a0 : T_api_Sense) (a1 : ByteArray) (o0 : a0.ok) (o1 : a1.size ≤ 140737488351232) : ∃ K, headgatelaw16_SenseBack.f K a0 a1 = some true := by
  refine ⟨12, ?_⟩
  have eta : ∀ x : T_api_Sense, (⟨x.f0, x.f1, x.f2, x.f3⟩ : T_api_Sense) = x := fun _ => rfl
  have hw : headgatelaw16_wakes.f 12 = some true := wakes16 0
  have hb : ∀ x, sense_Bytes.f 12 x = some (bytesS x) := fun x => sense_Bytes.is x 3
  have hp : ∀ s, sense_Parse.f 12 s = some (parseS s) := fun s => sense_Parse.is s 3
  have j0 : headgatelaw16_SenseBack.j0 12 a1 = some true := by
    unfold headgatelaw16_SenseBack.j0
    rw [hp, Option.bind_some]
    rcases parseS_cases a1 with h | ⟨y, h1, h2⟩
    · rw [h, if_neg (show ¬ (160 : Int) = 0 by decide), if_pos rfl, hw]; rfl
    · rw [h2, if_pos rfl, eta, hb, h1, Option.bind_some, if_pos rfl, if_pos rfl, hw]; rfl
  unfold headgatelaw16_SenseBack.f
  by_cases hs : (a1.size : Int) > 5000
  · rw [if_pos hs, hw]; rfl
  rw [if_neg hs, hb, Option.bind_some]
  by_cases h0 : (bytesS a0).2 = 0
  · rw [if_pos h0, hp, Option.bind_some, parse_back a0 _ (Prod.ext rfl h0), if_pos rfl, eta, senses_is, Option.bind_some, if_pos (by simp), j0]
  · rw [if_neg h0, j0]
end Go.Proofs.YthjjbkgifelooaaDoor.F
