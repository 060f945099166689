/- The plain law of headgatelaw16.SenseBytes: whatever the input, it is true. No condition. -/
import Derived.Test.YthjjbkgifelooaaDoorUSenseParse
import Derived.Test.YthjjbkgifelooaaDoorUSenseSame
import Derived.Test.YthjjbkgifelooaaDoorF70
import Derived.Test.YthjjbkgifelooaaDoorF70
import Derived.Test.YthjjbkgifelooaaDoorF70
import Derived.Test.YthjjbkgifelooaaDoorF70
namespace Go.Proofs.YthjjbkgifelooaaDoor.F
open Go Go.RowKit Go.Proofs.YthjjbkgifelooaaDoor.X
set_option linter.unusedVariables false
set_option linter.unusedSimpArgs false
theorem headgateref16_may.is (x : T_api_Sense) : headgateref16_may.f x = some (decide (goodS x)) := by
  unfold headgateref16_may.f
  by_cases h0 : x.f0 ≥ 0
  · by_cases h1 : x.f0 ≤ 15
    · by_cases h2 : x.f1 ≥ 0
      · by_cases h3 : x.f1 ≤ 255
        · by_cases h4 : x.f2 ≥ 0
          · by_cases h5 : x.f2 ≤ 255
            · by_cases h6 : x.f3 ≥ -1
              · rw [if_pos h0, if_pos h1, if_pos h2, if_pos h3, if_pos h4, if_pos h5, if_pos h6]
                exact congrArg some (decide_eq_decide.2 ⟨fun h => ⟨⟨h0, h1⟩, ⟨h2, h3⟩, ⟨h4, h5⟩, h6, h⟩, fun h => h.2.2.2.2⟩)
              · rw [if_pos h0, if_pos h1, if_pos h2, if_pos h3, if_pos h4, if_pos h5, if_neg h6, decide_eq_false (show ¬ goodS x from fun h => h6 h.2.2.2.1)]
            · rw [if_pos h0, if_pos h1, if_pos h2, if_pos h3, if_pos h4, if_neg h5, decide_eq_false (show ¬ goodS x from fun h => h5 h.2.2.1.2)]
          · rw [if_pos h0, if_pos h1, if_pos h2, if_pos h3, if_neg h4, decide_eq_false (show ¬ goodS x from fun h => h4 h.2.2.1.1)]
        · rw [if_pos h0, if_pos h1, if_pos h2, if_neg h3, decide_eq_false (show ¬ goodS x from fun h => h3 h.2.1.2)]
      · rw [if_pos h0, if_pos h1, if_neg h2, decide_eq_false (show ¬ goodS x from fun h => h2 h.2.1.1)]
    · rw [if_pos h0, if_neg h1, decide_eq_false (show ¬ goodS x from fun h => h1 h.1.2)]
  · rw [if_neg h0, decide_eq_false (show ¬ goodS x from fun h => h0 h.1.1)]
theorem ref16_j0 (x : T_api_Sense) (hg : goodS x) (first p : Int) (hp : 0 ≤ p ∧ p < 4294967296) (K : Nat) : headgateref16_Bytes.j0 (K + 9) x first p = some (strOfNums (layS first p x), 0) := by
  obtain ⟨g0, g1, g2, g3⟩ := hg
  unfold headgateref16_Bytes.j0
  rw [wu64 hp.1 (by omega), show (4 : Int) = ((4 : Nat) : Int) from rfl, headgateref01_PutBig.is p hp.1 (by omega) 4 K (by omega) (by omega), Option.bind_some, wu8 g0.1 (by omega), wu8 g1.1 g1.2, wu8 g2.1 g2.2, nums_append, nums_append,
    asrt_pos (by rw [strOfNums_size, strOfNums_size, beB_length]; simp), asrt_pos (by rw [strOfNums_size, strOfNums_size]; simp [beB_length])]
  rfl
theorem headgateref16_Bytes.is (x : T_api_Sense) (K : Nat) : headgateref16_Bytes.f (K + 9) x = some (bytesS x) := by
  unfold headgateref16_Bytes.f bytesS
  rw [headgateref16_may.is, Option.bind_some]
  by_cases h : goodS x
  · have := h.2.2.2
    rw [if_pos (decide_eq_true h), if_pos h]
    by_cases h1 : x.f3 = -1
    · rw [if_neg (by omega), if_pos h1, ref16_j0 x h _ _ (by omega)]
    · rw [if_pos (by omega), if_neg h1, ref16_j0 x h _ _ (by omega)]
  · rw [if_neg (by rw [decide_eq_false h]; decide), if_neg h]
theorem headgateref16_Parse.is (s : ByteArray) (K : Nat) : headgateref16_Parse.f (K + 9) s = some (parseS s) := by
  unfold headgateref16_Parse.f parseS
  have j0 : ∀ p : Int, headgateref16_Parse.j0 (K + 9) s p = some (parS s p) := by
    intro p
    unfold headgateref16_Parse.j0 parS
    rw [btw, btw, btw, headgateref16_Bytes.is, Option.bind_some]
    show (if (bytesS (senS s p)).2 = 0 then _ else _) = _
    by_cases h : (bytesS (senS s p)).2 = 0
    · rw [if_pos h]
      by_cases h2 : (bytesS (senS s p)).1 = s
      · rw [show (bytesS (⟨bt s 2, bt s 12, bt s 13, p⟩ : T_api_Sense)).1 = (bytesS (senS s p)).1 from rfl, if_pos h2, if_pos ⟨h, h2⟩]; rfl
      · rw [show (bytesS (⟨bt s 2, bt s 12, bt s 13, p⟩ : T_api_Sense)).1 = (bytesS (senS s p)).1 from rfl, if_neg h2, if_neg (fun g => h2 g.2)]
    · rw [if_neg h, if_neg (fun g => h g.1)]
  by_cases h : (s.size : Int) = 18
  · rw [if_pos h, if_pos h, asrt_pos (by omega), asrt_pos (by omega), asrt_pos (by omega), asrt_pos (by omega), j0, show (4 : Int) = ((4 : Nat) : Int) from rfl, headgateref01_Big.is s 3 4 K (by omega) (by omega) (by omega), Option.bind_some, if_pos (show 0 ≤ (3 : Int) ∧ (3 : Int) + ((4 : Nat) : Int) ≤ (s.size : Int) by omega), j0]
    have hb := be_bound s 3
    rw [wi (by omega) (by omega)]
    by_cases h0 : bt s 0 = 112
    · rw [if_neg (by omega), if_pos h0]
    · rw [if_neg h0]
      by_cases h1 : bt s 0 = 240
      · rw [if_pos h1]
      · rw [if_neg h1]
        have bad : ∀ p, parS s p = (⟨0, 0, 0, 0⟩, 160) := by
          intro p
          rcases parS_cases s p with q | ⟨_, q, _⟩
          · exact q
          · rcases first_of _ _ q with g | g
            · exact absurd g.2 h0
            · exact absurd g.2 h1
        rw [bad, bad]
  · rw [if_neg h, if_neg h]
theorem headgatelaw16_SenseBytes.pure (a0 : T_api_Sense) (a1 : ByteArray) (o0 : a0.ok) (o1 : a1.size ≤ 140737488351232) : ∃ K, headgatelaw16_SenseBytes.f K a0 a1 = some true := by
  refine ⟨12, ?_⟩
  have hw : headgatelaw16_wakes.f 12 = some true := wakes16 0
  unfold headgatelaw16_SenseBytes.f
  by_cases hs : (a1.size : Int) > 5000
  · rw [if_pos hs, hw]; rfl
  rw [if_neg hs, show sense_Bytes.f 12 a0 = _ from sense_Bytes.is a0 3, Option.bind_some, show headgateref16_Bytes.f 12 a0 = _ from headgateref16_Bytes.is a0 3, Option.bind_some,
    show sense_Parse.f 12 a1 = _ from sense_Parse.is a1 3, Option.bind_some, show headgateref16_Parse.f 12 a1 = _ from headgateref16_Parse.is a1 3, Option.bind_some, if_pos rfl, if_pos rfl, senses_is, Option.bind_some, if_pos (by simp), if_pos rfl, hw]
  rfl
end Go.Proofs.YthjjbkgifelooaaDoor.F
