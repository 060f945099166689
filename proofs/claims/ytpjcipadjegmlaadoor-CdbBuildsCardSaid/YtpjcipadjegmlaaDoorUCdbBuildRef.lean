/- The block that asks for something (layer 15): the document's answer is the program's. No condition. -/
import Derived.Test.YtpjcipadjegmlaaDoorUCdbBuildIs
import Derived.Test.YtpjcipadjegmlaaDoorF23
import Derived.Test.YtpjcipadjegmlaaDoorF26
import Derived.Test.YtpjcipadjegmlaaDoorF26
import Derived.Test.YtpjcipadjegmlaaDoorF26
import Derived.Test.YtpjcipadjegmlaaDoorF26
import Derived.Test.YtpjcipadjegmlaaDoorF21
namespace Go.Proofs.YtpjcipadjegmlaaDoor.F
open Go Go.RowKit Go.Proofs.YtpjcipadjegmlaaDoor.X
open Classical
set_option linter.unusedVariables false
set_option linter.unusedSimpArgs false

theorem headgateref01_there.is (s : ByteArray) (p n : Int) (hs : (s.size : Int) ≤ 1000000) : headgateref01_there.f s p n = some (decide (0 ≤ p ∧ 0 ≤ n ∧ p + n ≤ s.size)) := by
  unfold headgateref01_there.f
  by_cases h0 : p ≥ 0
  · rw [if_pos h0]
    by_cases h1 : n ≥ 0
    · rw [if_pos h1]
      by_cases h2 : p ≤ (s.size : Int)
      · rw [if_pos h2, wi (by omega) (by omega)]
        congr 1
        by_cases h3 : n ≤ (s.size : Int) - p
        · rw [decide_eq_true h3, decide_eq_true (by omega)]
        · rw [decide_eq_false h3, decide_eq_false (by omega)]
      · rw [if_neg h2, decide_eq_false (by omega)]
    · rw [if_neg h1, decide_eq_false (by omega)]
  · rw [if_neg h0, decide_eq_false (by omega)]
theorem headgateref01_Set.is (l m : List Int) (p : Int) (h0 : 0 ≤ p) (h : p + m.length ≤ l.length) (hl : l.length ≤ 1000000) : headgateref01_Set.f (strOfNums l) p (strOfNums m) = some (strOfNums (setL l p.toNat m), true) := by
  unfold headgateref01_Set.f
  have e2 : IntKind.wrap .i64 (p + (m.length : Int)) = p + m.length := by rw [wi] <;> omega
  have s1 : ((strOfNums l).extract 0 p.toNat).size = p.toNat := by rw [nums_left, strOfNums_size, List.length_take]; omega
  rw [headgateref01_there.is _ _ _ (by rw [strOfNums_size]; omega), Option.bind_some]
  simp only [strOfNums_size, e2]
  have nr : (strOfNums l).extract (p + (m.length : Int)).toNat l.length = strOfNums (l.drop (p.toNat + m.length)) := by
    rw [nums_extract, List.take_of_length_le (Nat.le_refl _), show (p + (m.length : Int)).toNat = p.toNat + m.length by omega]
  rw [decide_eq_true (by omega)]
  simp only [if_true]
  rw [asrt_pos (by omega), asrt_pos (by omega), asrt_pos (by rw [s1]; omega), asrt_pos (by omega), asrt_pos (by omega), nr, asrt_pos ?_]
  · rw [nums_left, nums_append, nums_append]; rfl
  · rw [ByteArray.size_append, s1, strOfNums_size, strOfNums_size, List.length_drop]
    omega
theorem rput (l : List Int) (p n : Nat) (v : Int) (h1 : 1 ≤ n) (h8 : n ≤ 8) (h : p + n ≤ l.length) (hl : l.length ≤ 1000) (K : Nat) : headgateref15_put.f (K + 200) (strOfNums l) (p : Int) v (n : Int) = some (strOfNums (setL l p (beB (IntKind.wrap .u64 v) n))) := by
  unfold headgateref15_put.f headgateref01_Put.f
  have hw := wrapu64 v
  rw [show headgateref01_PutBig.f (K + 200) (IntKind.wrap .u64 v) (n : Int) = _ from headgateref01_PutBig.is _ (by rw [hw]; omega) (by rw [hw]; omega) n (K + 191) h1 h8, Option.bind_some, headgateref01_Set.is l _ (p : Int) (by omega) (by rw [beB_length]; omega) (by omega), Option.bind_some, Int.toNat_natCast]
  rfl

theorem number_step (t : Int) (K k : Nat) (i : Int) (h0 : 1 ≤ i) (h8 : i ≤ 8) : headgateref15_Number.l0 K t (k + 1) i = if t ≠ 0 ∧ tyC i = t then some i else headgateref15_Number.l0 K t k (i + 1) := by
  have e1 : IntKind.wrap .i64 (i + 1) = i + 1 := by rw [wi] <;> omega
  rw [headgateref15_Number.l0]
  unfold headgateref15_Number.b0
  rw [if_pos (by omega), e1, headgateref15_Type.is, Option.bind_some]
  by_cases h : t = 0 <;> by_cases h' : tyC i = t <;> simp [h, h']
theorem headgateref15_Number.is (t : Int) (K : Nat) : headgateref15_Number.f (K + 200) t = some (noC t) := by
  unfold headgateref15_Number.f
  have st := fun k i h0 h8 => number_step t (K + 200) k i h0 h8
  rw [st (K + 199) 1 (by omega) (by omega), show (1 : Int) + 1 = 2 from rfl, st (K + 198) 2 (by omega) (by omega), show (2 : Int) + 1 = 3 from rfl, st (K + 197) 3 (by omega) (by omega), show (3 : Int) + 1 = 4 from rfl, st (K + 196) 4 (by omega) (by omega), show (4 : Int) + 1 = 5 from rfl, st (K + 195) 5 (by omega) (by omega), show (5 : Int) + 1 = 6 from rfl, st (K + 194) 6 (by omega) (by omega), show (6 : Int) + 1 = 7 from rfl, st (K + 193) 7 (by omega) (by omega), show (7 : Int) + 1 = 8 from rfl, st (K + 192) 8 (by omega) (by omega), show (8 : Int) + 1 = 9 from rfl]
  rw [show headgateref15_Number.l0 (K + 200) t (K + 192) 9 = some 0 by rw [headgateref15_Number.l0]; unfold headgateref15_Number.b0; rw [if_neg (by omega)]]
  rw [show tyC 1 = 1 from rfl, show tyC 2 = 0 from rfl, show tyC 3 = 2 from rfl, show tyC 4 = 0 from rfl, show tyC 5 = 3 from rfl, show tyC 6 = 4 from rfl, show tyC 7 = 5 from rfl, show tyC 8 = 6 from rfl]
  unfold noC
  by_cases h : 1 ≤ t ∧ t ≤ 6
  · rcases (by omega : t = 1 ∨ t = 2 ∨ t = 3 ∨ t = 4 ∨ t = 5 ∨ t = 6) with rfl | rfl | rfl | rfl | rfl | rfl <;> rfl
  · rw [if_neg (by omega), if_neg (by omega), if_neg (by omega), if_neg (by omega), if_neg (by omega), if_neg (by omega), if_neg (by omega), if_neg (by omega), if_neg (by omega), if_neg (by omega), if_neg (by omega)]

theorem rfin (x : T_cdb_Ask) (l : List Int) (hl : l.length ≤ 1000) (K : Nat) (h : goodA x (opA x) → l = layA x) : headgateref15_Build.j5 (K + 200) (toR x) (strOfNums l) = some (buildA x) := by
  unfold headgateref15_Build.j5
  rw [show headgateref15_Parse.f (K + 200) (strOfNums l) = _ from headgateref15_Parse.is (strOfNums l) (by rw [strOfNums_size]; omega) (K + 130), Option.bind_some, ← tryA_is x l h]
  unfold tryA
  generalize cparse (strOfNums l) = z
  obtain ⟨z, e⟩ := z
  simp only
  by_cases he : e = 0
  · subst he
    rw [if_pos rfl, headgateref15_Same.is, Option.bind_some]
    by_cases hz : z = x
    · subst hz
      rw [if_pos (by simp [toR]), if_pos rfl]
    · rw [if_neg, if_neg (fun q => hz (Prod.mk.inj q).1)]
      have : ¬ toR x = toR z := fun q => hz ((toR_inj _ _).1 q).symm
      simpa [toR] using this
  · rw [if_neg he, if_neg (fun q => he (Prod.mk.inj q).2)]

theorem good_range (x : T_cdb_Ask) (b : Int) (h : goodA x b) : (0 ≤ x.f1 ∧ x.f1 < 1099511627776) ∧ (0 ≤ x.f2 ∧ x.f2 < 1099511627776) ∧ (0 ≤ x.f5 ∧ x.f5 < 1099511627776) ∧ (0 ≤ x.f4 ∧ x.f4 < 1099511627776) := by
  unfold goodA at h
  obtain ⟨f0, f1, f2, f3, f4, f5, f6⟩ := x
  simp only [T_cdb_Ask.mk.injEq] at h
  simp only
  rcases h with ⟨_, e⟩ | ⟨_, a1, a2, e⟩ | ⟨_, a1, a2, a3, e⟩ | ⟨_, a1, a2, a3, e⟩ | ⟨_, a1, a2, e⟩ | ⟨_, a1, e⟩ | ⟨_, a1, e⟩ | ⟨_, a0, a1, e⟩ | ⟨_, a0, e⟩ | ⟨_, a0, a1, e⟩ <;> omega

end Go.Proofs.YtpjcipadjegmlaaDoor.F
