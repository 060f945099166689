/- A sense's bytes (layer 16): the program's. No condition. -/
import Derived.Test.YthjjbkgifelooaaDoorUSense
import Derived.Test.YthjjbkgifelooaaDoorF37
import Derived.Test.YthjjbkgifelooaaDoorF37
namespace Go.Proofs.YthjjbkgifelooaaDoor.F
open Go Go.RowKit Go.Proofs.YthjjbkgifelooaaDoor.X
set_option linter.unusedVariables false
set_option linter.unusedSimpArgs false

def goodS (x : T_api_Sense) : Prop := (0 ≤ x.f0 ∧ x.f0 ≤ 15) ∧ (0 ≤ x.f1 ∧ x.f1 ≤ 255) ∧ (0 ≤ x.f2 ∧ x.f2 ≤ 255) ∧ -1 ≤ x.f3 ∧ x.f3 < 4294967296
instance (x : T_api_Sense) : Decidable (goodS x) := by unfold goodS; infer_instance
theorem sense_good.is (x : T_api_Sense) : sense_good.f x = some (decide (goodS x)) := by
  have g1 : ∀ a b : Int, sense_good_1.f a b = some (decide (0 ≤ a ∧ a ≤ b)) := by
    intro a b
    unfold sense_good_1.f
    by_cases h : 0 ≤ a
    · rw [if_pos h]; simp [h]
    · rw [if_neg h]; simp [h]
  unfold sense_good.f
  simp only [g1, Option.bind_some, decide_eq_true_eq]
  by_cases h1 : 0 ≤ x.f0 ∧ x.f0 ≤ 15
  · rw [if_pos h1]
    by_cases h2 : 0 ≤ x.f1 ∧ x.f1 ≤ 255
    · rw [if_pos h2]
      by_cases h3 : 0 ≤ x.f2 ∧ x.f2 ≤ 255
      · rw [if_pos h3]
        by_cases h4 : (-1 : Int) ≤ x.f3
        · rw [if_pos h4]; exact congrArg some (decide_eq_decide.2 ⟨fun h => ⟨h1, h2, h3, h4, h⟩, fun h => h.2.2.2.2⟩)
        · rw [if_neg h4, decide_eq_false (show ¬ goodS x from fun h => h4 h.2.2.2.1)]
      · rw [if_neg h3]
        rw [decide_eq_false (show ¬ goodS x from fun h => h3 h.2.2.1)]
    · rw [if_neg h2]
      rw [decide_eq_false (show ¬ goodS x from fun h => h2 h.2.1)]
  · rw [if_neg h1]
    rw [decide_eq_false (show ¬ goodS x from fun h => h1 h.1)]
def layS (first p : Int) (x : T_api_Sense) : List Int := [first, 0, x.f0] ++ beB p 4 ++ [10, 0, 0, 0, 0, x.f1, x.f2, 0, 0, 0, 0]
def bytesS (x : T_api_Sense) : ByteArray × Int := if goodS x then (if x.f3 = -1 then (strOfNums (layS 112 0 x), 0) else (strOfNums (layS 240 x.f3 x), 0)) else (⟨#[]⟩, 160)
theorem wu8 {v : Int} (h0 : 0 ≤ v) (h1 : v ≤ 255) : IntKind.wrap .u8 v = v := by rw [wrapu8]; omega
theorem wu64 {v : Int} (h0 : 0 ≤ v) (h1 : v < 18446744073709551616) : IntKind.wrap .u64 v = v := by rw [wrapu64]; omega
theorem bytes_j0 (x : T_api_Sense) (hg : goodS x) (first p : Int) (hp : 0 ≤ p ∧ p < 4294967296) (K : Nat) : sense_Bytes.j0 (K + 9) x first p = some (strOfNums (layS first p x), 0) := by
  obtain ⟨g0, g1, g2, g3⟩ := hg
  unfold sense_Bytes.j0
  rw [wu64 hp.1 (by omega), show (4 : Int) = ((4 : Nat) : Int) from rfl, fields_PutBig.is p hp.1 4 K (by omega) (by omega), Option.bind_some, wu8 g0.1 (by omega), wu8 g1.1 g1.2, wu8 g2.1 g2.2, nums_append, nums_append]
  have z1 : ([first, 0, x.f0] ++ beB p 4 ++ [10, 0, 0, 0, 0, x.f1, x.f2]).length = 14 := by simp [beB_length]
  rw [asrt_pos (by rw [strOfNums_size, strOfNums_size, beB_length]; simp), asrt_pos (by rw [strOfNums_size, strOfNums_size]; simp [beB_length]), strOfNums_size, z1]
  rw [show IntKind.wrap .i64 (18 - ((14 : Nat) : Int)) = 4 from rfl]
  unfold strings_Repeat.f
  rw [asrt_pos (by omega), asrt_pos (by omega), asrt_pos (by decide), Option.bind_some, show (⟨(Lib.repeatL (⟨#[0]⟩ : ByteArray).data.toList (4 : Int).toNat).toArray⟩ : ByteArray) = strOfNums [0, 0, 0, 0] from rfl, strOfNums_size, asrt_pos (by simp), nums_append]
  unfold layS
  rw [List.append_assoc _ [10, 0, 0, 0, 0, x.f1, x.f2] _]
  rfl
theorem sense_Bytes.is (x : T_api_Sense) (K : Nat) : sense_Bytes.f (K + 9) x = some (bytesS x) := by
  unfold sense_Bytes.f bytesS
  rw [sense_good.is, Option.bind_some]
  by_cases h : goodS x
  · rw [if_pos (decide_eq_true h), if_pos h]
    by_cases h1 : x.f3 = -1
    · rw [if_pos h1, if_pos h1, bytes_j0 x h _ _ (by omega)]
    · rw [if_neg h1, if_neg h1, bytes_j0 x h _ _ (by have := h.2.2.2; omega)]
  · rw [if_neg (by rw [decide_eq_false h]; decide), if_neg h]
theorem layS_in (first p : Int) (x : T_api_Sense) (hg : goodS x) (hf : 0 ≤ first ∧ first ≤ 255) : inB (layS first p x) := by
  obtain ⟨g0, g1, g2, g3⟩ := hg
  unfold layS
  refine inB_append (inB_append (inB_cons hf (inB_cons (by omega) (inB_cons (by omega) inB_nil))) (inB_beB _ _)) ?_
  simp only [inB_cons']
  refine ⟨by omega, by omega, by omega, by omega, by omega, by omega, by omega, by omega, by omega, by omega, by omega, inB_nil⟩
theorem layS_length (first p : Int) (x : T_api_Sense) : (layS first p x).length = 18 := by simp [layS, beB_length]
theorem wakes16 (K : Nat) : headgatelaw16_wakes.f (K + 12) = some true := by
  unfold headgatelaw16_wakes.f
  rw [sense_Of.is, Option.bind_some, show K + 12 = (K + 3) + 9 from rfl, sense_Bytes.is, Option.bind_some]
  exact (show _ = _ by kernel_rfl)
end Go.Proofs.YthjjbkgifelooaaDoor.F
