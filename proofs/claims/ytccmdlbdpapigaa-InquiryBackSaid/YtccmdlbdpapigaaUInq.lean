/- What a unit tells (layer 17): texts that are put together, and the program's pages. No condition. -/
import Derived.Test.YtccmdlbdpapigaaUPutB
import Derived.KernelRfl
import Derived.Test.YtccmdlbdpapigaaF22
import Derived.Test.YtccmdlbdpapigaaF22
import Derived.Test.YtccmdlbdpapigaaF22
namespace Go.Proofs.Ytccmdlbdpapigaa.F
open Go Go.RowKit Go.Proofs.Ytccmdlbdpapigaa.X
set_option linter.unusedVariables false
set_option linter.unusedSimpArgs false

theorem wu64 {v : Int} (h0 : 0 ≤ v) (h1 : v < 18446744073709551616) : IntKind.wrap .u64 v = v := by rw [wrapu64]; omega
theorem join_empty (xs : List (List UInt8)) : Lib.join xs [] = xs.flatten := by
  cases xs with
  | nil => rfl
  | cons x r =>
    rw [Lib.join_cons]
    unfold Lib.joinTail
    simp
theorem join_is (ls : List (List Int)) (h : ls.length ≤ 1000000) (h2 : ls.flatten.length ≤ 1000000) : strings_Join.f (ls.map strOfNums) ⟨#[]⟩ = some (strOfNums ls.flatten) := by
  unfold strings_Join.f
  have e : Lib.join ((ls.map strOfNums).map (·.data.toList)) (⟨#[]⟩ : ByteArray).data.toList = (strOfNums ls.flatten).data.toList := by
    rw [show (⟨#[]⟩ : ByteArray).data.toList = [] from rfl, join_empty]
    simp [strOfNums, List.map_flatten]
    congr 1
  rw [e, asrt_pos (by rw [List.length_map]; omega), asrt_pos (by
    have : (strOfNums ls.flatten).data.toList.length = (strOfNums ls.flatten).size := rfl
    rw [this, strOfNums_size]; omega)]
theorem repeat_is (n : Nat) (h : n ≤ 1000000) : strings_Repeat.f (⟨#[0]⟩ : ByteArray) (n : Int) = some (strOfNums (List.replicate n 0)) := by
  unfold strings_Repeat.f
  rw [asrt_pos (by omega), asrt_pos (by omega), Int.toNat_natCast, asrt_pos (by rw [show (⟨#[0]⟩ : ByteArray).size = 1 from rfl]; omega)]
  congr 1
  apply ByteArray.ext
  rw [show (⟨#[0]⟩ : ByteArray).data.toList = [0] from rfl]
  have : Lib.repeatL [0] n = List.replicate n 0 := by
    induction n with
    | zero => rfl
    | succ n ih => rw [List.replicate_succ, ← ih (by omega)]; rfl
  rw [this]
  simp [strOfNums]
theorem page_is (size : Nat) (hs : size ≤ 1000) (ls : List (List Int)) (h : ls.length ≤ 1000000) (h2 : ls.flatten.length ≤ 1000000) : inquiry_page.f (size : Int) (ls.map strOfNums) = some (strOfNums (ls.flatten ++ List.replicate (size - ls.flatten.length) 0)) := by
  unfold inquiry_page.f
  have e : mx (IntKind.wrap .i64 ((size : Int) - ((strOfNums ls.flatten).size : Int))) 0 = ((size - ls.flatten.length : Nat) : Int) := by
    rw [strOfNums_size, wi (by omega) (by omega)]
    unfold mx
    split <;> omega
  rw [join_is ls h h2, Option.bind_some, e, repeat_is _ (by omega), Option.bind_some, asrt_pos (by rw [strOfNums_size, strOfNums_size, List.length_replicate]; omega), nums_append]
theorem words_is (v : Int) (h0 : 0 ≤ v) (h1 : v < 18446744073709551616) (K : Nat) : inquiry_words.f (K + 9) v = some (strOfNums (beB v 4)) := by
  unfold inquiry_words.f
  rw [wu64 h0 h1, show (4 : Int) = ((4 : Nat) : Int) from rfl, fields_PutBig.is v h0 4 K (by omega) (by omega), Option.bind_some]
theorem beB0 : beB 0 4 = [0, 0, 0, 0] := rfl

def plainL (first : Int) : List Int := [first, 0, 6, 2, 31, 0, 0, 0, 72, 69, 65, 68, 71, 65, 84, 69, 66, 76, 79, 67, 75, 32, 85, 78, 73, 84, 32, 32, 32, 32, 32, 32, 48, 48, 48, 49]
def limL : List Int := [0, 176, 0, 60, 0, 32, 0, 0, 0, 0, 0, 64, 0, 0, 0, 0, 0, 0, 0, 0, 0, 0, 16, 0, 0, 0, 0, 16] ++ List.replicate 36 0
def pageS (id : ByteArray) (there : Bool) (n : Int) : ByteArray × Int :=
  if n = 0 then (if there = true then (strOfNums (plainL 0), 0) else (strOfNums (plainL 127), 0))
  else if there = true then (if n = 256 then (strOfNums [0, 0, 0, 3, 0, 131, 176], 0) else if n = 387 ∧ id.size = 16 then (strOfNums ([0, 131, 0, 20, 1, 1, 0, 16] ++ numsOf id), 0) else if n = 432 then (strOfNums limL, 0) else (⟨#[]⟩, 180))
  else (⟨#[]⟩, 180)
theorem plain0 : inquiry_plain.f 0 = some (strOfNums (plainL 0)) := by exact (show _ = _ by kernel_rfl)
theorem plain127 : inquiry_plain.f 127 = some (strOfNums (plainL 127)) := by exact (show _ = _ by kernel_rfl)
theorem inquiry_Page.is (u : T_api_Unit) (there : Bool) (n : Int) (hu : u.f1.size ≤ 100000) : inquiry_Page.f 300 u there n = some (pageS u.f1 there n) := by
  have j1 : ∀ x : Bool, inquiry_Page.j1 300 u n x = some (if x = true then (strOfNums ([0, 131, 0, 20, 1, 1, 0, 16] ++ numsOf u.f1), 0) else if n = 432 then (strOfNums limL, 0) else (⟨#[]⟩, 180)) := by
    intro x
    unfold inquiry_Page.j1
    by_cases hx : x = true
    · rw [if_pos hx, if_pos hx]
      have := page_is 0 (by omega) [[0, 131, 0, 20, 1, 1, 0, 16], numsOf u.f1] (by simp) (by simp [numsOf_length]; omega)
      simp only [List.map_cons, List.map_nil, nums_numsOf] at this
      rw [show inquiry_bytes.f _ = some (strOfNums _) from rfl, Option.bind_some, show inquiry_page.f 0 _ = _ from this, Option.bind_some]
      simp
    · rw [if_neg hx, if_neg hx]
      by_cases h : n = 432
      · rw [if_pos h, if_pos h]
        exact (show _ = _ by kernel_rfl)
      · rw [if_neg h, if_neg h]
  unfold inquiry_Page.f inquiry_Page.j0 pageS
  rw [plain0, plain127]
  by_cases h0 : n = 0
  · cases there
    · subst h0; rfl
    · subst h0; rfl
  · rw [if_neg h0, if_neg (by decide), if_neg h0, if_neg h0]
    cases there
    · rw [if_neg (by decide), if_neg (by decide)]
    · rw [if_pos rfl, if_pos rfl]
      by_cases h1 : n = 256
      · rw [if_pos h1, if_pos h1]; rfl
      · rw [if_neg h1, if_neg h1, j1, j1]
        by_cases h2 : n = 387
        · rw [if_pos h2]
          by_cases h3 : u.f1.size = 16
          · rw [if_pos (show n = 387 ∧ u.f1.size = 16 from ⟨h2, h3⟩), if_pos (by rw [h3]; rfl)]
          · rw [if_neg (show ¬ (n = 387 ∧ u.f1.size = 16) from fun g => h3 g.2), if_neg (by rw [Bool.beq_eq_decide_eq, decide_eq_true_eq]; omega)]
        · rw [if_neg h2, if_neg (show ¬ (n = 387 ∧ u.f1.size = 16) from fun g => h2 g.1), if_neg (by decide)]
def capS (b : Int) : List Int := beB ((if 1 ≤ b ∧ b < 4294967296 then b else 1) - 1) 4 ++ beB 512 4
theorem inquiry_Capacity.is (b : Int) : inquiry_Capacity.f 300 b = some (strOfNums (capS b)) := by
  have j0 : ∀ x : Int, 1 ≤ x → x < 4294967296 → inquiry_Capacity.j0 300 x = some (strOfNums (beB (x - 1) 4 ++ beB 512 4)) := by
    intro x h0 h1
    unfold inquiry_Capacity.j0
    have := page_is 0 (by omega) [beB (x - 1) 4, beB 512 4] (by simp) (by simp [beB_length])
    simp only [List.map_cons, List.map_nil] at this
    rw [wi (by omega) (by omega), show (300 : Nat) = 291 + 9 from rfl, words_is _ (by omega) (by omega), Option.bind_some, words_is 512 (by omega) (by omega), Option.bind_some, show inquiry_page.f 0 _ = _ from this, Option.bind_some]
    simp
  unfold inquiry_Capacity.f capS
  by_cases h0 : b < 1
  · rw [if_pos h0, if_neg (by omega), j0 1 (by omega) (by omega)]
  · rw [if_neg h0]
    by_cases h1 : b ≥ 4294967296
    · rw [if_pos h1, if_neg (by omega), j0 1 (by omega) (by omega)]
    · rw [if_neg h1, if_pos (by omega), j0 b (by omega) (by omega)]
theorem wakes17 : headgatelaw17_wakes.f 300 = some true := by
  exact (show _ = _ by kernel_rfl)
end Go.Proofs.Ytccmdlbdpapigaa.F
