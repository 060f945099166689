/- The plain law of headgatelaw17.InquiryLists: whatever the input, it is true. No condition. -/
import Derived.Test.YtccmdlbdpapigaaUInqList
import Derived.Test.YtccmdlbdpapigaaF12
import Derived.Test.YtccmdlbdpapigaaF12
import Derived.Test.YtccmdlbdpapigaaF12
namespace Go.Proofs.Ytccmdlbdpapigaa.F
open Go Go.RowKit Go.Proofs.Ytccmdlbdpapigaa.X
set_option linter.unusedVariables false
set_option linter.unusedSimpArgs false
theorem rput4 (v : Int) (h0 : 0 ≤ v) (h1 : v ≤ 18446744073709551615) : headgateref01_PutBig.f 300 v 4 = some (strOfNums (beB v 4)) := headgateref01_PutBig.is v h0 h1 4 291 (by omega) (by omega)
theorem zeros_is (n : Nat) (h : n ≤ 1000) : headgateref17_zeros.f (n : Int) = some (strOfNums (List.replicate n 0)) := by
  unfold headgateref17_zeros.f
  rw [asrt_pos (by omega), asrt_pos (by omega), Int.toNat_natCast]
theorem headgateref17_Capacity.is (b : Int) : headgateref17_Capacity.f 300 b = some (strOfNums (capS b)) := by
  have j0 : ∀ x : Int, 1 ≤ x → x < 4294967296 → headgateref17_Capacity.j0 300 x = some (strOfNums (beB (x - 1) 4 ++ beB 512 4)) := by
    intro x h0 h1
    unfold headgateref17_Capacity.j0
    rw [wi (by omega) (by omega), wu64 (by omega) (by omega), rput4 _ (by omega) (by omega), Option.bind_some, rput4 _ (by omega) (by omega), Option.bind_some, asrt_pos (by rw [strOfNums_size, strOfNums_size, beB_length, beB_length]; omega), nums_append]
  unfold headgateref17_Capacity.f capS
  by_cases h0 : b < 1
  · rw [if_pos h0, if_neg (by omega), j0 1 (by omega) (by omega)]
  · rw [if_neg h0]
    by_cases h1 : b ≥ 4294967296
    · rw [if_pos h1, if_neg (by omega), j0 1 (by omega) (by omega)]
    · rw [if_neg h1, if_pos (by omega), j0 b (by omega) (by omega)]
theorem rlist_loop (n : Nat) (hn : n ≤ 256) (hd : List Int) (h2 : hd.length ≤ 100) : ∀ (m j : Nat), m ≤ n →
    headgateref17_List.l0 300 (n : Int) (m + 1 + j) (strOfNums (hd ++ (upto (n - m)).flatten)) ((n : Int) - m) = some (strOfNums (hd ++ (upto n).flatten)) := by
  intro m
  induction m with
  | zero =>
    intro j h
    rw [show 0 + 1 + j = j + 1 by omega, headgateref17_List.l0]
    unfold headgateref17_List.b0
    rw [if_neg (by omega), Nat.sub_zero]
  | succ m ih =>
    intro j h
    have e1 : IntKind.wrap .i64 ((n : Int) - ((m + 1 : Nat) : Int) + 1) = (n : Int) - m := by rw [wi] <;> omega
    have e2 : IntKind.wrap .u8 ((n : Int) - ((m + 1 : Nat) : Int)) = (((n - (m + 1) : Nat) : Int)) % 256 := by rw [wrapu8]; omega
    rw [show m + 1 + 1 + j = (m + 1 + j) + 1 by omega, headgateref17_List.l0]
    unfold headgateref17_List.b0
    rw [if_pos (by omega), e1, e2, asrt_pos (by rw [strOfNums_size]; simp), show headgateref17_zeros.f 6 = _ from zeros_is 6 (by omega), Option.bind_some, show (⟨#[0]⟩ : ByteArray) = strOfNums [0] from rfl, nums_append,
      asrt_pos (by rw [strOfNums_size, strOfNums_size]; simp), nums_append, asrt_pos (by rw [strOfNums_size, strOfNums_size, List.length_append, upto_flat]; simp; omega), nums_append]
    have e3 : hd ++ (upto (n - (m + 1))).flatten ++ ([0] ++ [((n - (m + 1) : Nat) : Int) % 256] ++ List.replicate 6 0) = hd ++ (upto (n - m)).flatten := by
      rw [show n - m = (n - (m + 1)) + 1 by omega, upto_succ, List.flatten_append, List.append_assoc]; simp [unitL]
    rw [e3]
    exact ih j (by omega)
theorem headgateref17_List.is (u : Int) : headgateref17_List.f 300 u = some (strOfNums (listL (if u ≤ 256 then u.toNat else 0))) := by
  have j0 : ∀ n : Nat, n ≤ 256 → headgateref17_List.j0 300 (n : Int) = some (strOfNums (listL n)) := by
    intro n h
    unfold headgateref17_List.j0
    rw [wi (by omega) (by omega), wu64 (by omega) (by omega), rput4 _ (by omega) (by omega), Option.bind_some, show headgateref17_zeros.f 4 = _ from zeros_is 4 (by omega), Option.bind_some, asrt_pos (by rw [strOfNums_size, strOfNums_size, beB_length]; simp), nums_append]
    have := rlist_loop n h (beB (8 * (n : Int)) 4 ++ List.replicate 4 0) (by simp [beB_length]) n (300 - (n + 1)) (Nat.le_refl n)
    rw [show n + 1 + (300 - (n + 1)) = 300 by omega, Nat.sub_self, Int.sub_self, show (upto 0).flatten = [] from rfl, List.append_nil] at this
    rw [this]
    rfl
  unfold headgateref17_List.f
  by_cases h0 : u < 0
  · rw [if_pos h0, if_pos (by omega), show u.toNat = 0 by omega]
    exact j0 0 (by omega)
  · rw [if_neg h0]
    by_cases h1 : u > 256
    · rw [if_pos h1, if_neg (by omega)]
      exact j0 0 (by omega)
    · rw [if_neg h1, if_pos (by omega)]
      have := j0 u.toNat (by omega)
      rw [show ((u.toNat : Nat) : Int) = u by omega] at this
      exact this
theorem headgatelaw17_InquiryLists.pure (a0 : Int) (a1 : Int) (o0 : (-9223372036854775808) ≤ a0 ∧ a0 ≤ 9223372036854775807) (o1 : (-9223372036854775808) ≤ a1 ∧ a1 ≤ 9223372036854775807) : ∃ K, headgatelaw17_InquiryLists.f K a0 a1 = some true := by
  refine ⟨300, ?_⟩
  unfold headgatelaw17_InquiryLists.f
  rw [inquiry_Capacity.is, Option.bind_some, headgateref17_Capacity.is, Option.bind_some, if_pos rfl, inquiry_List.is, Option.bind_some, headgateref17_List.is, Option.bind_some, if_pos rfl, wakes17]
  rfl
end Go.Proofs.Ytccmdlbdpapigaa.F
