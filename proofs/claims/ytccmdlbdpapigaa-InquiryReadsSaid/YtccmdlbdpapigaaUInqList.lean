/- The list of units (layer 17): the program's. No condition. -/
import Derived.Test.YtccmdlbdpapigaaUInq
import Derived.Test.YtccmdlbdpapigaaF13
namespace Go.Proofs.Ytccmdlbdpapigaa.F
open Go Go.RowKit Go.Proofs.Ytccmdlbdpapigaa.X
set_option linter.unusedVariables false
set_option linter.unusedSimpArgs false
def unitL (i : Nat) : List Int := [0, (i : Int) % 256, 0, 0, 0, 0, 0, 0]
def upto (n : Nat) : List (List Int) := (List.range n).map unitL
theorem upto_succ (n : Nat) : upto (n + 1) = upto n ++ [unitL n] := by simp [upto, List.range_succ]
theorem upto_flat (n : Nat) : (upto n).flatten.length = 8 * n := by
  induction n with
  | zero => rfl
  | succ n ih => rw [upto_succ, List.flatten_append, List.length_append, ih]; simp [unitL]; omega
theorem upto_len (n : Nat) : (upto n).length = n := by simp [upto]
def listL (n : Nat) : List Int := beB (8 * (n : Int)) 4 ++ [0, 0, 0, 0] ++ (upto n).flatten
theorem list_loop (n : Nat) (hn : n ≤ 256) (hd : List (List Int)) (h1 : hd.length ≤ 10) (h2 : hd.flatten.length ≤ 100) : ∀ (m j : Nat), m ≤ n →
    inquiry_List.l0 300 (n : Int) (m + 1 + j) ((hd ++ upto (n - m)).map strOfNums) ((n : Int) - m) = some (strOfNums (hd ++ upto n).flatten) := by
  intro m
  induction m with
  | zero =>
    intro j h
    rw [show 0 + 1 + j = j + 1 by omega, inquiry_List.l0]
    unfold inquiry_List.b0
    rw [if_neg (by omega), Nat.sub_zero]
    have := page_is 0 (by omega) (hd ++ upto n) (by rw [List.length_append, upto_len]; omega) (by rw [List.flatten_append, List.length_append, upto_flat]; omega)
    rw [show inquiry_page.f 0 _ = _ from this, Option.bind_some]
    simp
  | succ m ih =>
    intro j h
    have e1 : IntKind.wrap .i64 ((n : Int) - ((m + 1 : Nat) : Int) + 1) = (n : Int) - m := by rw [wi] <;> omega
    have e2 : IntKind.wrap .u8 ((n : Int) - ((m + 1 : Nat) : Int)) = (((n - (m + 1) : Nat) : Int)) % 256 := by rw [wrapu8]; omega
    rw [show m + 1 + 1 + j = (m + 1 + j) + 1 by omega, inquiry_List.l0]
    unfold inquiry_List.b0
    rw [if_pos (by omega), e1, e2, show inquiry_bytes.f _ = some (strOfNums _) from rfl, Option.bind_some]
    have := page_is 8 (by omega) [[0, ((n - (m + 1) : Nat) : Int) % 256]] (by simp) (by simp)
    rw [show inquiry_page.f 8 [strOfNums [0, ((n - (m + 1) : Nat) : Int) % 256]] = some (strOfNums (unitL (n - (m + 1)))) from this, Option.bind_some, asrt_pos (by rw [List.length_map, List.length_append, upto_len]; simp; omega)]
    have e3 : (hd ++ upto (n - (m + 1))).map strOfNums ++ [strOfNums (unitL (n - (m + 1)))] = (hd ++ upto (n - m)).map strOfNums := by
      rw [show n - m = (n - (m + 1)) + 1 by omega, upto_succ]; simp
    rw [e3]
    exact ih j (by omega)
theorem inquiry_List.is (u : Int) : inquiry_List.f 300 u = some (strOfNums (listL (if u ≤ 256 then u.toNat else 0))) := by
  have j0 : ∀ n : Nat, n ≤ 256 → inquiry_List.j0 300 (n : Int) = some (strOfNums (listL n)) := by
    intro n h
    unfold inquiry_List.j0
    rw [wi (by omega) (by omega), show inquiry_words.f 300 (8 * (n : Int)) = _ from words_is _ (by omega) (by omega) 291, Option.bind_some, show inquiry_words.f 300 0 = _ from words_is 0 (by omega) (by omega) 291, Option.bind_some]
    have := list_loop n h [beB (8 * (n : Int)) 4, beB 0 4] (by simp) (by simp [beB_length]) n (300 - (n + 1)) (Nat.le_refl n)
    rw [show n + 1 + (300 - (n + 1)) = 300 by omega, Nat.sub_self, Int.sub_self] at this
    rw [show inquiry_List.l0 300 (n : Int) 300 [strOfNums (beB (8 * (n : Int)) 4), strOfNums (beB 0 4)] 0 = _ from this]
    unfold listL
    rw [beB0]
    simp
  unfold inquiry_List.f
  by_cases h0 : u < 0
  · rw [if_pos h0, if_pos (by omega), show u.toNat = 0 by omega]
    exact j0 0 (by omega)
  · rw [if_neg h0]
    by_cases h1 : u > 256
    · rw [if_pos h1, if_neg (by omega)]
      exact j0 0 (by omega)
    · rw [if_neg h1, if_pos (by omega)]
      have := j0 u.toNat (by omega)
      rw [show ((u.toNat : Nat) : Int) = u by omega] at this
      exact this
end Go.Proofs.Ytccmdlbdpapigaa.F
