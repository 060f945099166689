/- The plain law of headgatelaw17.InquiryReads: whatever the input, it is true. No condition. -/
import Derived.Test.YtccmdlbdpapigaaUInqList
import Derived.Test.YtccmdlbdpapigaaF5
namespace Go.Proofs.Ytccmdlbdpapigaa.F
open Go Go.RowKit Go.Proofs.Ytccmdlbdpapigaa.X
set_option linter.unusedVariables false
set_option linter.unusedSimpArgs false
theorem inB_upto (n : Nat) : inB (upto n).flatten := by
  induction n with
  | zero => exact inB_nil
  | succ n ih =>
    rw [upto_succ, List.flatten_append]
    refine inB_append ih ?_
    rw [List.flatten_singleton]
    unfold unitL
    simp only [inB_cons']
    exact ⟨by omega, by omega, by omega, by omega, by omega, by omega, by omega, by omega, inB_nil⟩
theorem upto_get (n i k : Nat) (hi : i < n) (hk : k < 8) : (upto n).flatten.getD (8 * i + k) 0 = (unitL i).getD k 0 := by
  induction n with
  | zero => omega
  | succ n ih =>
    rw [upto_succ, List.flatten_append, List.flatten_singleton]
    simp only [List.getD_eq_getElem?_getD] at ih ⊢
    by_cases h : i < n
    · rw [List.getElem?_append_left (by rw [upto_flat]; omega)]
      exact ih h
    · have e : i = n := by omega
      subst e
      rw [List.getElem?_append_right (by rw [upto_flat]; omega), upto_flat, show 8 * i + k - 8 * i = k by omega]
theorem inB_listL (n : Nat) : inB (listL n) := inB_append (inB_append (inB_beB _ _) (inB_zero 4)) (inB_upto n)
theorem listL_len (n : Nat) : (listL n).length = 8 + 8 * n := by unfold listL; rw [List.length_append, upto_flat]; simp [beB_length]
theorem listL_get (n i k : Nat) (hi : i < n) (hk : k < 8) : (listL n).getD (8 + 8 * i + k) 0 = (unitL i).getD k 0 := by
  rw [← upto_get n i k hi hk]
  unfold listL
  simp only [List.getD_eq_getElem?_getD]
  rw [List.getElem?_append_right (by simp [beB_length]; omega)]
  congr 2
  simp [beB_length]; omega
theorem reads_loop (n : Nat) (hn : n ≤ 255) : ∀ (m j : Nat), m ≤ n → headgatelaw17_InquiryReads.l0 300 (n : Int) (strOfNums (listL n)) (m + 1 + j) ((n : Int) - m) = some true := by
  intro m
  induction m with
  | zero =>
    intro j h
    rw [show 0 + 1 + j = j + 1 by omega, headgatelaw17_InquiryReads.l0]
    unfold headgatelaw17_InquiryReads.b0
    rw [if_neg (by rw [wi (by omega) (by omega)]; omega), wakes17]; rfl
  | succ m ih =>
    intro j h
    have e1 : IntKind.wrap .i64 ((n : Int) - ((m + 1 : Nat) : Int) + 1) = (n : Int) - m := by rw [wi] <;> omega
    have e2 : (n : Int) - ((m + 1 : Nat) : Int) = ((n - (m + 1) : Nat) : Int) := by omega
    rw [show m + 1 + 1 + j = (m + 1 + j) + 1 by omega, headgatelaw17_InquiryReads.l0]
    unfold headgatelaw17_InquiryReads.b0
    rw [e1, ih j (by omega), e2]
    generalize hi : n - (m + 1) = i
    have hlt : i < n := by omega
    have w1 : IntKind.wrap .i64 (8 * (i : Int)) = 8 * (i : Int) := by rw [wi] <;> omega
    have w2 : IntKind.wrap .i64 (8 + 8 * (i : Int)) = 8 + 8 * (i : Int) := by rw [wi] <;> omega
    have w3 : IntKind.wrap .i64 (8 + 8 * (i : Int) + 1) = 8 + 8 * (i : Int) + 1 := by rw [wi] <;> omega
    have w4 : IntKind.wrap .i64 (n : Int) = n := by rw [wi] <;> omega
    rw [w1, w2, w3, w4, if_pos (by omega), strOfNums_size, listL_len, asrt_pos (by omega), asrt_pos (by omega), bt_of _ (inB_listL n), bt_of _ (inB_listL n)]
    have g1 := listL_get n i 1 hlt (by omega)
    have g0 := listL_get n i 0 hlt (by omega)
    rw [show (8 + 8 * (i : Int) + 1).toNat = 8 + 8 * i + 1 by omega, g1, show (8 + 8 * (i : Int)).toNat = 8 + 8 * i + 0 by omega, g0]
    rw [show (unitL i).getD 1 0 = (i : Int) % 256 from rfl, show (unitL i).getD 0 0 = 0 from rfl, show (i : Int) % 256 = i by omega, wi (by omega) (by omega), if_pos rfl, asrt_pos (by omega), asrt_pos (by omega), if_pos rfl]
theorem headgatelaw17_InquiryReads.pure (a0 : T_api_Unit) (a1 : Int) (o0 : a0.ok) (o1 : 0 ≤ a1 ∧ a1 ≤ 255) : ∃ K, headgatelaw17_InquiryReads.f K a0 a1 = some true := by
  refine ⟨300, ?_⟩
  obtain ⟨n, rfl⟩ : ∃ n : Nat, a1 = (n : Int) := ⟨a1.toNat, by omega⟩
  unfold headgatelaw17_InquiryReads.f
  by_cases h : (a0.f1.size : Int) = 16
  · rw [if_pos h, inquiry_Page.is _ _ _ (by omega), Option.bind_some, inquiry_Page.is _ _ _ (by omega), Option.bind_some, inquiry_Page.is _ _ _ (by omega), Option.bind_some, wi (by omega) (by omega), inquiry_List.is, Option.bind_some]
    have p1 : pageS a0.f1 true 256 = (strOfNums [0, 0, 0, 3, 0, 131, 176], 0) := rfl
    have p2 : pageS a0.f1 true 387 = (strOfNums ([0, 131, 0, 20, 1, 1, 0, 16] ++ numsOf a0.f1), 0) := by
      unfold pageS
      rw [if_neg (by decide), if_pos rfl, if_neg (by decide), if_pos ⟨rfl, by omega⟩]
    have p3 : pageS a0.f1 true 432 = (strOfNums limL, 0) := rfl
    rw [p1, p2, p3, if_pos (show (n : Int) ≤ 256 by omega), Int.toNat_natCast]
    dsimp only
    have i2 : inB ([0, 131, 0, 20, 1, 1, 0, 16] ++ numsOf a0.f1) := by
      refine inB_append ?_ (numsOf_in _)
      simp only [inB_cons']
      exact ⟨by omega, by omega, by omega, by omega, by omega, by omega, by omega, by omega, inB_nil⟩
    have z2 : (strOfNums ([0, 131, 0, 20, 1, 1, 0, 16] ++ numsOf a0.f1)).size = 24 := by rw [strOfNums_size, List.length_append, numsOf_length]; simp; omega
    have b2 : bt (strOfNums ([0, 131, 0, 20, 1, 1, 0, 16] ++ numsOf a0.f1)) 3 = 20 := by rw [bt_of _ i2]; rfl
    have z1 : (strOfNums [0, 0, 0, 3, 0, 131, 176]).size = 7 := rfl
    have b1 : bt (strOfNums [0, 0, 0, 3, 0, 131, 176]) 3 = 3 := rfl
    have z3 : (strOfNums limL).size = 64 := rfl
    have b3 : bt (strOfNums limL) 3 = 60 := rfl
    have x2 : (strOfNums ([0, 131, 0, 20, 1, 1, 0, 16] ++ numsOf a0.f1)).extract (8 : Int).toNat 24 = a0.f1 := by
      rw [nums_extract, List.take_of_length_le (by rw [List.length_append, numsOf_length]; simp; omega)]
      exact nums_numsOf _
    rw [z1, z2, z3, b1, b2, b3, x2, strOfNums_size, listL_len]
    have w1 : IntKind.wrap .i64 (8 * (n : Int)) = 8 * (n : Int) := by rw [wi] <;> omega
    have w2 : IntKind.wrap .i64 (8 + 8 * (n : Int)) = 8 + 8 * (n : Int) := by rw [wi] <;> omega
    have ww : ∀ v : Int, 0 ≤ v → v ≤ 1000 → IntKind.wrap .i64 v = v := fun v _ _ => wi (by omega) (by omega)
    rw [w1, w2, ww 3 (by omega) (by omega), ww 20 (by omega) (by omega), ww 60 (by omega) (by omega), ww (4 + 3) (by omega) (by omega), ww (4 + 20) (by omega) (by omega), ww (4 + 60) (by omega) (by omega)]
    rw [if_neg (by omega), if_neg (by omega), if_neg (by omega), if_pos rfl, if_pos rfl, if_pos rfl, asrt_pos (by omega), if_pos (by omega), asrt_pos (by omega), if_pos (by omega), asrt_pos (by omega), if_pos (by omega), asrt_pos (by omega), if_pos rfl, if_pos (by omega)]
    have := reads_loop n (by omega) n (300 - (n + 1)) (Nat.le_refl n)
    rw [show n + 1 + (300 - (n + 1)) = 300 by omega, Int.sub_self] at this
    exact this
  · rw [if_neg h, wakes17]; rfl
end Go.Proofs.Ytccmdlbdpapigaa.F
