/- What was put is got, whatever stands behind it. No condition. -/
import Derived.Test.YtdcojinnjpihaaaDoorUFrame
namespace Go.Proofs.YtdcojinnjpihaaaDoor.F
open Go Go.RowKit Go.Proofs.YtdcojinnjpihaaaDoor.X
set_option linter.unusedVariables false
set_option linter.unusedSimpArgs false

theorem nil_app (a : ByteArray) : (⟨#[]⟩ : ByteArray) ++ a = a := by show ByteArray.empty ++ a = a; simp
theorem app_nil (a : ByteArray) : a ++ (⟨#[]⟩ : ByteArray) = a := by show a ++ ByteArray.empty = a; simp
theorem app_nums (a b c : ByteArray) : (a ++ b) ++ c = strOfNums ((numsOf a ++ numsOf b) ++ numsOf c) := by
  rw [← nums_append, ← nums_append, nums_numsOf, nums_numsOf, nums_numsOf]
theorem ext_mid (a b c : ByteArray) (p q : Nat) (hp : p = a.size) (hq : q = a.size + b.size) : ((a ++ b) ++ c).extract p q = b := by
  subst hp hq
  rw [app_nums, nums_extract, List.take_append_of_le_length (by simp [numsOf_length]), List.take_of_length_le (by simp [numsOf_length]), ← numsOf_length a, List.drop_left, nums_numsOf]
theorem ext_first (a c : ByteArray) (q : Nat) (hq : q = a.size) : (a ++ c).extract 0 q = a := by
  have := ext_mid ⟨#[]⟩ a c 0 q rfl (by rw [hq, size0 _ |>.mp rfl]; omega)
  rwa [nil_app] at this
theorem ext_last (a b : ByteArray) (p q : Nat) (hp : p = a.size) (hq : q = a.size + b.size) : (a ++ b).extract p q = b := by
  have := ext_mid a b ⟨#[]⟩ p q hp hq
  rwa [app_nil] at this

theorem pad512_eq (s : ByteArray) : pad512 s = s ++ strOfNums (List.replicate ((512 - s.size % 512) % 512) 0) := by
  unfold pad512
  split
  · rename_i h
    rw [h]
    show s = s ++ strOfNums []
    rw [← empty_nums, app_nil]
  · rename_i h
    rw [Nat.mod_eq_of_lt (a := 512 - s.size % 512) (by omega)]

theorem hd05_be8 (n : Int) (k : Nat) (h0 : 0 ≤ n) (h1 : n ≤ 18446744073709551615) (X : ByteArray) : be (hd05 n k ++ X) 4 8 = n := by
  have hs := hd05_size n k
  rw [be_left _ _ _ _ (by omega) (by omega)]
  unfold hd05
  have s8 := size_beB n 8
  rw [be_left _ _ _ _ (by omega) (by rw [ByteArray.size_append, s8, hgfr_size]; omega), be_right _ _ _ _ (by rw [hgfr_size]; omega), hgfr_size]
  exact be_put n 8 h0 (by omega)
theorem hd05_be4 (n : Int) (k : Nat) (hk : k ≤ 65536) (X : ByteArray) : be (hd05 n k ++ X) 12 4 = (k : Int) := by
  have hs := hd05_size n k
  rw [be_left _ _ _ _ (by omega) (by omega)]
  unfold hd05
  have s8 := size_beB n 8
  rw [be_right _ _ _ _ (by rw [ByteArray.size_append, s8, hgfr_size]; omega), ByteArray.size_append, s8, hgfr_size]
  exact be_put (k : Int) 4 (by omega) (by omega)

theorem getB_put (n : Int) (h0 : 0 ≤ n) (h1 : n ≤ 18446744073709551615) (t : ByteArray) (ht : t.size ≤ 65536) (X : ByteArray) : getB (putB n t ++ X) = .ok (n, t, ((putB n t).size : Int)) := by
  have hsz := putB_size n t
  have hb := body_size n t
  have hh := hd05_size n t.size
  have hsec : sec t.size = (t.size + 535) / 512 := rfl
  obtain ⟨z, hz, hzs⟩ : ∃ z, putB n t = (((hd05 n t.size ++ dig (hd05 n t.size)) ++ t) ++ dig t) ++ z ∧ z = strOfNums (List.replicate (sec t.size * 512 - (t.size + 24)) 0) := by
    refine ⟨_, pad512_eq _, ?_⟩
    rw [hb]
    congr 2
    omega
  have hzz : z.size = sec t.size * 512 - (t.size + 24) := by rw [hzs, strOfNums_size, List.length_replicate]
  have e1 : putB n t ++ X = hd05 n t.size ++ (dig (hd05 n t.size) ++ (t ++ (dig t ++ (z ++ X)))) := by rw [hz]; simp only [ByteArray.append_assoc]
  have e2 : putB n t ++ X = (hd05 n t.size ++ dig (hd05 n t.size)) ++ (t ++ (dig t ++ (z ++ X))) := by rw [e1]; simp only [ByteArray.append_assoc]
  have e3 : putB n t ++ X = ((hd05 n t.size ++ dig (hd05 n t.size)) ++ t) ++ (dig t ++ (z ++ X)) := by rw [e1]; simp only [ByteArray.append_assoc]
  have e4 : putB n t ++ X = (((hd05 n t.size ++ dig (hd05 n t.size)) ++ t) ++ dig t) ++ (z ++ X) := by rw [e1]; simp only [ByteArray.append_assoc]
  have hS : (putB n t ++ X).size = sec t.size * 512 + X.size := by rw [ByteArray.size_append, hsz]
  have g0 : (putB n t ++ X).extract 0 4 = hgfr := by
    rw [e1]
    unfold hd05
    rw [ByteArray.append_assoc, ByteArray.append_assoc]
    exact ext_first _ _ _ rfl
  have g1 : (putB n t ++ X).extract 0 16 = hd05 n t.size := by rw [e1]; exact ext_first _ _ _ hh.symm
  have g2 : (putB n t ++ X).extract 16 20 = dig (hd05 n t.size) := by rw [e2]; exact ext_mid _ _ _ _ _ hh.symm (by rw [hh, dig_size])
  have b8 : be (putB n t ++ X) 4 8 = n := by rw [e1]; exact hd05_be8 n _ h0 h1 _
  have b4 : be (putB n t ++ X) 12 4 = (t.size : Int) := by rw [e1]; exact hd05_be4 n _ ht _
  have g3 : (putB n t ++ X).extract 20 (20 + t.size) = t := by rw [e3]; exact ext_mid _ _ _ _ _ (by rw [ByteArray.size_append, hh, dig_size]) (by rw [ByteArray.size_append, hh, dig_size])
  have g4 : (putB n t ++ X).extract (20 + t.size) (24 + t.size) = dig t := by
    rw [e4]
    exact ext_mid _ _ _ _ _ (by rw [ByteArray.size_append, ByteArray.size_append, hh, dig_size]) (by rw [ByteArray.size_append, ByteArray.size_append, hh, dig_size, dig_size]; omega)
  have g5 : zeros05 (putB n t ++ X) (24 + t.size) (sec t.size * 512) := by
    intro i hi1 hi2
    rw [e4, bt_right _ _ _ (by rw [hb, Int.toNat_natCast]; omega), hb, bt_left _ _ _ (by rw [hzz]; omega), hzs, bt_of _ (inB_zero _), List.getD_eq_getElem?_getD, List.getElem?_replicate]
    split <;> rfl
  unfold getB
  rw [if_neg (by rw [hS]; omega), if_pos g0, g1, if_pos g2, b4, Int.toNat_natCast, if_pos ⟨by omega, by rw [hS]; omega⟩, g3, if_pos g4, if_pos g5, b8, hsz]
theorem outB_put (n : Int) (h0 : 0 ≤ n) (h1 : n ≤ 18446744073709551615) (t : ByteArray) (ht : t.size ≤ 65536) (X : ByteArray) : outB (putB n t ++ X) = (n, t, ((putB n t).size : Int), 0) := by
  unfold outB; rw [getB_put n h0 h1 t ht X]

end Go.Proofs.YtdcojinnjpihaaaDoor.F
