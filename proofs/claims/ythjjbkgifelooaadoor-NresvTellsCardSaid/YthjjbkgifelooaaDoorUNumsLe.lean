/- Numbers in texts, the lowest byte first: written and read. No condition. -/
import Derived.Test.YthjjbkgifelooaaDoorUNums
import Derived.Test.YthjjbkgifelooaaDoorULittle
namespace Go.Proofs.YthjjbkgifelooaaDoor.F
open Go Go.RowKit Go.Proofs.YthjjbkgifelooaaDoor.X
set_option linter.unusedVariables false
set_option linter.unusedSimpArgs false

theorem inB_ltB (v : Int) (n : Nat) : inB (ltB v n) := fun y hy => by
  obtain ⟨i, _, rfl⟩ := List.mem_map.1 hy
  exact lb_range v i
theorem ltB_get (v : Int) (n i : Nat) (h : i < n) : (ltB v n).getD i 0 = lb v i := by
  unfold ltB
  rw [List.getD_eq_getElem?_getD, List.getElem?_map, List.getElem?_range h]; rfl
theorem le_of (l : List Int) (h : inB l) (p : Nat) (v : Int) (hv : 0 ≤ v) : ∀ (n : Nat), (∀ i : Nat, i < n → l.getD (p + i) 0 = lb v i) → le (strOfNums l) (p : Int) n = v % 256 ^ n
  | 0, _ => by simp [le, Int.emod_one]
  | n + 1, hi => by
    rw [le, le_of l h p v hv n (fun i h' => hi i (by omega)), bt_of l h, show ((p : Int) + (n : Int)).toNat = p + n by omega, hi n (by omega)]
    unfold lb
    obtain ⟨w, rfl⟩ := Int.eq_ofNat_of_zero_le hv
    have := Nat.mod_pow_succ (b := 256) (k := n) (x := w)
    have c : ((w % 256 ^ (n + 1) : Nat) : Int) = (w : Int) % 256 ^ (n + 1) := by rw [Int.natCast_emod, c256]
    have c2 : ((w % 256 ^ n : Nat) : Int) = (w : Int) % 256 ^ n := by rw [Int.natCast_emod, c256]
    have c3 : ((w / 256 ^ n % 256 : Nat) : Int) = (w : Int) / 256 ^ n % 256 := by rw [Int.natCast_emod, Int.natCast_ediv, c256]; rfl
    rw [← c, this, ← c2, ← c3, Int.natCast_add, Int.natCast_mul, c256, Int.mul_comm]
/-- A number that was written ahead of something is read. -/
theorem le_ahead (v : Int) (n : Nat) (hv : 0 ≤ v) (h : v < 256 ^ n) (m : List Int) (hm : inB m) : le (strOfNums (ltB v n ++ m)) 0 n = v := by
  have := le_of (ltB v n ++ m) (inB_append (inB_ltB v n) hm) 0 v hv n fun i hi => by
    rw [Nat.zero_add, List.getD_eq_getElem?_getD, List.getElem?_append_left (by rw [ltB_length]; exact hi), ← List.getD_eq_getElem?_getD, ltB_get v n i hi]
  rw [Int.emod_eq_of_lt hv h] at this
  exact this
/-- A number that was written behind something is read. -/
theorem le_behind (l : List Int) (hl : inB l) (v : Int) (n : Nat) (hv : 0 ≤ v) (h : v < 256 ^ n) (m : List Int) (hm : inB m) (p : Nat) (hp : p = l.length) : le (strOfNums (l ++ (ltB v n ++ m))) (p : Int) n = v := by
  have := le_of (l ++ (ltB v n ++ m)) (inB_append hl (inB_append (inB_ltB v n) hm)) p v hv n fun i hi => by
    rw [List.getD_eq_getElem?_getD, List.getElem?_append_right (by omega), List.getElem?_append_left (by rw [ltB_length]; omega), show p + i - l.length = i by omega, ← List.getD_eq_getElem?_getD, ltB_get v n i hi]
  rw [Int.emod_eq_of_lt hv h] at this
  exact this
theorem le_congr (s t : ByteArray) (p q : Int) : ∀ (n : Nat), (∀ i : Nat, i < n → bt s (p + i) = bt t (q + i)) → le s p n = le t q n
  | 0, _ => rfl
  | n + 1, h => by rw [le, le, le_congr s t p q n (fun i hi => h i (by omega)), h n (by omega)]

end Go.Proofs.YthjjbkgifelooaaDoor.F
