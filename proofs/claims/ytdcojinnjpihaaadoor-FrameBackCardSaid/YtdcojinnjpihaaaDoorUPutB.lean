/- A number's bytes, the highest first: the program's way and the document's come to the same. No condition. -/
import Derived.Test.YtdcojinnjpihaaaDoorUBig
import Derived.Test.YtdcojinnjpihaaaDoorUNums
import Derived.Test.YtdcojinnjpihaaaDoorF45
import Derived.Test.YtdcojinnjpihaaaDoorF24
import Derived.Test.YtdcojinnjpihaaaDoorF45
import Derived.Test.YtdcojinnjpihaaaDoorF45
namespace Go.Proofs.YtdcojinnjpihaaaDoor.F
open Go Go.RowKit Go.Proofs.YtdcojinnjpihaaaDoor.X
set_option linter.unusedVariables false
set_option linter.unusedSimpArgs false

def byteOf (v : Int) (n i : Nat) : Int := v / 256 ^ (n - 1 - i) % 256
def beB (v : Int) (n : Nat) : List Int := (List.range n).map (byteOf v n)
theorem beB_length (v : Int) (n : Nat) : (beB v n).length = n := by simp [beB]
theorem beB_get (v : Int) (n i : Nat) (h : i < n) : (beB v n)[i]? = some (byteOf v n i) := by simp [beB, List.getElem?_range h]

theorem put_loop (v : Int) (hv : 0 ≤ v) (n : Nat) (hn : n ≤ 8) : ∀ (m K j : Nat), m ≤ n →
    fields_put_uint64.l0 K v ((List.range n).map (shB n)) (m + 1 + j) ((List.range (n - m)).map (byteOf v n)) ((n : Int) - m) = some (strOfNums (beB v n)) := by
  intro m
  induction m with
  | zero => intro K j h; rw [show 0 + 1 + j = j + 1 by omega, fields_put_uint64.l0, fields_put_uint64.b0, if_neg (by simp)]; simp [beB]
  | succ m ih =>
    intro K j h
    have hi : ((n : Int) - (m + 1 : Nat)).toNat = n - (m + 1) := by omega
    have er : rdL (0 : Int) ((List.range n).map (shB n)) ((n : Int) - (m + 1 : Nat)) = 8 * (m : Int) := by
      unfold rdL
      rw [hi, List.getD_eq_getElem?_getD, List.getElem?_map, List.getElem?_range (by omega)]
      simp only [Option.map_some, Option.getD_some, shB]
      omega
    have e1 : IntKind.wrap .i64 ((n : Int) - (m + 1 : Nat) + 1) = (n : Int) - m := by rw [wi] <;> omega
    have e2 : IntKind.wrap .u8 (sshr .u64 v (8 * (m : Int))) = byteOf v n (n - (m + 1)) := by
      rw [wrapu8]
      unfold sshr byteOf
      have : min (8 * (m : Int)).toNat IntKind.u64.bits = 8 * m := by simp only [IntKind.bits]; omega
      rw [this, show n - 1 - (n - (m + 1)) = m by omega, show (2 : Int) ^ (8 * m) = 256 ^ m by rw [Int.pow_mul]; rfl, Int.fdiv_eq_ediv_of_nonneg _ (Int.pow_nonneg (by omega))]
    have e3 : (List.range (n - (m + 1))).map (byteOf v n) ++ [byteOf v n (n - (m + 1))] = (List.range (n - m)).map (byteOf v n) := by
      rw [show n - m = (n - (m + 1)) + 1 by omega, List.range_succ, List.map_append]; rfl
    rw [show m + 1 + 1 + j = (m + 1 + j) + 1 by omega, fields_put_uint64.l0, fields_put_uint64.b0, if_pos (by simp; omega), asrt_pos (by omega), er, asrt_pos (by omega), asrt_pos (by simp; omega), e1, e2, e3]
    exact ih K j (by omega)

theorem fields_PutBig.is (v : Int) (hv : 0 ≤ v) (n K : Nat) (h1 : 1 ≤ n) (hn : n ≤ 8) : fields_PutBig.f (K + 9) v (n : Int) = some (strOfNums (beB v n)) := by
  unfold fields_PutBig.f fields_put_uint64.f
  rw [if_neg (by omega), if_neg (by omega), shifts_big n hn]
  simp only [Option.bind_some]
  have := put_loop v hv n hn n (K + 9) (K + 8 - n) (Nat.le_refl n)
  rw [show n + 1 + (K + 8 - n) = K + 9 by omega] at this
  simp only [Nat.sub_self, List.range_zero, List.map_nil, Int.sub_self] at this
  rw [this]; rfl

theorem refput_loop (v : Int) (hv : 0 ≤ v) (hv2 : v ≤ 18446744073709551615) (n : Nat) (hn : n ≤ 8) : ∀ (m K j : Nat), m ≤ n →
    headgateref01_PutBig.l0 K (m + 1 + j) (v / 256 ^ (n - m)) (List.replicate m 0 ++ (beB v n).drop m) ((m : Int) - 1) = some (strOfNums (beB v n)) := by
  intro m
  induction m with
  | zero => intro K j h; rw [show 0 + 1 + j = j + 1 by omega, headgateref01_PutBig.l0, headgateref01_PutBig.b0, if_neg (by simp)]; simp
  | succ m ih =>
    intro K j h
    have hq : 0 ≤ v / 256 ^ (n - (m + 1)) := Int.ediv_nonneg hv (Int.pow_nonneg (by omega))
    have hq2 : v / 256 ^ (n - (m + 1)) ≤ 18446744073709551615 := Int.le_trans (Int.ediv_le_self _ hv) hv2
    rw [show m + 1 + 1 + j = (m + 1 + j) + 1 by omega, headgateref01_PutBig.l0, headgateref01_PutBig.b0, if_pos (by omega), asrt_pos (by omega), asrt_pos (by simp [beB_length]; omega)]
    have e1 : IntKind.wrap .i64 (((m + 1 : Nat) : Int) - 1 - 1) = (m : Int) - 1 := by rw [wi] <;> omega
    have e2 : IntKind.wrap .u64 (Int.tdiv (v / 256 ^ (n - (m + 1))) 256) = v / 256 ^ (n - m) := by
      rw [Int.tdiv_eq_ediv_of_nonneg hq, wu (by omega) (by omega), show n - m = n - (m + 1) + 1 by omega, Int.pow_succ, Int.ediv_ediv_of_nonneg (Int.pow_nonneg (by omega))]
    have e3 : IntKind.wrap .u8 (Int.tmod (v / 256 ^ (n - (m + 1))) 256) = byteOf v n m := by
      rw [Int.tmod_eq_emod_of_nonneg hq, wrapu8]
      unfold byteOf
      rw [show n - (m + 1) = n - 1 - m by omega]
      omega
    have e4 : (List.replicate (m + 1) (0 : Int) ++ (beB v n).drop (m + 1)).set (((m + 1 : Nat) : Int) - 1).toNat (byteOf v n m) = List.replicate m 0 ++ (beB v n).drop m := by
      rw [show (((m + 1 : Nat) : Int) - 1).toNat = m by omega, List.replicate_succ', List.append_assoc, List.set_append_right _ _ (by simp)]
      have : (beB v n).drop m = byteOf v n m :: (beB v n).drop (m + 1) := by
        rw [List.drop_eq_getElem_cons (by rw [beB_length]; omega)]
        congr 1
        have := beB_get v n m (by omega)
        exact (List.getElem?_eq_some_iff.1 this).2
      rw [this]
      simp
    rw [e1, e2, e3, e4]
    exact ih K j (by omega)

theorem headgateref01_PutBig.is (v : Int) (hv : 0 ≤ v) (hv2 : v ≤ 18446744073709551615) (n K : Nat) (h1 : 1 ≤ n) (hn : n ≤ 8) : headgateref01_PutBig.f (K + 9) v (n : Int) = some (strOfNums (beB v n)) := by
  unfold headgateref01_PutBig.f
  have ew : IntKind.wrap .i64 ((n : Int) - 1) = (n : Int) - 1 := by rw [wi] <;> omega
  rw [if_neg (by omega), if_neg (by omega), asrt_pos (by omega), asrt_pos (by omega), ew]
  have := refput_loop v hv hv2 n hn n (K + 9) (K + 8 - n) (Nat.le_refl n)
  rw [show n + 1 + (K + 8 - n) = K + 9 by omega] at this
  simpa [List.drop_eq_nil_of_le (Nat.le_of_eq (beB_length v n))] using this

theorem bt_nums (xs : List Int) (h : ∀ x ∈ xs, 0 ≤ x ∧ x ≤ 255) (i : Int) : bt (strOfNums xs) i = xs.getD i.toNat 0 := by
  unfold bt
  rw [strOfNums_data, List.getD_eq_getElem?_getD, List.getD_eq_getElem?_getD, List.getElem?_map]
  cases e : xs[i.toNat]? with
  | none => rfl
  | some x =>
    have := h x (List.mem_of_getElem? e)
    simp only [Option.map_some, Option.getD_some, UInt8.toNat_ofNat']
    omega
theorem be_congr (s t : ByteArray) (p q : Int) : ∀ (n : Nat), (∀ i : Nat, i < n → bt s (p + i) = bt t (q + i)) → be s p n = be t q n
  | 0, _ => rfl
  | n + 1, h => by rw [be, be, be_congr s t p q n (fun i hi => h i (by omega)), h n (by omega)]
theorem be_left (s t : ByteArray) (p : Int) (n : Nat) (h0 : 0 ≤ p) (h : p + n ≤ s.size) : be (s ++ t) p n = be s p n :=
  be_congr _ _ _ _ n fun i hi => bt_left s t _ (by omega)
theorem be_right (s t : ByteArray) (p : Int) (n : Nat) (h : (s.size : Int) ≤ p) : be (s ++ t) p n = be t (p - s.size) n :=
  be_congr _ _ _ _ n fun i hi => by rw [bt_right s t _ (by omega)]; congr 1; omega
theorem byteOf_range (v : Int) (n i : Nat) : 0 ≤ byteOf v n i ∧ byteOf v n i ≤ 255 := by unfold byteOf; omega
theorem beB_range (v : Int) (n : Nat) : ∀ x ∈ beB v n, 0 ≤ x ∧ x ≤ 255 := by
  intro x hx
  obtain ⟨i, _, rfl⟩ := List.mem_map.1 hx
  exact byteOf_range v n i
theorem bt_beB (v : Int) (n : Nat) (i : Int) (h0 : 0 ≤ i) (h : i < n) : bt (strOfNums (beB v n)) i = byteOf v n i.toNat := by
  rw [bt_nums _ (beB_range v n), List.getD_eq_getElem?_getD, beB_get v n _ (by omega)]; rfl
theorem size_beB (v : Int) (n : Nat) : (strOfNums (beB v n)).size = n := by rw [strOfNums_size, beB_length]
theorem be_beB (v : Int) (n : Nat) (hv : 0 ≤ v) : ∀ k : Nat, k ≤ n → be (strOfNums (beB v n)) 0 k = v / 256 ^ (n - k) % 256 ^ k
  | 0, _ => by simp [be, Int.emod_one]
  | k + 1, h => by
    rw [be, be_beB v n hv k (by omega), bt_beB v n _ (by omega) (by omega)]
    have e : (0 + (k : Int)).toNat = k := by omega
    rw [e]
    unfold byteOf
    have e1 : n - 1 - k = n - (k + 1) := by omega
    have e2 : v / 256 ^ (n - k) = v / 256 ^ (n - (k + 1)) / 256 := by
      rw [Int.ediv_ediv_of_nonneg (Int.pow_nonneg (by omega)), ← Int.pow_succ, show (n - (k + 1)).succ = n - k by omega]
    rw [e1, e2]
    have hq : 0 ≤ v / 256 ^ (n - (k + 1)) := Int.ediv_nonneg hv (Int.pow_nonneg (by omega))
    generalize v / 256 ^ (n - (k + 1)) = w at hq
    obtain ⟨w, rfl⟩ := Int.eq_ofNat_of_zero_le hq
    have := Nat.mod_mul (a := 256) (b := 256 ^ k) (x := w)
    rw [Nat.mul_comm 256 (256 ^ k), ← Nat.pow_succ] at this
    have c : ((w % 256 ^ (k + 1) : Nat) : Int) = (w : Int) % 256 ^ (k + 1) := by rw [Int.natCast_emod, c256]
    have c2 : ((w / 256 % 256 ^ k : Nat) : Int) = (w : Int) / 256 % 256 ^ k := by rw [Int.natCast_emod, c256]; rfl
    rw [← c, this, ← c2]
    omega
theorem be_put (v : Int) (n : Nat) (hv : 0 ≤ v) (h : v < 256 ^ n) : be (strOfNums (beB v n)) 0 n = v := by
  rw [be_beB v n hv n (Nat.le_refl n), Nat.sub_self, Int.pow_zero, Int.ediv_one, Int.emod_eq_of_lt hv h]

theorem byteOf_get (v : Int) (n i : Nat) (h : i < n) : (beB v n).getD i 0 = byteOf v n i := by
  rw [List.getD_eq_getElem?_getD, beB_get v n i h]; rfl
/-- A number whose bytes stand at a place is read there. -/
theorem be_of (l : List Int) (h : inB l) (p n : Nat) (v : Int) (hv : 0 ≤ v) (hv2 : v < 256 ^ n) (hi : ∀ i : Nat, i < n → l.getD (p + i) 0 = byteOf v n i) : be (strOfNums l) (p : Int) n = v := by
  have := be_put v n hv hv2
  rw [← this]
  refine be_congr _ _ _ _ n fun i hin => ?_
  rw [bt_of l h, bt_of _ (beB_range v n), show ((p : Int) + (i : Int)).toNat = p + i by omega, show ((0 : Int) + (i : Int)).toNat = i by omega, hi i hin, byteOf_get v n i hin]
theorem inB_beB (v : Int) (n : Nat) : inB (beB v n) := beB_range v n

end Go.Proofs.YtdcojinnjpihaaaDoor.F
