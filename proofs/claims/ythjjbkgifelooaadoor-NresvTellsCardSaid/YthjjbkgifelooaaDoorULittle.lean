/- Numbers out of bytes and bytes out of numbers, the lowest first: the program's way and the document's come to the same. No condition. -/
import Derived.Test.YthjjbkgifelooaaDoorXPure
import Derived.Test.YthjjbkgifelooaaDoorF77
import Derived.Test.YthjjbkgifelooaaDoorF48
import Derived.Test.YthjjbkgifelooaaDoorF51
import Derived.Test.YthjjbkgifelooaaDoorF51
import Derived.Test.YthjjbkgifelooaaDoorF77
import Derived.Test.YthjjbkgifelooaaDoorF48
import Derived.Test.YthjjbkgifelooaaDoorF48
import Derived.Test.YthjjbkgifelooaaDoorF51
namespace Go.Proofs.YthjjbkgifelooaaDoor.F
open Go Go.RowKit Go.Proofs.YthjjbkgifelooaaDoor.X
set_option linter.unusedVariables false
set_option linter.unusedSimpArgs false

def shL (i : Nat) : Int := 8 * (i : Int)
def lb (v : Int) (i : Nat) : Int := v / 256 ^ i % 256
def ltB (v : Int) (n : Nat) : List Int := (List.range n).map (lb v)
theorem lb_range (v : Int) (i : Nat) : 0 ≤ lb v i ∧ lb v i ≤ 255 := by unfold lb; omega
theorem ltB_length (v : Int) (n : Nat) : (ltB v n).length = n := by simp [ltB]

theorem shiftsL_loop (n : Nat) (hn : n ≤ 8) : ∀ (m K j : Nat), m ≤ n → fields_shifts.l0 K (n : Int) false (m + 1 + j) ((List.range (n - m)).map shL) ((n : Int) - m) = some ((List.range n).map shL) := by
  intro m
  induction m with
  | zero =>
    intro K j h
    rw [show 0 + 1 + j = j + 1 by omega, fields_shifts.l0]
    unfold fields_shifts.b0
    rw [if_neg (by simp)]; rfl
  | succ m ih =>
    intro K j h
    rw [show m + 1 + 1 + j = (m + 1 + j) + 1 by omega, fields_shifts.l0]
    unfold fields_shifts.b0
    have e1 : IntKind.wrap .i64 ((n : Int) - (m + 1 : Nat) + 1) = (n : Int) - m := by rw [wi] <;> omega
    have e2 : IntKind.wrap .i64 (8 * ((n : Int) - (m + 1 : Nat))) = shL (n - (m + 1)) := by
      unfold shL
      simp only [wrapi64]
      omega
    have e3 : (List.range (n - (m + 1))).map shL ++ [shL (n - (m + 1))] = (List.range (n - m)).map shL := by
      rw [show n - m = (n - (m + 1)) + 1 by omega, List.range_succ, List.map_append]; rfl
    rw [if_pos (by omega), if_neg (by simp), asrt_pos (by simp; omega), e1, e2, e3]
    exact ih K j (by omega)

theorem shifts_little (n : Nat) (hn : n ≤ 8) (K : Nat) : fields_shifts.f (K + 9) (n : Int) false = some ((List.range n).map shL) := by
  have h := shiftsL_loop n hn n (K + 9) (K + 8 - n) (Nat.le_refl n)
  rw [show n + 1 + (K + 8 - n) = K + 9 by omega] at h
  unfold fields_shifts.f
  simpa using h

theorem or_low (a b m : Nat) (ha : a < 256 ^ m) : a ||| b * 256 ^ m = a + b * 256 ^ m := by
  have e : (256 : Nat) ^ m = 2 ^ (8 * m) := by rw [Nat.pow_mul]
  rw [e] at ha ⊢
  have := Nat.two_pow_add_eq_or_of_lt ha b
  rw [Nat.or_comm, Nat.mul_comm b, ← this, Nat.add_comm]

theorem le_lo (s : ByteArray) (p : Int) : ∀ n, 0 ≤ le s p n
  | 0 => by simp [le]
  | n + 1 => by
    have h1 := le_lo s p n
    have hp : (0 : Int) ≤ 256 ^ n := Int.pow_nonneg (by omega)
    have h := Int.mul_nonneg (bt_lo s (p + n)) hp
    simp only [le]; omega
theorem le_hi (s : ByteArray) (p : Int) : ∀ n, le s p n < 256 ^ n
  | 0 => by simp [le]
  | n + 1 => by
    have := le_hi s p n; have h := bt_hi s (p + n)
    have hp : (0 : Int) ≤ 256 ^ n := Int.pow_nonneg (by omega)
    have := Int.mul_le_mul_of_nonneg_right h hp
    simp only [le, Int.pow_succ]; omega

theorem getL_loop (s : ByteArray) (p : Int) (n : Nat) (hn : n ≤ 8) (h0 : 0 ≤ p) (h1 : p + n ≤ s.size) (h2 : (s.size : Int) ≤ 4611686018427387904) : ∀ (m K j : Nat), m ≤ n →
    fields_get_uint64.l0 K s p ((List.range n).map shL) (m + 1 + j) (le s p (n - m)) ((n : Int) - m) = some (le s p n, true) := by
  intro m
  induction m with
  | zero =>
    intro K j h
    rw [show 0 + 1 + j = j + 1 by omega, fields_get_uint64.l0]
    unfold fields_get_uint64.b0
    rw [if_neg (by simp)]; simp
  | succ m ih =>
    intro K j h
    have hi : ((n : Int) - (m + 1 : Nat)).toNat = n - (m + 1) := by omega
    have er : rdL (0 : Int) ((List.range n).map shL) ((n : Int) - (m + 1 : Nat)) = 8 * ((n - (m + 1) : Nat) : Int) := by
      unfold rdL
      rw [hi, List.getD_eq_getElem?_getD, List.getElem?_map, List.getElem?_range (by omega)]
      rfl
    have ew : IntKind.wrap .i64 (p + ((n : Int) - (m + 1 : Nat))) = p + ((n - (m + 1) : Nat) : Int) := by rw [wi] <;> omega
    rw [show m + 1 + 1 + j = (m + 1 + j) + 1 by omega, fields_get_uint64.l0]
    unfold fields_get_uint64.b0
    rw [if_pos (by simp; omega), asrt_pos (by omega), ew, asrt_pos (by omega), asrt_pos (by omega), er, asrt_pos (by omega)]
    have e1 : IntKind.wrap .i64 ((n : Int) - (m + 1 : Nat) + 1) = (n : Int) - m := by rw [wi] <;> omega
    have hb0 := bt_lo s (p + ((n - (m + 1) : Nat) : Int)); have hb1 := bt_hi s (p + ((n - (m + 1) : Nat) : Int))
    have hx0 := le_lo s p (n - (m + 1)); have hx1 := le_hi s p (n - (m + 1))
    have eb : le s p (n - m) = le s p (n - (m + 1)) + bt s (p + ((n - (m + 1) : Nat) : Int)) * 256 ^ (n - (m + 1)) := by
      rw [show n - m = (n - (m + 1)) + 1 by omega, le]
    have e2 : bor .u64 (le s p (n - (m + 1))) (sshl .u64 (IntKind.wrap .u64 (bt s (p + ((n - (m + 1) : Nat) : Int)))) (8 * ((n - (m + 1) : Nat) : Int))) = le s p (n - m) := by
      rw [eb]
      generalize bt s (p + ((n - (m + 1) : Nat) : Int)) = b at hb0 hb1
      have hq8 : n - (m + 1) ≤ 7 := by omega
      generalize n - (m + 1) = q at hx0 hx1 hq8
      generalize le s p q = A at hx0 hx1
      obtain ⟨b, rfl⟩ := Int.eq_ofNat_of_zero_le hb0
      obtain ⟨A, rfl⟩ := Int.eq_ofNat_of_zero_le hx0
      have hA1 : A < 256 ^ q := by rw [← c256] at hx1; exact Int.ofNat_lt.1 hx1
      have h8 : 256 ^ q ≤ 256 ^ 7 := Nat.pow_le_pow_right (by omega) hq8
      have hB : b * 256 ^ q ≤ 255 * 256 ^ q := Nat.mul_le_mul_right _ (by omega)
      have es : sshl .u64 (IntKind.wrap .u64 (b : Int)) (8 * (q : Int)) = ((b * 256 ^ q : Nat) : Int) := by
        rw [wu (by omega) (by omega)]
        unfold sshl
        have : min (8 * (q : Int)).toNat IntKind.u64.bits = 8 * q := by simp only [IntKind.bits]; omega
        rw [this, wrapu64]
        have e256 : (2 : Int) ^ (8 * q) = ((256 ^ q : Nat) : Int) := by rw [c256, Int.pow_mul]; rfl
        rw [e256]
        have : ((b : Int) * ((256 ^ q : Nat) : Int)) = ((b * 256 ^ q : Nat) : Int) := by rw [Int.natCast_mul]
        rw [this]
        omega
      rw [es, bits_or _ _ (by omega) (by omega), or_low A b q hA1, Int.natCast_add, Int.natCast_mul, c256]
    rw [e1, e2]
    exact ih K j (by omega)

theorem fields_Little.is (s : ByteArray) (p : Int) (n K : Nat) (h1 : 1 ≤ n) (hn : n ≤ 8) (h2 : (s.size : Int) ≤ 4611686018427387904) :
    fields_Little.f (K + 9) s p (n : Int) = some (if 0 ≤ p ∧ p + n ≤ s.size then (le s p n, true) else (0, false)) := by
  unfold fields_Little.f fields_get_uint64.f
  rw [if_neg (by omega), if_neg (by omega)]
  have ew : IntKind.wrap .i64 ((s.size : Int) - n) = (s.size : Int) - n := by rw [wi] <;> omega
  rw [ew]
  by_cases hp : 0 ≤ p ∧ p + n ≤ s.size
  · rw [if_neg (by omega), if_neg (by omega), if_pos hp, shifts_little n hn]
    simp only [Option.bind_some]
    have := getL_loop s p n hn hp.1 hp.2 h2 n (K + 9) (K + 8 - n) (Nat.le_refl n)
    rw [show n + 1 + (K + 8 - n) = K + 9 by omega] at this
    simp only [Nat.sub_self, le, Int.sub_self] at this
    rw [this]; rfl
  · rw [if_neg hp]
    by_cases h : p < 0
    · rw [if_pos h]; rfl
    · rw [if_neg h, if_pos (by omega)]; rfl

theorem le_byte (s : ByteArray) (p : Int) : ∀ (n m : Nat), m < n → le s p n / 256 ^ m % 256 = bt s (p + m)
  | 0, m, h => by omega
  | n + 1, m, h => by
    have hb0 := bt_lo s (p + n); have hb1 := bt_hi s (p + n)
    have hp : (0 : Int) < 256 ^ m := Int.pow_pos (by omega)
    rw [le]
    by_cases e : m = n
    · subst e
      rw [Int.add_mul_ediv_right _ _ (by omega), Int.ediv_eq_zero_of_lt (le_lo s p m) (le_hi s p m)]
      omega
    · have e2 : (256 : Int) ^ n = 256 ^ (n - m - 1) * 256 * 256 ^ m := by
        rw [← Int.pow_succ, ← Int.pow_add]; congr 1; omega
      rw [e2, ← Int.mul_assoc, Int.add_mul_ediv_right _ _ (by omega), ← Int.mul_assoc, Int.add_mul_emod_self_right]
      exact le_byte s p n m (by omega)

theorem refL_loop (s : ByteArray) (p : Int) (n : Nat) (hn : n ≤ 8) (h0 : 0 ≤ p) (h1 : p + n ≤ s.size) (h2 : (s.size : Int) ≤ 4611686018427387904) : ∀ (m K j : Nat), m ≤ n →
    headgateref01_Little.l0 K s p (m + 1 + j) (le s p n / 256 ^ m) ((m : Int) - 1) = some (le s p n, true) := by
  intro m
  induction m with
  | zero =>
    intro K j h
    rw [show 0 + 1 + j = j + 1 by omega, headgateref01_Little.l0]
    unfold headgateref01_Little.b0
    rw [if_neg (by simp)]; simp
  | succ m ih =>
    intro K j h
    have ew : IntKind.wrap .i64 (p + (((m + 1 : Nat) : Int) - 1)) = p + (m : Int) := by rw [wi] <;> omega
    have e1 : IntKind.wrap .i64 (((m + 1 : Nat) : Int) - 1 - 1) = (m : Int) - 1 := by rw [wi] <;> omega
    have hb0 := bt_lo s (p + (m : Int)); have hb1 := bt_hi s (p + (m : Int))
    have hx0 := le_lo s p n; have hx1 := le_hi s p n
    have h8 : (256 : Int) ^ n ≤ 256 ^ 8 := pow256 hn
    rw [show m + 1 + 1 + j = (m + 1 + j) + 1 by omega, headgateref01_Little.l0]
    unfold headgateref01_Little.b0
    rw [if_pos (by omega), ew, asrt_pos (by omega), asrt_pos (by omega), e1]
    have hq : le s p n / 256 ^ m = (le s p n / 256 ^ (m + 1)) * 256 + bt s (p + m) := by
      rw [← le_byte s p n m (by omega), Int.pow_succ, ← Int.ediv_ediv_of_nonneg (Int.pow_nonneg (by omega))]
      omega
    have hq0 : 0 ≤ le s p n / 256 ^ (m + 1) := Int.ediv_nonneg hx0 (Int.pow_nonneg (by omega))
    have hq1 : le s p n / 256 ^ m ≤ le s p n := Int.ediv_le_self _ hx0
    have e2 : IntKind.wrap .u64 ((IntKind.wrap .u64 ((le s p n / 256 ^ (m + 1)) * 256)) + (IntKind.wrap .u64 (bt s (p + (m : Int))))) = le s p n / 256 ^ m := by
      rw [hq]
      simp only [wrapu64]
      omega
    rw [e2]
    exact ih K j (by omega)

theorem headgateref01_Little.is (s : ByteArray) (p : Int) (n K : Nat) (h1 : 1 ≤ n) (hn : n ≤ 8) (h2 : (s.size : Int) ≤ 4611686018427387904) :
    headgateref01_Little.f (K + 9) s p (n : Int) = some (if 0 ≤ p ∧ p + n ≤ s.size then (le s p n, true) else (0, false)) := by
  unfold headgateref01_Little.f headgateref01_there.f
  rw [if_neg (by omega), if_neg (by omega)]
  by_cases hp : 0 ≤ p ∧ p + n ≤ s.size
  · have ew : IntKind.wrap .i64 ((s.size : Int) - p) = (s.size : Int) - p := by rw [wi] <;> omega
    have ew2 : IntKind.wrap .i64 ((n : Int) - 1) = (n : Int) - 1 := by rw [wi] <;> omega
    rw [if_pos (by omega), if_pos (by omega), if_pos (by omega), if_pos hp, ew, decide_eq_true (by omega)]
    simp only [Option.bind_some, if_pos]
    have := refL_loop s p n hn hp.1 hp.2 h2 n (K + 9) (K + 8 - n) (Nat.le_refl n)
    rw [show n + 1 + (K + 8 - n) = K + 9 by omega, Int.ediv_eq_zero_of_lt (le_lo s p n) (le_hi s p n)] at this
    rw [ew2]
    exact this
  · rw [if_neg hp]
    by_cases h : p ≥ 0
    · rw [if_pos h, if_pos (by omega)]
      by_cases h' : p ≤ s.size
      · have ew : IntKind.wrap .i64 ((s.size : Int) - p) = (s.size : Int) - p := by rw [wi] <;> omega
        rw [if_pos h', ew, decide_eq_false (by omega)]; rfl
      · rw [if_neg h']; rfl
    · rw [if_neg h]; rfl

theorem putL_loop (v : Int) (hv : 0 ≤ v) (n : Nat) (hn : n ≤ 8) : ∀ (m K j : Nat), m ≤ n →
    fields_put_uint64.l0 K v ((List.range n).map shL) (m + 1 + j) ((List.range (n - m)).map (lb v)) ((n : Int) - m) = some (strOfNums (ltB v n)) := by
  intro m
  induction m with
  | zero =>
    intro K j h
    rw [show 0 + 1 + j = j + 1 by omega, fields_put_uint64.l0]
    unfold fields_put_uint64.b0
    rw [if_neg (by simp)]; simp [ltB]
  | succ m ih =>
    intro K j h
    have hi : ((n : Int) - (m + 1 : Nat)).toNat = n - (m + 1) := by omega
    have er : rdL (0 : Int) ((List.range n).map shL) ((n : Int) - (m + 1 : Nat)) = 8 * ((n - (m + 1) : Nat) : Int) := by
      unfold rdL
      rw [hi, List.getD_eq_getElem?_getD, List.getElem?_map, List.getElem?_range (by omega)]
      rfl
    have e1 : IntKind.wrap .i64 ((n : Int) - (m + 1 : Nat) + 1) = (n : Int) - m := by rw [wi] <;> omega
    have e2 : IntKind.wrap .u8 (sshr .u64 v (8 * ((n - (m + 1) : Nat) : Int))) = lb v (n - (m + 1)) := by
      rw [wrapu8]
      unfold sshr lb
      have : min (8 * ((n - (m + 1) : Nat) : Int)).toNat IntKind.u64.bits = 8 * (n - (m + 1)) := by simp only [IntKind.bits]; omega
      rw [this, show (2 : Int) ^ (8 * (n - (m + 1))) = 256 ^ (n - (m + 1)) by rw [Int.pow_mul]; rfl, Int.fdiv_eq_ediv_of_nonneg _ (Int.pow_nonneg (by omega))]
    have e3 : (List.range (n - (m + 1))).map (lb v) ++ [lb v (n - (m + 1))] = (List.range (n - m)).map (lb v) := by
      rw [show n - m = (n - (m + 1)) + 1 by omega, List.range_succ, List.map_append]; rfl
    rw [show m + 1 + 1 + j = (m + 1 + j) + 1 by omega, fields_put_uint64.l0]
    unfold fields_put_uint64.b0
    rw [if_pos (by simp; omega), asrt_pos (by omega), er, asrt_pos (by omega), asrt_pos (by simp; omega), e1, e2, e3]
    exact ih K j (by omega)

theorem fields_PutLittle.is (v : Int) (hv : 0 ≤ v) (n K : Nat) (h1 : 1 ≤ n) (hn : n ≤ 8) : fields_PutLittle.f (K + 9) v (n : Int) = some (strOfNums (ltB v n)) := by
  unfold fields_PutLittle.f fields_put_uint64.f
  rw [if_neg (by omega), if_neg (by omega), shifts_little n hn]
  simp only [Option.bind_some]
  have := putL_loop v hv n hn n (K + 9) (K + 8 - n) (Nat.le_refl n)
  rw [show n + 1 + (K + 8 - n) = K + 9 by omega] at this
  simp only [Nat.sub_self, List.range_zero, List.map_nil, Int.sub_self] at this
  rw [this]; rfl

theorem refputL_loop (v : Int) (hv : 0 ≤ v) (hv2 : v ≤ 18446744073709551615) (n : Nat) (hn : n ≤ 8) : ∀ (m K j : Nat), m ≤ n →
    headgateref01_PutLittle.l0 K (n : Int) (m + 1 + j) (v / 256 ^ (n - m)) ((List.range (n - m)).map (lb v) ++ List.replicate m 0) ((n : Int) - m) = some (strOfNums (ltB v n)) := by
  intro m
  induction m with
  | zero =>
    intro K j h
    rw [show 0 + 1 + j = j + 1 by omega, headgateref01_PutLittle.l0]
    unfold headgateref01_PutLittle.b0
    rw [if_neg (by simp)]; simp [ltB]
  | succ m ih =>
    intro K j h
    have hq : 0 ≤ v / 256 ^ (n - (m + 1)) := Int.ediv_nonneg hv (Int.pow_nonneg (by omega))
    have hq2 : v / 256 ^ (n - (m + 1)) ≤ 18446744073709551615 := Int.le_trans (Int.ediv_le_self _ hv) hv2
    have e1 : IntKind.wrap .i64 ((n : Int) - (m + 1 : Nat) + 1) = (n : Int) - m := by rw [wi] <;> omega
    have e2 : IntKind.wrap .u64 (Int.tdiv (v / 256 ^ (n - (m + 1))) 256) = v / 256 ^ (n - m) := by
      rw [Int.tdiv_eq_ediv_of_nonneg hq, wu (by omega) (by omega), show n - m = n - (m + 1) + 1 by omega, Int.pow_succ, Int.ediv_ediv_of_nonneg (Int.pow_nonneg (by omega))]
    have e3 : IntKind.wrap .u8 (Int.tmod (v / 256 ^ (n - (m + 1))) 256) = lb v (n - (m + 1)) := by
      rw [Int.tmod_eq_emod_of_nonneg hq, wrapu8]
      unfold lb
      omega
    have e4 : ((List.range (n - (m + 1))).map (lb v) ++ List.replicate (m + 1) (0 : Int)).set ((n : Int) - (m + 1 : Nat)).toNat (lb v (n - (m + 1))) = (List.range (n - m)).map (lb v) ++ List.replicate m 0 := by
      rw [show ((n : Int) - (m + 1 : Nat)).toNat = n - (m + 1) by omega, List.set_append_right _ _ (by simp), List.replicate_succ, show n - m = (n - (m + 1)) + 1 by omega, List.range_succ, List.map_append]
      simp
    rw [show m + 1 + 1 + j = (m + 1 + j) + 1 by omega, headgateref01_PutLittle.l0]
    unfold headgateref01_PutLittle.b0
    rw [if_pos (by omega), asrt_pos (by omega), asrt_pos (by simp; omega), e1, e2, e3, e4]
    exact ih K j (by omega)

theorem headgateref01_PutLittle.is (v : Int) (hv : 0 ≤ v) (hv2 : v ≤ 18446744073709551615) (n K : Nat) (h1 : 1 ≤ n) (hn : n ≤ 8) : headgateref01_PutLittle.f (K + 9) v (n : Int) = some (strOfNums (ltB v n)) := by
  unfold headgateref01_PutLittle.f
  rw [if_neg (by omega), if_neg (by omega), asrt_pos (by omega), asrt_pos (by omega)]
  have := refputL_loop v hv hv2 n hn n (K + 9) (K + 8 - n) (Nat.le_refl n)
  rw [show n + 1 + (K + 8 - n) = K + 9 by omega] at this
  simpa using this

end Go.Proofs.YthjjbkgifelooaaDoor.F
