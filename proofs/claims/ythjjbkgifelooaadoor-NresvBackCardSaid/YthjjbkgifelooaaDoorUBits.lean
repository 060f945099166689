/- Some bits of a number: the program's way and the document's come to the same. No condition. -/
import Derived.Test.YthjjbkgifelooaaDoorXPure
import Derived.Test.YthjjbkgifelooaaDoorF77
import Derived.Test.YthjjbkgifelooaaDoorF77
import Derived.Test.YthjjbkgifelooaaDoorF30
namespace Go.Proofs.YthjjbkgifelooaaDoor.F
open Go Go.RowKit Go.Proofs.YthjjbkgifelooaaDoor.X
set_option linter.unusedVariables false
set_option linter.unusedSimpArgs false

def bitsOf (v : Int) (lo n : Nat) : Int := v / 2 ^ lo % 2 ^ n

theorem p2pos (n : Nat) : (0 : Int) < 2 ^ n := Int.pow_pos (by omega)
theorem c2 (n : Nat) : ((2 ^ n : Nat) : Int) = 2 ^ n := by rw [Int.natCast_pow]; rfl
theorem p2le {a b : Nat} (h : a ≤ b) : (2 : Int) ^ a ≤ 2 ^ b := by rw [← c2, ← c2]; exact Int.ofNat_le.2 (Nat.pow_le_pow_right (by omega) h)

theorem fields_Bits.is (v : Int) (h0 : 0 ≤ v) (h1 : v ≤ 18446744073709551615) (lo n : Nat) (hn : 1 ≤ n) (hl : lo + n ≤ 64) : fields_Bits.f v (lo : Int) (n : Int) = some (bitsOf v lo n) := by
  unfold fields_Bits.f
  have e1 : IntKind.wrap .i64 (64 - (n : Int)) = ((64 - n : Nat) : Int) := by rw [wi] <;> omega
  have e2 : IntKind.wrap .i64 (((64 - n : Nat) : Int) - (lo : Int)) = ((64 - n - lo : Nat) : Int) := by rw [wi] <;> omega
  rw [e1, e2, if_neg (by omega), if_neg (by omega), if_neg (by omega), if_neg (by omega), asrt_pos (by omega), asrt_pos (by omega)]
  have m1 : min (((64 - n - lo : Nat) : Int)).toNat IntKind.u64.bits = 64 - n - lo := by simp only [IntKind.bits]; omega
  have m2 : min (((64 - n : Nat) : Int)).toNat IntKind.u64.bits = 64 - n := by simp only [IntKind.bits]; omega
  unfold sshr sshl bitsOf
  rw [m1, m2, wrapu64, Int.fdiv_eq_ediv_of_nonneg _ (Int.le_of_lt (p2pos _))]
  obtain ⟨w, rfl⟩ := Int.eq_ofNat_of_zero_le h0
  have key : w * 2 ^ (64 - n - lo) % 2 ^ 64 / 2 ^ (64 - n) = w / 2 ^ lo % 2 ^ n := by
    have hs : 2 ^ 64 = 2 ^ (64 - n - lo) * 2 ^ (lo + n) := by rw [← Nat.pow_add]; congr 1; omega
    have ht : 2 ^ (64 - n) = 2 ^ (64 - n - lo) * 2 ^ lo := by rw [← Nat.pow_add]; congr 1; omega
    rw [hs, Nat.mul_comm w, Nat.mul_mod_mul_left, ht, Nat.mul_div_mul_left _ _ (Nat.two_pow_pos _), Nat.pow_add, Nat.mod_mul_right_div_self]
  have a1 : ((w * 2 ^ (64 - n - lo) % 2 ^ 64 / 2 ^ (64 - n) : Nat) : Int) = (w : Int) * 2 ^ (64 - n - lo) % 18446744073709551616 / 2 ^ (64 - n) := by
    rw [Int.natCast_ediv, Int.natCast_emod, Int.natCast_mul, c2, c2]; rfl
  have a2 : ((w / 2 ^ lo % 2 ^ n : Nat) : Int) = (w : Int) / 2 ^ lo % 2 ^ n := by
    rw [Int.natCast_emod, Int.natCast_ediv, c2, c2]
  rw [← a1, ← a2, key]

theorem refBits_loop1 (y : Int) (h0 : 0 ≤ y) (h1 : y ≤ 18446744073709551615) (n : Nat) (hn : n ≤ 32) : ∀ (m K j : Nat), m ≤ n →
    headgateref01_Bits.l1 K (n : Int) (m + 1 + j) (y / 2 ^ (n - m)) (y % 2 ^ (n - m)) (2 ^ (n - m)) ((n : Int) - m) = some (y % 2 ^ n) := by
  intro m
  induction m with
  | zero =>
    intro K j h
    rw [show 0 + 1 + j = j + 1 by omega, headgateref01_Bits.l1]
    unfold headgateref01_Bits.b1
    rw [if_neg (by simp)]; simp
  | succ m ih =>
    intro K j h
    have hq0 : 0 ≤ y / 2 ^ (n - (m + 1)) := Int.ediv_nonneg h0 (Int.le_of_lt (p2pos _))
    have hq1 : y / 2 ^ (n - (m + 1)) ≤ y := Int.ediv_le_self _ h0
    have hr0 : 0 ≤ y % 2 ^ (n - (m + 1)) := Int.emod_nonneg _ (by have := p2pos (n - (m + 1)); omega)
    have hr1 : y % 2 ^ (n - (m + 1)) < 2 ^ (n - (m + 1)) := Int.emod_lt_of_pos _ (p2pos _)
    have hp : (2 : Int) ^ (n - (m + 1)) ≤ 2 ^ 31 := p2le (by omega)
    have hpp := p2pos (n - (m + 1))
    have en : n - m = (n - (m + 1)) + 1 := by omega
    have e1 : IntKind.wrap .i64 ((n : Int) - ((m + 1 : Nat) : Int) + 1) = (n : Int) - m := by rw [wi] <;> omega
    have e2 : IntKind.wrap .u64 (Int.tdiv (y / 2 ^ (n - (m + 1))) 2) = y / 2 ^ (n - m) := by
      rw [Int.tdiv_eq_ediv_of_nonneg hq0, wu (by omega) (by omega), en, Int.pow_succ, Int.ediv_ediv_of_nonneg (Int.le_of_lt hpp)]
    have e3 : IntKind.wrap .u64 (2 ^ (n - (m + 1)) * 2) = 2 ^ (n - m) := by
      rw [wu (by omega) (by omega), en, Int.pow_succ]
    have e4 : IntKind.wrap .u64 (y % 2 ^ (n - (m + 1)) + IntKind.wrap .u64 (Int.tmod (y / 2 ^ (n - (m + 1))) 2 * 2 ^ (n - (m + 1)))) = y % 2 ^ (n - m) := by
      rw [Int.tmod_eq_emod_of_nonneg hq0, en]
      obtain ⟨w, rfl⟩ := Int.eq_ofNat_of_zero_le h0
      have := Nat.mod_pow_succ (b := 2) (k := n - (m + 1)) (x := w)
      have c : ((w % 2 ^ (n - (m + 1) + 1) : Nat) : Int) = (w : Int) % 2 ^ (n - (m + 1) + 1) := by rw [Int.natCast_emod, c2]
      have c' : ((w % 2 ^ (n - (m + 1)) : Nat) : Int) = (w : Int) % 2 ^ (n - (m + 1)) := by rw [Int.natCast_emod, c2]
      have c'' : ((w / 2 ^ (n - (m + 1)) % 2 : Nat) : Int) = (w : Int) / 2 ^ (n - (m + 1)) % 2 := by rw [Int.natCast_emod, Int.natCast_ediv, c2]; rfl
      rw [← c, this, Int.natCast_add, Int.natCast_mul, c2, c', c'', Int.mul_comm (2 ^ (n - (m + 1)))]
      have hb : (w : Int) / 2 ^ (n - (m + 1)) % 2 = 0 ∨ (w : Int) / 2 ^ (n - (m + 1)) % 2 = 1 := by omega
      rcases hb with hb | hb <;> rw [hb] <;> simp only [Int.zero_mul, Int.one_mul, wrapu64] <;> omega
    rw [show m + 1 + 1 + j = (m + 1 + j) + 1 by omega, headgateref01_Bits.l1]
    unfold headgateref01_Bits.b1
    rw [if_pos (by omega), e1, e2, e3, e4]
    exact ih K j (by omega)

theorem refBits_loop0 (v : Int) (h0 : 0 ≤ v) (h1 : v ≤ 18446744073709551615) (lo n : Nat) (hl : lo ≤ 63) (hn : n ≤ 32) : ∀ (m K j : Nat), m ≤ lo →
    headgateref01_Bits.l0 (K + 33) (lo : Int) (n : Int) (m + 1 + j) (v / 2 ^ (lo - m)) ((lo : Int) - m) = some (bitsOf v lo n) := by
  intro m
  induction m with
  | zero =>
    intro K j h
    rw [show 0 + 1 + j = j + 1 by omega, headgateref01_Bits.l0]
    unfold headgateref01_Bits.b0
    rw [if_neg (by simp), Nat.sub_zero]
    have hq0 : 0 ≤ v / 2 ^ lo := Int.ediv_nonneg h0 (Int.le_of_lt (p2pos _))
    have hq1 : v / 2 ^ lo ≤ v := Int.ediv_le_self _ h0
    have := refBits_loop1 (v / 2 ^ lo) hq0 (by omega) n hn n (K + 33) (K + 32 - n) (Nat.le_refl n)
    rw [show n + 1 + (K + 32 - n) = K + 33 by omega] at this
    simpa [bitsOf, Int.emod_one] using this
  | succ m ih =>
    intro K j h
    have hq0 : 0 ≤ v / 2 ^ (lo - (m + 1)) := Int.ediv_nonneg h0 (Int.le_of_lt (p2pos _))
    have hq1 : v / 2 ^ (lo - (m + 1)) ≤ v := Int.ediv_le_self _ h0
    have e1 : IntKind.wrap .i64 ((lo : Int) - ((m + 1 : Nat) : Int) + 1) = (lo : Int) - m := by rw [wi] <;> omega
    have e2 : IntKind.wrap .u64 (Int.tdiv (v / 2 ^ (lo - (m + 1))) 2) = v / 2 ^ (lo - m) := by
      rw [Int.tdiv_eq_ediv_of_nonneg hq0, wu (by omega) (by omega), show lo - m = (lo - (m + 1)) + 1 by omega, Int.pow_succ, Int.ediv_ediv_of_nonneg (Int.le_of_lt (p2pos _))]
    rw [show m + 1 + 1 + j = (m + 1 + j) + 1 by omega, headgateref01_Bits.l0]
    unfold headgateref01_Bits.b0
    rw [if_pos (by omega), e1, e2]
    exact ih K j (by omega)

theorem headgateref01_Bits.is (v : Int) (h0 : 0 ≤ v) (h1 : v ≤ 18446744073709551615) (lo n K : Nat) (hn : 1 ≤ n) (hn2 : n ≤ 32) (hl : lo + n ≤ 64) (hlo : lo ≤ 63) : headgateref01_Bits.f (K + 70) v (lo : Int) (n : Int) = some (bitsOf v lo n) := by
  unfold headgateref01_Bits.f
  have e1 : IntKind.wrap .i64 (64 - (lo : Int)) = 64 - (lo : Int) := by rw [wi] <;> omega
  rw [e1, if_neg (by omega), if_neg (by omega), if_neg (by omega), if_neg (by omega)]
  have := refBits_loop0 v h0 h1 lo n hlo hn2 lo (K + 37) (K + 69 - lo) (Nat.le_refl lo)
  rw [show lo + 1 + (K + 69 - lo) = K + 70 by omega, show K + 37 + 33 = K + 70 by omega] at this
  simpa using this

theorem fields_Bit.is (v : Int) (h0 : 0 ≤ v) (h1 : v ≤ 18446744073709551615) (n : Nat) (hn : n < 64) : fields_Bit.f v (n : Int) = some (v / 2 ^ n % 2 == 1) := by
  unfold fields_Bit.f
  rw [if_pos (by omega), if_pos (by omega), asrt_pos (by omega)]
  have m1 : min ((n : Int)).toNat IntKind.u64.bits = n := by simp only [IntKind.bits]; omega
  have hq0 : 0 ≤ v / 2 ^ n := Int.ediv_nonneg h0 (Int.le_of_lt (p2pos _))
  have hq1 : v / 2 ^ n ≤ v := Int.ediv_le_self _ h0
  unfold sshr
  rw [m1, Int.fdiv_eq_ediv_of_nonneg _ (Int.le_of_lt (p2pos _)), band_one hq0 (by omega)]

theorem in_mask (x mask : Nat) (hx : x < 2 ^ 32) : x &&& mask = x ↔ ∀ i, i < 32 → mask.testBit i = false → x.testBit i = false := by
  constructor
  · intro h i hi hm
    have := congrArg (fun v => Nat.testBit v i) h
    simp only [Nat.testBit_and, hm, Bool.and_false] at this
    exact this.symm
  · intro h
    apply Nat.eq_of_testBit_eq
    intro i
    rw [Nat.testBit_and]
    by_cases hi : i < 32
    · cases hm : mask.testBit i with
      | true => simp
      | false => rw [h i hi hm]; rfl
    · rw [Nat.testBit_lt_two_pow (Nat.lt_of_lt_of_le hx (Nat.pow_le_pow_right (by omega) (by omega)))]; rfl
theorem none_there (x lo n : Nat) : x / 2 ^ lo % 2 ^ n = 0 ↔ ∀ i, i < n → x.testBit (lo + i) = false := by
  constructor
  · intro h i hi
    have := congrArg (fun v => Nat.testBit v i) h
    simp only [Nat.testBit_mod_two_pow, Nat.testBit_div_two_pow, hi, decide_true, Bool.true_and, Nat.zero_testBit] at this
    rwa [Nat.add_comm lo i]
  · intro h
    apply Nat.eq_of_testBit_eq
    intro i
    simp only [Nat.testBit_mod_two_pow, Nat.testBit_div_two_pow, Nat.zero_testBit]
    by_cases hi : i < n
    · rw [Nat.add_comm i lo, h i hi]; simp
    · simp [hi]
theorem bandNot32 {x y : Nat} (hx : x < 4294967296) (hy : y < 4294967296) : bandNot .u32 (x : Int) (y : Int) = 0 ↔ x &&& y = x := by
  have e : bandNot .u32 (x : Int) (y : Int) = ((BitVec.ofNat 32 x &&& ~~~ BitVec.ofNat 32 y).toNat : Int) := by
    have h := (BitVec.ofNat 32 x &&& ~~~ BitVec.ofNat 32 y).isLt
    have e : bandNot .u32 (x : Int) (y : Int) = IntKind.wrap .u32 ((BitVec.ofInt 32 x &&& ~~~ BitVec.ofInt 32 y).toNat) := rfl
    rw [e, wrapu32, BitVec.ofInt_natCast, BitVec.ofInt_natCast]
    generalize (BitVec.ofNat 32 x &&& ~~~ BitVec.ofNat 32 y).toNat = z at h
    omega
  rw [e, in_mask x y (by omega)]
  constructor
  · intro h i hi hm
    have h0 : BitVec.ofNat 32 x &&& ~~~ BitVec.ofNat 32 y = 0#32 := by apply BitVec.eq_of_toNat_eq; exact Int.ofNat.inj h
    have := congrArg (fun v => v.getLsbD i) h0
    simp only [BitVec.getLsbD_and, BitVec.getLsbD_not, BitVec.getLsbD_ofNat, hi, hm, decide_true, Bool.true_and] at this
    simpa using this
  · intro h
    have h0 : BitVec.ofNat 32 x &&& ~~~ BitVec.ofNat 32 y = 0#32 := by
      apply BitVec.eq_of_getLsbD_eq
      intro i hi
      simp only [BitVec.getLsbD_and, BitVec.getLsbD_not, BitVec.getLsbD_ofNat, hi, decide_true, Bool.true_and, BitVec.getLsbD_zero]
      cases hm : y.testBit i with
      | true => simp
      | false => rw [h i hi hm, Nat.zero_testBit]; rfl
    rw [h0]; rfl
/-- Nothing outside the bits 0 to 3, 30 and 31. -/
theorem word_reg (x : Nat) (hx : x < 4294967296) : bandNot .u32 (x : Int) 3221225487 = 0 ↔ x / 2 ^ 4 % 2 ^ 26 = 0 := by
  have h := bandNot32 (x := x) (y := 3221225487) hx (by omega)
  rw [show ((3221225487 : Nat) : Int) = 3221225487 from rfl] at h
  rw [h, in_mask x _ (by omega), none_there]
  constructor
  · intro h i hi
    exact h (4 + i) (by omega) ((by decide : ∀ i, i < 26 → Nat.testBit 3221225487 (4 + i) = false) i hi)
  · intro h i hi hm
    obtain ⟨h1, h2⟩ := (by decide : ∀ i, i < 32 → Nat.testBit 3221225487 i = false → 4 ≤ i ∧ i < 30) i hi hm
    have := h (i - 4) (by omega)
    rwa [show 4 + (i - 4) = i by omega] at this
/-- Nothing outside the bits 0 to 2. -/
theorem word_low (x : Nat) (hx : x < 4294967296) : bandNot .u32 (x : Int) 7 = 0 ↔ x / 2 ^ 3 % 2 ^ 29 = 0 := by
  have h := bandNot32 (x := x) (y := 7) hx (by omega)
  rw [show ((7 : Nat) : Int) = 7 from rfl] at h
  rw [h, in_mask x _ (by omega), none_there]
  constructor
  · intro h i hi
    exact h (3 + i) (by omega) ((by decide : ∀ i, i < 29 → Nat.testBit 7 (3 + i) = false) i hi)
  · intro h i hi hm
    have h1 := (by decide : ∀ i, i < 32 → Nat.testBit 7 i = false → 3 ≤ i) i hi hm
    have := h (i - 3) (by omega)
    rwa [show 3 + (i - 3) = i by omega] at this
/-- Nothing outside the bits 0 to 2 and 8 to 15. -/
theorem word_typ (x : Nat) (hx : x < 4294967296) : bandNot .u32 (x : Int) 65287 = 0 ↔ x / 2 ^ 3 % 2 ^ 5 = 0 ∧ x / 2 ^ 16 % 2 ^ 16 = 0 := by
  have h := bandNot32 (x := x) (y := 65287) hx (by omega)
  rw [show ((65287 : Nat) : Int) = 65287 from rfl] at h
  rw [h, in_mask x _ (by omega), none_there, none_there]
  constructor
  · intro h
    exact ⟨fun i hi => h (3 + i) (by omega) ((by decide : ∀ i, i < 5 → Nat.testBit 65287 (3 + i) = false) i hi), fun i hi => h (16 + i) (by omega) ((by decide : ∀ i, i < 16 → Nat.testBit 65287 (16 + i) = false) i hi)⟩
  · rintro ⟨ha, hb⟩ i hi hm
    rcases (by decide : ∀ i, i < 32 → Nat.testBit 65287 i = false → (3 ≤ i ∧ i < 8) ∨ 16 ≤ i) i hi hm with h1 | h1
    · have := ha (i - 3) (by omega)
      rwa [show 3 + (i - 3) = i by omega] at this
    · have := hb (i - 16) (by omega)
      rwa [show 16 + (i - 16) = i by omega] at this

end Go.Proofs.YthjjbkgifelooaaDoor.F
