/- Plain laws of whole numbers, bits and bytes. No condition. -/
import Derived.Test.YtdcojinnjpihaaaXDraw
namespace Go.Proofs.Ytdcojinnjpihaaa.X
open Go Go.RowKit
set_option linter.unusedVariables false
set_option linter.unusedSimpArgs false

theorem wrapi64 (n : Int) : IntKind.wrap .i64 n = (n + 9223372036854775808) % 18446744073709551616 - 9223372036854775808 := by
  have e : IntKind.wrap .i64 n = if n % 18446744073709551616 ≥ 9223372036854775808 then n % 18446744073709551616 - 18446744073709551616 else n % 18446744073709551616 := by
    simp [IntKind.wrap, IntKind.bits, IntKind.signed]
  rw [e]
  split <;> omega
theorem wrapu64 (n : Int) : IntKind.wrap .u64 n = n % 18446744073709551616 := by simp [IntKind.wrap, IntKind.bits, IntKind.signed]
theorem wrapu32 (n : Int) : IntKind.wrap .u32 n = n % 4294967296 := by simp [IntKind.wrap, IntKind.bits, IntKind.signed]
theorem wrapu16 (n : Int) : IntKind.wrap .u16 n = n % 65536 := by simp [IntKind.wrap, IntKind.bits, IntKind.signed]
theorem wrapu8 (n : Int) : IntKind.wrap .u8 n = n % 256 := by simp [IntKind.wrap, IntKind.bits, IntKind.signed]
theorem wi {n : Int} (h1 : -9223372036854775808 ≤ n) (h2 : n ≤ 9223372036854775807) : IntKind.wrap .i64 n = n := by rw [wrapi64]; omega
theorem wu {n : Int} (h1 : 0 ≤ n) (h2 : n ≤ 18446744073709551615) : IntKind.wrap .u64 n = n := by rw [wrapu64]; omega

theorem bt_lo (s : ByteArray) (i : Int) : 0 ≤ bt s i := by unfold bt; omega
theorem bt_hi (s : ByteArray) (i : Int) : bt s i ≤ 255 := by unfold bt; have := (s.data.toList.getD i.toNat 0).toNat_lt; omega

theorem bits_or (x y : Nat) (hx : x < 18446744073709551616) (hy : y < 18446744073709551616) : bor .u64 (x : Int) (y : Int) = ((x ||| y : Nat) : Int) := by
  have h : x ||| y < 2 ^ 64 := Nat.or_lt_two_pow (by omega) (by omega)
  have e : bor .u64 (x : Int) (y : Int) = IntKind.wrap .u64 ((BitVec.ofInt 64 x ||| BitVec.ofInt 64 y).toNat) := rfl
  rw [e, wrapu64, BitVec.toNat_or, BitVec.ofInt_natCast, BitVec.ofInt_natCast, BitVec.toNat_ofNat, BitVec.toNat_ofNat, Nat.mod_eq_of_lt (show x < 2 ^ 64 by omega), Nat.mod_eq_of_lt (show y < 2 ^ 64 by omega)]
  omega
theorem bits_and (x y : Nat) (hx : x < 18446744073709551616) (hy : y < 18446744073709551616) : band .u64 (x : Int) (y : Int) = ((x &&& y : Nat) : Int) := by
  have h : x &&& y < 2 ^ 64 := Nat.and_lt_two_pow _ (by omega)
  have e : band .u64 (x : Int) (y : Int) = IntKind.wrap .u64 ((BitVec.ofInt 64 x &&& BitVec.ofInt 64 y).toNat) := rfl
  rw [e, wrapu64, BitVec.toNat_and, BitVec.ofInt_natCast, BitVec.ofInt_natCast, BitVec.toNat_ofNat, BitVec.toNat_ofNat, Nat.mod_eq_of_lt (show x < 2 ^ 64 by omega), Nat.mod_eq_of_lt (show y < 2 ^ 64 by omega)]
  omega
theorem band_one {x : Int} (h0 : 0 ≤ x) (h1 : x ≤ 18446744073709551615) : band .u64 x 1 = x % 2 := by
  obtain ⟨n, rfl⟩ := Int.eq_ofNat_of_zero_le h0
  have := bits_and n 1 (by omega) (by omega)
  simp only [Nat.and_one_is_mod] at this
  simpa using this
/-- Nothing but the bits of y. -/
theorem bandNot_zero {x y : Nat} (hx : x < 18446744073709551616) (hy : y < 18446744073709551616) : bandNot .u64 (x : Int) (y : Int) = 0 ↔ x &&& y = x := by
  have e : bandNot .u64 (x : Int) (y : Int) = ((BitVec.ofNat 64 x &&& ~~~ BitVec.ofNat 64 y).toNat : Int) := by
    have h := (BitVec.ofNat 64 x &&& ~~~ BitVec.ofNat 64 y).isLt
    have e : bandNot .u64 (x : Int) (y : Int) = IntKind.wrap .u64 ((BitVec.ofInt 64 x &&& ~~~ BitVec.ofInt 64 y).toNat) := rfl
    rw [e, wrapu64, BitVec.ofInt_natCast, BitVec.ofInt_natCast]
    generalize (BitVec.ofNat 64 x &&& ~~~ BitVec.ofNat 64 y).toNat = z at h
    omega
  rw [e]
  constructor
  · intro h
    have h0 : BitVec.ofNat 64 x &&& ~~~ BitVec.ofNat 64 y = 0#64 := by apply BitVec.eq_of_toNat_eq; exact Int.ofNat.inj h
    apply Nat.eq_of_testBit_eq
    intro i
    rw [Nat.testBit_and]
    by_cases hi : i < 64
    · have := congrArg (fun v => v.getLsbD i) h0
      simp only [BitVec.getLsbD_and, BitVec.getLsbD_not, BitVec.getLsbD_ofNat, hi, decide_true, Bool.true_and] at this
      revert this
      cases x.testBit i <;> cases y.testBit i <;> simp
    · rw [Nat.testBit_lt_two_pow (Nat.lt_of_lt_of_le (show x < 2 ^ 64 by omega) (Nat.pow_le_pow_right (by omega) (by omega)))]; rfl
  · intro h
    have h0 : BitVec.ofNat 64 x &&& ~~~ BitVec.ofNat 64 y = 0#64 := by
      apply BitVec.eq_of_getLsbD_eq
      intro i hi
      have := congrArg (fun v => Nat.testBit v i) h
      simp only [Nat.testBit_and] at this
      simp only [BitVec.getLsbD_and, BitVec.getLsbD_not, BitVec.getLsbD_ofNat, hi, decide_true, Bool.true_and, BitVec.getLsbD_zero]
      revert this
      cases x.testBit i <;> cases y.testBit i <;> simp
    rw [h0]; rfl
theorem and_self_pow (x k : Nat) : x &&& 2 ^ k = x ↔ x = 0 ∨ x = 2 ^ k := by
  constructor
  · intro h
    by_cases hb : x.testBit k = true
    · right
      apply Nat.eq_of_testBit_eq
      intro i
      rw [Nat.testBit_two_pow]
      have := congrArg (fun v => Nat.testBit v i) h
      simp only [Nat.testBit_and, Nat.testBit_two_pow] at this
      by_cases hi : k = i
      · subst hi; simp [hb]
      · simp only [hi, decide_false, Bool.and_false] at this; simp [hi, ← this]
    · left
      apply Nat.eq_of_testBit_eq
      intro i
      have := congrArg (fun v => Nat.testBit v i) h
      simp only [Nat.testBit_and, Nat.testBit_two_pow] at this
      by_cases hi : k = i
      · subst hi; simp only [Nat.zero_testBit]; simpa using hb
      · simp only [hi, decide_false, Bool.and_false] at this; simp [← this]
  · rintro (rfl | rfl) <;> simp
theorem bandNot_pow {x k : Nat} (hx : x < 18446744073709551616) (hk : k < 64) : bandNot .u64 (x : Int) ((2 ^ k : Nat) : Int) = 0 ↔ x = 0 ∨ x = 2 ^ k := by
  have hp : 2 ^ k < 2 ^ 64 := Nat.pow_lt_pow_right (by omega) hk
  rw [bandNot_zero hx (by omega), and_self_pow]

theorem c256 (m : Nat) : ((256 ^ m : Nat) : Int) = 256 ^ m := by rw [Int.natCast_pow]; rfl
theorem pow256 {a b : Nat} (h : a ≤ b) : (256 : Int) ^ a ≤ 256 ^ b := by rw [← c256, ← c256]; exact Int.ofNat_le.2 (Nat.pow_le_pow_right (by omega) h)

/-- A number out of bytes, the highest first. -/
def be (s : ByteArray) (at_ : Int) : Nat → Int
  | 0 => 0
  | n + 1 => be s at_ n * 256 + bt s (at_ + n)
theorem be_lo (s : ByteArray) (p : Int) : ∀ n, 0 ≤ be s p n
  | 0 => by simp [be]
  | n + 1 => by have := be_lo s p n; have := bt_lo s (p + n); simp only [be]; omega
theorem be_hi (s : ByteArray) (p : Int) : ∀ n, be s p n < 256 ^ n
  | 0 => by simp [be]
  | n + 1 => by have := be_hi s p n; have := bt_hi s (p + n); simp only [be, Int.pow_succ]; omega
/-- The lowest first. -/
def le (s : ByteArray) (at_ : Int) : Nat → Int
  | 0 => 0
  | n + 1 => le s at_ n + bt s (at_ + n) * 256 ^ n

theorem or_up (a b m : Nat) (hb : b < 256) : a * 256 ^ (m + 1) ||| b * 256 ^ m = (a * 256 + b) * 256 ^ m := by
  have e : (256 : Nat) ^ m = 2 ^ (8 * m) := by rw [Nat.pow_mul]
  have e1 : a * 256 ^ (m + 1) = (a * 256) <<< (8 * m) := by rw [Nat.shiftLeft_eq, Nat.pow_succ, e]; ac_rfl
  have e2 : b * 256 ^ m = b <<< (8 * m) := by rw [Nat.shiftLeft_eq, e]
  have e3 : a * 256 ||| b = a * 256 + b := by
    have := Nat.two_pow_add_eq_or_of_lt (i := 8) (b := b) (by omega) a
    rw [Nat.mul_comm a 256]
    simpa using this.symm
  rw [e1, e2, ← Nat.shiftLeft_or_distrib, e3, Nat.shiftLeft_eq, e]

end Go.Proofs.Ytdcojinnjpihaaa.X
