/- The sum of bytes: the program's way, by tables of four bits, and the document's, bit by bit, come to the same. No condition. -/
import Derived.Test.YtdcojinnjpihaaaDoorUPutL
import Derived.Test.YtdcojinnjpihaaaDoorF45
import Derived.Test.YtdcojinnjpihaaaDoorF45
import Derived.Test.YtdcojinnjpihaaaDoorF25
import Derived.Test.YtdcojinnjpihaaaDoorF25
import Derived.Test.YtdcojinnjpihaaaDoorF25
namespace Go.Proofs.YtdcojinnjpihaaaDoor.F
open Go Go.RowKit Go.Proofs.YtdcojinnjpihaaaDoor.X
set_option linter.unusedVariables false
set_option linter.unusedSimpArgs false

/-- One bit. -/
def t1 (x : Nat) : Nat := if x % 2 = 1 then (x / 2) ^^^ 2197175160 else x / 2
theorem xor4 (a b c : Nat) : (a ^^^ c) ^^^ (b ^^^ c) = a ^^^ b := by
  apply Nat.eq_of_testBit_eq; intro i; simp only [Nat.testBit_xor]; cases a.testBit i <;> cases b.testBit i <;> cases c.testBit i <;> rfl
theorem xor3 (a b c : Nat) : (a ^^^ c) ^^^ b = (a ^^^ b) ^^^ c := by
  apply Nat.eq_of_testBit_eq; intro i; simp only [Nat.testBit_xor]; cases a.testBit i <;> cases b.testBit i <;> cases c.testBit i <;> rfl
theorem xor_half (a b : Nat) : (a ^^^ b) / 2 = (a / 2) ^^^ (b / 2) := by
  apply Nat.eq_of_testBit_eq; intro i
  simp only [Nat.testBit_xor, ← Nat.testBit_succ]
theorem xor_par (a b : Nat) : (a ^^^ b) % 2 = (a + b) % 2 := by
  have h := Nat.testBit_xor a b 0
  simp only [Nat.testBit_zero] at h
  have key : ∀ n : Nat, decide (n % 2 = 1) = true ∨ n % 2 = 0 := fun n => by rcases Nat.mod_two_eq_zero_or_one n with h | h <;> simp [h]
  rcases Nat.mod_two_eq_zero_or_one a with ha | ha <;> rcases Nat.mod_two_eq_zero_or_one b with hb | hb <;> rcases Nat.mod_two_eq_zero_or_one (a ^^^ b) with hc | hc <;> simp [ha, hb, hc] at h <;> omega
theorem t1_xor (a b : Nat) : t1 (a ^^^ b) = t1 a ^^^ t1 b := by
  unfold t1
  rw [xor_half, xor_par]
  rcases Nat.mod_two_eq_zero_or_one a with ha | ha <;> rcases Nat.mod_two_eq_zero_or_one b with hb | hb
  · rw [if_neg (by omega), if_neg (by omega), if_neg (by omega)]
  · rw [if_pos (by omega), if_neg (by omega), if_pos (by omega)]
    apply Nat.eq_of_testBit_eq; intro i; simp only [Nat.testBit_xor]; cases (a / 2).testBit i <;> cases (b / 2).testBit i <;> cases Nat.testBit 2197175160 i <;> rfl
  · rw [if_pos (by omega), if_pos (by omega), if_neg (by omega), xor3]
  · rw [if_neg (by omega), if_pos (by omega), if_pos (by omega), xor4]
theorem t1_even (m : Nat) : t1 (2 * m) = m := by unfold t1; rw [if_neg (by omega)]; omega
theorem t1_lt {x : Nat} (h : x < 4294967296) : t1 x < 4294967296 := by
  unfold t1
  split
  · exact Nat.xor_lt_two_pow (n := 32) (by omega) (by omega)
  · omega
/-- Four bits. -/
def t4 (x : Nat) : Nat := t1 (t1 (t1 (t1 x)))
theorem t4_lt {x : Nat} (h : x < 4294967296) : t4 x < 4294967296 := t1_lt (t1_lt (t1_lt (t1_lt h)))
theorem add_xor (q r : Nat) (hr : r < 16) : 16 * q + r = (16 * q) ^^^ r := by
  apply Nat.eq_of_testBit_eq; intro i
  have e1 : (16 * q + r).testBit i = if i < 4 then r.testBit i else q.testBit (i - 4) := Nat.testBit_two_pow_mul_add (i := 4) q hr i
  have e2 : (16 * q).testBit i = (decide (i ≥ 4) && q.testBit (i - 4)) := Nat.testBit_two_pow_mul (i := 4) (a := q) (j := i)
  rw [e1, Nat.testBit_xor, e2]
  by_cases h : i < 4
  · rw [if_pos h, decide_eq_false (by omega)]; simp
  · rw [if_neg h, decide_eq_true (by omega), Nat.testBit_lt_two_pow (x := r) (i := i) (Nat.lt_of_lt_of_le hr (by have : 2 ^ 4 ≤ 2 ^ i := Nat.pow_le_pow_right (by omega) (by omega); simpa using this))]
    simp
theorem t4_steps : ∀ r, r < 16 → t4 r = (G_crc_steps.getD r 0).toNat := by decide
theorem t4_of (q r : Nat) (hr : r < 16) : t4 (16 * q + r) = q ^^^ (G_crc_steps.getD r 0).toNat := by
  rw [← t4_steps r hr, add_xor q r hr]
  unfold t4
  rw [t1_xor, t1_xor, t1_xor, t1_xor, show 16 * q = 2 * (2 * (2 * (2 * q))) by omega, t1_even, t1_even, t1_even, t1_even]

theorem bxor32 (x y : Nat) (hx : x < 4294967296) (hy : y < 4294967296) : bxor .u32 (x : Int) (y : Int) = ((x ^^^ y : Nat) : Int) := by
  have e : bxor .u32 (x : Int) (y : Int) = IntKind.wrap .u32 ((BitVec.ofInt 32 x ^^^ BitVec.ofInt 32 y).toNat) := rfl
  rw [e, BitVec.toNat_xor, BitVec.toNat_ofInt, BitVec.toNat_ofInt, wrapu32]
  have hz : x ^^^ y < 4294967296 := Nat.xor_lt_two_pow (n := 32) hx hy
  have e1 : ((x : Int) % ((2 ^ 32 : Nat) : Int)).toNat = x := by simp only [Nat.reducePow]; omega
  have e2 : ((y : Int) % ((2 ^ 32 : Nat) : Int)).toNat = y := by simp only [Nat.reducePow]; omega
  rw [e1, e2]
  omega
theorem band32 (x : Nat) (hx : x < 4294967296) : band .u32 (x : Int) 15 = ((x % 16 : Nat) : Int) := by
  have e : band .u32 (x : Int) 15 = IntKind.wrap .u32 ((BitVec.ofInt 32 x &&& BitVec.ofInt 32 15).toNat) := rfl
  rw [e, BitVec.toNat_and, BitVec.toNat_ofInt, BitVec.toNat_ofInt, wrapu32]
  have e1 : ((x : Int) % ((2 ^ 32 : Nat) : Int)).toNat = x := by simp only [Nat.reducePow]; omega
  have e2 : ((15 : Int) % ((2 ^ 32 : Nat) : Int)).toNat = 2 ^ 4 - 1 := by decide
  rw [e1, e2, Nat.and_two_pow_sub_one_eq_mod]
  simp only [Nat.reducePow]
  omega
theorem steps_lt (r : Nat) (hr : r < 16) : (G_crc_steps.getD r 0) = (((G_crc_steps.getD r 0).toNat : Nat) : Int) ∧ (G_crc_steps.getD r 0).toNat < 4294967296 := by
  have : ∀ r, r < 16 → (G_crc_steps.getD r 0) = (((G_crc_steps.getD r 0).toNat : Nat) : Int) ∧ (G_crc_steps.getD r 0).toNat < 4294967296 := by decide
  exact this r hr

/-- The bytes of a text. -/
def bsN (s : ByteArray) : List Nat := s.data.toList.map (·.toNat)
theorem bsN_length (s : ByteArray) : (bsN s).length = s.size := by unfold bsN; rw [List.length_map]; rfl
theorem bsN_lt (s : ByteArray) : ∀ b ∈ bsN s, b < 256 := fun b hb => by
  simp only [bsN, List.mem_map] at hb
  obtain ⟨x, _, rfl⟩ := hb
  exact x.toNat_lt
theorem bt_bsN (s : ByteArray) (i : Nat) : bt s (i : Int) = (((bsN s).getD i 0 : Nat) : Int) := by
  unfold bt bsN
  simp only [Int.toNat_natCast, List.getD_eq_getElem?_getD, List.getElem?_map]
  cases s.data.toList[i]? <;> rfl
def crcS (w b : Nat) : Nat := t4 (t4 (w ^^^ b))
theorem crcS_lt {w b : Nat} (hw : w < 4294967296) (hb : b < 256) : crcS w b < 4294967296 := t4_lt (t4_lt (Nat.xor_lt_two_pow (n := 32) hw (by omega)))
def crcW (w : Nat) (l : List Nat) : Nat := l.foldl crcS w
theorem crcW_lt : ∀ (l : List Nat) (w : Nat), w < 4294967296 → (∀ b ∈ l, b < 256) → crcW w l < 4294967296
  | [], w, hw, _ => hw
  | b :: l, w, hw, h => crcW_lt l (crcS w b) (crcS_lt hw (h b List.mem_cons_self)) fun x hx => h x (List.mem_cons_of_mem _ hx)
def crcN (l : List Nat) : Nat := 4294967295 ^^^ crcW 4294967295 l
theorem crcN_lt (l : List Nat) (h : ∀ b ∈ l, b < 256) : crcN l < 4294967296 := Nat.xor_lt_two_pow (n := 32) (by omega) (crcW_lt l _ (by omega) h)
/-- The sum's bytes. -/
def dig (s : ByteArray) : ByteArray := strOfNums (ltB ((crcN (bsN s) : Nat) : Int) 4)
theorem dig_size (s : ByteArray) : (dig s).size = 4 := size_ltB _ _

theorem drop_cons (l : List Nat) (i : Nat) (h : i < l.length) : l.drop i = l.getD i 0 :: l.drop (i + 1) := by
  rw [List.drop_eq_getElem_cons h, List.getD_eq_getElem?_getD, List.getElem?_eq_getElem h]; rfl

theorem more_loop (s : ByteArray) (hs : (s.size : Int) ≤ 4611686018427387904) (K : Nat) : ∀ (m j i w : Nat), i + m = s.size → w < 4294967296 →
    crc_More.l0 K s (m + 1 + j) (w : Int) (i : Int) = some (((4294967295 ^^^ crcW w ((bsN s).drop i) : Nat) : Int)) := by
  intro m
  induction m with
  | zero =>
    intro j i w hi hw
    rw [show 0 + 1 + j = j + 1 by omega, crc_More.l0, crc_More.b0, if_neg (by omega), List.drop_of_length_le (by rw [bsN_length]; omega)]
    rw [show (4294967295 : Int) = ((4294967295 : Nat) : Int) from rfl, bxor32 _ _ (by omega) hw]
    rfl
  | succ m ih =>
    intro j i w hi hw
    have hil : i < (bsN s).length := by rw [bsN_length]; omega
    have hb : (bsN s).getD i 0 < 256 := by
      rw [List.getD_eq_getElem?_getD, List.getElem?_eq_getElem hil]
      exact bsN_lt s _ (List.getElem_mem hil)
    have e0 : IntKind.wrap .u32 (((bsN s).getD i 0 : Nat) : Int) = (((bsN s).getD i 0 : Nat) : Int) := by rw [wrapu32]; omega
    have hv : w ^^^ (bsN s).getD i 0 < 4294967296 := Nat.xor_lt_two_pow (n := 32) hw (by omega)
    have half : ∀ v : Nat, v < 4294967296 → bxor .u32 ((v : Int).fdiv 16) (rdL (0 : Int) G_crc_steps (band .u32 (v : Int) 15)) = ((t4 v : Nat) : Int) := by
      intro v hv
      obtain ⟨h1, h2⟩ := steps_lt (v % 16) (by omega)
      rw [band32 v hv]
      unfold rdL
      rw [Int.toNat_natCast, h1, Int.fdiv_eq_ediv_of_nonneg _ (by omega), show (v : Int) / 16 = ((v / 16 : Nat) : Int) by omega, bxor32 _ _ (by omega) h2]
      rw [← t4_of (v / 16) (v % 16) (by omega), show 16 * (v / 16) + v % 16 = v by omega]
    have r1 : 0 ≤ band .u32 ((w ^^^ (bsN s).getD i 0 : Nat) : Int) 15 ∧ band .u32 ((w ^^^ (bsN s).getD i 0 : Nat) : Int) 15 < 16 := by rw [band32 _ hv]; omega
    have r2 : 0 ≤ band .u32 ((t4 (w ^^^ (bsN s).getD i 0) : Nat) : Int) 15 ∧ band .u32 ((t4 (w ^^^ (bsN s).getD i 0) : Nat) : Int) 15 < 16 := by rw [band32 _ (t4_lt hv)]; omega
    rw [show m + 1 + 1 + j = (m + 1 + j) + 1 by omega, crc_More.l0, crc_More.b0, if_pos (by omega), asrt_pos (by omega), bt_bsN, e0, bxor32 _ _ hw (by omega), half _ hv, asrt_pos r1.1, asrt_pos r1.2, asrt_pos r2.1, asrt_pos r2.2, half _ (t4_lt hv),
      show IntKind.wrap .i64 ((i : Int) + 1) = ((i + 1 : Nat) : Int) by rw [wi] <;> omega, ih j (i + 1) _ (by omega) (t4_lt (t4_lt hv)), drop_cons _ i hil]
    rfl

theorem crc_Digest.is (s : ByteArray) (hs : (s.size : Int) ≤ 4611686018427387904) (K : Nat) (hK : s.size + 9 ≤ K) : crc_Digest.f K s = some (dig s) := by
  obtain ⟨j, rfl⟩ : ∃ j, K = s.size + 9 + j := ⟨K - (s.size + 9), by omega⟩
  unfold crc_Digest.f crc_Sum.f crc_More.f
  have h0 : bxor .u32 4294967295 0 = ((4294967295 : Nat) : Int) := by decide
  have h1 := more_loop s hs (s.size + 9 + j) s.size (8 + j) 0 4294967295 (by omega) (by omega)
  rw [show s.size + 1 + (8 + j) = s.size + 9 + j by omega] at h1
  rw [h0, show (0 : Int) = ((0 : Nat) : Int) from rfl, h1]
  simp only [Option.bind_some, List.drop_zero]
  have h2 := crcN_lt (bsN s) (bsN_lt s)
  have e : IntKind.wrap .u64 (((4294967295 ^^^ crcW 4294967295 (bsN s) : Nat)) : Int) = ((crcN (bsN s) : Nat) : Int) := by rw [wu] <;> unfold crcN at * <;> omega
  rw [e, show s.size + 9 + j = (s.size + j) + 9 by omega, show (4 : Int) = ((4 : Nat) : Int) from rfl, fields_PutLittle.is _ (by omega) 4 _ (by omega) (by omega)]
  rfl

theorem refstep_loop (K : Nat) : ∀ (m j : Nat) (x : Nat), m ≤ 8 → x < 4294967296 → headgateref02_step.l0 K (m + 1 + j) (x : Int) ((8 - m : Nat) : Int) = some ((Nat.repeat t1 m x : Nat) : Int) := by
  intro m
  induction m with
  | zero => intro j x _ hx; rw [show 0 + 1 + j = j + 1 by omega, headgateref02_step.l0, headgateref02_step.b0, if_neg (by omega)]; rfl
  | succ m ih =>
    intro j x hm hx
    have e1 : IntKind.wrap .i64 (((8 - (m + 1) : Nat) : Int) + 1) = ((8 - m : Nat) : Int) := by rw [wi] <;> omega
    have ed : IntKind.wrap .u32 (Int.tdiv (x : Int) 2) = ((x / 2 : Nat) : Int) := by rw [Int.tdiv_eq_ediv_of_nonneg (by omega), wrapu32]; omega
    have rep : ∀ (m : Nat) (x : Nat), Nat.repeat t1 (m + 1) x = Nat.repeat t1 m (t1 x) := by
      intro m
      induction m with
      | zero => intro x; rfl
      | succ m ih => intro x; show t1 (Nat.repeat t1 (m + 1) x) = t1 (Nat.repeat t1 m (t1 x)); rw [ih]
    rw [show m + 1 + 1 + j = (m + 1 + j) + 1 by omega, headgateref02_step.l0, headgateref02_step.b0, if_pos (by omega), Int.tmod_eq_emod_of_nonneg (by omega), ed, e1, rep]
    by_cases h : x % 2 = 1
    · rw [if_pos (by omega), show (2197175160 : Int) = ((2197175160 : Nat) : Int) from rfl, bxor32 _ _ (by omega) (by omega), ih j _ (by omega) (Nat.xor_lt_two_pow (n := 32) (by omega) (by omega))]
      rw [show t1 x = x / 2 ^^^ 2197175160 by unfold t1; rw [if_pos h]]
    · rw [if_neg (by omega), ih j _ (by omega) (by omega)]
      rw [show t1 x = x / 2 by unfold t1; rw [if_neg h]]

theorem headgateref02_step.is (w b : Nat) (hw : w < 4294967296) (hb : b < 256) (K : Nat) : headgateref02_step.f (K + 9) (w : Int) (b : Int) = some ((crcS w b : Nat) : Int) := by
  unfold headgateref02_step.f
  have e0 : IntKind.wrap .u32 (b : Int) = (b : Int) := by rw [wrapu32]; omega
  have h := refstep_loop (K + 9) 8 K (w ^^^ b) (by omega) (Nat.xor_lt_two_pow (n := 32) hw (by omega))
  rw [e0, bxor32 _ _ hw (by omega), show K + 9 = 8 + 1 + K by omega]
  rw [show K + 9 = 8 + 1 + K by omega] at h
  exact h

theorem refmore_loop (s : ByteArray) (hs : (s.size : Int) ≤ 4611686018427387904) (K : Nat) : ∀ (m j i w : Nat), i + m = s.size → w < 4294967296 →
    headgateref02_More.l0 (K + 9) s (m + 1 + j) (w : Int) (i : Int) = some (((4294967295 ^^^ crcW w ((bsN s).drop i) : Nat) : Int)) := by
  intro m
  induction m with
  | zero =>
    intro j i w hi hw
    rw [show 0 + 1 + j = j + 1 by omega, headgateref02_More.l0, headgateref02_More.b0, if_neg (by omega), List.drop_of_length_le (by rw [bsN_length]; omega)]
    rw [show (4294967295 : Int) = ((4294967295 : Nat) : Int) from rfl, bxor32 _ _ (by omega) hw]
    rfl
  | succ m ih =>
    intro j i w hi hw
    have hil : i < (bsN s).length := by rw [bsN_length]; omega
    have hb : (bsN s).getD i 0 < 256 := by
      rw [List.getD_eq_getElem?_getD, List.getElem?_eq_getElem hil]
      exact bsN_lt s _ (List.getElem_mem hil)
    rw [show m + 1 + 1 + j = (m + 1 + j) + 1 by omega, headgateref02_More.l0, headgateref02_More.b0, if_pos (by omega), asrt_pos (by omega), bt_bsN, headgateref02_step.is w _ hw hb K, Option.bind_some,
      show IntKind.wrap .i64 ((i : Int) + 1) = ((i + 1 : Nat) : Int) by rw [wi] <;> omega, ih j (i + 1) _ (by omega) (crcS_lt hw hb), drop_cons _ i hil]
    rfl

theorem headgateref02_Digest.is (s : ByteArray) (hs : (s.size : Int) ≤ 4611686018427387904) (K : Nat) (hK : s.size + 9 ≤ K) : headgateref02_Digest.f K s = some (dig s) := by
  obtain ⟨j, rfl⟩ : ∃ j, K = s.size + 9 + j := ⟨K - (s.size + 9), by omega⟩
  unfold headgateref02_Digest.f headgateref02_Sum.f headgateref02_More.f
  have h0 : bxor .u32 4294967295 0 = ((4294967295 : Nat) : Int) := by decide
  have h1 := refmore_loop s hs (s.size + j) s.size (8 + j) 0 4294967295 (by omega) (by omega)
  rw [show s.size + 1 + (8 + j) = s.size + 9 + j by omega, show s.size + j + 9 = s.size + 9 + j by omega] at h1
  rw [h0, show (0 : Int) = ((0 : Nat) : Int) from rfl, h1]
  simp only [Option.bind_some, List.drop_zero]
  have h2 := crcN_lt (bsN s) (bsN_lt s)
  have e : IntKind.wrap .u64 (((4294967295 ^^^ crcW 4294967295 (bsN s) : Nat)) : Int) = ((crcN (bsN s) : Nat) : Int) := by rw [wu] <;> unfold crcN at * <;> omega
  rw [e, show s.size + 9 + j = (s.size + j) + 9 by omega, show (4 : Int) = ((4 : Nat) : Int) from rfl, headgateref01_PutLittle.is _ (by omega) (by omega) 4 _ (by omega) (by omega)]
  rfl

end Go.Proofs.YtdcojinnjpihaaaDoor.F
