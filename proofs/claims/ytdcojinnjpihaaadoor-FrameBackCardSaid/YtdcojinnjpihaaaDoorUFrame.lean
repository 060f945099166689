/- Frames: what the program puts and gets, and the document's, are the same plain functions. No condition. -/
import Derived.Test.YtdcojinnjpihaaaDoorUCrc
import Derived.Test.YtdcojinnjpihaaaDoorUPutB
import Derived.Lib.TrimByte
import Derived.Test.YtdcojinnjpihaaaDoorF45
import Derived.Test.YtdcojinnjpihaaaDoorF45
import Derived.Test.YtdcojinnjpihaaaDoorF45
import Derived.Test.YtdcojinnjpihaaaDoorF25
import Derived.Test.YtdcojinnjpihaaaDoorF25
import Derived.Test.YtdcojinnjpihaaaDoorF25
import Derived.Test.YtdcojinnjpihaaaDoorF45
import Derived.Test.YtdcojinnjpihaaaDoorF25
namespace Go.Proofs.YtdcojinnjpihaaaDoor.F
open Go Go.RowKit Go.Proofs.YtdcojinnjpihaaaDoor.X
set_option linter.unusedVariables false
set_option linter.unusedSimpArgs false

def hgfr : ByteArray := ⟨#[72, 71, 70, 82]⟩
def sec (n : Nat) : Nat := (n + 535) / 512
def hd05 (n : Int) (k : Nat) : ByteArray := (hgfr ++ strOfNums (beB n 8)) ++ strOfNums (beB (k : Int) 4)
def pad512 (s : ByteArray) : ByteArray := if s.size % 512 = 0 then s else s ++ strOfNums (List.replicate (512 - s.size % 512) 0)
def putB (n : Int) (t : ByteArray) : ByteArray := pad512 (((hd05 n t.size ++ dig (hd05 n t.size)) ++ t) ++ dig t)

theorem hgfr_size : hgfr.size = 4 := rfl
theorem hd05_size (n : Int) (k : Nat) : (hd05 n k).size = 16 := by
  unfold hd05
  rw [ByteArray.size_append, ByteArray.size_append, size_beB, size_beB, hgfr_size]
theorem body_size (n : Int) (t : ByteArray) : (((hd05 n t.size ++ dig (hd05 n t.size)) ++ t) ++ dig t).size = t.size + 24 := by
  rw [ByteArray.size_append, ByteArray.size_append, ByteArray.size_append, hd05_size, dig_size, dig_size]; omega
theorem pad512_size (s : ByteArray) : (pad512 s).size = (s.size + 511) / 512 * 512 := by
  unfold pad512
  split
  · omega
  · rw [ByteArray.size_append, strOfNums_size, List.length_replicate]; omega
theorem putB_size (n : Int) (t : ByteArray) : (putB n t).size = sec t.size * 512 := by
  unfold putB sec; rw [pad512_size, body_size]

theorem frame_Sectors.is (a : Int) (h1 : -9223372036854775808 ≤ a) (h2 : a ≤ 9223372036854775807) : frame_Sectors.f a = some (if 0 ≤ a ∧ a ≤ 65536 then ((sec a.toNat : Nat) : Int) else 0) := by
  unfold frame_Sectors.f
  by_cases h : a < 0
  · rw [if_pos h, if_neg (by omega)]
  rw [if_neg h]
  by_cases h' : a > 65536
  · rw [if_pos h', if_neg (by omega)]
  rw [if_neg h', if_pos (by omega), wi (n := a + 24) (by omega) (by omega), wi (n := a + 24 + 512) (by omega) (by omega), wi (n := a + 24 + 512 - 1) (by omega) (by omega), Int.tdiv_eq_ediv_of_nonneg (by omega), wi (by omega) (by omega)]
  unfold sec
  congr 1
  omega
theorem headgateref05_Sectors.is (a : Int) (h1 : -9223372036854775808 ≤ a) (h2 : a ≤ 9223372036854775807) : headgateref05_Sectors.f a = some (if 0 ≤ a ∧ a ≤ 65536 then ((sec a.toNat : Nat) : Int) else 0) := by
  unfold headgateref05_Sectors.f
  by_cases h : a < 0
  · rw [if_pos h, if_neg (by omega)]
  rw [if_neg h]
  by_cases h' : a > 65536
  · rw [if_pos h', if_neg (by omega)]
  rw [if_neg h', if_pos (by omega), wi (n := 20 + a) (by omega) (by omega), wi (n := 20 + a + 4) (by omega) (by omega), wi (n := 20 + a + 4 + 511) (by omega) (by omega), Int.tdiv_eq_ediv_of_nonneg (by omega), wi (by omega) (by omega)]
  unfold sec
  congr 1
  omega

theorem frame_Sectors.isN (m : Nat) (h : m ≤ 65536) : frame_Sectors.f (m : Int) = some ((sec m : Nat) : Int) := by
  rw [frame_Sectors.is _ (by omega) (by omega), if_pos (by omega), Int.toNat_natCast]
theorem headgateref05_Sectors.isN (m : Nat) (h : m ≤ 65536) : headgateref05_Sectors.f (m : Int) = some ((sec m : Nat) : Int) := by
  rw [headgateref05_Sectors.is _ (by omega) (by omega), if_pos (by omega), Int.toNat_natCast]

theorem fields_Pad.is (s : ByteArray) (hs : (s.size : Int) ≤ 4611686018427387904) : fields_Pad.f s 512 = some (pad512 s) := by
  unfold fields_Pad.f pad512
  rw [if_neg (by omega), if_neg (by omega), asrt_pos (by omega), Int.tmod_eq_emod_of_nonneg (by omega)]
  by_cases h : s.size % 512 = 0
  · rw [if_pos (by omega), if_pos h]
  · rw [if_neg (by omega), if_neg h, wi (by omega) (by omega), asrt_pos (by omega), asrt_pos (by omega), asrt_pos (by rw [strOfNums_size, List.length_replicate]; omega), show (512 - (s.size : Int) % 512).toNat = 512 - s.size % 512 by omega]
theorem headgateref01_Pad.is (s : ByteArray) (hs : (s.size : Int) ≤ 4611686018427387904) : headgateref01_Pad.f s 512 = some (pad512 s) := by
  unfold headgateref01_Pad.f pad512
  rw [if_neg (by omega), if_neg (by omega), asrt_pos (by omega), Int.tmod_eq_emod_of_nonneg (by omega)]
  by_cases h : s.size % 512 = 0
  · rw [if_pos (by omega), if_pos h]
  · rw [if_neg (by omega), if_neg h, wi (by omega) (by omega), asrt_pos (by omega), asrt_pos (by omega), asrt_pos (by rw [strOfNums_size, List.length_replicate]; omega), show (512 - (s.size : Int) % 512).toNat = 512 - s.size % 512 by omega]

theorem frame_Put.is (n : Int) (h0 : 0 ≤ n) (h1 : n ≤ 18446744073709551615) (t : ByteArray) (ht : t.size ≤ 70000) (K : Nat) (hK : t.size + 40 ≤ K) : frame_Put.f K n t = some (if t.size > 65536 then (⟨#[]⟩, 2) else (putB n t, 0)) := by
  unfold frame_Put.f
  by_cases h : t.size > 65536
  · rw [if_pos (by omega), if_pos h]
  obtain ⟨K', rfl⟩ : ∃ K', K = K' + 9 := ⟨K - 9, by omega⟩
  have ew : IntKind.wrap .u64 (t.size : Int) = (t.size : Int) := by rw [wu] <;> omega
  have e8 : fields_PutBig.f (K' + 9) n 8 = some (strOfNums (beB n 8)) := fields_PutBig.is n h0 8 K' (by omega) (by omega)
  have e4 : fields_PutBig.f (K' + 9) (t.size : Int) 4 = some (strOfNums (beB (t.size : Int) 4)) := fields_PutBig.is _ (by omega) 4 K' (by omega) (by omega)
  have hh := hd05_size n t.size
  have hb := body_size n t
  unfold hd05 at hh hb
  unfold hgfr at hh hb
  rw [if_neg (by omega), if_neg h, e8, Option.bind_some, asrt_pos (by rw [size_beB]; omega), ew, e4, Option.bind_some, asrt_pos (by rw [← ByteArray.size_append, hh]; omega), crc_Digest.is _ (by rw [hh]; omega) _ (by rw [hh]; omega), Option.bind_some, asrt_pos (by rw [hh, dig_size]; omega),
    asrt_pos (by rw [ByteArray.size_append, hh, dig_size]; omega), crc_Digest.is t (by omega) _ (by omega), Option.bind_some, asrt_pos (by rw [← ByteArray.size_append, hb]; omega), fields_Pad.is _ (by rw [hb]; omega), Option.bind_some]
  rfl
theorem headgateref05_Put.is (n : Int) (h0 : 0 ≤ n) (h1 : n ≤ 18446744073709551615) (t : ByteArray) (ht : t.size ≤ 70000) (K : Nat) (hK : t.size + 40 ≤ K) : headgateref05_Put.f K n t = some (if t.size > 65536 then (⟨#[]⟩, 2) else (putB n t, 0)) := by
  unfold headgateref05_Put.f
  by_cases h : t.size > 65536
  · rw [if_pos (by omega), if_pos h]
  obtain ⟨K', rfl⟩ : ∃ K', K = K' + 9 := ⟨K - 9, by omega⟩
  have ew : IntKind.wrap .u64 (t.size : Int) = (t.size : Int) := by rw [wu] <;> omega
  have e8 : headgateref01_PutBig.f (K' + 9) n 8 = some (strOfNums (beB n 8)) := headgateref01_PutBig.is n h0 h1 8 K' (by omega) (by omega)
  have e4 : headgateref01_PutBig.f (K' + 9) (t.size : Int) 4 = some (strOfNums (beB (t.size : Int) 4)) := headgateref01_PutBig.is _ (by omega) (by omega) 4 K' (by omega) (by omega)
  have hh := hd05_size n t.size
  have hb := body_size n t
  unfold hd05 at hh hb
  unfold hgfr at hh hb
  rw [if_neg (by omega), if_neg h, e8, Option.bind_some, asrt_pos (by rw [size_beB]; omega), ew, e4, Option.bind_some, asrt_pos (by rw [← ByteArray.size_append, hh]; omega), headgateref02_Digest.is _ (by rw [hh]; omega) _ (by rw [hh]; omega), Option.bind_some, asrt_pos (by rw [hh, dig_size]; omega),
    asrt_pos (by rw [ByteArray.size_append, hh, dig_size]; omega), headgateref02_Digest.is t (by omega) _ (by omega), Option.bind_some, asrt_pos (by rw [← ByteArray.size_append, hb]; omega), headgateref01_Pad.is _ (by rw [hb]; omega), Option.bind_some]
  rfl

/-! ### What is got -/
theorem prefix4 (s : ByteArray) (hs : 20 ≤ s.size) : Lib.hasPrefix s.data.toList hgfr.data.toList = decide (s.extract 0 4 = hgfr) := by
  rw [← Lib.hasPrefix_raw, hgfr_size, decide_eq_true (by omega), Bool.true_and]
  by_cases h : s.extract 0 4 = hgfr
  · rw [decide_eq_true h, h]; simp
  · rw [decide_eq_false h]; exact str_eq_f h

theorem dropWhile_nil {l : List UInt8} {c : UInt8} : l.dropWhile (· == c) = [] ↔ ∀ x ∈ l, x = c := by
  induction l with
  | nil => simp
  | cons x l ih =>
    rw [List.dropWhile_cons]
    by_cases h : x = c
    · rw [if_pos (by simp [h]), ih]; simp [h]
    · rw [if_neg (by simp [h])]; simp [h]
theorem trimB_nil (l : List UInt8) (c : UInt8) : Lib.trimB l c = [] ↔ ∀ x ∈ l, x = c := by
  unfold Lib.trimB Lib.trimLeftB Lib.trimRightB
  rw [dropWhile_nil]
  constructor
  · intro h
    have h2 : l.reverse.dropWhile (· == c) = [] := by
      cases hd : l.reverse.dropWhile (· == c) with
      | nil => rfl
      | cons x r =>
        exfalso
        have hx : x = c := h x (by rw [hd]; simp)
        have := List.head?_dropWhile_not (fun x => x == c) l.reverse
        rw [hd] at this
        simp [hx] at this
    intro x hx
    exact (dropWhile_nil.mp h2) x (by simpa using hx)
  · intro h x hx
    exact h x (by
      have := (List.dropWhile_sublist (fun x => x == c) (l := l.reverse)).subset (by simpa using hx)
      simpa using this)

/-- All bytes from p on, up to q, are 0. -/
def zeros05 (s : ByteArray) (p q : Nat) : Prop := ∀ i, p ≤ i → i < q → bt s (i : Int) = 0
noncomputable instance (s : ByteArray) (p q : Nat) : Decidable (zeros05 s p q) := Classical.propDecidable _

theorem bt_data (s : ByteArray) (i : Nat) (h : i < s.size) : bt s (i : Int) = ((s.data.toList[i]'(by rw [Array.length_toList]; exact h)).toNat : Int) := by
  unfold bt
  rw [Int.toNat_natCast, List.getD_eq_getElem?_getD, List.getElem?_eq_getElem (by rw [Array.length_toList]; exact h)]
  rfl
theorem trim05 (s : ByteArray) (p q : Nat) (hp : p ≤ q) (hq : q ≤ s.size) : (⟨(Lib.trimB (s.extract p q).data.toList 0).toArray⟩ : ByteArray) = ⟨#[]⟩ ↔ zeros05 s p q := by
  have e : (⟨(Lib.trimB (s.extract p q).data.toList 0).toArray⟩ : ByteArray) = ⟨#[]⟩ ↔ Lib.trimB (s.extract p q).data.toList 0 = [] := by
    constructor
    · intro h; injection h with h; simpa using h
    · intro h; rw [h]
  rw [e, trimB_nil]
  have hsz := extract_size s p q hp hq
  constructor
  · intro h i hi1 hi2
    have h1 := bt_extract s p q ((i - p : Nat) : Int) (by omega) (by omega) hq
    rw [show (p : Int) + ((i - p : Nat) : Int) = (i : Int) by omega] at h1
    rw [← h1, bt_data _ _ (by omega), h _ (List.getElem_mem _)]
    rfl
  · intro h x hx
    obtain ⟨i, hi, rfl⟩ := List.getElem_of_mem hx
    have hi' : i < (s.extract p q).size := by rw [Array.length_toList] at hi; exact hi
    have h1 := bt_extract s p q (i : Int) (by omega) (by omega) hq
    rw [bt_data _ _ hi', show (p : Int) + (i : Int) = ((p + i : Nat) : Int) by omega, h (p + i) (by omega) (by omega)] at h1
    exact UInt8.toNat_inj.mp (by simpa using h1)

/-- What a text begins with. -/
noncomputable def getB (s : ByteArray) : Except Int (Int × ByteArray × Int) :=
  if s.size < 20 then .error 50 else
  if s.extract 0 4 = hgfr then
    if s.extract 16 20 = dig (s.extract 0 16) then
      if be s 12 4 ≤ 65536 ∧ sec (be s 12 4).toNat * 512 ≤ s.size then
        if s.extract (20 + (be s 12 4).toNat) (24 + (be s 12 4).toNat) = dig (s.extract 20 (20 + (be s 12 4).toNat)) then
          if zeros05 s (24 + (be s 12 4).toNat) (sec (be s 12 4).toNat * 512) then .ok (be s 4 8, s.extract 20 (20 + (be s 12 4).toNat), ((sec (be s 12 4).toNat * 512 : Nat) : Int)) else .error 50
        else .error 51
      else .error 50
    else .error 51
  else .error 50

theorem crc_Right.is (s d : ByteArray) (hs : (s.size : Int) ≤ 4611686018427387904) (K : Nat) (hK : s.size + 9 ≤ K) : crc_Right.f K s d = some (decide (d = dig s)) := by
  unfold crc_Right.f
  rw [crc_Digest.is s hs K hK, Option.bind_some]
  by_cases h : d = dig s
  · rw [decide_eq_true h, str_eq_t h]
  · rw [decide_eq_false h, str_eq_f h]

theorem frame_got.is (s : ByteArray) (hs : s.size ≤ 200000) (K : Nat) (hK : s.size + 40 ≤ K) : frame_got.f K s = some (getB s) := by
  unfold frame_got.f getB
  by_cases h : s.size < 20
  · rw [if_neg (by omega), if_pos h]
  have hpre : strings_HasPrefix.f s (⟨#[72, 71, 70, 82]⟩ : ByteArray) = some (decide (s.extract 0 4 = hgfr)) := by
    unfold strings_HasPrefix.f
    rw [← prefix4 s (by omega)]; rfl
  rw [if_pos (by omega), if_neg h, hpre, Option.bind_some]
  by_cases h4 : s.extract 0 4 = hgfr
  rotate_left
  · rw [if_neg (by simp [h4]), if_neg h4]
  rw [if_pos (by simp [h4]), if_pos h4, asrt_pos (by omega), asrt_pos (by omega)]
  have e16 : (16 : Int).toNat = 16 := rfl
  have e20 : (20 : Int).toNat = 20 := rfl
  rw [e16, e20, crc_Right.is _ _ (by rw [extract_size s 0 16 (by omega) (by omega)]; omega) _ (by rw [extract_size s 0 16 (by omega) (by omega)]; omega), Option.bind_some]
  by_cases h5 : s.extract 16 20 = dig (s.extract 0 16)
  rotate_left
  · rw [if_neg (by simp [h5]), if_neg h5]
  rw [if_pos (by simp [h5]), if_pos h5]
  obtain ⟨K', rfl⟩ : ∃ K', K = K' + 9 := ⟨K - 9, by omega⟩
  have b8 : fields_Big.f (K' + 9) s 4 8 = some (be s 4 8, true) := by
    have := fields_Big.is s 4 8 K' (by omega) (by omega) (by omega)
    rw [if_pos (by omega)] at this; exact this
  have b4 : fields_Big.f (K' + 9) s 12 4 = some (be s 12 4, true) := by
    have := fields_Big.is s 12 4 K' (by omega) (by omega) (by omega)
    rw [if_pos (by omega)] at this; exact this
  rw [b8, Option.bind_some, b4, Option.bind_some]
  have l0 := be_lo s 12 4
  have l1 := be_hi s 12 4
  generalize be s 12 4 = l at *
  simp only
  by_cases h6 : l ≤ 65536
  rotate_left
  · rw [if_neg h6, if_neg (by omega)]
  obtain ⟨m, rfl⟩ := Int.eq_ofNat_of_zero_le l0
  rw [if_pos h6, wi (n := (m : Int)) (by omega) (by omega), frame_Sectors.isN m (by omega), Option.bind_some, Int.toNat_natCast]
  have hsec : sec m = (m + 535) / 512 := rfl
  have e1 : IntKind.wrap .i64 (((sec m : Nat) : Int) * 512) = ((sec m * 512 : Nat) : Int) := by rw [wi] <;> omega
  rw [e1]
  by_cases h7 : sec m * 512 ≤ s.size
  rotate_left
  · rw [if_neg (by omega), if_neg (by omega)]
  have e2 : IntKind.wrap .i64 (20 + (m : Int)) = ((20 + m : Nat) : Int) := by rw [wi] <;> omega
  have e3 : IntKind.wrap .i64 (((20 + m : Nat) : Int) + 4) = ((24 + m : Nat) : Int) := by rw [wi] <;> omega
  rw [if_pos (by omega), if_pos ⟨h6, h7⟩, e2, e3, asrt_pos (by omega), asrt_pos (by omega), asrt_pos (by omega), asrt_pos (by omega), asrt_pos (by omega), Int.toNat_natCast, Int.toNat_natCast, Int.toNat_natCast,
    crc_Right.is _ _ (by rw [extract_size s 20 (20 + m) (by omega) (by omega)]; omega) _ (by rw [extract_size s 20 (20 + m) (by omega) (by omega)]; omega), Option.bind_some]
  by_cases h8 : s.extract (20 + m) (24 + m) = dig (s.extract 20 (20 + m))
  rotate_left
  · rw [if_neg (by simp [h8]), if_neg h8]
  rw [if_pos (by simp [h8]), if_pos h8, asrt_pos (by omega), asrt_pos (by omega)]
  have ht : strings_Trim.f (s.extract (24 + m) (sec m * 512)) (⟨#[0]⟩ : ByteArray) = some ⟨(Lib.trimB (s.extract (24 + m) (sec m * 512)).data.toList 0).toArray⟩ := by
    unfold strings_Trim.f
    rw [asrt_pos rfl, asrt_pos (by rw [extract_size s _ _ (by omega) (by omega)]; omega)]
  rw [ht, Option.bind_some]
  by_cases h9 : zeros05 s (24 + m) (sec m * 512)
  · rw [if_pos ((trim05 s _ _ (by omega) h7).mpr h9), if_pos h9]
  · rw [if_neg (fun q => h9 ((trim05 s _ _ (by omega) h7).mp q)), if_neg h9]

noncomputable def outB (s : ByteArray) : Int × ByteArray × Int × Int := match getB s with
  | .ok x => (x.1, x.2.1, x.2.2, 0)
  | .error k => (0, ⟨#[]⟩, 0, k)
theorem frame_Get.is (s : ByteArray) (hs : s.size ≤ 200000) (K : Nat) (hK : s.size + 40 ≤ K) : frame_Get.f K s = some (outB s) := by
  unfold frame_Get.f outB
  rw [frame_got.is s hs K hK, Option.bind_some]
  cases getB s <;> rfl

theorem refget_loop (K : Nat) (s : ByteArray) (t1 t2 : Int × Bool) (m : Nat) (hm : m ≤ 65536) (ht : t2.1 = (m : Int)) (hs : s.size ≤ 200000) (hz : sec m * 512 ≤ s.size) : ∀ (r j p : Nat), p + r = sec m * 512 →
    headgateref05_Get.l0 K s t1 t2 ((sec m : Nat) : Int) (r + 1 + j) (p : Int) = some (if zeros05 s p (sec m * 512) then (⟨t1.1, s.extract 20 (20 + m), ((sec m * 512 : Nat) : Int)⟩, 0) else (⟨0, ⟨#[]⟩, 0⟩, 50)) := by
  have hsec : sec m = (m + 535) / 512 := rfl
  have e1 : IntKind.wrap .i64 (512 * ((sec m : Nat) : Int)) = ((sec m * 512 : Nat) : Int) := by rw [wi] <;> omega
  have e2 : IntKind.wrap .i64 (20 + (IntKind.wrap .i64 (m : Int))) = ((20 + m : Nat) : Int) := by rw [wi (n := (m : Int)) (by omega) (by omega), wi] <;> omega
  intro r
  induction r with
  | zero =>
    intro j p hp
    rw [show 0 + 1 + j = j + 1 by omega, headgateref05_Get.l0, headgateref05_Get.b0, e1, if_neg (by omega), if_pos (show zeros05 s p (sec m * 512) from fun i h1 h2 => by omega), ht, e2]
    rfl
  | succ r ih =>
    intro j p hp
    rw [show r + 1 + 1 + j = (r + 1 + j) + 1 by omega, headgateref05_Get.l0, headgateref05_Get.b0, e1, if_pos (by omega), asrt_pos (by omega), asrt_pos (by omega)]
    by_cases h : bt s (p : Int) = 0
    · rw [if_pos h, show IntKind.wrap .i64 ((p : Int) + 1) = ((p + 1 : Nat) : Int) by rw [wi] <;> omega, ih j (p + 1) (by omega)]
      have : zeros05 s (p + 1) (sec m * 512) ↔ zeros05 s p (sec m * 512) := ⟨fun hh i h1 h2 => by
        by_cases hi : i = p
        · rw [hi]; exact h
        · exact hh i (by omega) h2, fun hh i h1 h2 => hh i (by omega) h2⟩
      by_cases hz2 : zeros05 s p (sec m * 512)
      · rw [if_pos (this.mpr hz2), if_pos hz2]
      · rw [if_neg (fun q => hz2 (this.mp q)), if_neg hz2]
    · rw [if_neg h, if_neg (show ¬ zeros05 s p (sec m * 512) from fun q => h (q p (Nat.le_refl _) (by omega)))]

noncomputable def refB (s : ByteArray) : T_headgateref05_Frame × Int := match getB s with
  | .ok x => (⟨x.1, x.2.1, x.2.2⟩, 0)
  | .error k => (⟨0, ⟨#[]⟩, 0⟩, k)
theorem headgateref05_Get.is (s : ByteArray) (hs : s.size ≤ 200000) (K : Nat) (hK : s.size + 40 ≤ K) : headgateref05_Get.f K s = some (refB s) := by
  unfold headgateref05_Get.f refB getB
  by_cases h : s.size < 20
  · rw [if_pos (by omega), if_pos h]
  have e4 : (4 : Int).toNat = 4 := rfl
  have e16 : (16 : Int).toNat = 16 := rfl
  have e20 : (20 : Int).toNat = 20 := rfl
  rw [if_neg (by omega), if_neg h, asrt_pos (by omega), e4]
  by_cases h4 : s.extract 0 4 = hgfr
  rotate_left
  · rw [if_neg h4, if_neg (show ¬ s.extract 0 4 = (⟨#[72, 71, 70, 82]⟩ : ByteArray) from h4)]
  rw [if_pos h4, if_pos (show s.extract 0 4 = (⟨#[72, 71, 70, 82]⟩ : ByteArray) from h4), asrt_pos (by omega), asrt_pos (by omega), e16, e20, headgateref02_Digest.is _ (by rw [extract_size s 0 16 (by omega) (by omega)]; omega) _ (by rw [extract_size s 0 16 (by omega) (by omega)]; omega), Option.bind_some]
  by_cases h5 : s.extract 16 20 = dig (s.extract 0 16)
  rotate_left
  · rw [if_neg h5, if_neg h5]
  rw [if_pos h5, if_pos h5]
  obtain ⟨K', rfl⟩ : ∃ K', K = K' + 9 := ⟨K - 9, by omega⟩
  have b8 : headgateref01_Big.f (K' + 9) s 4 8 = some (be s 4 8, true) := by
    have := headgateref01_Big.is s 4 8 K' (by omega) (by omega) (by omega)
    rw [if_pos (by omega)] at this; exact this
  have b4 : headgateref01_Big.f (K' + 9) s 12 4 = some (be s 12 4, true) := by
    have := headgateref01_Big.is s 12 4 K' (by omega) (by omega) (by omega)
    rw [if_pos (by omega)] at this; exact this
  rw [b8, Option.bind_some, b4, Option.bind_some]
  have l0 := be_lo s 12 4
  have l1 := be_hi s 12 4
  generalize be s 12 4 = l at *
  simp only
  by_cases h6 : l ≤ 65536
  rotate_left
  · rw [if_pos (by omega), if_neg (by omega)]
  obtain ⟨m, rfl⟩ := Int.eq_ofNat_of_zero_le l0
  rw [if_neg (by omega), wi (n := (m : Int)) (by omega) (by omega), headgateref05_Sectors.isN m (by omega), Option.bind_some, Int.toNat_natCast]
  have hsec : sec m = (m + 535) / 512 := rfl
  have e1 : IntKind.wrap .i64 (512 * ((sec m : Nat) : Int)) = ((sec m * 512 : Nat) : Int) := by rw [wi] <;> omega
  rw [e1]
  by_cases h7 : sec m * 512 ≤ s.size
  rotate_left
  · rw [if_pos (by omega), if_neg (by omega)]
  have e2 : IntKind.wrap .i64 (20 + (m : Int)) = ((20 + m : Nat) : Int) := by rw [wi] <;> omega
  have e3 : IntKind.wrap .i64 (((20 + m : Nat) : Int) + 4) = ((24 + m : Nat) : Int) := by rw [wi] <;> omega
  rw [if_neg (by omega), if_pos ⟨h6, h7⟩, e2, e3, asrt_pos (by omega), asrt_pos (by omega), asrt_pos (by omega), asrt_pos (by omega), asrt_pos (by omega), Int.toNat_natCast, Int.toNat_natCast,
    headgateref02_Digest.is _ (by rw [extract_size s 20 (20 + m) (by omega) (by omega)]; omega) _ (by rw [extract_size s 20 (20 + m) (by omega) (by omega)]; omega), Option.bind_some]
  by_cases h8 : s.extract (20 + m) (24 + m) = dig (s.extract 20 (20 + m))
  rotate_left
  · rw [if_neg h8, if_neg h8]
  rw [if_pos h8, if_pos h8, Option.bind_some]
  have hl := refget_loop (K' + 9) s (be s 4 8, true) ((m : Int), true) m (by omega) rfl hs h7 (sec m * 512 - (24 + m)) (K' + 9 - (sec m * 512 - (24 + m)) - 1) (24 + m) (by omega)
  rw [show sec m * 512 - (24 + m) + 1 + (K' + 9 - (sec m * 512 - (24 + m)) - 1) = K' + 9 by omega] at hl
  rw [hl]
  by_cases h9 : zeros05 s (24 + m) (sec m * 512)
  · rw [if_pos h9, if_pos h9]
  · rw [if_neg h9, if_neg h9]

end Go.Proofs.YtdcojinnjpihaaaDoor.F
