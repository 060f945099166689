/- What a block asks (layer 15): the document's answer is the program's. No condition. -/
import Derived.Test.YteilejfncdacfaaGreatDoorUCdb
import Derived.Test.YteilejfncdacfaaGreatDoorF82
import Derived.Test.YteilejfncdacfaaGreatDoorF62
import Derived.Test.YteilejfncdacfaaGreatDoorF82
import Derived.Test.YteilejfncdacfaaGreatDoorF82
import Derived.Test.YteilejfncdacfaaGreatDoorF263
namespace Go.Proofs.YteilejfncdacfaaGreatDoor.F
open Go Go.RowKit Go.Proofs.YteilejfncdacfaaGreatDoor.X
open Classical
set_option linter.unusedVariables false
set_option linter.unusedSimpArgs false

theorem lenC_val (op : Int) (h : isOp op) : lenC op = if op = 0 ∨ op = 18 then 6 else if op = 160 then 12 else if op = 136 ∨ op = 137 ∨ op = 138 ∨ op = 147 then 16 else 10 := by
  unfold isOp at h
  rcases h with rfl | rfl | rfl | rfl | rfl | rfl | rfl | rfl | rfl | rfl | rfl | rfl | rfl | rfl <;> kernel_rfl

theorem headgateref15_Length.is (s : ByteArray) (K : Nat) : headgateref15_Length.f K s = some (lenS s) := by
  unfold headgateref15_Length.f lenS
  by_cases h : s = ⟨#[]⟩
  · rw [if_pos h, if_pos ((size0 s).1 h)]
  have hz : ¬ s.size = 0 := fun e => h ((size0 s).2 e)
  rw [if_neg h, if_neg hz, asrt_pos (by omega)]
  unfold headgateref15_Length.j0 headgateref15_Length.j1
  generalize bt s 0 = b
  by_cases hop : isOp b
  · rw [lenC_val b hop]
    unfold isOp at hop
    rcases hop with rfl | rfl | rfl | rfl | rfl | rfl | rfl | rfl | rfl | rfl | rfl | rfl | rfl | rfl <;> rfl
  · rw [lenC_none b hop]
    unfold isOp at hop
    simp only [not_or] at hop
    obtain ⟨h0, h1, h2, h3, h4, h5, h6, h7, h8, h9, h10, h11, h12, h13⟩ := hop
    simp [h0, h1, h2, h3, h4, h5, h6, h7, h8, h9, h10, h11, h12, h13]

theorem headgateref15_Type.is (n : Int) : headgateref15_Type.f n = some (tyC n) := by
  unfold headgateref15_Type.f tyC
  by_cases h1 : n = 1
  · subst h1; rfl
  by_cases h3 : n = 3
  · subst h3; rfl
  by_cases h58 : 5 ≤ n ∧ n ≤ 8
  · rcases (by omega : n = 5 ∨ n = 6 ∨ n = 7 ∨ n = 8) with rfl | rfl | rfl | rfl <;> rfl
  · rw [if_neg h1, if_neg h3, if_neg (by omega), if_neg (by omega), if_neg (by omega), if_neg (by omega), if_neg h1, if_neg h3, if_neg h58]

def toR (x : T_cdb_Ask) : T_headgateref15_Ask := ⟨x.f0, x.f1, x.f2, x.f3, x.f4, x.f5, x.f6⟩
theorem toR_inj (x y : T_cdb_Ask) : toR x = toR y ↔ x = y := by
  obtain ⟨a, b, c, d, e, f, g⟩ := x
  obtain ⟨a', b', c', d', e', f', g'⟩ := y
  simp [toR]
def rn (x : Int) : Int := if x > 1099511627776 then 1099511627776 else x
theorem rnumN (s : ByteArray) (hs : (s.size : Int) ≤ 100000) (p n K : Nat) (h1 : 1 ≤ n) (h8 : n ≤ 8) (h : p + n ≤ s.size) : headgateref15_num.f (K + 70) s (p : Int) (n : Int) = some (rn (be s p n)) := by
  unfold headgateref15_num.f rn
  rw [show headgateref01_Big.f (K + 70) s (p : Int) (n : Int) = _ from headgateref01_Big.is s (p : Int) n (K + 61) h1 h8 (by omega), if_pos (by omega), Option.bind_some]
  have a := be_lo s (p : Int) n
  simp only
  split
  · rfl
  · rw [wi (by omega) (by omega)]
theorem rnum4 (s : ByteArray) (hs : (s.size : Int) ≤ 100000) (p n K : Nat) (h1 : 1 ≤ n) (h8 : n ≤ 4) (h : p + n ≤ s.size) : headgateref15_num.f (K + 70) s (p : Int) (n : Int) = some (be s p n) := by
  rw [rnumN s hs p n K h1 (by omega) h]
  have a := be_lo s (p : Int) n
  have b := be_hi s (p : Int) n
  have c : (256 : Int) ^ n ≤ 256 ^ 4 := pow256 h8
  have e : (256 : Int) ^ 4 = 4294967296 := by decide
  unfold rn
  rw [if_neg (by omega)]

theorem cparse_bad (s : ByteArray) (h : s.size = 0 ∨ lenC (bt s 0) = 0 ∨ ¬ (s.size : Int) = lenC (bt s 0) ∨ ¬ bt s (lenC (bt s 0) - 1) = 0) : cparse s = (zA, 150) := by unfold cparse; rw [if_pos h]
theorem cparse_good (s : ByteArray) (hz : ¬ s.size = 0) (hl : ¬ lenC (bt s 0) = 0) (hsz : (s.size : Int) = lenC (bt s 0)) (h : bt s (lenC (bt s 0) - 1) = 0) : cparse s = pbody s (bt s 0) := by
  unfold cparse
  rw [if_neg]
  rintro (q | q | q | q)
  · exact hz q
  · exact hl q
  · exact q hsz
  · exact q h

set_option maxHeartbeats 4000000 in
theorem headgateref15_Parse.is (s : ByteArray) (hs : (s.size : Int) ≤ 100000) (K : Nat) : headgateref15_Parse.f (K + 70) s = some (toR (cparse s).1, (cparse s).2) := by
  unfold headgateref15_Parse.f
  rw [headgateref15_Length.is, Option.bind_some]
  unfold lenS
  by_cases hz : s.size = 0
  · rw [if_pos hz, if_pos rfl, cparse_bad s (Or.inl hz)]; rfl
  rw [if_neg hz]
  by_cases hl : lenC (bt s 0) = 0
  · rw [if_pos hl, cparse_bad s (Or.inr (Or.inl hl))]; rfl
  have hop : isOp (bt s 0) := by
    by_cases h : isOp (bt s 0)
    · exact h
    · exact absurd (lenC_none _ h) hl
  rw [if_neg hl]
  by_cases hsz : (s.size : Int) = lenC (bt s 0)
  case neg => rw [if_neg hsz, cparse_bad s (Or.inr (Or.inr (Or.inl hsz)))]; rfl
  have hw : IntKind.wrap .i64 (lenC (bt s 0) - 1) = lenC (bt s 0) - 1 := by rw [wi] <;> omega
  rw [if_pos hsz, hw, asrt_pos (by omega), asrt_pos (by omega)]
  by_cases hlast : bt s (lenC (bt s 0) - 1) = 0
  case neg => rw [if_neg hlast, cparse_bad s (Or.inr (Or.inr (Or.inr hlast)))]; rfl
  rw [if_pos hlast, cparse_good s hz hl hsz hlast, asrt_pos (by omega)]
  clear hlast hw hl hz
  have n8 : ∀ p : Nat, p + 8 ≤ s.size → headgateref15_num.f (K + 70) s (p : Int) 8 = some (rn (be s p 8)) := fun p h => rnumN s hs p 8 K (by omega) (by omega) h
  have n4 : ∀ p : Nat, p + 4 ≤ s.size → headgateref15_num.f (K + 70) s (p : Int) 4 = some (be s p 4) := fun p h => rnum4 s hs p 4 K (by omega) (by omega) h
  have n2 : ∀ p : Nat, p + 2 ≤ s.size → headgateref15_num.f (K + 70) s (p : Int) 2 = some (be s p 2) := fun p h => rnum4 s hs p 2 K (by omega) (by omega) h
  have b10 := bt_lo s 1; have b11 := bt_hi s 1; have b20 := bt_lo s 2; have b21 := bt_hi s 2
  have m80 := be_lo s 2 8
  have tm2 : Int.tmod (bt s 1) 2 = bt s 1 % 2 := Int.tmod_eq_emod_of_nonneg b10
  have tm32 : Int.tmod (bt s 1) 32 = bt s 1 % 32 := Int.tmod_eq_emod_of_nonneg b10
  have td8 : Int.tdiv (bt s 1) 8 = bt s 1 / 8 := Int.tdiv_eq_ediv_of_nonneg b10
  have w8 : IntKind.wrap .u8 (bt s 1 / 8) = bt s 1 / 8 := by rw [wrapu8]; omega
  have tm8 : Int.tmod (bt s 1 / 8) 2 = bt s 1 / 8 % 2 := Int.tmod_eq_emod_of_nonneg (by omega)
  have rge : be s 2 8 ≥ 2147483648 → rn (be s 2 8) ≥ 2147483648 := by intro h; unfold rn; split <;> omega
  have rlt : ¬ be s 2 8 ≥ 2147483648 → rn (be s 2 8) = be s 2 8 := by intro h; unfold rn; split <;> omega
  unfold isOp at hop
  unfold headgateref15_Parse.j0 headgateref15_Parse.j1 headgateref15_Parse.j2 headgateref15_Parse.j3 headgateref15_Parse.j4 headgateref15_Parse.j5
  rw [btw s 0]
  rcases hop with hb | hb | hb | hb | hb | hb | hb | hb | hb | hb | hb | hb | hb | hb <;> rw [hb] at hsz ⊢
  · simp [pbody, toR]
  · have hsz : s.size = 6 := by rw [show lenC 18 = 6 by kernel_rfl] at hsz; omega
    have e : IntKind.wrap .i64 (256 + IntKind.wrap .i64 (bt s 2)) = 256 + bt s 2 := by rw [btw, wi] <;> omega
    have := n2 3 (by omega)
    rw [show ((3 : Nat) : Int) = 3 from rfl] at this
    by_cases q : bt s 1 % 2 = 1 <;> simp [pbody, toR, this, e, tm2, q, asrt_pos (show (1 : Int) < (s.size : Int) by omega), asrt_pos (show (2 : Int) < (s.size : Int) by omega)]
  · simp [pbody, toR]
  · have hsz : s.size = 10 := by rw [show lenC 40 = 10 by kernel_rfl] at hsz; omega
    have h1 := n4 2 (by omega)
    have h2 := n2 7 (by omega)
    rw [show ((2 : Nat) : Int) = 2 from rfl] at h1
    rw [show ((7 : Nat) : Int) = 7 from rfl] at h2
    simp [pbody, toR, h1, h2]
  · have hsz : s.size = 16 := by rw [show lenC 136 = 16 by kernel_rfl] at hsz; omega
    have h1 := n8 2 (by omega)
    have h2 := n4 10 (by omega)
    rw [show ((2 : Nat) : Int) = 2 from rfl] at h1
    rw [show ((10 : Nat) : Int) = 10 from rfl] at h2
    by_cases q : be s 2 8 ≥ 2147483648
    · have q' := rge q
      simp [pbody, toR, h1, h2, q, q', zA]
    · have q' := rlt q
      by_cases q2 : be s 10 4 ≥ 2147483648 <;> simp [pbody, toR, h1, h2, q, q', q2, zA]
  · have hsz : s.size = 10 := by rw [show lenC 42 = 10 by kernel_rfl] at hsz; omega
    have h1 := n4 2 (by omega)
    have h2 := n2 7 (by omega)
    rw [show ((2 : Nat) : Int) = 2 from rfl] at h1
    rw [show ((7 : Nat) : Int) = 7 from rfl] at h2
    by_cases q : bt s 1 / 8 % 2 = 1 <;> simp [pbody, toR, h1, h2, td8, w8, tm8, q, asrt_pos (show (1 : Int) < (s.size : Int) by omega)]
  · have hsz : s.size = 16 := by rw [show lenC 138 = 16 by kernel_rfl] at hsz; omega
    have h1 := n8 2 (by omega)
    have h2 := n4 10 (by omega)
    rw [show ((2 : Nat) : Int) = 2 from rfl] at h1
    rw [show ((10 : Nat) : Int) = 10 from rfl] at h2
    by_cases q : be s 2 8 ≥ 2147483648
    · have q' := rge q
      simp [pbody, toR, h1, h2, q, q', zA, asrt_pos (show (1 : Int) < (s.size : Int) by omega)]
    · have q' := rlt q
      by_cases q2 : be s 10 4 ≥ 2147483648 <;> by_cases q3 : bt s 1 / 8 % 2 = 1 <;> simp [pbody, toR, h1, h2, q, q', q2, q3, zA, td8, w8, tm8, asrt_pos (show (1 : Int) < (s.size : Int) by omega)]
  · simp [pbody, toR]
  · have hsz : s.size = 10 := by rw [show lenC 66 = 10 by kernel_rfl] at hsz; omega
    have h2 := n2 7 (by omega)
    rw [show ((7 : Nat) : Int) = 7 from rfl] at h2
    simp [pbody, toR, h2]
  · have hsz : s.size = 16 := by rw [show lenC 137 = 16 by kernel_rfl] at hsz; omega
    have h1 := n8 2 (by omega)
    rw [show ((2 : Nat) : Int) = 2 from rfl] at h1
    have h13 := bt_hi s 13
    have h13' := bt_lo s 13
    have q2 : ¬ bt s 13 ≥ 2147483648 := by omega
    by_cases q : be s 2 8 ≥ 2147483648
    · have q' := rge q
      simp [pbody, toR, h1, q, q', zA, asrt_pos (show (13 : Int) < (s.size : Int) by omega)]
    · have q' := rlt q
      simp [pbody, toR, h1, q, q', q2, zA, btw, asrt_pos (show (13 : Int) < (s.size : Int) by omega)]
  · have hsz : s.size = 16 := by rw [show lenC 147 = 16 by kernel_rfl] at hsz; omega
    have h1 := n8 2 (by omega)
    have h2 := n4 10 (by omega)
    rw [show ((2 : Nat) : Int) = 2 from rfl] at h1
    rw [show ((10 : Nat) : Int) = 10 from rfl] at h2
    by_cases q3 : bt s 1 % 2 = 0
    · simp [pbody, toR, h1, h2, q3, zA, tm2, asrt_pos (show (1 : Int) < (s.size : Int) by omega)]
    · by_cases q : be s 2 8 ≥ 2147483648
      · have q' := rge q
        simp [pbody, toR, h1, h2, q, q', q3, zA, tm2, asrt_pos (show (1 : Int) < (s.size : Int) by omega)]
      · have q' := rlt q
        by_cases q2 : be s 10 4 ≥ 2147483648 <;> simp [pbody, toR, h1, h2, q, q', q2, q3, zA, tm2, asrt_pos (show (1 : Int) < (s.size : Int) by omega)]
  · have hsz : s.size = 10 := by rw [show lenC 94 = 10 by kernel_rfl] at hsz; omega
    have h2 := n2 7 (by omega)
    rw [show ((7 : Nat) : Int) = 7 from rfl] at h2
    have ea : IntKind.wrap .i64 (bt s 1 % 32) = bt s 1 % 32 := wi (by omega) (by omega)
    have eb : IntKind.wrap .i64 (24064 + bt s 1 % 32) = 24064 + bt s 1 % 32 := wi (by omega) (by omega)
    have ec : IntKind.wrap .i64 (256 * 94) = 24064 := rfl
    have e94 : IntKind.wrap .i64 94 = 94 := rfl
    unfold headgateref15_reservation.f
    rw [hb, e94, ec]
    by_cases q : bt s 1 % 32 > 1 <;> simp [pbody, toR, h2, tm32, ea, eb, q, zA, asrt_pos (show (1 : Int) < (s.size : Int) by omega), asrt_pos (show 0 < s.size by omega)]
  · have hsz : s.size = 10 := by rw [show lenC 95 = 10 by kernel_rfl] at hsz; omega
    have h2 := n4 5 (by omega)
    rw [show ((5 : Nat) : Int) = 5 from rfl] at h2
    have ea : IntKind.wrap .i64 (bt s 1 % 32) = bt s 1 % 32 := wi (by omega) (by omega)
    have eb : IntKind.wrap .i64 (24320 + bt s 1 % 32) = 24320 + bt s 1 % 32 := wi (by omega) (by omega)
    have ec : IntKind.wrap .i64 (256 * 95) = 24320 := rfl
    have e95 : IntKind.wrap .i64 95 = 95 := rfl
    have s1 : (1 : Int) < (s.size : Int) := by omega
    have s2 : (2 : Int) < (s.size : Int) := by omega
    have s0 : (0 : Int) < (s.size : Int) := by omega
    unfold headgateref15_reservation.f headgateref15_reservation.j0
    rw [hb, e95, ec, h2, btw, headgateref15_Type.is]
    simp only [Option.bind_some, tm32, ea, eb, asrt_pos s1, asrt_pos s2, asrt_pos s0]
    have ha0 : 0 ≤ bt s 1 % 32 := by omega
    unfold pbody
    generalize bt s 1 % 32 = a at ha0
    by_cases q24 : be s 5 4 = 24
    case neg => simp [q24, zA, toR]
    by_cases q15 : bt s 2 > 15
    case pos => simp [q24, q15, zA, toR]
    have ha8 : a = 0 ∨ a = 1 ∨ a = 2 ∨ a = 3 ∨ a = 4 ∨ a = 5 ∨ a = 6 ∨ a > 6 := by omega
    by_cases tz : tyC (bt s 2) = 0
    · rcases ha8 with rfl | rfl | rfl | rfl | rfl | rfl | rfl | h6
      all_goals first
        | (simp [q24, q15, tz, zA, toR]; done)
        | (simp [q24, q15, tz, zA, toR, h6]; done)
    · rcases ha8 with rfl | rfl | rfl | rfl | rfl | rfl | rfl | h6
      all_goals first
        | (simp [q24, q15, tz, zA, toR]; done)
        | (simp [q24, q15, tz, zA, toR, h6]; done)
  · have hsz : s.size = 12 := by rw [show lenC 160 = 12 by kernel_rfl] at hsz; omega
    have h2 := n4 6 (by omega)
    rw [show ((6 : Nat) : Int) = 6 from rfl] at h2
    simp [pbody, toR, h2]

end Go.Proofs.YteilejfncdacfaaGreatDoor.F
