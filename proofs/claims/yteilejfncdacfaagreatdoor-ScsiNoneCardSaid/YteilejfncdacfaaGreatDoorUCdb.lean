/- What a block asks (layer 15): the program's answer. No condition. -/
import Derived.Test.YteilejfncdacfaaGreatDoorUPutB
import Derived.KernelRfl
import Derived.Test.YteilejfncdacfaaGreatDoorF118
import Derived.Test.YteilejfncdacfaaGreatDoorF118
import Derived.Test.YteilejfncdacfaaGreatDoorF42
import Derived.Test.YteilejfncdacfaaGreatDoorF118
import Derived.Test.YteilejfncdacfaaGreatDoorF118
import Derived.Test.YteilejfncdacfaaGreatDoorF242
import Derived.Test.YteilejfncdacfaaGreatDoorF118
import Derived.Test.YteilejfncdacfaaGreatDoorF118
namespace Go.Proofs.YteilejfncdacfaaGreatDoor.F
open Go Go.RowKit Go.Proofs.YteilejfncdacfaaGreatDoor.X
set_option linter.unusedVariables false
set_option linter.unusedSimpArgs false

theorem rdL_nth {α : Type} (d : α) (xs : List α) (i : Nat) (h : i < xs.length) : rdL d xs (i : Int) = xs[i] := by
  unfold rdL
  rw [List.getD_eq_getElem?_getD, Int.toNat_natCast, List.getElem?_eq_getElem h]; rfl

theorem optc_some {α β : Type} (z : α) (x : Option β) (y : α → Option β) : optc (some z) x y = y z := rfl
theorem optc_none {α β : Type} (x : Option β) (y : α → Option β) : optc none x y = x := rfl
def cOf (op : Int) : Option T_cdb_form := G_cdb_forms.find? fun f => decide (f.f0 = op)
theorem forms_length : G_cdb_forms.length = 14 := rfl
theorem formOf_loop (op : Int) : ∀ (m K j : Nat), m ≤ 14 → cdb_formOf.l0 K op (m + 1 + j) ((14 : Int) - m) = some ((G_cdb_forms.drop (14 - m)).find? fun f => decide (f.f0 = op)) := by
  intro m
  induction m with
  | zero =>
    intro K j h
    rw [show 0 + 1 + j = j + 1 by omega, cdb_formOf.l0]
    unfold cdb_formOf.b0
    rw [if_neg (by omega)]; rfl
  | succ m ih =>
    intro K j h
    have e1 : IntKind.wrap .i64 ((14 : Int) - ((m + 1 : Nat) : Int) + 1) = (14 : Int) - m := by rw [wi] <;> omega
    have e2 : (14 : Int) - ((m + 1 : Nat) : Int) = ((14 - (m + 1) : Nat) : Int) := by omega
    have hl : 14 - (m + 1) < G_cdb_forms.length := by rw [forms_length]; omega
    have d1 : G_cdb_forms.drop (14 - (m + 1)) = G_cdb_forms[14 - (m + 1)] :: G_cdb_forms.drop (14 - m) := by
      rw [List.drop_eq_getElem_cons hl]; congr 2; omega
    rw [show m + 1 + 1 + j = (m + 1 + j) + 1 by omega, cdb_formOf.l0]
    unfold cdb_formOf.b0
    rw [if_pos (by omega), asrt_pos (by omega), e1, ih K j (by omega), e2, rdL_nth _ _ _ hl, d1, List.find?_cons]
    by_cases q : (G_cdb_forms[14 - (m + 1)]).f0 = op
    · rw [if_pos q, decide_eq_true q]
    · rw [if_neg q, decide_eq_false q]
theorem cdb_formOf.is (op : Int) (K : Nat) : cdb_formOf.f (K + 70) op = some (cOf op) := by
  unfold cdb_formOf.f
  have := formOf_loop op 14 (K + 70) (K + 55) (Nat.le_refl _)
  rw [show 14 + 1 + (K + 55) = K + 70 by omega] at this
  unfold cOf
  simpa using this

def isOp (op : Int) : Prop := op = 0 ∨ op = 18 ∨ op = 37 ∨ op = 40 ∨ op = 136 ∨ op = 42 ∨ op = 138 ∨ op = 53 ∨ op = 66 ∨ op = 137 ∨ op = 147 ∨ op = 94 ∨ op = 95 ∨ op = 160
theorem cOf_none (op : Int) (h : ¬ isOp op) : cOf op = none := by
  unfold isOp at h
  unfold cOf
  rw [List.find?_eq_none]
  intro f hf
  simp only [G_cdb_forms, List.mem_cons, List.not_mem_nil, or_false] at hf
  rcases hf with rfl | rfl | rfl | rfl | rfl | rfl | rfl | rfl | rfl | rfl | rfl | rfl | rfl | rfl <;> simp <;> omega

def lenC (op : Int) : Int := match cOf op with
  | none => 0
  | some f => f.f1
theorem lenC_none (op : Int) (h : ¬ isOp op) : lenC op = 0 := by unfold lenC; rw [cOf_none op h]

theorem btw (s : ByteArray) (i : Int) : IntKind.wrap .i64 (bt s i) = bt s i := by have := bt_lo s i; have := bt_hi s i; exact wi (by omega) (by omega)
def lenS (s : ByteArray) : Int := if s.size = 0 then 0 else lenC (bt s 0)
theorem cdb_Length.is (s : ByteArray) (K : Nat) : cdb_Length.f (K + 70) s = some (lenS s) := by
  unfold cdb_Length.f lenS
  by_cases h : s = ⟨#[]⟩
  · rw [if_pos h, if_pos ((size0 s).1 h)]
  · have hz : ¬ s.size = 0 := fun e => h ((size0 s).2 e)
    rw [if_neg h, if_neg hz, asrt_pos (by omega), btw, cdb_formOf.is, Option.bind_some]
    unfold lenC
    cases cOf (bt s 0) <;> rfl

theorem band8 (x m : Nat) (hx : x < 256) (hm : m < 256) : band .u8 (x : Int) (m : Int) = ((x &&& m : Nat) : Int) := by
  have h : x &&& m < 2 ^ 8 := Nat.and_lt_two_pow _ (by omega)
  have e : band .u8 (x : Int) (m : Int) = IntKind.wrap .u8 ((BitVec.ofInt 8 x &&& BitVec.ofInt 8 m).toNat) := rfl
  rw [e, wrapu8, BitVec.toNat_and, BitVec.ofInt_natCast, BitVec.ofInt_natCast, BitVec.toNat_ofNat, BitVec.toNat_ofNat, Nat.mod_eq_of_lt (show x < 2 ^ 8 by omega), Nat.mod_eq_of_lt (show m < 2 ^ 8 by omega)]
  omega
theorem band8_mod (x : Int) (h0 : 0 ≤ x) (h1 : x ≤ 255) (k : Nat) (hk : k ≤ 7) : band .u8 x ((2 ^ k - 1 : Nat) : Int) = x % ((2 ^ k : Nat) : Int) := by
  obtain ⟨n, rfl⟩ := Int.eq_ofNat_of_zero_le h0
  have hp : 2 ^ k ≤ 2 ^ 7 := Nat.pow_le_pow_right (by omega) hk
  rw [band8 n (2 ^ k - 1) (by omega) (by omega), Nat.and_two_pow_sub_one_eq_mod]
  rfl
theorem band1 (s : ByteArray) (i : Int) : band .u8 (bt s i) 1 = bt s i % 2 := band8_mod _ (bt_lo s i) (bt_hi s i) 1 (by omega)
theorem band31 (s : ByteArray) (i : Int) : band .u8 (bt s i) 31 = bt s i % 32 := band8_mod _ (bt_lo s i) (bt_hi s i) 5 (by omega)
theorem band15 (s : ByteArray) (i : Int) : band .u8 (bt s i) 15 = bt s i % 16 := band8_mod _ (bt_lo s i) (bt_hi s i) 4 (by omega)
theorem bandf (s : ByteArray) (i : Int) : band .u8 ((bt s i).fdiv 8) 1 = bt s i / 8 % 2 := by
  have h0 := bt_lo s i; have h1 := bt_hi s i
  rw [Int.fdiv_eq_ediv_of_nonneg _ (by omega)]
  exact band8_mod _ (by omega) (by omega) 1 (by omega)
theorem high4 (s : ByteArray) (i : Int) : (bt s i).fdiv 16 = bt s i / 16 := Int.fdiv_eq_ediv_of_nonneg _ (by omega)

def tyC (n : Int) : Int := if n = 1 then 1 else if n = 3 then 2 else if 5 ≤ n ∧ n ≤ 8 then n - 2 else 0
theorem type_step (n : Int) (K k : Nat) (i v : Int) (h0 : 0 ≤ i) (h7 : i < 7) (hv : rdL (0 : Int) G_cdb_numbers i = v) : cdb_Type.l0 K n (k + 1) i = if v = n ∧ n ≠ 0 then some i else cdb_Type.l0 K n k (i + 1) := by
  have e1 : IntKind.wrap .i64 (i + 1) = i + 1 := by rw [wi] <;> omega
  rw [cdb_Type.l0]
  unfold cdb_Type.b0
  rw [if_pos h7, asrt_pos h0, hv, e1]
  by_cases h : v = n <;> by_cases h' : n = 0 <;> simp [h, h']
theorem cdb_Type.is (n : Int) (K : Nat) : cdb_Type.f (K + 70) n = some (tyC n) := by
  have st := fun i v k h0 h7 hv => type_step n (K + 70) k i v h0 h7 hv
  unfold cdb_Type.f
  have e : cdb_Type.l0 (K + 70) n (K + 70) 0 = if (0 : Int) = n ∧ n ≠ 0 then some 0 else if (1 : Int) = n ∧ n ≠ 0 then some 1 else if (3 : Int) = n ∧ n ≠ 0 then some 2 else if (5 : Int) = n ∧ n ≠ 0 then some 3 else if (6 : Int) = n ∧ n ≠ 0 then some 4 else if (7 : Int) = n ∧ n ≠ 0 then some 5 else if (8 : Int) = n ∧ n ≠ 0 then some 6 else some 0 := by
    rw [st 0 0 (K + 69) (by omega) (by omega) rfl, Int.zero_add, st 1 1 (K + 68) (by omega) (by omega) rfl, show (1 : Int) + 1 = 2 from rfl, st 2 3 (K + 67) (by omega) (by omega) rfl, show (2 : Int) + 1 = 3 from rfl, st 3 5 (K + 66) (by omega) (by omega) rfl, show (3 : Int) + 1 = 4 from rfl, st 4 6 (K + 65) (by omega) (by omega) rfl, show (4 : Int) + 1 = 5 from rfl, st 5 7 (K + 64) (by omega) (by omega) rfl, show (5 : Int) + 1 = 6 from rfl, st 6 8 (K + 63) (by omega) (by omega) rfl, show (6 : Int) + 1 = 7 from rfl]
    rw [show cdb_Type.l0 (K + 70) n (K + 63) 7 = some 0 by rw [cdb_Type.l0]; unfold cdb_Type.b0; rw [if_neg (by omega)]]
  rw [e]
  unfold tyC
  by_cases h1 : n = 1
  · subst h1; rfl
  by_cases h3 : n = 3
  · subst h3; rfl
  by_cases h58 : 5 ≤ n ∧ n ≤ 8
  · rcases (by omega : n = 5 ∨ n = 6 ∨ n = 7 ∨ n = 8) with rfl | rfl | rfl | rfl <;> rfl
  · rw [if_neg (by omega), if_neg (by omega), if_neg (by omega), if_neg (by omega), if_neg (by omega), if_neg (by omega), if_neg (by omega), if_neg h1, if_neg h3, if_neg h58]
def noC (t : Int) : Int := if t = 1 then 1 else if t = 2 then 3 else if 3 ≤ t ∧ t ≤ 6 then t + 2 else 0
theorem cdb_Number.is (t : Int) : cdb_Number.f t = some (noC t) := by
  unfold cdb_Number.f noC
  by_cases h : t < 1
  · rw [if_pos h, if_neg (by omega), if_neg (by omega), if_neg (by omega)]
  rw [if_neg h]
  by_cases h' : t > 6
  · rw [if_pos h', if_neg (by omega), if_neg (by omega), if_neg (by omega)]
  rw [if_neg h', asrt_pos (by omega), asrt_pos (by omega)]
  rcases (by omega : t = 1 ∨ t = 2 ∨ t = 3 ∨ t = 4 ∨ t = 5 ∨ t = 6) with rfl | rfl | rfl | rfl | rfl | rfl <;> rfl

def zA : T_cdb_Ask := ⟨0, 0, 0, false, 0, 0, 0⟩
def pbody (s : ByteArray) (b : Int) : T_cdb_Ask × Int :=
  if b = 0 ∨ b = 37 ∨ b = 53 then (⟨b, 0, 0, false, 0, 0, 0⟩, 0)
  else if b = 18 then (⟨18, 0, 0, false, if bt s 1 % 2 = 1 then 256 + bt s 2 else 0, be s 3 2, 0⟩, 0)
  else if b = 40 ∨ b = 42 then (⟨b, be s 2 4, be s 7 2, decide (b = 42 ∧ bt s 1 / 8 % 2 = 1), 0, 0, 0⟩, 0)
  else if b = 136 ∨ b = 138 ∨ b = 147 then (if be s 2 8 ≥ 2147483648 ∨ be s 10 4 ≥ 2147483648 ∨ (b = 147 ∧ bt s 1 % 2 = 0) then (zA, 150) else (⟨b, be s 2 8, be s 10 4, decide (b = 138 ∧ bt s 1 / 8 % 2 = 1), 0, 0, 0⟩, 0))
  else if b = 137 then (if be s 2 8 ≥ 2147483648 then (zA, 150) else (⟨137, be s 2 8, bt s 13, false, 0, 0, 0⟩, 0))
  else if b = 66 then (⟨66, 0, 0, false, 0, be s 7 2, 0⟩, 0)
  else if b = 160 then (⟨160, 0, 0, false, 0, be s 6 4, 0⟩, 0)
  else if b = 94 then (if bt s 1 % 32 > 1 then (zA, 150) else (⟨24064 + bt s 1 % 32, 0, 0, false, 0, be s 7 2, 0⟩, 0))
  else if be s 5 4 ≠ 24 ∨ bt s 2 > 15 ∨ bt s 1 % 32 > 6 ∨ bt s 1 % 32 = 5 then (zA, 150)
  else if bt s 1 % 32 = 1 ∨ bt s 1 % 32 = 2 ∨ bt s 1 % 32 = 4 then (if tyC (bt s 2) = 0 then (zA, 150) else (⟨24320 + bt s 1 % 32, 0, 0, false, 0, 24, tyC (bt s 2)⟩, 0))
  else (⟨24320 + bt s 1 % 32, 0, 0, false, 0, 24, 0⟩, 0)
def cparse (s : ByteArray) : T_cdb_Ask × Int :=
  if s.size = 0 ∨ lenC (bt s 0) = 0 ∨ ¬ (s.size : Int) = lenC (bt s 0) ∨ ¬ bt s (lenC (bt s 0) - 1) = 0 then (zA, 150) else pbody s (bt s 0)

theorem num0 (s : ByteArray) (K : Nat) : cdb_Parse_1.f (K + 70) ⟨0, 0⟩ s = some 0 := by
  unfold cdb_Parse_1.f fields_Big.f fields_get_uint64.f
  rw [if_pos (by decide)]; rfl
theorem numN (s : ByteArray) (hs : (s.size : Int) ≤ 100000) (p n K : Nat) (h1 : 1 ≤ n) (h8 : n ≤ 8) (h : p + n ≤ s.size) : cdb_Parse_1.f (K + 70) ⟨(p : Int), (n : Int)⟩ s = some (mn (be s p n) 4611686018427387904) := by
  unfold cdb_Parse_1.f
  rw [show fields_Big.f (K + 70) s (p : Int) (n : Int) = _ from fields_Big.is s (p : Int) n (K + 61) h1 h8 (by omega), if_pos (by omega), Option.bind_some]
  have a := be_lo s (p : Int) n
  simp only
  rw [wi]
  · unfold mn; split <;> omega
  · unfold mn; split <;> omega
theorem num4 (s : ByteArray) (hs : (s.size : Int) ≤ 100000) (p n K : Nat) (h1 : 1 ≤ n) (h8 : n ≤ 4) (h : p + n ≤ s.size) : cdb_Parse_1.f (K + 70) ⟨(p : Int), (n : Int)⟩ s = some (be s p n) := by
  rw [numN s hs p n K h1 (by omega) h]
  have a := be_lo s (p : Int) n
  have b := be_hi s (p : Int) n
  have c : (256 : Int) ^ n ≤ 256 ^ 4 := pow256 h8
  have e : (256 : Int) ^ 4 = 4294967296 := by decide
  unfold mn
  rw [if_neg (by omega)]

set_option maxHeartbeats 4000000 in
theorem cdb_Parse.is (s : ByteArray) (hs : (s.size : Int) ≤ 100000) (K : Nat) : cdb_Parse.f (K + 70) s = some (cparse s) := by
  unfold cdb_Parse.f cparse
  rw [cdb_Length.is, Option.bind_some]
  unfold lenS
  by_cases hz : s.size = 0
  · rw [if_pos hz, if_pos rfl, if_pos (Or.inl hz)]; rfl
  rw [if_neg hz]
  by_cases hl : lenC (bt s 0) = 0
  · rw [if_pos hl, if_pos (Or.inr (Or.inl hl))]; rfl
  have hop : isOp (bt s 0) := by
    by_cases h : isOp (bt s 0)
    · exact h
    · exact absurd (lenC_none _ h) hl
  rw [if_neg hl]
  by_cases hsz : (s.size : Int) = lenC (bt s 0)
  case neg => rw [if_neg hsz, if_pos (Or.inr (Or.inr (Or.inl hsz)))]; rfl
  have hw : IntKind.wrap .i64 (lenC (bt s 0) - 1) = lenC (bt s 0) - 1 := by rw [wi] <;> omega
  rw [if_pos hsz, hw, asrt_pos (by omega), asrt_pos (by omega)]
  by_cases hlast : bt s (lenC (bt s 0) - 1) = 0
  case neg => rw [if_neg hlast, if_pos (Or.inr (Or.inr (Or.inr hlast)))]; rfl
  rw [if_pos hlast, if_neg (by simp only [not_or, Classical.not_not]; exact ⟨hz, hl, hsz, hlast⟩), asrt_pos (by omega), btw, cdb_formOf.is, Option.bind_some]
  clear hlast hw hl hz
  have n8 : ∀ p : Nat, p + 8 ≤ s.size → cdb_Parse_1.f (K + 70) ⟨(p : Int), 8⟩ s = some (mn (be s p 8) 4611686018427387904) := fun p h => numN s hs p 8 K (by omega) (by omega) h
  have n4 : ∀ p : Nat, p + 4 ≤ s.size → cdb_Parse_1.f (K + 70) ⟨(p : Int), 4⟩ s = some (be s p 4) := fun p h => num4 s hs p 4 K (by omega) (by omega) h
  have n2 : ∀ p : Nat, p + 2 ≤ s.size → cdb_Parse_1.f (K + 70) ⟨(p : Int), 2⟩ s = some (be s p 2) := fun p h => num4 s hs p 2 K (by omega) (by omega) h
  have n1 : ∀ p : Nat, p + 1 ≤ s.size → cdb_Parse_1.f (K + 70) ⟨(p : Int), 1⟩ s = some (be s p 1) := fun p h => num4 s hs p 1 K (by omega) (by omega) h
  have n0 := num0 s K
  have b10 := bt_lo s 1; have b11 := bt_hi s 1; have b20 := bt_lo s 2; have b21 := bt_hi s 2
  have m80 := be_lo s 2 8
  unfold isOp at hop
  rcases hop with hb | hb | hb | hb | hb | hb | hb | hb | hb | hb | hb | hb | hb | hb <;> rw [hb] at hsz ⊢
  · have hsz : s.size = 6 := by rw [show lenC 0 = 6 by kernel_rfl] at hsz; omega
    rw [show cOf 0 = some (⟨0, 6, ⟨0, 0⟩, ⟨0, 0⟩, ⟨0, 0⟩⟩ : T_cdb_form) from by kernel_rfl]
    simp only [optc_some]
    simp [n0, cdb_Parse.j0, cdb_Parse.j1, cdb_Parse.j3, pbody]
  · have hsz : s.size = 6 := by rw [show lenC 18 = 6 by kernel_rfl] at hsz; omega
    rw [show cOf 18 = some (⟨18, 6, ⟨0, 0⟩, ⟨0, 0⟩, ⟨3, 2⟩⟩ : T_cdb_form) from by kernel_rfl]
    simp only [optc_some]
    have := n2 3 (by omega)
    have e : IntKind.wrap .i64 (256 + IntKind.wrap .i64 (bt s 2)) = 256 + bt s 2 := by rw [btw, wi] <;> omega
    simp only [n0, Option.bind_some]
    rw [show cdb_Parse_1.f (K + 70) ⟨3, 2⟩ s = some (be s 3 2) from this, Option.bind_some, if_pos trivial, asrt_pos (by omega), band1, e]
    by_cases q : bt s 1 % 2 = 1
    · rw [if_pos q, asrt_pos (by omega)]; simp [cdb_Parse.j3, pbody, q]
    · rw [if_neg q]; simp [cdb_Parse.j3, pbody, q]
  · have hsz : s.size = 10 := by rw [show lenC 37 = 10 by kernel_rfl] at hsz; omega
    rw [show cOf 37 = some (⟨37, 10, ⟨0, 0⟩, ⟨0, 0⟩, ⟨0, 0⟩⟩ : T_cdb_form) from by kernel_rfl]
    simp only [optc_some]
    simp [n0, cdb_Parse.j0, cdb_Parse.j1, cdb_Parse.j3, pbody]
  · have hsz : s.size = 10 := by rw [show lenC 40 = 10 by kernel_rfl] at hsz; omega
    rw [show cOf 40 = some (⟨40, 10, ⟨2, 4⟩, ⟨7, 2⟩, ⟨0, 0⟩⟩ : T_cdb_form) from by kernel_rfl]
    simp only [optc_some]
    rw [show cdb_Parse_1.f (K + 70) ⟨2, 4⟩ s = some (be s 2 4) from n4 2 (by omega), Option.bind_some, show cdb_Parse_1.f (K + 70) ⟨7, 2⟩ s = some (be s 7 2) from n2 7 (by omega), Option.bind_some]
    simp [n0, cdb_Parse.j0, cdb_Parse.j1, cdb_Parse.j3, pbody]
  · have hsz : s.size = 16 := by rw [show lenC 136 = 16 by kernel_rfl] at hsz; omega
    rw [show cOf 136 = some (⟨136, 16, ⟨2, 8⟩, ⟨10, 4⟩, ⟨0, 0⟩⟩ : T_cdb_form) from by kernel_rfl]
    simp only [optc_some]
    rw [show cdb_Parse_1.f (K + 70) ⟨2, 8⟩ s = some (mn (be s 2 8) 4611686018427387904) from n8 2 (by omega), Option.bind_some, show cdb_Parse_1.f (K + 70) ⟨10, 4⟩ s = some (be s 10 4) from n4 10 (by omega), Option.bind_some]
    by_cases q : be s 2 8 ≥ 2147483648
    · have q' : mn (be s 2 8) 4611686018427387904 ≥ 2147483648 := by unfold mn; split <;> omega
      simp [n0, cdb_Parse.j0, cdb_Parse.j1, cdb_Parse.j3, pbody, q, q', zA]
    · have q' : mn (be s 2 8) 4611686018427387904 = be s 2 8 := by unfold mn; split <;> omega
      by_cases q2 : be s 10 4 ≥ 2147483648 <;> simp [n0, cdb_Parse.j0, cdb_Parse.j1, cdb_Parse.j3, pbody, q, q', q2, zA]
  · have hsz : s.size = 10 := by rw [show lenC 42 = 10 by kernel_rfl] at hsz; omega
    rw [show cOf 42 = some (⟨42, 10, ⟨2, 4⟩, ⟨7, 2⟩, ⟨0, 0⟩⟩ : T_cdb_form) from by kernel_rfl]
    simp only [optc_some]
    rw [show cdb_Parse_1.f (K + 70) ⟨2, 4⟩ s = some (be s 2 4) from n4 2 (by omega), Option.bind_some, show cdb_Parse_1.f (K + 70) ⟨7, 2⟩ s = some (be s 7 2) from n2 7 (by omega), Option.bind_some]
    simp only [n0, Option.bind_some]
    simp [cdb_Parse.j0, cdb_Parse.j3, pbody, bandf, asrt_pos (show (1 : Int) < (s.size : Int) by omega)]
    by_cases q : bt s 1 / 8 % 2 = 1 <;> simp [q]
  · have hsz : s.size = 16 := by rw [show lenC 138 = 16 by kernel_rfl] at hsz; omega
    rw [show cOf 138 = some (⟨138, 16, ⟨2, 8⟩, ⟨10, 4⟩, ⟨0, 0⟩⟩ : T_cdb_form) from by kernel_rfl]
    simp only [optc_some]
    rw [show cdb_Parse_1.f (K + 70) ⟨2, 8⟩ s = some (mn (be s 2 8) 4611686018427387904) from n8 2 (by omega), Option.bind_some, show cdb_Parse_1.f (K + 70) ⟨10, 4⟩ s = some (be s 10 4) from n4 10 (by omega), Option.bind_some]
    by_cases q : be s 2 8 ≥ 2147483648
    · have q' : mn (be s 2 8) 4611686018427387904 ≥ 2147483648 := by unfold mn; split <;> omega
      simp [n0, cdb_Parse.j0, cdb_Parse.j1, cdb_Parse.j3, pbody, q, q', zA, asrt_pos (show (1 : Int) < (s.size : Int) by omega)]
    · have q' : mn (be s 2 8) 4611686018427387904 = be s 2 8 := by unfold mn; split <;> omega
      by_cases q2 : be s 10 4 ≥ 2147483648 <;> by_cases q3 : bt s 1 / 8 % 2 = 1 <;> simp [n0, cdb_Parse.j0, cdb_Parse.j1, cdb_Parse.j3, pbody, q, q', q2, q3, zA, bandf, asrt_pos (show (1 : Int) < (s.size : Int) by omega)]
  · have hsz : s.size = 10 := by rw [show lenC 53 = 10 by kernel_rfl] at hsz; omega
    rw [show cOf 53 = some (⟨53, 10, ⟨0, 0⟩, ⟨0, 0⟩, ⟨0, 0⟩⟩ : T_cdb_form) from by kernel_rfl]
    simp only [optc_some]
    simp [n0, cdb_Parse.j0, cdb_Parse.j1, cdb_Parse.j3, pbody]
  · have hsz : s.size = 10 := by rw [show lenC 66 = 10 by kernel_rfl] at hsz; omega
    rw [show cOf 66 = some (⟨66, 10, ⟨0, 0⟩, ⟨0, 0⟩, ⟨7, 2⟩⟩ : T_cdb_form) from by kernel_rfl]
    simp only [optc_some]
    simp only [n0, Option.bind_some]
    rw [show cdb_Parse_1.f (K + 70) ⟨7, 2⟩ s = some (be s 7 2) from n2 7 (by omega), Option.bind_some]
    simp [cdb_Parse.j0, cdb_Parse.j1, cdb_Parse.j3, pbody]
  · have hsz : s.size = 16 := by rw [show lenC 137 = 16 by kernel_rfl] at hsz; omega
    rw [show cOf 137 = some (⟨137, 16, ⟨2, 8⟩, ⟨13, 1⟩, ⟨0, 0⟩⟩ : T_cdb_form) from by kernel_rfl]
    simp only [optc_some]
    rw [show cdb_Parse_1.f (K + 70) ⟨2, 8⟩ s = some (mn (be s 2 8) 4611686018427387904) from n8 2 (by omega), Option.bind_some, show cdb_Parse_1.f (K + 70) ⟨13, 1⟩ s = some (be s 13 1) from n1 13 (by omega), Option.bind_some]
    have e1 : be s 13 1 = bt s 13 := by simp [be]
    have h13 := bt_hi s 13
    have q2 : ¬ bt s 13 ≥ 2147483648 := by omega
    rw [e1]
    by_cases q : be s 2 8 ≥ 2147483648
    · have q' : mn (be s 2 8) 4611686018427387904 ≥ 2147483648 := by unfold mn; split <;> omega
      simp [n0, cdb_Parse.j0, cdb_Parse.j1, cdb_Parse.j3, pbody, q, q', zA]
    · have q' : mn (be s 2 8) 4611686018427387904 = be s 2 8 := by unfold mn; split <;> omega
      simp [n0, cdb_Parse.j0, cdb_Parse.j1, cdb_Parse.j3, pbody, q, q', q2, zA]
  · have hsz : s.size = 16 := by rw [show lenC 147 = 16 by kernel_rfl] at hsz; omega
    rw [show cOf 147 = some (⟨147, 16, ⟨2, 8⟩, ⟨10, 4⟩, ⟨0, 0⟩⟩ : T_cdb_form) from by kernel_rfl]
    simp only [optc_some]
    rw [show cdb_Parse_1.f (K + 70) ⟨2, 8⟩ s = some (mn (be s 2 8) 4611686018427387904) from n8 2 (by omega), Option.bind_some, show cdb_Parse_1.f (K + 70) ⟨10, 4⟩ s = some (be s 10 4) from n4 10 (by omega), Option.bind_some]
    by_cases q3 : bt s 1 % 2 = 1
    · have q3' : ¬ bt s 1 % 2 = 0 := by omega
      by_cases q : be s 2 8 ≥ 2147483648
      · have q' : mn (be s 2 8) 4611686018427387904 ≥ 2147483648 := by unfold mn; split <;> omega
        simp [n0, cdb_Parse.j0, cdb_Parse.j1, cdb_Parse.j3, pbody, q, q', q3, q3', zA, band1, asrt_pos (show (1 : Int) < (s.size : Int) by omega)]
      · have q' : mn (be s 2 8) 4611686018427387904 = be s 2 8 := by unfold mn; split <;> omega
        by_cases q2 : be s 10 4 ≥ 2147483648 <;> simp [n0, cdb_Parse.j0, cdb_Parse.j1, cdb_Parse.j3, pbody, q, q', q2, q3, q3', zA, band1, asrt_pos (show (1 : Int) < (s.size : Int) by omega)]
    · have q3' : bt s 1 % 2 = 0 := by omega
      simp [n0, cdb_Parse.j0, cdb_Parse.j1, cdb_Parse.j3, pbody, q3, q3', zA, band1, asrt_pos (show (1 : Int) < (s.size : Int) by omega)]
  · have hsz : s.size = 10 := by rw [show lenC 94 = 10 by kernel_rfl] at hsz; omega
    rw [show cOf 94 = some (⟨94, 10, ⟨0, 0⟩, ⟨0, 0⟩, ⟨7, 2⟩⟩ : T_cdb_form) from by kernel_rfl]
    simp only [optc_some]
    simp only [n0, Option.bind_some]
    rw [show cdb_Parse_1.f (K + 70) ⟨7, 2⟩ s = some (be s 7 2) from n2 7 (by omega), Option.bind_some]
    have ea : IntKind.wrap .i64 (bt s 1 % 32) = bt s 1 % 32 := wi (by omega) (by omega)
    have eb : IntKind.wrap .i64 (24064 + bt s 1 % 32) = 24064 + bt s 1 % 32 := wi (by omega) (by omega)
    have ec : IntKind.wrap .i64 24064 = 24064 := rfl
    by_cases q : bt s 1 % 32 ≤ 1
    · have q' : ¬ bt s 1 % 32 > 1 := by omega
      simp [cdb_Parse.j0, cdb_Parse.j1, cdb_Parse.j3, pbody, cdb_known.f, band31, ea, eb, ec, q, q', zA, asrt_pos (show (1 : Int) < (s.size : Int) by omega)]
    · have q' : bt s 1 % 32 > 1 := by omega
      simp [cdb_Parse.j0, cdb_Parse.j1, cdb_Parse.j3, pbody, cdb_known.f, band31, ea, eb, ec, q, q', zA, asrt_pos (show (1 : Int) < (s.size : Int) by omega)]
  · have hsz : s.size = 10 := by rw [show lenC 95 = 10 by kernel_rfl] at hsz; omega
    rw [show cOf 95 = some (⟨95, 10, ⟨0, 0⟩, ⟨0, 0⟩, ⟨5, 4⟩⟩ : T_cdb_form) from by kernel_rfl]
    simp only [optc_some]
    simp only [n0, Option.bind_some]
    rw [show cdb_Parse_1.f (K + 70) ⟨5, 4⟩ s = some (be s 5 4) from n4 5 (by omega), Option.bind_some]
    have ea : IntKind.wrap .i64 (bt s 1 % 32) = bt s 1 % 32 := wi (by omega) (by omega)
    have eb : IntKind.wrap .i64 (24320 + bt s 1 % 32) = 24320 + bt s 1 % 32 := wi (by omega) (by omega)
    have ec : IntKind.wrap .i64 24320 = 24320 := rfl
    have ed : IntKind.wrap .i64 (bt s 2 % 16) = bt s 2 % 16 := wi (by omega) (by omega)
    have s1 : (1 : Int) < (s.size : Int) := by omega
    have s2 : (2 : Int) < (s.size : Int) := by omega
    have ty := cdb_Type.is (bt s 2 % 16) K
    simp only [cdb_Parse.j0, cdb_Parse.j1, cdb_known.f, band31, band15, high4, ea, eb, ec, ed, asrt_pos s1, asrt_pos s2, cdb_Parse.j2, cdb_typed.f, ty, Option.bind_some]
    have hd : bt s 2 / 16 = 0 ↔ ¬ bt s 2 > 15 := by omega
    have hm : ¬ bt s 2 > 15 → bt s 2 % 16 = bt s 2 := by omega
    have ha0 : 0 ≤ bt s 1 % 32 := by omega
    unfold pbody
    generalize bt s 1 % 32 = a at ha0
    have ha8 : a = 0 ∨ a = 1 ∨ a = 2 ∨ a = 3 ∨ a = 4 ∨ a = 5 ∨ a = 6 ∨ a > 6 := by omega
    by_cases q24 : be s 5 4 = 24
    case neg =>
      rcases ha8 with rfl | rfl | rfl | rfl | rfl | rfl | rfl | h6 <;> simp [q24, cdb_Parse.j3, zA] <;> (repeat' split) <;> rfl
    by_cases q15 : bt s 2 > 15
    case pos =>
      have hd' : ¬ bt s 2 / 16 = 0 := by omega
      rcases ha8 with rfl | rfl | rfl | rfl | rfl | rfl | rfl | h6 <;> simp [q24, q15, hd', cdb_Parse.j3, zA] <;> (repeat' split) <;> rfl
    have hd' : bt s 2 / 16 = 0 := by omega
    have hm' := hm q15
    by_cases tz : tyC (bt s 2) = 0
    · rcases ha8 with rfl | rfl | rfl | rfl | rfl | rfl | rfl | h6
      all_goals first
        | (simp [q24, q15, hd', hm', tz, cdb_Parse.j3, zA]; done)
        | (simp [q24, q15, hd', hm', tz, cdb_Parse.j3, zA]; rfl)
        | (have e1 : ¬ a ≤ 4 := by omega
           have e2 : ¬ a = 6 := by omega
           have e3 : ¬ a = 1 := by omega
           have e4 : ¬ a = 2 := by omega
           have e5 : ¬ a = 4 := by omega
           simp [q24, q15, hd', hm', tz, cdb_Parse.j3, zA, h6, e1, e2, e3, e4, e5])
    · rcases ha8 with rfl | rfl | rfl | rfl | rfl | rfl | rfl | h6
      all_goals first
        | (simp [q24, q15, hd', hm', tz, cdb_Parse.j3, zA]; done)
        | (simp [q24, q15, hd', hm', tz, cdb_Parse.j3, zA]; rfl)
        | (have e1 : ¬ a ≤ 4 := by omega
           have e2 : ¬ a = 6 := by omega
           have e3 : ¬ a = 1 := by omega
           have e4 : ¬ a = 2 := by omega
           have e5 : ¬ a = 4 := by omega
           simp [q24, q15, hd', hm', tz, cdb_Parse.j3, zA, h6, e1, e2, e3, e4, e5])
  · have hsz : s.size = 12 := by rw [show lenC 160 = 12 by kernel_rfl] at hsz; omega
    rw [show cOf 160 = some (⟨160, 12, ⟨0, 0⟩, ⟨0, 0⟩, ⟨6, 4⟩⟩ : T_cdb_form) from by kernel_rfl]
    simp only [optc_some]
    simp only [n0, Option.bind_some]
    rw [show cdb_Parse_1.f (K + 70) ⟨6, 4⟩ s = some (be s 6 4) from n4 6 (by omega), Option.bind_some]
    simp [cdb_Parse.j0, cdb_Parse.j1, cdb_Parse.j3, pbody]

end Go.Proofs.YteilejfncdacfaaGreatDoor.F
