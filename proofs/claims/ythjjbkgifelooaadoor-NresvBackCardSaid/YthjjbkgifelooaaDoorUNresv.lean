/- The command of an operation, a word and data (layer 27): the program's and the document's are the same. No condition. -/
import Derived.Test.YthjjbkgifelooaaDoorULittle
import Derived.Test.YthjjbkgifelooaaDoorUBits
import Derived.Test.YthjjbkgifelooaaDoorF77
import Derived.Test.YthjjbkgifelooaaDoorF48
import Derived.Test.YthjjbkgifelooaaDoorF25
import Derived.Test.YthjjbkgifelooaaDoorF30
import Derived.Test.YthjjbkgifelooaaDoorF30
import Derived.Test.YthjjbkgifelooaaDoorF48
import Derived.Test.YthjjbkgifelooaaDoorF50
namespace Go.Proofs.YthjjbkgifelooaaDoor.F
open Go Go.RowKit Go.Proofs.YthjjbkgifelooaaDoor.X
set_option linter.unusedVariables false
set_option linter.unusedSimpArgs false

def zcN : T_api_Cmd := ⟨0, 0, ⟨#[]⟩, 0, 0, ⟨#[]⟩, false, [], 0, 0, 0, 0, false, 0⟩
/-- low, ig, mid, ap: the word's bits 0 to 2, 3, 4 to 29, 30 and 31. -/
def nReg (k o low ig mid ap : Int) : T_api_Cmd × Int :=
  if mid = 0 ∧ low ≤ 2 ∧ ap ≠ 1 ∧ (low = 1 ∨ o ≠ 0) then (⟨8, 0, ⟨#[]⟩, 0, 0, ⟨#[]⟩, false, [], k, if low = 1 then 0 else o, 0, 0, ig == 1, if ap = 0 then 0 else ap - 1⟩, 0) else (zcN, 180)
def nTyp (does k o typ rest : Int) : T_api_Cmd × Int :=
  if rest = 0 ∧ 1 ≤ typ ∧ typ ≤ 6 then (⟨does, 0, ⟨#[]⟩, 0, 0, ⟨#[]⟩, false, [], k, 0, o, typ, false, 0⟩, 0) else (zcN, 180)
def nClr (k rest : Int) : T_api_Cmd × Int := if rest = 0 then (⟨11, 0, ⟨#[]⟩, 0, 0, ⟨#[]⟩, false, [], k, 0, 0, 0, false, 0⟩, 0) else (zcN, 180)
/-- rest: the word's bits 3 to 7 and 16 to 31. -/
def restOf (w : Int) : Int := w / 8 % 32 + w / 65536 % 65536
def nchg (op w : Int) (s : ByteArray) : T_api_Cmd × Int :=
  if op = 13 ∧ s.size = 16 then nReg (le s 0 8) (le s 8 8) (w % 8) (w / 8 % 2) (w / 16 % 67108864) (w / 1073741824)
  else if op = 17 ∧ s.size = 16 ∧ w % 8 = 0 then nTyp 9 (le s 0 8) 0 (w / 256 % 256) (restOf w)
  else if op = 17 ∧ s.size = 16 ∧ w % 8 = 1 then nTyp 12 (le s 0 8) (le s 8 8) (w / 256 % 256) (restOf w)
  else if op = 21 ∧ s.size = 8 ∧ w % 8 = 0 then nTyp 10 (le s 0 8) 0 (w / 256 % 256) (restOf w)
  else if op = 21 ∧ s.size = 8 ∧ w % 8 = 1 then nClr (le s 0 8) (restOf w + w / 256 % 256)
  else (zcN, 180)

theorem bits3 (w : Int) (h0 : 0 ≤ w) (h1 : w ≤ 4294967295) : fields_Bits.f (IntKind.wrap .u64 w) 0 3 = some (w % 8) := by
  have := fields_Bits.is w h0 (by omega) 0 3 (by omega) (by omega)
  rw [wu h0 (by omega)]
  refine Eq.trans this ?_
  simp [bitsOf]
theorem bits8 (w : Int) (h0 : 0 ≤ w) (h1 : w ≤ 4294967295) : fields_Bits.f (IntKind.wrap .u64 w) 8 8 = some (w / 256 % 256) := by
  have := fields_Bits.is w h0 (by omega) 8 8 (by omega) (by omega)
  rw [wu h0 (by omega)]
  refine Eq.trans this ?_
  simp [bitsOf]
theorem rbits (w : Int) (h0 : 0 ≤ w) (h1 : w ≤ 4294967295) (lo n K : Nat) (hn : 1 ≤ n) (hn2 : n ≤ 32) (hl : lo + n ≤ 64) (hlo : lo ≤ 63) : headgateref27_bits.f (K + 70) w (lo : Int) (n : Int) = some (bitsOf w lo n) := by
  unfold headgateref27_bits.f
  rw [wu h0 (by omega), headgateref01_Bits.is w h0 (by omega) lo n K hn hn2 hl hlo, Option.bind_some]
  have a : 0 ≤ w / 2 ^ lo := Int.ediv_nonneg h0 (Int.le_of_lt (p2pos _))
  have b : w / 2 ^ lo ≤ w := Int.ediv_le_self _ h0
  have c := Int.emod_lt_of_pos (w / 2 ^ lo) (p2pos n)
  have c' : (2 : Int) ^ n ≤ 2 ^ 32 := p2le hn2
  have d : 0 ≤ w / 2 ^ lo % 2 ^ n := Int.emod_nonneg _ (by have := p2pos n; omega)
  unfold bitsOf
  rw [wi (by omega) (by omega)]

theorem nchange_step (op w low : Int) (s : ByteArray) (K k : Nat) (hl : 0 ≤ low ∧ low ≤ 7) (i x a b c : Int) (h0 : 0 ≤ i) (h7 : i < 7) (ha : rdL T_nresv_action.z G_nresv_actions i = ⟨a, b, c⟩) :
    nresv_Change.l0 K op w s low (k + 1) i x = nresv_Change.l0 K op w s low k (i + 1) (if a = op ∧ b = low then c else x) := by
  have e1 : IntKind.wrap .i64 (i + 1) = i + 1 := by rw [wi] <;> omega
  have e2 : IntKind.wrap .i64 low = low := by rw [wi] <;> omega
  rw [nresv_Change.l0]
  unfold nresv_Change.b0
  rw [if_pos h7, asrt_pos h0, ha, e1, e2]
  by_cases h : a = op <;> by_cases h' : b = low <;> simp [h, h']

theorem natOf {w : Int} (h0 : 0 ≤ w) (h1 : w ≤ 4294967295) : ∃ x : Nat, w = x ∧ x < 4294967296 := ⟨w.toNat, by omega, by omega⟩
theorem mid_word (w : Int) (h0 : 0 ≤ w) (h1 : w ≤ 4294967295) : bandNot .u32 w 3221225487 = 0 ↔ w / 16 % 67108864 = 0 := by
  obtain ⟨x, rfl, hx⟩ := natOf h0 h1
  rw [word_reg x hx]
  simp only [Nat.reducePow]
  omega
theorem low_word (w : Int) (h0 : 0 ≤ w) (h1 : w ≤ 4294967295) : bandNot .u32 w 7 = 0 ↔ restOf w + w / 256 % 256 = 0 := by
  obtain ⟨x, rfl, hx⟩ := natOf h0 h1
  rw [word_low x hx]
  simp only [Nat.reducePow]
  unfold restOf
  constructor
  · intro h
    have : x < 8 := by omega
    omega
  · intro h
    have h1 : (x : Int) / 65536 % 65536 = 0 := by omega
    have h2 : (x : Int) / 256 % 256 = 0 := by omega
    have h3 : (x : Int) / 8 % 32 = 0 := by omega
    have h4 : x < 65536 := by omega
    have h5 : x < 256 := by omega
    have h6 : x < 8 := by omega
    omega
theorem typ_word (w : Int) (h0 : 0 ≤ w) (h1 : w ≤ 4294967295) : bandNot .u32 w 65287 = 0 ↔ restOf w = 0 := by
  obtain ⟨x, rfl, hx⟩ := natOf h0 h1
  rw [word_typ x hx]
  simp only [Nat.reducePow]
  unfold restOf
  omega

theorem nchange_loop (op w low : Int) (s : ByteArray) (K : Nat) (hl : 0 ≤ low ∧ low ≤ 7) : nresv_Change.l0 (K + 70) op w s low (K + 70) 0 0 =
    nresv_Change.b0 (K + 70) op w s low (fun _ _ => none) 7 (if 21 = op ∧ 1 = low then 11 else if 21 = op ∧ 0 = low then 10 else if 17 = op ∧ 1 = low then 12 else if 17 = op ∧ 0 = low then 9 else if 13 = op ∧ 2 = low then 8 else if 13 = op ∧ 1 = low then 8 else if 13 = op ∧ 0 = low then 8 else 0) := by
  have st := fun k i x a b c h0 h7 ha => nchange_step op w low s (K + 70) k hl i x a b c h0 h7 ha
  refine Eq.trans (st (K + 69) 0 _ 13 0 8 (by omega) (by omega) rfl) ?_
  refine Eq.trans (st (K + 68) (0 + 1) _ 13 1 8 (by omega) (by omega) rfl) ?_
  refine Eq.trans (st (K + 67) (0 + 1 + 1) _ 13 2 8 (by omega) (by omega) rfl) ?_
  refine Eq.trans (st (K + 66) (0 + 1 + 1 + 1) _ 17 0 9 (by omega) (by omega) rfl) ?_
  refine Eq.trans (st (K + 65) (0 + 1 + 1 + 1 + 1) _ 17 1 12 (by omega) (by omega) rfl) ?_
  refine Eq.trans (st (K + 64) (0 + 1 + 1 + 1 + 1 + 1) _ 21 0 10 (by omega) (by omega) rfl) ?_
  refine Eq.trans (st (K + 63) (0 + 1 + 1 + 1 + 1 + 1 + 1) _ 21 1 11 (by omega) (by omega) rfl) ?_
  rw [nresv_Change.l0]
  unfold nresv_Change.b0
  simp only [show ¬ ((0 : Int) + 1 + 1 + 1 + 1 + 1 + 1 + 1 < 7) by omega, show ¬ ((7 : Int) < 7) by omega, if_false]

theorem aptpl_at (a : Int) (h0 : 0 ≤ a) (h3 : a ≤ 3) : rdL (0 : Int) G_nresv_aptpls a = if a = 0 then 0 else if a = 1 then -1 else a - 1 := by
  rcases (by omega : a = 0 ∨ a = 1 ∨ a = 2 ∨ a = 3) with rfl | rfl | rfl | rfl <;> rfl

theorem nresv_reg (w : Int) (h0 : 0 ≤ w) (h1 : w ≤ 4294967295) (s : ByteArray) (hs : s.size = 16) (hl : w % 8 ≤ 2) (K : Nat) : nresv_Change.b0 (K + 70) 13 w s (w % 8) (fun _ _ => none) 7 8 = some (nReg (le s 0 8) (le s 8 8) (w % 8) (w / 8 % 2) (w / 16 % 67108864) (w / 1073741824)) := by
  have hsz : (s.size : Int) = 16 := by omega
  have L0 : fields_Little.f (K + 70) s 0 8 = some (le s 0 8, true) := (fields_Little.is s 0 8 (K + 61) (by omega) (by omega) (by omega)).trans (by rw [if_pos (by omega)])
  have L8 : fields_Little.f (K + 70) s 8 8 = some (le s 8 8, true) := (fields_Little.is s 8 8 (K + 61) (by omega) (by omega) (by omega)).trans (by rw [if_pos (by omega)])
  have B3 : fields_Bit.f (IntKind.wrap .u64 w) 3 = some (w / 8 % 2 == 1) := by
    have := fields_Bit.is w h0 (by omega) 3 (by omega)
    rw [wu h0 (by omega)]
    exact this
  have ef : w.fdiv 1073741824 = w / 1073741824 := Int.fdiv_eq_ediv_of_nonneg _ (by omega)
  have el : IntKind.wrap .i64 (w % 8) = w % 8 := by rw [wi] <;> omega
  have hm := mid_word w h0 h1
  unfold nresv_Change.b0
  rw [if_neg (by omega), if_neg (by omega), show nresv_Size.f 13 = some 16 from rfl, Option.bind_some, if_pos hsz, L0, Option.bind_some, L8, Option.bind_some, if_pos rfl, B3, Option.bind_some, ef, asrt_pos (by omega), asrt_pos (by omega), el]
  unfold nresv_Change.j0 nresv_Change.j1
  rw [ef, aptpl_at _ (by omega) (by omega)]
  generalize bandNot .u32 w 3221225487 = bn at hm
  generalize w / 16 % 67108864 = mid at hm
  have ha : 0 ≤ w / 1073741824 ∧ w / 1073741824 ≤ 3 := by omega
  generalize w / 1073741824 = ap at ha
  generalize le s 8 8 = o
  generalize le s 0 8 = k
  have hlo : 0 ≤ w % 8 := by omega
  generalize w % 8 = low at hl hlo
  generalize (w / 8 % 2) = ig
  unfold nReg
  rcases (by omega : ap = 0 ∨ ap = 1 ∨ ap = 2 ∨ ap = 3) with rfl | rfl | rfl | rfl <;> by_cases hl1 : low = 1 <;> by_cases ho : o = 0 <;> by_cases hb : bn = 0 <;> simp_all [zcN]

theorem access_Type.is (t : Int) : access_Type.f t = some (decide (1 ≤ t ∧ t ≤ 6)) := by
  unfold access_Type.f
  by_cases h : t ≥ 1 <;> by_cases h' : t ≤ 6 <;> simp [h, h'] <;> omega
theorem headgateref10_Type.is (t : Int) : headgateref10_Type.f t = some (decide (1 ≤ t ∧ t ≤ 6)) := by
  unfold headgateref10_Type.f
  by_cases h : t ≥ 1 <;> by_cases h' : t ≤ 6 <;> simp [h, h'] <;> omega

theorem nresv_typ (op does : Int) (n : Nat) (hop : nresv_Size.f op = some (n : Int)) (hn : n = 16 ∨ n = 8) (hd : does = 9 ∨ does = 10 ∨ does = 12 ∧ n = 16) (w : Int) (h0 : 0 ≤ w) (h1 : w ≤ 4294967295) (s : ByteArray) (hs : s.size = n) (K : Nat) :
    nresv_Change.b0 (K + 70) op w s (w % 8) (fun _ _ => none) 7 does = some (nTyp does (le s 0 8) (if does = 12 then le s 8 8 else 0) (w / 256 % 256) (restOf w)) := by
  have L0 : fields_Little.f (K + 70) s 0 8 = some (le s 0 8, true) := (fields_Little.is s 0 8 (K + 61) (by omega) (by omega) (by omega)).trans (by rw [if_pos (by omega)])
  have L8 : ∃ q, fields_Little.f (K + 70) s 8 8 = some q ∧ (n = 16 → q.1 = le s 8 8) := by
    have h := fields_Little.is s 8 8 (K + 61) (by omega) (by omega) (by omega)
    rw [show ((8 : Nat) : Int) = 8 from rfl] at h
    refine ⟨_, h, fun h16 => ?_⟩
    rw [if_pos (by omega)]
  obtain ⟨q, hq, hq1⟩ := L8
  have et : IntKind.wrap .i64 (w / 256 % 256) = w / 256 % 256 := by rw [wi] <;> omega
  have hm := typ_word w h0 h1
  unfold nresv_Change.b0
  rw [if_neg (by omega), if_neg (by omega), hop, Option.bind_some, if_pos (by omega), L0, Option.bind_some, hq, Option.bind_some, if_neg (by omega), if_neg (by omega), bits8 w h0 h1, Option.bind_some, et, access_Type.is, Option.bind_some]
  unfold nresv_Change.j1
  generalize bandNot .u32 w 65287 = bn at hm
  generalize restOf w = rest at hm
  generalize w / 256 % 256 = typ
  unfold nTyp
  rcases hd with rfl | rfl | ⟨rfl, h16⟩
  · by_cases ht : 1 ≤ typ ∧ typ ≤ 6 <;> by_cases hb : bn = 0 <;> simp_all [zcN] <;> (try (split <;> rfl))
  · by_cases ht : 1 ≤ typ ∧ typ ≤ 6 <;> by_cases hb : bn = 0 <;> simp_all [zcN] <;> (try (split <;> rfl))
  · have := hq1 h16
    by_cases ht : 1 ≤ typ ∧ typ ≤ 6 <;> by_cases hb : bn = 0 <;> simp_all [zcN] <;> (try (split <;> rfl))

theorem nresv_none (op w low : Int) (s : ByteArray) (K : Nat) : nresv_Change.b0 (K + 70) op w s low (fun _ _ => none) 7 0 = some (zcN, 180) := by
  unfold nresv_Change.b0
  rw [if_neg (by omega), if_pos rfl]; rfl
theorem nresv_size (op w low : Int) (s : ByteArray) (x : Int) (hx : ¬ x = 0) (n : Int) (hop : nresv_Size.f op = some n) (hs : ¬ (s.size : Int) = n) (K : Nat) : nresv_Change.b0 (K + 70) op w s low (fun _ _ => none) 7 x = some (zcN, 180) := by
  unfold nresv_Change.b0
  rw [if_neg (by omega), if_neg hx, hop, Option.bind_some, if_neg hs]; rfl
theorem nresv_clr (w : Int) (h0 : 0 ≤ w) (h1 : w ≤ 4294967295) (s : ByteArray) (hs : s.size = 8) (K : Nat) : nresv_Change.b0 (K + 70) 21 w s (w % 8) (fun _ _ => none) 7 11 = some (nClr (le s 0 8) (restOf w + w / 256 % 256)) := by
  have L0 : fields_Little.f (K + 70) s 0 8 = some (le s 0 8, true) := (fields_Little.is s 0 8 (K + 61) (by omega) (by omega) (by omega)).trans (by rw [if_pos (by omega)])
  have L8 := fields_Little.is s 8 8 (K + 61) (by omega) (by omega) (by omega)
  rw [show ((8 : Nat) : Int) = 8 from rfl, show K + 61 + 9 = K + 70 by omega] at L8
  have hm := low_word w h0 h1
  unfold nresv_Change.b0
  rw [if_neg (by omega), if_neg (by omega), show nresv_Size.f 21 = some 8 from rfl, Option.bind_some, if_pos (by omega), L0, Option.bind_some, L8, Option.bind_some, if_neg (by omega), if_pos rfl]
  unfold nresv_Change.j1
  generalize bandNot .u32 w 7 = bn at hm
  generalize restOf w + w / 256 % 256 = rest at hm
  unfold nClr
  by_cases hb : bn = 0 <;> simp_all [zcN]

theorem nresv_Change.is (op w : Int) (h0 : 0 ≤ w) (h1 : w ≤ 4294967295) (s : ByteArray) (K : Nat) : nresv_Change.f (K + 70) op w s = some (nchg op w s) := by
  unfold nresv_Change.f
  rw [bits3 w h0 h1, Option.bind_some, nchange_loop op w (w % 8) s K (by omega)]
  unfold nchg
  by_cases h13 : op = 13
  · subst h13
    by_cases hl : w % 8 ≤ 2
    · have e : (if (21 : Int) = 13 ∧ 1 = w % 8 then (11 : Int) else if (21 : Int) = 13 ∧ 0 = w % 8 then 10 else if (17 : Int) = 13 ∧ 1 = w % 8 then 12 else if (17 : Int) = 13 ∧ 0 = w % 8 then 9 else if (13 : Int) = 13 ∧ 2 = w % 8 then 8 else if (13 : Int) = 13 ∧ 1 = w % 8 then 8 else if (13 : Int) = 13 ∧ 0 = w % 8 then 8 else 0) = 8 := by
        rcases (by omega : w % 8 = 0 ∨ w % 8 = 1 ∨ w % 8 = 2) with h | h | h <;> rw [h] <;> rfl
      rw [e]
      by_cases hs : s.size = 16
      · rw [if_pos ⟨rfl, hs⟩, nresv_reg w h0 h1 s hs hl]
      · rw [nresv_size 13 w _ s 8 (by omega) 16 rfl (by omega), if_neg (by omega), if_neg (by omega), if_neg (by omega), if_neg (by omega), if_neg (by omega)]
    · rw [if_neg (by omega : ¬ ((21 : Int) = 13 ∧ 1 = w % 8)), if_neg (by omega : ¬ ((21 : Int) = 13 ∧ 0 = w % 8)), if_neg (by omega : ¬ ((17 : Int) = 13 ∧ 1 = w % 8)), if_neg (by omega : ¬ ((17 : Int) = 13 ∧ 0 = w % 8)), if_neg (by omega : ¬ ((13 : Int) = 13 ∧ 2 = w % 8)), if_neg (by omega : ¬ ((13 : Int) = 13 ∧ 1 = w % 8)), if_neg (by omega : ¬ ((13 : Int) = 13 ∧ 0 = w % 8)), nresv_none]
      by_cases hs : s.size = 16
      · rw [if_pos ⟨rfl, hs⟩]
        unfold nReg
        rw [if_neg (by omega)]
      · rw [if_neg (by omega), if_neg (by omega), if_neg (by omega), if_neg (by omega), if_neg (by omega)]
  by_cases h17 : op = 17
  · subst h17
    by_cases hl0 : w % 8 = 0
    · rw [if_neg (by omega : ¬ ((21 : Int) = 17 ∧ 1 = w % 8)), if_neg (by omega : ¬ ((21 : Int) = 17 ∧ 0 = w % 8)), if_neg (by omega : ¬ ((17 : Int) = 17 ∧ 1 = w % 8)), if_pos (by omega : (17 : Int) = 17 ∧ 0 = w % 8)]
      by_cases hs : s.size = 16
      · rw [(show _ = some (nTyp 9 (le s 0 8) (0) (w / 256 % 256) (restOf w)) from nresv_typ 17 9 16 rfl (by omega) (by omega) w h0 h1 s hs K), if_neg (by omega), if_pos (by omega)]
      · rw [nresv_size 17 w _ s 9 (by omega) 16 rfl (by omega), if_neg (by omega), if_neg (by omega), if_neg (by omega), if_neg (by omega), if_neg (by omega)]
    by_cases hl1 : w % 8 = 1
    · rw [if_neg (by omega : ¬ ((21 : Int) = 17 ∧ 1 = w % 8)), if_neg (by omega : ¬ ((21 : Int) = 17 ∧ 0 = w % 8)), if_pos (by omega : (17 : Int) = 17 ∧ 1 = w % 8)]
      by_cases hs : s.size = 16
      · rw [(show _ = some (nTyp 12 (le s 0 8) (le s 8 8) (w / 256 % 256) (restOf w)) from nresv_typ 17 12 16 rfl (by omega) (by omega) w h0 h1 s hs K), if_neg (by omega), if_neg (by omega), if_pos (by omega)]
      · rw [nresv_size 17 w _ s 12 (by omega) 16 rfl (by omega), if_neg (by omega), if_neg (by omega), if_neg (by omega), if_neg (by omega), if_neg (by omega)]
    rw [if_neg (by omega : ¬ ((21 : Int) = 17 ∧ 1 = w % 8)), if_neg (by omega : ¬ ((21 : Int) = 17 ∧ 0 = w % 8)), if_neg (by omega : ¬ ((17 : Int) = 17 ∧ 1 = w % 8)), if_neg (by omega : ¬ ((17 : Int) = 17 ∧ 0 = w % 8)), if_neg (by omega : ¬ ((13 : Int) = 17 ∧ 2 = w % 8)), if_neg (by omega : ¬ ((13 : Int) = 17 ∧ 1 = w % 8)), if_neg (by omega : ¬ ((13 : Int) = 17 ∧ 0 = w % 8)), nresv_none, if_neg (by omega), if_neg (by omega), if_neg (by omega), if_neg (by omega), if_neg (by omega)]
  by_cases h21 : op = 21
  · subst h21
    by_cases hl0 : w % 8 = 0
    · rw [if_neg (by omega : ¬ ((21 : Int) = 21 ∧ 1 = w % 8)), if_pos (by omega : (21 : Int) = 21 ∧ 0 = w % 8)]
      by_cases hs : s.size = 8
      · rw [(show _ = some (nTyp 10 (le s 0 8) (0) (w / 256 % 256) (restOf w)) from nresv_typ 21 10 8 rfl (by omega) (by omega) w h0 h1 s hs K), if_neg (by omega), if_neg (by omega), if_neg (by omega), if_pos (by omega)]
      · rw [nresv_size 21 w _ s 10 (by omega) 8 rfl (by omega), if_neg (by omega), if_neg (by omega), if_neg (by omega), if_neg (by omega), if_neg (by omega)]
    by_cases hl1 : w % 8 = 1
    · rw [if_pos (by omega : (21 : Int) = 21 ∧ 1 = w % 8)]
      by_cases hs : s.size = 8
      · rw [nresv_clr w h0 h1 s hs, if_neg (by omega), if_neg (by omega), if_neg (by omega), if_neg (by omega), if_pos (by omega)]
      · rw [nresv_size 21 w _ s 11 (by omega) 8 rfl (by omega), if_neg (by omega), if_neg (by omega), if_neg (by omega), if_neg (by omega), if_neg (by omega)]
    rw [if_neg (by omega : ¬ ((21 : Int) = 21 ∧ 1 = w % 8)), if_neg (by omega : ¬ ((21 : Int) = 21 ∧ 0 = w % 8)), if_neg (by omega : ¬ ((17 : Int) = 21 ∧ 1 = w % 8)), if_neg (by omega : ¬ ((17 : Int) = 21 ∧ 0 = w % 8)), if_neg (by omega : ¬ ((13 : Int) = 21 ∧ 2 = w % 8)), if_neg (by omega : ¬ ((13 : Int) = 21 ∧ 1 = w % 8)), if_neg (by omega : ¬ ((13 : Int) = 21 ∧ 0 = w % 8)), nresv_none, if_neg (by omega), if_neg (by omega), if_neg (by omega), if_neg (by omega), if_neg (by omega)]
  rw [if_neg (by omega : ¬ ((21 : Int) = op ∧ 1 = w % 8)), if_neg (by omega : ¬ ((21 : Int) = op ∧ 0 = w % 8)), if_neg (by omega : ¬ ((17 : Int) = op ∧ 1 = w % 8)), if_neg (by omega : ¬ ((17 : Int) = op ∧ 0 = w % 8)), if_neg (by omega : ¬ ((13 : Int) = op ∧ 2 = w % 8)), if_neg (by omega : ¬ ((13 : Int) = op ∧ 1 = w % 8)), if_neg (by omega : ¬ ((13 : Int) = op ∧ 0 = w % 8)), nresv_none, if_neg (by omega), if_neg (by omega), if_neg (by omega), if_neg (by omega), if_neg (by omega)]

theorem nresv_Size.is27 (op : Int) : headgateref27_Size.f op = nresv_Size.f op := rfl
theorem rb (w : Int) (h0 : 0 ≤ w) (h1 : w ≤ 4294967295) (K : Nat) : headgateref27_bits.f (K + 70) w 0 3 = some (w % 8) ∧ headgateref27_bits.f (K + 70) w 8 8 = some (w / 256 % 256) ∧ headgateref27_bits.f (K + 70) w 30 2 = some (w / 1073741824) ∧ headgateref27_bits.f (K + 70) w 4 26 = some (w / 16 % 67108864) ∧
    headgateref27_bits.f (K + 70) w 3 1 = some (w / 8 % 2) ∧ headgateref27_bits.f (K + 70) w 3 5 = some (w / 8 % 32) ∧ headgateref27_bits.f (K + 70) w 16 16 = some (w / 65536 % 65536) := by
  have r := fun lo n a b c d => rbits w h0 h1 lo n K a b c d
  refine ⟨(r 0 3 (by omega) (by omega) (by omega) (by omega)).trans (by simp [bitsOf]), (r 8 8 (by omega) (by omega) (by omega) (by omega)).trans (by simp [bitsOf]), (r 30 2 (by omega) (by omega) (by omega) (by omega)).trans (by simp [bitsOf]; omega), (r 4 26 (by omega) (by omega) (by omega) (by omega)).trans (by simp [bitsOf]),
    (r 3 1 (by omega) (by omega) (by omega) (by omega)).trans (by simp [bitsOf]), (r 3 5 (by omega) (by omega) (by omega) (by omega)).trans (by simp [bitsOf]), (r 16 16 (by omega) (by omega) (by omega) (by omega)).trans (by simp [bitsOf])⟩

end Go.Proofs.YthjjbkgifelooaaDoor.F
