/- What a report says (layer 27): the program's answer. No condition. -/
import Derived.Test.YthjjbkgifelooaaDoorUNresvRows
import Derived.Test.YthjjbkgifelooaaDoorF12
namespace Go.Proofs.YthjjbkgifelooaaDoor.F
open Go Go.RowKit Go.Proofs.YthjjbkgifelooaaDoor.X
open Classical
set_option linter.unusedVariables false
set_option linter.unusedSimpArgs false

def manyS (s : ByteArray) : Nat := (le s 5 2).toNat
def bS (s : ByteArray) (i : Nat) : Int := bt s (26 + 24 * (i : Int))
def kS (s : ByteArray) (i : Nat) : Int := le s (40 + 24 * (i : Int)) 8
def sndL (s : ByteArray) : List Int := hdrL (le s 0 4) (bt s 4) (manyS s) (bt s 9) ++ rowsL (bS s) (kS s) (manyS s)
def mostOf (ty n : Int) : Int := if ty = 0 then 0 else if ty ≤ 4 then 1 else n
structure okR (s : ByteArray) : Prop where
  many : manyS s ≤ 16
  size : s.size = 24 + 24 * manyS s
  same : strOfNums (sndL s) = s
  ap : bt s 9 ≤ 1
  ty : bt s 4 ≤ 6
  bits : ∀ j, j < manyS s → bS s j ≤ 1
  most : cntB (bS s) (manyS s) ≤ mostOf (bt s 4) (manyS s)
  all : 4 < bt s 4 → cntB (bS s) (manyS s) = manyS s
noncomputable def toldR (s : ByteArray) : Int × Int × (List T_api_Reg) × Int × Int :=
  if okR s then (le s 0 4, bt s 4, regsOf (kS s) (manyS s), firstAt (bS s) (manyS s), 0) else (0, 0, [], 0, 180)
theorem toldR_not (s : ByteArray) (h : ¬ okR s) : toldR s = (0, 0, [], 0, 180) := by unfold toldR; rw [if_neg h]

theorem bS_range (s : ByteArray) (i : Nat) : 0 ≤ bS s i ∧ bS s i ≤ 255 := ⟨bt_lo _ _, bt_hi _ _⟩
theorem kS_range (s : ByteArray) (i : Nat) : 0 ≤ kS s i ∧ kS s i ≤ 18446744073709551615 := by
  have a := le_lo s (40 + 24 * (i : Int)) 8
  have b := le_hi s (40 + 24 * (i : Int)) 8
  have e : (256 : Int) ^ 8 = 18446744073709551616 := by decide
  unfold kS; omega
theorem many_val (s : ByteArray) : le s 5 2 = (manyS s : Int) := by
  have := le_lo s 5 2
  unfold manyS; omega
theorem gen_range (s : ByteArray) : 0 ≤ le s 0 4 ∧ le s 0 4 ≤ 4294967295 := by
  have a := le_lo s 0 4
  have b := le_hi s 0 4
  have e : (256 : Int) ^ 4 = 4294967296 := by decide
  omega

theorem reported_none (K : Nat) (s : ByteArray) (g n : Int × Bool) : nresv_Reported.j0 K s g n true = some (0, 0, [], 0, 180) := by
  unfold nresv_Reported.j0
  rw [if_pos rfl]; rfl
theorem reported_j2 (K : Nat) (s : ByteArray) (g : Int) (hg : 0 ≤ g ∧ g ≤ 4294967295) (l : List T_api_Reg) (a : Int) (b : Bool) : nresv_Reported.j2 K s (g, true) l a b = some (if b = true then (0, 0, [], 0, 180) else (g, bt s 4, l, a, 0)) := by
  have h0 := bt_lo s 4
  have h1 := bt_hi s 4
  unfold nresv_Reported.j2
  cases b with
  | true => rw [if_pos rfl, if_pos rfl]; rfl
  | false =>
    rw [if_neg (by simp), if_neg (by simp)]
    rw [show IntKind.wrap .u32 g = g by rw [wrapu32]; omega, show IntKind.wrap .i64 (bt s 4) = bt s 4 from wi (by omega) (by omega)]

theorem reported_loop (s : ByteArray) (hs : (s.size : Int) ≤ 1000000) (hn : manyS s ≤ 16) (hz : s.size = 24 + 24 * manyS s) (K : Nat) : ∀ (m j : Nat), m ≤ manyS s → (∀ i, i < manyS s - m → bS s i ≤ 1) →
    nresv_Reported.l0 (K + 70) s (le s 0 4, true) ((manyS s : Int), true) (m + 1 + j) (regsOf (kS s) (manyS s - m)) (firstAt (bS s) (manyS s - m))
      (strOfNums (hdrL (le s 0 4) (bt s 4) (manyS s) (bt s 9) ++ rowsL (bS s) (kS s) (manyS s - m))) (cntB (bS s) (manyS s - m)) ((manyS s - m : Nat) : Int) = some (toldR s) := by
  have hb : ∀ j, 0 ≤ bS s j := fun j => (bS_range s j).1
  have hw : IntKind.wrap .i64 (manyS s : Int) = manyS s := wi (by omega) (by omega)
  have h4 := bt_lo s 4
  have h4' := bt_hi s 4
  have e4 : IntKind.wrap .i64 (bt s 4) = bt s 4 := wi (by omega) (by omega)
  intro m
  induction m with
  | zero =>
    intro j _ hbits
    rw [Nat.sub_zero] at hbits ⊢
    rw [show 0 + 1 + j = j + 1 by omega, nresv_Reported.l0]
    unfold nresv_Reported.b0
    rw [hw, if_neg (by omega), e4]
    have j2 := fun b => reported_j2 (K + 70) s (le s 0 4) (gen_range s) (regsOf (kS s) (manyS s)) (firstAt (bS s) (manyS s)) b
    by_cases c1 : strOfNums (hdrL (le s 0 4) (bt s 4) (manyS s) (bt s 9) ++ rowsL (bS s) (kS s) (manyS s)) = s
    case neg => rw [if_neg c1, j2, if_pos rfl, toldR_not s fun h => c1 h.same]
    rw [if_pos c1]
    by_cases c2 : bt s 9 > 1
    · rw [if_pos c2, j2, if_pos rfl, toldR_not s fun h => by have := h.ap; omega]
    rw [if_neg c2]
    by_cases c3 : bt s 4 > 6
    · rw [if_pos c3, j2, if_pos rfl, toldR_not s fun h => by have := h.ty; omega]
    rw [if_neg c3, asrt_pos h4, asrt_pos (by omega)]
    have hmost : rdL (0 : Int) [0, 1, 1, 1, 1, (manyS s : Int), (manyS s : Int)] (bt s 4) = mostOf (bt s 4) (manyS s) := by
      generalize bt s 4 = ty at h4 c3
      rcases (by omega : ty = 0 ∨ ty = 1 ∨ ty = 2 ∨ ty = 3 ∨ ty = 4 ∨ ty = 5 ∨ ty = 6) with rfl | rfl | rfl | rfl | rfl | rfl | rfl <;> rfl
    rw [hmost]
    by_cases c4 : cntB (bS s) (manyS s) > mostOf (bt s 4) (manyS s)
    · rw [if_pos c4, j2, if_pos rfl, toldR_not s fun h => by have := h.most; omega]
    rw [if_neg c4]
    by_cases c5 : bt s 4 > 4
    · rw [if_pos c5, j2]
      by_cases c6 : cntB (bS s) (manyS s) = manyS s
      · rw [if_neg (by simp [c6])]
        unfold toldR
        rw [if_pos ⟨hn, hz, c1, by omega, by omega, hbits, by omega, fun _ => c6⟩]
      · rw [if_pos (by simp [c6]), toldR_not s fun h => c6 (h.all c5)]
    · rw [if_neg c5, j2, if_neg (by simp)]
      unfold toldR
      rw [if_pos ⟨hn, hz, c1, by omega, by omega, hbits, by omega, fun h => absurd h c5⟩]
  | succ m ih =>
    intro j hm hbits
    have ih := ih j (by omega)
    have hi : manyS s - (m + 1) < manyS s := by omega
    rw [show manyS s - m = (manyS s - (m + 1)) + 1 by omega] at ih
    generalize manyS s - (m + 1) = i at hi ih hbits
    rw [show ((i + 1 : Nat) : Int) = (i : Int) + 1 by omega] at ih
    have e0 : IntKind.wrap .i64 (24 * (i : Int)) = 24 * (i : Int) := wi (by omega) (by omega)
    have e1 : IntKind.wrap .i64 (24 + 24 * (i : Int)) = 24 + 24 * (i : Int) := wi (by omega) (by omega)
    have e2 : IntKind.wrap .i64 (24 + 24 * (i : Int) + 2) = 26 + 24 * (i : Int) := by rw [wi] <;> omega
    have e3 : IntKind.wrap .i64 (24 + 24 * (i : Int) + 16) = 40 + 24 * (i : Int) := by rw [wi] <;> omega
    have e5 : IntKind.wrap .i64 ((i : Int) + 1) = (i : Int) + 1 := by rw [wi] <;> omega
    have hbi := bS_range s i
    have e6 : IntKind.wrap .i64 (bt s (26 + 24 * (i : Int))) = bS s i := wi (by unfold bS at hbi; omega) (by unfold bS at hbi; omega)
    have hlit : fields_Little.f (K + 70) s (40 + 24 * (i : Int)) 8 = some (kS s i, true) := (fields_Little.is s _ 8 (K + 61) (by omega) (by omega) (by omega)).trans (by rw [if_pos (by omega)]; rfl)
    have j1 : ∀ x, x = firstAt (bS s) (i + 1) → nresv_Reported.j1 (K + 70) s (nresv_Reported.l0 (K + 70) s (le s 0 4, true) ((manyS s : Int), true) (m + 1 + j)) (regsOf (kS s) i) (strOfNums (hdrL (le s 0 4) (bt s 4) (manyS s) (bt s 9) ++ rowsL (bS s) (kS s) i)) (cntB (bS s) i) (i : Int) (kS s i, true) x = some (toldR s) := by
      intro x hx
      unfold nresv_Reported.j1
      rw [e0, e1, e2, e5, e6, asrt_pos (by rw [regsOf_length]; simp; omega), show nresv_entry.f (K + 70) ((i : Int) + 1) (bS s i) (kS s i) = some (strOfNums (entL ((i : Int) + 1) (bS s i) (kS s i))) from nresv_entry.is _ _ _ (by omega) hbi (kS_range s i) K, Option.bind_some, asrt_pos]
      · by_cases c : bS s i > 1
        · rw [if_pos c, toldR_not s fun h => by have := h.bits i hi; omega]; rfl
        · rw [if_neg c]
          have hmn := mn2 hbi.1
          have ec : IntKind.wrap .i64 (cntB (bS s) i + mn (bS s i) 2) = cntB (bS s) (i + 1) := by
            have a1 := cnt_le (bS s) hb i hbits
            have a2 : 0 ≤ cntB (bS s) i := by
              rcases first_cases (bS s) hb i with ⟨_, _, q, _⟩ | ⟨f, _, _, _, _, q⟩ <;> omega
            rw [wi (by omega) (by omega)]; rfl
          rw [ec, nums_append, List.append_assoc, hx]
          exact ih fun q hq => by
            by_cases e : q = i
            · subst e; omega
            · exact hbits q (by omega)
      · rw [strOfNums_size, strOfNums_size, List.length_append, hdrL_length, rowsL_length, entL_length]; omega
    rw [show m + 1 + 1 + j = (m + 1 + j) + 1 by omega, nresv_Reported.l0]
    unfold nresv_Reported.b0
    rw [hw, if_pos (by omega), e0, e1, e2, e3, hlit, Option.bind_some, asrt_pos (by omega), asrt_pos (by omega), e6]
    by_cases c : bS s i > 0
    · rw [if_pos c]
      by_cases c' : firstAt (bS s) i < 0
      · rw [if_pos c']; exact j1 _ (by rw [firstAt, if_pos ⟨c', c⟩])
      · rw [if_neg c']; exact j1 _ (by rw [firstAt, if_neg (fun h => c' h.1)])
    · rw [if_neg c]; exact j1 _ (by rw [firstAt, if_neg (fun h => c h.2)])

theorem nresv_Reported.is (s : ByteArray) (hs : (s.size : Int) ≤ 1000000) (K : Nat) : nresv_Reported.f (K + 70) s = some (toldR s) := by
  have l0 : fields_Little.f (K + 70) s 0 4 = some (if (0 : Int) ≤ 0 ∧ (0 : Int) + 4 ≤ s.size then (le s 0 4, true) else (0, false)) := fields_Little.is s 0 4 (K + 61) (by omega) (by omega) (by omega)
  have l5 : fields_Little.f (K + 70) s 5 2 = some (if (0 : Int) ≤ 5 ∧ (5 : Int) + 2 ≤ s.size then (le s 5 2, true) else (0, false)) := fields_Little.is s 5 2 (K + 61) (by omega) (by omega) (by omega)
  unfold nresv_Reported.f
  rw [l0, Option.bind_some, l5, Option.bind_some]
  by_cases h4 : 4 ≤ s.size
  case neg =>
    rw [if_neg (by omega : ¬ ((0 : Int) ≤ 0 ∧ (0 : Int) + 4 ≤ s.size)), if_neg (by simp), reported_none, toldR_not s fun h => by have := h.size; omega]
  rw [if_pos (by omega : (0 : Int) ≤ 0 ∧ (0 : Int) + 4 ≤ s.size), if_pos rfl]
  by_cases h7 : 7 ≤ s.size
  case neg =>
    rw [if_neg (by omega : ¬ ((0 : Int) ≤ 5 ∧ (5 : Int) + 2 ≤ s.size)), if_neg (by simp), reported_none, toldR_not s fun h => by have := h.size; omega]
  rw [if_pos (by omega : (0 : Int) ≤ 5 ∧ (5 : Int) + 2 ≤ s.size), if_pos rfl, many_val]
  by_cases hn : manyS s ≤ 16
  case neg => rw [if_pos (by simp only; omega), reported_none, toldR_not s fun h => hn h.many]
  rw [if_neg (by simp only; omega)]
  have ew : IntKind.wrap .i64 (24 + IntKind.wrap .i64 (24 * IntKind.wrap .i64 (manyS s : Int))) = 24 + 24 * (manyS s : Int) := by
    rw [wi (n := (manyS s : Int)) (by omega) (by omega), wi (n := 24 * (manyS s : Int)) (by omega) (by omega), wi (by omega) (by omega)]
  simp only [ew]
  by_cases hz : s.size = 24 + 24 * manyS s
  case neg =>
    rw [show ((s.size : Int) != 24 + 24 * (manyS s : Int)) = true by simp; omega, reported_none, toldR_not s fun h => hz h.size]
  rw [show ((s.size : Int) != 24 + 24 * (manyS s : Int)) = false by simp; omega]
  unfold nresv_Reported.j0
  have h4l := bt_lo s 4; have h4h := bt_hi s 4; have h9l := bt_lo s 9; have h9h := bt_hi s 9
  have hg := gen_range s
  rw [if_neg (by simp), asrt_pos (by omega), asrt_pos (by omega)]
  simp only
  rw [show IntKind.wrap .u32 (le s 0 4) = le s 0 4 by rw [wrapu32]; omega, wi (n := bt s 4) (by omega) (by omega), wi (n := bt s 9) (by omega) (by omega), wi (n := (manyS s : Int)) (by omega) (by omega),
    nresv_header.is _ _ _ _ hg ⟨h4l, h4h⟩ (by omega) ⟨h9l, h9h⟩ K, Option.bind_some]
  have := reported_loop s hs hn hz K (manyS s) (K + 69 - manyS s) (Nat.le_refl _) (fun i hi => by omega)
  rw [show manyS s + 1 + (K + 69 - manyS s) = K + 70 by omega, Nat.sub_self] at this
  simpa [regsOf, firstAt, cntB, rowsL] using this

end Go.Proofs.YthjjbkgifelooaaDoor.F
