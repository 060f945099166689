/- What a report says (layer 27): the document's answer is the program's. No condition. -/
import Derived.Test.YthjjbkgifelooaaDoorUNresvReported
import Derived.Test.YthjjbkgifelooaaDoorF16
namespace Go.Proofs.YthjjbkgifelooaaDoor.F
open Go Go.RowKit Go.Proofs.YthjjbkgifelooaaDoor.X
open Classical
set_option linter.unusedVariables false
set_option linter.unusedSimpArgs false

def hostN (i : Nat) : ByteArray := strOfNums [97 + (i : Int)]
theorem hostN_inj {i j : Nat} (hi : i < 16) (hj : j < 16) : hostN i = hostN j ↔ i = j := by
  unfold hostN
  rw [nums_inj (inB_cons (by omega) inB_nil) (inB_cons (by omega) inB_nil)]
  simp; omega
theorem hostN_empty (i : Nat) : hostN i ≠ ⟨#[]⟩ := fun h => by
  have := (size0 _).1 h
  unfold hostN at this
  rw [strOfNums_size] at this
  simp at this
def usOf (k : Nat → Int) : Nat → List T_api_Reg
  | 0 => []
  | n + 1 => usOf k n ++ [⟨hostN n, k n⟩]
theorem usOf_length (k : Nat → Int) : ∀ n, (usOf k n).length = n
  | 0 => rfl
  | n + 1 => by rw [usOf, List.length_append, usOf_length k n]; rfl
theorem usOf_get (k : Nat → Int) : ∀ n j, j < n → (usOf k n).getD j T_api_Reg.z = ⟨hostN j, k j⟩
  | 0, j, h => by omega
  | n + 1, j, h => by
    rw [usOf, List.getD_eq_getElem?_getD]
    by_cases e : j < n
    · rw [List.getElem?_append_left (by rw [usOf_length]; exact e), ← List.getD_eq_getElem?_getD, usOf_get k n j e]
    · have : j = n := by omega
      subst this
      rw [List.getElem?_append_right (by rw [usOf_length]; omega), usOf_length, Nat.sub_self]; rfl
theorem usOf_mem (k : Nat → Int) (r : T_api_Reg) : ∀ n, r ∈ usOf k n → ∃ j, j < n ∧ r = ⟨hostN j, k j⟩
  | 0, h => by simp [usOf] at h
  | n + 1, h => by
    rcases List.mem_append.1 h with h | h
    · obtain ⟨j, h1, h2⟩ := usOf_mem k r n h
      exact ⟨j, by omega, h2⟩
    · exact ⟨n, by omega, by simpa using h⟩
theorem usOf_has (k : Nat → Int) : ∀ n j, j < n → (⟨hostN j, k j⟩ : T_api_Reg) ∈ usOf k n
  | 0, j, h => by omega
  | n + 1, j, h => by
    rw [usOf]
    by_cases e : j < n
    · exact List.mem_append_left _ (usOf_has k n j e)
    · have : j = n := by omega
      subst this
      exact List.mem_append_right _ (by simp)
def hhOf (b : Nat → Int) : Nat → ByteArray
  | 0 => ⟨#[]⟩
  | n + 1 => if firstAt b n < 0 ∧ 0 < b n then hostN n else hhOf b n
theorem hh_cases (b : Nat → Int) (hb : ∀ j, 0 ≤ b j) : ∀ n, (firstAt b n = -1 ∧ hhOf b n = ⟨#[]⟩) ∨ (∃ f : Nat, f < n ∧ firstAt b n = f ∧ hhOf b n = hostN f)
  | 0 => Or.inl ⟨rfl, rfl⟩
  | n + 1 => by
    rw [firstAt, hhOf]
    by_cases c : firstAt b n < 0 ∧ 0 < b n
    · rw [if_pos c, if_pos c]; exact Or.inr ⟨n, by omega, rfl, rfl⟩
    · rw [if_neg c, if_neg c]
      rcases hh_cases b hb n with h | ⟨f, h0, h1, h2⟩
      · exact Or.inl h
      · exact Or.inr ⟨f, by omega, h1, h2⟩

def uS (s : ByteArray) : T_api_Table := ⟨usOf (kS s) (manyS s), ⟨bt s 4, hhOf (bS s) (manyS s)⟩, le s 0 4, bt s 9 == 1⟩
theorem uS_ok (s : ByteArray) (hn : manyS s ≤ 16) : (uS s).ok := by
  have h0 := bt_lo s 4
  have h1 := bt_hi s 4
  refine ⟨⟨by unfold uS; simp only [usOf_length]; omega, fun r hr => ?_⟩, ⟨by unfold uS; simp only; omega, ?_⟩, gen_range s, trivial⟩
  · obtain ⟨j, _, rfl⟩ := usOf_mem _ _ _ hr
    exact ⟨by simp only [hostN, strOfNums_size]; simp, kS_range s j⟩
  · unfold uS
    simp only
    rcases hh_cases (bS s) (fun j => (bS_range s j).1) (manyS s) with ⟨_, h⟩ | ⟨f, _, _, h⟩
    · rw [h]; decide
    · rw [h]; simp only [hostN, strOfNums_size]; simp
/-- What the bits must be. -/
def eB (s : ByteArray) (j : Nat) : Int := if bt s 4 = 0 then 0 else if bt s 4 ≤ 4 then (if firstAt (bS s) (manyS s) = (j : Int) then 1 else 0) else 1
theorem uS_h (s : ByteArray) (hn : manyS s ≤ 16) (ht : bt s 4 ≤ 6) (j : Nat) (hj : j < manyS s) : hAt (uS s) j = eB s j := by
  have h0 := bt_lo s 4
  have er : regAt (uS s) j = ⟨hostN j, kS s j⟩ := usOf_get (kS s) (manyS s) j hj
  unfold hAt eB
  rw [er]
  unfold holdsB
  have e1 : (uS s).f1.f0 = bt s 4 := rfl
  have e2 : (uS s).f1.f1 = hhOf (bS s) (manyS s) := rfl
  have e3 : (uS s).f0 = usOf (kS s) (manyS s) := rfl
  rw [e1, e2, e3]
  by_cases c0 : bt s 4 = 0
  · rw [if_pos c0, if_neg (by omega), if_neg (by omega)]; rfl
  rw [if_neg c0]
  by_cases c4 : bt s 4 ≤ 4
  · rw [if_pos (by omega), if_pos c4]
    rcases hh_cases (bS s) (fun j => (bS_range s j).1) (manyS s) with ⟨h, h'⟩ | ⟨f, hf, h, h'⟩
    · rw [h, h', decide_eq_false (hostN_empty j), if_neg (by omega)]; rfl
    · rw [h, h']
      by_cases e : f = j
      · subst e; rw [decide_eq_true rfl, if_pos rfl]; rfl
      · rw [decide_eq_false (fun q => e ((hostN_inj (by omega) (by omega)).1 q).symm), if_neg (by omega)]; rfl
  · rw [if_neg (by omega), if_pos (by omega), if_neg c4, (isReg_iff _ _).2 ⟨_, usOf_has (kS s) (manyS s) j hj, rfl⟩]; rfl
theorem uS_rep (s : ByteArray) (hn : manyS s ≤ 16) (ht : bt s 4 ≤ 6) (ha : bt s 9 ≤ 1) : repL (uS s) = hdrL (le s 0 4) (bt s 4) (manyS s) (bt s 9) ++ rowsL (eB s) (kS s) (manyS s) := by
  have h0 := bt_lo s 4
  have h9 := bt_lo s 9
  have em : manyOf (uS s) = manyS s := by unfold manyOf uS; simp only [usOf_length]; omega
  have et : tyOf (uS s) = bt s 4 := by unfold tyOf uS; simp only; split <;> omega
  have ea : bitI (uS s).f3 = bt s 9 := by
    show bitI (bt s 9 == 1) = bt s 9
    rcases (by omega : bt s 9 = 0 ∨ bt s 9 = 1) with h | h <;> rw [h] <;> rfl
  unfold repL
  rw [em, et, ea]
  rw [rowsL_congr (hAt (uS s)) (eB s) (kAt (uS s)) (kS s) (manyS s) fun j hj => ⟨uS_h s hn ht j hj, by unfold kAt; rw [show regAt (uS s) j = ⟨hostN j, kS s j⟩ from usOf_get (kS s) (manyS s) j hj]⟩]
  rfl
theorem eB_range (s : ByteArray) (j : Nat) : 0 ≤ eB s j ∧ eB s j ≤ 255 := by unfold eB; (repeat' split) <;> omega

/-- The document's condition is the program's. -/
theorem okR_iff (s : ByteArray) (hn : manyS s ≤ 16) (hz : s.size = 24 + 24 * manyS s) (ht : bt s 4 ≤ 6) (ha : bt s 9 ≤ 1) : okR s ↔ strOfNums (repL (uS s)) = s := by
  have hb : ∀ j, 0 ≤ bS s j := fun j => (bS_range s j).1
  have h4 := bt_lo s 4; have h4' := bt_hi s 4; have h9 := bt_lo s 9; have h9' := bt_hi s 9
  rw [uS_rep s hn ht ha]
  have bits : ((∀ j, j < manyS s → bS s j ≤ 1) ∧ cntB (bS s) (manyS s) ≤ mostOf (bt s 4) (manyS s) ∧ (4 < bt s 4 → cntB (bS s) (manyS s) = manyS s)) ↔ ∀ j, j < manyS s → bS s j = eB s j := by
    unfold mostOf eB
    by_cases c0 : bt s 4 = 0
    · simp only [if_pos c0]
      rw [cnt_zero _ hb]
      exact ⟨fun h => h.2.1, fun h => ⟨fun j hj => by have := h j hj; omega, h, fun q => by omega⟩⟩
    simp only [if_neg c0]
    by_cases c4 : bt s 4 ≤ 4
    · simp only [if_pos c4]
      rw [← cnt_one _ hb]
      exact ⟨fun h => ⟨h.1, h.2.1⟩, fun h => ⟨h.1, h.2, fun q => by omega⟩⟩
    · simp only [if_neg c4]
      constructor
      · intro h
        exact (cnt_all _ hb _ h.1).1 (h.2.2 (by omega))
      · intro h
        have h1 : ∀ j, j < manyS s → bS s j ≤ 1 := fun j hj => by have := h j hj; omega
        exact ⟨h1, cnt_le _ hb _ h1, fun _ => (cnt_all _ hb _ h1).2 h⟩
  constructor
  · intro h
    have hq := bits.1 ⟨h.bits, h.most, h.all⟩
    rw [← rowsL_congr (bS s) (eB s) (kS s) (kS s) (manyS s) fun j hj => ⟨hq j hj, rfl⟩]
    exact h.same
  · intro h
    have hin : inB (hdrL (le s 0 4) (bt s 4) (manyS s) (bt s 9) ++ rowsL (eB s) (kS s) (manyS s)) := inB_append (hdrL_in _ _ _ _ ⟨h4, h4'⟩ ⟨h9, h9'⟩) (rowsL_in _ _ (eB_range s) _)
    have hq : ∀ j, j < manyS s → bS s j = eB s j := by
      intro j hj
      have := row_bit (le s 0 4) (bt s 4) (manyS s) (bt s 9) (eB s) (kS s) (manyS s) j hj hin
      rw [h] at this
      exact this
    obtain ⟨b1, b2, b3⟩ := bits.2 hq
    refine ⟨hn, hz, ?_, ha, ht, b1, b2, b3⟩
    unfold sndL
    rw [rowsL_congr (bS s) (eB s) (kS s) (kS s) (manyS s) fun j hj => ⟨hq j hj, rfl⟩]
    exact h

def badT : T_headgateref27_Told × Int := (⟨0, 0, [], 0⟩, 180)
noncomputable def toldT (s : ByteArray) : T_headgateref27_Told × Int := (⟨(toldR s).1, (toldR s).2.1, (toldR s).2.2.1, (toldR s).2.2.2.1⟩, (toldR s).2.2.2.2)
theorem toldT_not (s : ByteArray) (h : ¬ okR s) : toldT s = badT := by unfold toldT; rw [toldR_not s h]; rfl
theorem toldT_yes (s : ByteArray) (h : okR s) : toldT s = (⟨le s 0 4, bt s 4, regsOf (kS s) (manyS s), firstAt (bS s) (manyS s)⟩, 0) := by unfold toldT toldR; rw [if_pos h]

theorem nz_range (b : Nat → Int) : ∀ n, 0 ≤ nzB b n ∧ nzB b n ≤ n
  | 0 => by simp [nzB]
  | n + 1 => by have := nz_range b n; unfold nzB; split <;> omega

theorem refreported_loop (s : ByteArray) (hs : (s.size : Int) ≤ 1000000) (hn : manyS s ≤ 16) (hz : s.size = 24 + 24 * manyS s) (ht : bt s 4 ≤ 6) (ha : bt s 9 ≤ 1) (K : Nat) : ∀ (m j : Nat), m ≤ manyS s →
    headgateref27_Reported.l0 (K + 70) s (le s 0 4, true) ((manyS s : Int), true) (m + 1 + j) (nzB (bS s) (manyS s - m)) ((manyS s - m : Nat) : Int) (usOf (kS s) (manyS s - m)) (hhOf (bS s) (manyS s - m)) (regsOf (kS s) (manyS s - m)) (firstAt (bS s) (manyS s - m)) = some (toldT s) := by
  have hb : ∀ j, 0 ≤ bS s j := fun j => (bS_range s j).1
  have hw : IntKind.wrap .i64 (manyS s : Int) = manyS s := wi (by omega) (by omega)
  have h4 := bt_lo s 4
  have h4' := bt_hi s 4
  have e4 : IntKind.wrap .i64 (bt s 4) = bt s 4 := wi (by omega) (by omega)
  have hg := gen_range s
  have eg : IntKind.wrap .u32 (le s 0 4) = le s 0 4 := by rw [wrapu32]; omega
  intro m
  induction m with
  | zero =>
    intro j _
    rw [Nat.sub_zero, show 0 + 1 + j = j + 1 by omega, headgateref27_Reported.l0]
    unfold headgateref27_Reported.b0
    simp only
    rw [hw, if_neg (by omega), e4, eg, show (⟨usOf (kS s) (manyS s), ⟨bt s 4, hhOf (bS s) (manyS s)⟩, le s 0 4, bt s 9 == 1⟩ : T_api_Table) = uS s from rfl, show headgateref27_Report.f (K + 70) (uS s) = some (strOfNums (repL (uS s))) from headgateref27_Report.is (uS s) (uS_ok s hn) (by unfold uS; simp only [usOf_length]; omega) K (by unfold uS; simp only [usOf_length]; omega), Option.bind_some]
    have hiff := okR_iff s hn hz ht ha
    by_cases c : strOfNums (repL (uS s)) = s
    · have hok := hiff.2 c
      rw [if_pos c, toldT_yes s hok]
      by_cases c0 : bt s 4 = 0
      · rw [if_pos c0, if_neg]
        have hm := hok.most
        unfold mostOf at hm
        rw [if_pos c0, cnt_zero _ hb] at hm
        rcases first_cases (bS s) hb (manyS s) with ⟨_, _, _, q⟩ | ⟨f, q0, _, q1, _⟩
        · omega
        · have := hm f q0; omega
      · rw [if_neg c0]
    · rw [if_neg c, toldT_not s fun h => c (hiff.1 h)]; rfl
  | succ m ih =>
    intro j hm
    have ih := ih j (by omega)
    have hi : manyS s - (m + 1) < manyS s := by omega
    rw [show manyS s - m = (manyS s - (m + 1)) + 1 by omega] at ih
    generalize manyS s - (m + 1) = i at hi ih
    rw [show ((i + 1 : Nat) : Int) = (i : Int) + 1 by omega] at ih
    have e0 : IntKind.wrap .i64 (24 * (i : Int)) = 24 * (i : Int) := wi (by omega) (by omega)
    have e1 : IntKind.wrap .i64 (40 + 24 * (i : Int)) = 40 + 24 * (i : Int) := wi (by omega) (by omega)
    have e2 : IntKind.wrap .i64 (26 + 24 * (i : Int)) = 26 + 24 * (i : Int) := wi (by omega) (by omega)
    have e5 : IntKind.wrap .i64 ((i : Int) + 1) = (i : Int) + 1 := by rw [wi] <;> omega
    have e6 : strOfNums [IntKind.wrap .u8 (IntKind.wrap .i64 (97 + (i : Int)))] = hostN i := by
      unfold hostN
      rw [wi (by omega) (by omega), show IntKind.wrap .u8 (97 + (i : Int)) = 97 + (i : Int) by rw [wrapu8]; omega]
    have hnz := nz_range (bS s) i
    have e7 : IntKind.wrap .i64 (nzB (bS s) i + 1) = nzB (bS s) i + 1 := by rw [wi] <;> omega
    have hbi := bS_range s i
    have hlit : headgateref01_Little.f (K + 70) s (40 + 24 * (i : Int)) 8 = some (kS s i, true) := (headgateref01_Little.is s _ 8 (K + 61) (by omega) (by omega) (by omega)).trans (by rw [if_pos (by omega)]; rfl)
    have u1 : usOf (kS s) i ++ [⟨hostN i, kS s i⟩] = usOf (kS s) (i + 1) := rfl
    have r1 : regsOf (kS s) i ++ [⟨⟨#[]⟩, kS s i⟩] = regsOf (kS s) (i + 1) := rfl
    have hr : rdL T_api_Reg.z (usOf (kS s) (i + 1)) (i : Int) = ⟨hostN i, kS s i⟩ := by unfold rdL; rw [Int.toNat_natCast]; exact usOf_get _ _ _ (by omega)
    have bdef : bt s (26 + 24 * (i : Int)) = bS s i := rfl
    rw [show m + 1 + 1 + j = (m + 1 + j) + 1 by omega, headgateref27_Reported.l0]
    unfold headgateref27_Reported.b0
    simp only
    rw [hw, if_pos (by omega), e0, e1, e2, e5, e6, e7, hlit, Option.bind_some, asrt_pos (by rw [regsOf_length]; simp; omega), asrt_pos (by rw [usOf_length]; simp; omega), asrt_pos (by omega), asrt_pos (by omega), bdef]
    simp only [u1, r1, hr]
    by_cases c : bS s i = 0
    · rw [if_pos c]
      have f1 : firstAt (bS s) (i + 1) = firstAt (bS s) i := by rw [firstAt, if_neg (by omega)]
      have f2 : hhOf (bS s) (i + 1) = hhOf (bS s) i := by rw [hhOf, if_neg (by omega)]
      have f3 : nzB (bS s) (i + 1) = nzB (bS s) i := by rw [nzB, if_pos c]
      rw [f1, f2, f3] at ih
      exact ih
    · rw [if_neg c]
      have f3 : nzB (bS s) (i + 1) = nzB (bS s) i + 1 := by rw [nzB, if_neg c]
      by_cases c' : firstAt (bS s) i < 0
      · have f1 : firstAt (bS s) (i + 1) = i := by rw [firstAt, if_pos ⟨c', by omega⟩]
        have f2 : hhOf (bS s) (i + 1) = hostN i := by rw [hhOf, if_pos ⟨c', by omega⟩]
        rw [f1, f2, f3] at ih
        rw [if_pos c', asrt_pos (by omega), asrt_pos (by rw [usOf_length]; omega)]
        exact ih
      · have f1 : firstAt (bS s) (i + 1) = firstAt (bS s) i := by rw [firstAt, if_neg (by omega)]
        have f2 : hhOf (bS s) (i + 1) = hhOf (bS s) i := by rw [hhOf, if_neg (by omega)]
        rw [f1, f2, f3] at ih
        rw [if_neg c']
        exact ih

theorem headgateref27_Reported.is (s : ByteArray) (hs : (s.size : Int) ≤ 1000000) (K : Nat) : headgateref27_Reported.f (K + 70) s = some (toldT s) := by
  have l0 : headgateref01_Little.f (K + 70) s 0 4 = some (if (0 : Int) ≤ 0 ∧ (0 : Int) + 4 ≤ s.size then (le s 0 4, true) else (0, false)) := headgateref01_Little.is s 0 4 (K + 61) (by omega) (by omega) (by omega)
  have l5 : headgateref01_Little.f (K + 70) s 5 2 = some (if (0 : Int) ≤ 5 ∧ (5 : Int) + 2 ≤ s.size then (le s 5 2, true) else (0, false)) := headgateref01_Little.is s 5 2 (K + 61) (by omega) (by omega) (by omega)
  unfold headgateref27_Reported.f
  by_cases h24 : s.size < 24
  · rw [if_pos (by omega), toldT_not s fun h => by have := h.size; omega]; rfl
  rw [if_neg (by omega), l0, Option.bind_some, l5, Option.bind_some, if_pos (by omega : (0 : Int) ≤ 0 ∧ (0 : Int) + 4 ≤ s.size), if_pos (by omega : (0 : Int) ≤ 5 ∧ (5 : Int) + 2 ≤ s.size), asrt_pos (by omega), many_val]
  simp only
  by_cases hn : manyS s ≤ 16
  case neg => rw [if_pos (by omega), toldT_not s fun h => hn h.many]; rfl
  rw [if_neg (by omega)]
  have ew : IntKind.wrap .i64 (24 + IntKind.wrap .i64 (24 * IntKind.wrap .i64 (manyS s : Int))) = 24 + 24 * (manyS s : Int) := by
    rw [wi (n := (manyS s : Int)) (by omega) (by omega), wi (n := 24 * (manyS s : Int)) (by omega) (by omega), wi (by omega) (by omega)]
  rw [ew]
  by_cases hz : s.size = 24 + 24 * manyS s
  case neg => rw [if_neg (by omega), toldT_not s fun h => hz h.size]; rfl
  have h4l := bt_lo s 4; have h4h := bt_hi s 4; have h9l := bt_lo s 9; have h9h := bt_hi s 9
  rw [if_pos (by omega), wi (n := bt s 4) (by omega) (by omega)]
  by_cases ht : bt s 4 > 6
  · rw [if_pos ht, toldT_not s fun h => by have := h.ty; omega]; rfl
  rw [if_neg ht, asrt_pos (by omega)]
  by_cases ha : bt s 9 > 1
  · rw [if_pos ha, toldT_not s fun h => by have := h.ap; omega]; rfl
  rw [if_neg ha]
  have := refreported_loop s hs hn hz (by omega) (by omega) K (manyS s) (K + 69 - manyS s) (Nat.le_refl _)
  rw [show manyS s + 1 + (K + 69 - manyS s) = K + 70 by omega, Nat.sub_self] at this
  simpa [regsOf, usOf, hhOf, firstAt, nzB] using this

end Go.Proofs.YthjjbkgifelooaaDoor.F
