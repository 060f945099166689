/- Ranges and lists of ranges (layer 17): the program's. No condition. -/
import Derived.Test.YtccmdlbdpapigaaUInq
import Derived.Test.YtccmdlbdpapigaaF15
import Derived.Test.YtccmdlbdpapigaaF15
import Derived.Test.YtccmdlbdpapigaaF15
import Derived.Test.YtccmdlbdpapigaaF15
namespace Go.Proofs.Ytccmdlbdpapigaa.F
open Go Go.RowKit Go.Proofs.Ytccmdlbdpapigaa.X
open Classical
set_option linter.unusedVariables false
set_option linter.unusedSimpArgs false
theorem rdL_nth {α : Type} (d : α) (xs : List α) (i : Nat) (h : i < xs.length) : rdL d xs (i : Int) = xs[i] := by
  unfold rdL
  rw [List.getD_eq_getElem?_getD, Int.toNat_natCast, List.getElem?_eq_getElem h]; rfl
def okR (r : T_api_Range) : Prop := 0 ≤ r.f0 ∧ r.f0 < 2147483648 ∧ 0 ≤ r.f1 ∧ r.f1 < 4294967296
def rangeL (r : T_api_Range) : List Int := beB r.f0 8 ++ beB r.f1 4 ++ [0, 0, 0, 0]
def headL (n : Nat) : List Int := beB (6 + 16 * (n : Int)) 2 ++ beB (16 * (n : Int)) 2 ++ [0, 0, 0, 0]
def layR (l : List T_api_Range) : List Int := headL l.length ++ l.flatMap rangeL
noncomputable def unmapR (l : List T_api_Range) : ByteArray × Int := if l.length ≤ 16 ∧ ∀ r ∈ l, okR r then (strOfNums (layR l), 0) else (⟨#[]⟩, 180)
theorem rangeL_length (r : T_api_Range) : (rangeL r).length = 16 := by simp [rangeL, beB_length]
theorem headL_length (n : Nat) : (headL n).length = 8 := by simp [headL, beB_length]
theorem flat_length (l : List T_api_Range) : (l.flatMap rangeL).length = 16 * l.length := by
  induction l with
  | nil => rfl
  | cons r l ih => rw [List.flatMap_cons, List.length_append, ih, rangeL_length, List.length_cons]; omega
theorem put8 (v : Int) (h0 : 0 ≤ v) (h1 : v < 18446744073709551616) : fields_PutBig.f 300 (IntKind.wrap .u64 v) 8 = some (strOfNums (beB v 8)) := by
  rw [wu64 h0 h1]; exact fields_PutBig.is v h0 8 291 (by omega) (by omega)
theorem put2 (v : Int) (h0 : 0 ≤ v) (h1 : v < 18446744073709551616) : fields_PutBig.f 300 (IntKind.wrap .u64 v) 2 = some (strOfNums (beB v 2)) := by
  rw [wu64 h0 h1]; exact fields_PutBig.is v h0 2 291 (by omega) (by omega)
theorem word4 (v : Int) (h0 : 0 ≤ v) (h1 : v < 18446744073709551616) : inquiry_words.f 300 v = some (strOfNums (beB v 4)) := words_is v h0 h1 291
theorem drop_one {α : Type} (l : List α) (m : Nat) (h : m + 1 ≤ l.length) : ∃ x, l[l.length - (m + 1)]'(by omega) = x ∧ l.drop (l.length - (m + 1)) = x :: l.drop (l.length - m) := by
  refine ⟨_, rfl, ?_⟩
  rw [List.drop_eq_getElem_cons (by omega)]
  congr 2; omega
theorem unmap_loop (l : List T_api_Range) (hl : l.length ≤ 16) : ∀ (m j : Nat), m ≤ l.length → ∀ H : List Int, H.length + 16 * m ≤ 10000 →
    inquiry_Unmap.l0 300 l (m + 1 + j) (strOfNums H) ((l.length : Int) - m) = some (if ∀ r ∈ l.drop (l.length - m), okR r then (strOfNums (H ++ (l.drop (l.length - m)).flatMap rangeL), 0) else (⟨#[]⟩, 180)) := by
  intro m
  induction m with
  | zero =>
    intro j h H hH
    rw [show 0 + 1 + j = j + 1 by omega, inquiry_Unmap.l0]
    unfold inquiry_Unmap.b0
    rw [if_neg (by omega), Nat.sub_zero, List.drop_length, if_pos (by simp)]
    simp
  | succ m ih =>
    intro j h H hH
    have e1 : IntKind.wrap .i64 ((l.length : Int) - ((m + 1 : Nat) : Int) + 1) = (l.length : Int) - m := by rw [wi] <;> omega
    have e2 : (l.length : Int) - ((m + 1 : Nat) : Int) = ((l.length - (m + 1) : Nat) : Int) := by omega
    obtain ⟨r, hr, hd⟩ := drop_one l m h
    rw [show m + 1 + 1 + j = (m + 1 + j) + 1 by omega, inquiry_Unmap.l0]
    unfold inquiry_Unmap.b0
    rw [if_pos (by omega), asrt_pos (by omega), e1, e2, rdL_nth _ _ _ (by omega), hr, hd]
    by_cases h0 : r.f0 < 0
    · rw [if_pos h0, if_neg (fun g => by have := (g r (by simp)).1; omega)]
    rw [if_neg h0]
    by_cases h1 : r.f0 ≥ 2147483648
    · rw [if_pos h1, if_neg (fun g => by have := (g r (by simp)).2.1; omega)]
    rw [if_neg h1]
    by_cases h2 : r.f1 < 0
    · rw [if_pos h2, if_neg (fun g => by have := (g r (by simp)).2.2.1; omega)]
    rw [if_neg h2]
    by_cases h3 : r.f1 ≥ 4294967296
    · rw [if_pos h3, if_neg (fun g => by have := (g r (by simp)).2.2.2; omega)]
    rw [if_neg h3]
    have hok : okR r := ⟨by omega, by omega, by omega, by omega⟩
    rw [put8 _ (by omega) (by omega), Option.bind_some, word4 _ (by omega) (by omega), Option.bind_some, asrt_pos (by rw [strOfNums_size, strOfNums_size, beB_length, beB_length]; omega), word4 0 (by omega) (by omega), Option.bind_some, nums_append,
      asrt_pos (by rw [strOfNums_size, strOfNums_size]; simp [beB_length]), nums_append, asrt_pos (by rw [strOfNums_size, strOfNums_size]; simp [beB_length]; omega), nums_append, beB0, show beB r.f0 8 ++ beB r.f1 4 ++ [0, 0, 0, 0] = rangeL r from rfl,
      ih j (by omega) (H ++ rangeL r) (by rw [List.length_append, rangeL_length]; omega)]
    congr 1
    by_cases g : ∀ r ∈ l.drop (l.length - m), okR r
    · rw [if_pos g, if_pos (by intro y hy; rcases List.mem_cons.1 hy with rfl | hy; exact hok; exact g y hy), List.flatMap_cons, List.append_assoc]
    · rw [if_neg g, if_neg (fun q => g fun y hy => q y (List.mem_cons_of_mem _ hy))]
theorem inquiry_Unmap.is (l : List T_api_Range) (hl : l.length ≤ 1000) : inquiry_Unmap.f 300 l = some (unmapR l) := by
  unfold inquiry_Unmap.f unmapR
  by_cases h : (l.length : Int) > 16
  · rw [if_pos h, if_neg (by omega)]
  · have w1 : IntKind.wrap .i64 (16 * (l.length : Int)) = 16 * (l.length : Int) := by rw [wi] <;> omega
    have w2 : IntKind.wrap .i64 (6 + 16 * (l.length : Int)) = 6 + 16 * (l.length : Int) := by rw [wi] <;> omega
    rw [if_neg h, w1, w2, put2 _ (by omega) (by omega), Option.bind_some, put2 _ (by omega) (by omega), Option.bind_some, asrt_pos (by rw [strOfNums_size, strOfNums_size, beB_length, beB_length]; omega), word4 0 (by omega) (by omega), Option.bind_some, nums_append,
      asrt_pos (by rw [strOfNums_size, strOfNums_size]; simp [beB_length]), nums_append, beB0]
    have := unmap_loop l (by omega) l.length (300 - (l.length + 1)) (Nat.le_refl _) (headL l.length) (by rw [headL_length]; omega)
    rw [show l.length + 1 + (300 - (l.length + 1)) = 300 by omega, Nat.sub_self, Int.sub_self, List.drop_zero] at this
    rw [show inquiry_Unmap.l0 300 l 300 (strOfNums (beB (6 + 16 * (l.length : Int)) 2 ++ beB (16 * (l.length : Int)) 2 ++ [0, 0, 0, 0])) 0 = _ from this]
    congr 1
    by_cases g : ∀ r ∈ l, okR r
    · rw [if_pos g, if_pos ⟨by omega, g⟩]; rfl
    · rw [if_neg g, if_neg (fun q => g q.2)]

def rowsR (s : ByteArray) : Nat → Int → List T_api_Range
  | 0, _ => []
  | m + 1, p => ⟨be s p 8, be s (p + 8) 4⟩ :: rowsR s m (p + 16)
theorem rowsR_length (s : ByteArray) : ∀ (m : Nat) (p : Int), (rowsR s m p).length = m
  | 0, _ => rfl
  | m + 1, p => by rw [rowsR, List.length_cons, rowsR_length]
noncomputable def finR (s : ByteArray) (k : List T_api_Range) : List T_api_Range × Int := if unmapR k = (s, 0) then (k, 0) else ([], 180)
theorem finR_bad (s : ByteArray) (k : List T_api_Range) (r : T_api_Range) (hr : r ∈ k) (h : r.f0 ≥ 2147483648) : finR s k = ([], 180) := by
  unfold finR unmapR
  rw [if_neg (show ¬ (k.length ≤ 16 ∧ ∀ r ∈ k, okR r) from fun g => by have := (g.2 r hr).2.1; omega), if_neg (fun e => by have := (Prod.mk.inj e).2; omega)]
theorem be4_bound (s : ByteArray) (p : Int) : 0 ≤ be s p 4 ∧ be s p 4 < 4294967296 := by
  simp only [be]
  have := bt_lo s (p + ((0 : Nat) : Int)); have := bt_hi s (p + ((0 : Nat) : Int))
  have := bt_lo s (p + ((1 : Nat) : Int)); have := bt_hi s (p + ((1 : Nat) : Int))
  have := bt_lo s (p + ((2 : Nat) : Int)); have := bt_hi s (p + ((2 : Nat) : Int))
  have := bt_lo s (p + ((3 : Nat) : Int)); have := bt_hi s (p + ((3 : Nat) : Int))
  omega
theorem be8_low (s : ByteArray) (p : Int) : 0 ≤ be s p 8 := by
  simp only [be]
  have := bt_lo s (p + ((0 : Nat) : Int))
  have := bt_lo s (p + ((1 : Nat) : Int))
  have := bt_lo s (p + ((2 : Nat) : Int))
  have := bt_lo s (p + ((3 : Nat) : Int))
  have := bt_lo s (p + ((4 : Nat) : Int))
  have := bt_lo s (p + ((5 : Nat) : Int))
  have := bt_lo s (p + ((6 : Nat) : Int))
  have := bt_lo s (p + ((7 : Nat) : Int))
  omega
theorem ranges_loop (s : ByteArray) (hs : s.size ≤ 1000) : ∀ (m j : Nat) (p : Int) (acc : List T_api_Range), 0 ≤ p → p + 16 * m = s.size → acc.length + m ≤ 1000 →
    inquiry_Ranges.l0 300 s (m + 1 + j) acc p = some (finR s (acc ++ rowsR s m p)) := by
  intro m
  induction m with
  | zero =>
    intro j p acc h0 hp ha
    rw [show 0 + 1 + j = j + 1 by omega, inquiry_Ranges.l0]
    unfold inquiry_Ranges.b0
    rw [if_neg (by omega), inquiry_Unmap.is acc (by omega), Option.bind_some]
    unfold rowsR finR
    rw [List.append_nil]
    by_cases h1 : (unmapR acc).2 = 0
    · rw [if_pos h1]
      by_cases h2 : (unmapR acc).1 = s
      · rw [if_pos h2, if_pos (Prod.ext h2 h1)]
      · rw [if_neg h2, if_neg (fun e => h2 (by rw [e]))]
    · rw [if_neg h1, if_neg (fun e => h1 (by rw [e]))]
  | succ m ih =>
    intro j p acc h0 hp ha
    rw [show m + 1 + 1 + j = (m + 1 + j) + 1 by omega, inquiry_Ranges.l0]
    unfold inquiry_Ranges.b0
    have b8 : fields_Big.f 300 s p 8 = _ := fields_Big.is s p 8 291 (by omega) (by omega) (by omega)
    have b4 : fields_Big.f 300 s (p + 8) 4 = _ := fields_Big.is s (p + 8) 4 291 (by omega) (by omega) (by omega)
    rw [if_pos (by omega), b8, Option.bind_some, wi (by omega) (by omega), b4, Option.bind_some, if_pos (show 0 ≤ p ∧ p + ((8 : Nat) : Int) ≤ (s.size : Int) by omega), if_pos (show 0 ≤ p + 8 ∧ p + 8 + ((4 : Nat) : Int) ≤ (s.size : Int) by omega)]
    dsimp only
    have q4 := be4_bound s (p + 8)
    have q8 := be8_low s p
    by_cases hb : be s p 8 ≥ 2147483648
    · rw [if_pos hb, finR_bad s _ ⟨be s p 8, be s (p + 8) 4⟩ (by rw [rowsR]; simp) hb]
    · rw [if_neg hb, asrt_pos (by simp; omega), wi (by omega) (by omega), wi (by omega) (by omega), wi (by omega) (by omega), ih j (p + 16) _ (by omega) (by omega) (by simp; omega), rowsR, List.append_assoc]
      rfl
noncomputable def rangesR (s : ByteArray) : List T_api_Range × Int := if 8 ≤ s.size ∧ (s.size - 8) % 16 = 0 ∧ (s.size - 8) / 16 ≤ 16 then finR s (rowsR s ((s.size - 8) / 16) 8) else ([], 180)
theorem inquiry_Ranges.is (s : ByteArray) (hs : s.size ≤ 5000) : inquiry_Ranges.f 300 s = some (rangesR s) := by
  unfold inquiry_Ranges.f rangesR
  by_cases h0 : (s.size : Int) < 8
  · rw [if_pos h0, if_neg (by omega)]
  rw [if_neg h0, wi (by omega) (by omega), Int.tmod_eq_emod_of_nonneg (by omega), Int.tdiv_eq_ediv_of_nonneg (by omega)]
  by_cases h1 : ((s.size : Int) - 8) % 16 = 0
  · rw [if_pos h1, wi (by omega) (by omega)]
    by_cases h2 : ((s.size : Int) - 8) / 16 > 16
    · rw [if_pos h2, if_neg (by omega)]
    · rw [if_neg h2, if_pos (by omega)]
      have := ranges_loop s (by omega) ((s.size - 8) / 16) (300 - ((s.size - 8) / 16 + 1)) 8 [] (by omega) (by omega) (by simp; omega)
      rw [show (s.size - 8) / 16 + 1 + (300 - ((s.size - 8) / 16 + 1)) = 300 by omega] at this
      exact this
  · rw [if_neg h1, if_neg (by omega)]
theorem same_loop (l : List T_api_Range) : ∀ (m j : Nat), m ≤ l.length → l.length ≤ 1000 → headgatekeep_Ranges.l0 300 l l (m + 1 + j) ((l.length : Int) - m) = some true := by
  intro m
  induction m with
  | zero =>
    intro j h hl
    rw [show 0 + 1 + j = j + 1 by omega, headgatekeep_Ranges.l0]
    unfold headgatekeep_Ranges.b0
    rw [if_neg (by omega)]
  | succ m ih =>
    intro j h hl
    rw [show m + 1 + 1 + j = (m + 1 + j) + 1 by omega, headgatekeep_Ranges.l0]
    unfold headgatekeep_Ranges.b0
    have e1 : IntKind.wrap .i64 ((l.length : Int) - ((m + 1 : Nat) : Int) + 1) = (l.length : Int) - m := by rw [wi] <;> omega
    rw [if_pos (by omega), asrt_pos (by omega), asrt_pos (by omega), if_pos rfl, if_pos rfl, e1]
    exact ih j (by omega) hl
theorem headgatekeep_Ranges.is (l : List T_api_Range) (hl : l.length ≤ 200) : headgatekeep_Ranges.f 300 l l = some true := by
  unfold headgatekeep_Ranges.f
  rw [if_pos rfl]
  have := same_loop l l.length (300 - (l.length + 1)) (Nat.le_refl _) (by omega)
  rw [show l.length + 1 + (300 - (l.length + 1)) = 300 by omega, Int.sub_self] at this
  exact this
theorem headgatekeep_CopyRanges.is (l : List T_api_Range) (hl : l.length ≤ 200) : headgatekeep_CopyRanges.f l = some l := by
  unfold headgatekeep_CopyRanges.f
  rw [asrt_pos (by simp; omega)]; rfl
theorem finR_cases (s : ByteArray) (k : List T_api_Range) : finR s k = ([], 180) ∨ (unmapR k = (s, 0) ∧ finR s k = (k, 0)) := by
  unfold finR
  by_cases h : unmapR k = (s, 0)
  · rw [if_pos h]; exact Or.inr ⟨h, rfl⟩
  · rw [if_neg h]; exact Or.inl rfl
theorem rangesR_cases (s : ByteArray) : rangesR s = ([], 180) ∨ ∃ k, unmapR k = (s, 0) ∧ rangesR s = (k, 0) ∧ k.length ≤ 16 := by
  unfold rangesR
  by_cases h : 8 ≤ s.size ∧ (s.size - 8) % 16 = 0 ∧ (s.size - 8) / 16 ≤ 16
  · rw [if_pos h]
    rcases finR_cases s (rowsR s ((s.size - 8) / 16) 8) with g | ⟨g1, g2⟩
    · exact Or.inl g
    · exact Or.inr ⟨_, g1, g2, by rw [rowsR_length]; omega⟩
  · rw [if_neg h]; exact Or.inl rfl
end Go.Proofs.Ytccmdlbdpapigaa.F
