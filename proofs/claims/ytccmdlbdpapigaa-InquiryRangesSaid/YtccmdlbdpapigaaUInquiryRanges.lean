/- The plain law of headgatelaw17.InquiryRanges: whatever the input, it is true. No condition. -/
import Derived.Test.YtccmdlbdpapigaaUInqRanges
import Derived.Test.YtccmdlbdpapigaaF17
import Derived.Test.YtccmdlbdpapigaaF17
import Derived.Test.YtccmdlbdpapigaaF17
namespace Go.Proofs.Ytccmdlbdpapigaa.F
open Go Go.RowKit Go.Proofs.Ytccmdlbdpapigaa.X
open Classical
set_option linter.unusedVariables false
set_option linter.unusedSimpArgs false
theorem rput8 (v : Int) (h0 : 0 ≤ v) (h1 : v < 18446744073709551616) : headgateref01_PutBig.f 300 (IntKind.wrap .u64 v) 8 = some (strOfNums (beB v 8)) := by
  rw [wu64 h0 h1]; exact headgateref01_PutBig.is v h0 (by omega) 8 291 (by omega) (by omega)
theorem rput4 (v : Int) (h0 : 0 ≤ v) (h1 : v < 18446744073709551616) : headgateref01_PutBig.f 300 (IntKind.wrap .u64 v) 4 = some (strOfNums (beB v 4)) := by
  rw [wu64 h0 h1]; exact headgateref01_PutBig.is v h0 (by omega) 4 291 (by omega) (by omega)
theorem rput2 (v : Int) (h0 : 0 ≤ v) (h1 : v < 18446744073709551616) : headgateref01_PutBig.f 300 (IntKind.wrap .u64 v) 2 = some (strOfNums (beB v 2)) := by
  rw [wu64 h0 h1]; exact headgateref01_PutBig.is v h0 (by omega) 2 291 (by omega) (by omega)
theorem zeros4 : headgateref17_zeros.f 4 = some (strOfNums [0, 0, 0, 0]) := by
  unfold headgateref17_zeros.f
  rw [asrt_pos (by omega), asrt_pos (by omega)]; rfl
theorem runmap_loop (l : List T_api_Range) (hl : l.length ≤ 16) : ∀ (m j : Nat), m ≤ l.length → ∀ H : List Int, H.length + 16 * m ≤ 10000 →
    headgateref17_Unmap.l0 300 l (m + 1 + j) (strOfNums H) ((l.length : Int) - m) = some (if ∀ r ∈ l.drop (l.length - m), okR r then (strOfNums (H ++ (l.drop (l.length - m)).flatMap rangeL), 0) else (⟨#[]⟩, 180)) := by
  intro m
  induction m with
  | zero =>
    intro j h H hH
    rw [show 0 + 1 + j = j + 1 by omega, headgateref17_Unmap.l0]
    unfold headgateref17_Unmap.b0
    rw [if_neg (by omega), Nat.sub_zero, List.drop_length, if_pos (by simp)]
    simp
  | succ m ih =>
    intro j h H hH
    have e1 : IntKind.wrap .i64 ((l.length : Int) - ((m + 1 : Nat) : Int) + 1) = (l.length : Int) - m := by rw [wi] <;> omega
    have e2 : (l.length : Int) - ((m + 1 : Nat) : Int) = ((l.length - (m + 1) : Nat) : Int) := by omega
    obtain ⟨r, hr, hd⟩ := drop_one l m h
    rw [show m + 1 + 1 + j = (m + 1 + j) + 1 by omega, headgateref17_Unmap.l0]
    unfold headgateref17_Unmap.b0
    rw [if_pos (by omega), asrt_pos (by omega), e1, e2, rdL_nth _ _ _ (by omega), hr, hd]
    by_cases h0 : r.f0 < 0
    · rw [if_pos h0, if_neg (fun g => by have := (g r (by simp)).1; omega)]
    rw [if_neg h0]
    by_cases h1 : r.f0 ≥ 2147483648
    · rw [if_pos h1, if_neg (fun g => by have := (g r (by simp)).2.1; omega)]
    rw [if_neg h1]
    by_cases h2 : r.f1 < 0
    · rw [if_pos h2, if_neg (fun g => by have := (g r (by simp)).2.2.1; omega)]
    rw [if_neg h2]
    by_cases h3 : r.f1 ≥ 4294967296
    · rw [if_pos h3, if_neg (fun g => by have := (g r (by simp)).2.2.2; omega)]
    rw [if_neg h3]
    have hok : okR r := ⟨by omega, by omega, by omega, by omega⟩
    rw [rput8 _ (by omega) (by omega), Option.bind_some, rput4 _ (by omega) (by omega), Option.bind_some, asrt_pos (by rw [strOfNums_size, strOfNums_size, beB_length, beB_length]; omega), zeros4, Option.bind_some, nums_append,
      asrt_pos (by rw [strOfNums_size, strOfNums_size]; simp [beB_length]), nums_append, asrt_pos (by rw [strOfNums_size, strOfNums_size]; simp [beB_length]; omega), nums_append, show beB r.f0 8 ++ beB r.f1 4 ++ [0, 0, 0, 0] = rangeL r from rfl,
      ih j (by omega) (H ++ rangeL r) (by rw [List.length_append, rangeL_length]; omega)]
    congr 1
    by_cases g : ∀ r ∈ l.drop (l.length - m), okR r
    · rw [if_pos g, if_pos (by intro y hy; rcases List.mem_cons.1 hy with rfl | hy; exact hok; exact g y hy), List.flatMap_cons, List.append_assoc]
    · rw [if_neg g, if_neg (fun q => g fun y hy => q y (List.mem_cons_of_mem _ hy))]
theorem headgateref17_Unmap.is (l : List T_api_Range) (hl : l.length ≤ 1000) : headgateref17_Unmap.f 300 l = some (unmapR l) := by
  unfold headgateref17_Unmap.f unmapR
  by_cases h : (l.length : Int) > 16
  · rw [if_pos h, if_neg (by omega)]
  · have w1 : IntKind.wrap .i64 (16 * (l.length : Int)) = 16 * (l.length : Int) := by rw [wi] <;> omega
    have w2 : IntKind.wrap .i64 (6 + 16 * (l.length : Int)) = 6 + 16 * (l.length : Int) := by rw [wi] <;> omega
    rw [if_neg h, w1, w2, rput2 _ (by omega) (by omega), Option.bind_some, rput2 _ (by omega) (by omega), Option.bind_some, asrt_pos (by rw [strOfNums_size, strOfNums_size, beB_length, beB_length]; omega), zeros4, Option.bind_some, nums_append,
      asrt_pos (by rw [strOfNums_size, strOfNums_size]; simp [beB_length]), nums_append]
    have := runmap_loop l (by omega) l.length (300 - (l.length + 1)) (Nat.le_refl _) (headL l.length) (by rw [headL_length]; omega)
    rw [show l.length + 1 + (300 - (l.length + 1)) = 300 by omega, Nat.sub_self, Int.sub_self, List.drop_zero] at this
    rw [show headgateref17_Unmap.l0 300 l 300 (strOfNums (beB (6 + 16 * (l.length : Int)) 2 ++ beB (16 * (l.length : Int)) 2 ++ [0, 0, 0, 0])) 0 = _ from this]
    congr 1
    by_cases g : ∀ r ∈ l, okR r
    · rw [if_pos g, if_pos ⟨by omega, g⟩]; rfl
    · rw [if_neg g, if_neg (fun q => g q.2)]
theorem rranges_loop (s : ByteArray) (hs : s.size ≤ 1000) : ∀ (m j : Nat) (p : Int) (acc : List T_api_Range), 0 ≤ p → p + 16 * m = s.size → acc.length + m ≤ 1000 →
    headgateref17_Ranges.l0 300 s (m + 1 + j) acc p = some (finR s (acc ++ rowsR s m p)) := by
  intro m
  induction m with
  | zero =>
    intro j p acc h0 hp ha
    rw [show 0 + 1 + j = j + 1 by omega, headgateref17_Ranges.l0]
    unfold headgateref17_Ranges.b0
    rw [if_neg (by omega), headgateref17_Unmap.is acc (by omega), Option.bind_some]
    unfold rowsR finR
    rw [List.append_nil]
    by_cases h1 : (unmapR acc).2 = 0
    · rw [if_pos h1]
      by_cases h2 : (unmapR acc).1 = s
      · rw [if_pos h2, if_pos (Prod.ext h2 h1)]
      · rw [if_neg h2, if_neg (fun e => h2 (by rw [e]))]
    · rw [if_neg h1, if_neg (fun e => h1 (by rw [e]))]
  | succ m ih =>
    intro j p acc h0 hp ha
    rw [show m + 1 + 1 + j = (m + 1 + j) + 1 by omega, headgateref17_Ranges.l0]
    unfold headgateref17_Ranges.b0
    have b8 : headgateref01_Big.f 300 s p 8 = _ := headgateref01_Big.is s p 8 291 (by omega) (by omega) (by omega)
    have b4 : headgateref01_Big.f 300 s (p + 8) 4 = _ := headgateref01_Big.is s (p + 8) 4 291 (by omega) (by omega) (by omega)
    rw [if_pos (by omega), b8, Option.bind_some, wi (by omega) (by omega), b4, Option.bind_some, if_pos (show 0 ≤ p ∧ p + ((8 : Nat) : Int) ≤ (s.size : Int) by omega), if_pos (show 0 ≤ p + 8 ∧ p + 8 + ((4 : Nat) : Int) ≤ (s.size : Int) by omega)]
    dsimp only
    have q4 := be4_bound s (p + 8)
    have q8 := be8_low s p
    by_cases hb : be s p 8 ≥ 2147483648
    · rw [if_pos hb, finR_bad s _ ⟨be s p 8, be s (p + 8) 4⟩ (by rw [rowsR]; simp) hb]
    · rw [if_neg hb, asrt_pos (by simp; omega), wi (by omega) (by omega), wi (by omega) (by omega), wi (by omega) (by omega), ih j (p + 16) _ (by omega) (by omega) (by simp; omega), rowsR, List.append_assoc]
      rfl
theorem headgateref17_Ranges.is (s : ByteArray) (hs : s.size ≤ 5000) : headgateref17_Ranges.f 300 s = some (rangesR s) := by
  unfold headgateref17_Ranges.f rangesR
  by_cases h0 : (s.size : Int) < 8
  · rw [if_pos h0, if_neg (by omega)]
  rw [if_neg h0, wi (by omega) (by omega), Int.tmod_eq_emod_of_nonneg (by omega), Int.tdiv_eq_ediv_of_nonneg (by omega)]
  by_cases h1 : ((s.size : Int) - 8) % 16 = 0
  · rw [if_pos h1, wi (by omega) (by omega)]
    by_cases h2 : ((s.size : Int) - 8) / 16 > 16
    · rw [if_pos h2, if_neg (by omega)]
    · rw [if_neg h2, if_pos (by omega)]
      have := rranges_loop s (by omega) ((s.size - 8) / 16) (300 - ((s.size - 8) / 16 + 1)) 8 [] (by omega) (by omega) (by simp; omega)
      rw [show (s.size - 8) / 16 + 1 + (300 - ((s.size - 8) / 16 + 1)) = 300 by omega] at this
      exact this
  · rw [if_neg h1, if_neg (by omega)]
theorem rangesR_len (s : ByteArray) : (rangesR s).1.length ≤ 16 := by
  rcases rangesR_cases s with g | ⟨k, _, g2, g3⟩
  · rw [g]; simp
  · rw [g2]; exact g3
theorem headgatelaw17_InquiryRanges.pure (a0 : List T_api_Range) (a1 : ByteArray) (o0 : a0.length * 16 ≤ 140737488351232 ∧ ∀ y ∈ a0, y.ok) (o1 : a1.size ≤ 140737488351232) : ∃ K, headgatelaw17_InquiryRanges.f K a0 a1 = some true := by
  refine ⟨300, ?_⟩
  have big : ∀ x : Bool, x = true → headgatelaw17_InquiryRanges.j0 300 a0 a1 x = some true := by
    intro x hx
    unfold headgatelaw17_InquiryRanges.j0
    rw [if_pos hx, wakes17]; rfl
  unfold headgatelaw17_InquiryRanges.f
  by_cases h : (a0.length : Int) > 200
  · rw [if_pos h, big _ rfl]
  rw [if_neg h]
  by_cases hs : (a1.size : Int) > 5000
  · rw [big _ (decide_eq_true hs)]
  rw [decide_eq_false hs]
  unfold headgatelaw17_InquiryRanges.j0
  rw [if_neg (by decide), headgatekeep_CopyRanges.is a0 (by omega), Option.bind_some, inquiry_Unmap.is a0 (by omega), Option.bind_some, headgateref17_Unmap.is a0 (by omega), Option.bind_some, inquiry_Ranges.is a1 (by omega), Option.bind_some, headgateref17_Ranges.is a1 (by omega), Option.bind_some,
    if_pos rfl, if_pos rfl, headgatekeep_Ranges.is _ (by have := rangesR_len a1; omega), Option.bind_some, if_pos rfl, if_pos rfl, headgatekeep_Ranges.is a0 (by omega), Option.bind_some, if_pos rfl, wakes17]
  rfl
end Go.Proofs.Ytccmdlbdpapigaa.F
