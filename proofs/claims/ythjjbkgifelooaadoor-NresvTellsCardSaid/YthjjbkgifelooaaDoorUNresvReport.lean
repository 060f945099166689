/- The report of a table (layer 27): the program's and the document's are the same. No condition. -/
import Derived.Test.YthjjbkgifelooaaDoorUAccess
import Derived.Test.YthjjbkgifelooaaDoorUNumsLe
import Derived.Test.YthjjbkgifelooaaDoorF48
import Derived.Test.YthjjbkgifelooaaDoorF48
import Derived.Test.YthjjbkgifelooaaDoorF48
import Derived.Test.YthjjbkgifelooaaDoorF48
import Derived.Test.YthjjbkgifelooaaDoorF52
import Derived.Test.YthjjbkgifelooaaDoorF50
namespace Go.Proofs.YthjjbkgifelooaaDoor.F
open Go Go.RowKit Go.Proofs.YthjjbkgifelooaaDoor.X
set_option linter.unusedVariables false
set_option linter.unusedSimpArgs false

def hdrL (g ty n ap : Int) : List Int := ltB g 4 ++ [ty] ++ ltB n 2 ++ [0, 0, ap] ++ List.replicate 14 0
def entL (p h k : Int) : List Int := ltB p 2 ++ [h] ++ List.replicate 13 0 ++ ltB k 8
def rowsL (h k : Nat → Int) : Nat → List Int
  | 0 => []
  | n + 1 => rowsL h k n ++ entL ((n : Int) + 1) (h n) (k n)
theorem hdrL_length (g ty n ap : Int) : (hdrL g ty n ap).length = 24 := by simp [hdrL, ltB_length]
theorem entL_length (p h k : Int) : (entL p h k).length = 24 := by simp [entL, ltB_length]
theorem rowsL_length (h k : Nat → Int) : ∀ n, (rowsL h k n).length = 24 * n
  | 0 => rfl
  | n + 1 => by rw [rowsL, List.length_append, rowsL_length h k n, entL_length]; omega

theorem putL (v : Int) (hv : 0 ≤ v) (n K : Nat) (h1 : 1 ≤ n) (hn : n ≤ 8) : fields_PutLittle.f (K + 70) v (n : Int) = some (strOfNums (ltB v n)) := fields_PutLittle.is v hv n (K + 61) h1 hn
theorem refputL (v : Int) (hv : 0 ≤ v) (hv2 : v ≤ 18446744073709551615) (n K : Nat) (h1 : 1 ≤ n) (hn : n ≤ 8) : headgateref01_PutLittle.f (K + 70) v (n : Int) = some (strOfNums (ltB v n)) := headgateref01_PutLittle.is v hv hv2 n (K + 61) h1 hn

theorem nresv_header.is (g ty n ap : Int) (hg : 0 ≤ g ∧ g ≤ 4294967295) (ht : 0 ≤ ty ∧ ty ≤ 255) (hn : 0 ≤ n ∧ n ≤ 65535) (ha : 0 ≤ ap ∧ ap ≤ 255) (K : Nat) : nresv_header.f (K + 70) g ty n ap = some (strOfNums (hdrL g ty n ap)) := by
  unfold nresv_header.f hdrL
  have e1 : IntKind.wrap .u64 g = g := wu (by omega) (by omega)
  have e2 : IntKind.wrap .u64 n = n := wu (by omega) (by omega)
  have e3 : IntKind.wrap .u8 ty = ty := by rw [wrapu8]; omega
  have e4 : IntKind.wrap .u8 ap = ap := by rw [wrapu8]; omega
  rw [e1, e2, e3, e4, show fields_PutLittle.f (K + 70) g 4 = _ from putL g (by omega) 4 K (by omega) (by omega), Option.bind_some, show fields_PutLittle.f (K + 70) n 2 = _ from putL n (by omega) 2 K (by omega) (by omega), Option.bind_some]
  rw [nums_append, nums_append, nums_append, show ((14 : Int)).toNat = 14 from rfl, nums_append, asrt_pos, asrt_pos, asrt_pos, asrt_pos]
  all_goals (simp only [strOfNums_size, List.length_append, ltB_length, List.length_cons, List.length_nil, List.length_replicate]; omega)

theorem nresv_entry.is (p h k : Int) (hp : 0 ≤ p ∧ p ≤ 65535) (hh : 0 ≤ h ∧ h ≤ 255) (hk : 0 ≤ k ∧ k ≤ 18446744073709551615) (K : Nat) : nresv_entry.f (K + 70) p h k = some (strOfNums (entL p h k)) := by
  unfold nresv_entry.f entL
  have e1 : IntKind.wrap .u64 p = p := wu (by omega) (by omega)
  have e3 : IntKind.wrap .u8 h = h := by rw [wrapu8]; omega
  rw [e1, e3, show fields_PutLittle.f (K + 70) p 2 = _ from putL p (by omega) 2 K (by omega) (by omega), Option.bind_some, show fields_PutLittle.f (K + 70) k 8 = _ from putL k (by omega) 8 K (by omega) (by omega), Option.bind_some]
  rw [nums_append, show ((13 : Int)).toNat = 13 from rfl, nums_append, nums_append, asrt_pos, asrt_pos, asrt_pos]
  all_goals (simp only [strOfNums_size, List.length_append, ltB_length, List.length_cons, List.length_nil, List.length_replicate]; omega)

def bitI (b : Bool) : Int := if b = true then 1 else 0
theorem bitI_range (b : Bool) : 0 ≤ bitI b ∧ bitI b ≤ 1 := by cases b <;> simp [bitI]
theorem nresv_bit.is (b : Bool) : nresv_bit.f b = some (bitI b) := by cases b <;> rfl

def regAt (t : T_api_Table) (i : Nat) : T_api_Reg := t.f0.getD i T_api_Reg.z
def hAt (t : T_api_Table) (i : Nat) : Int := bitI (holdsB t (regAt t i).f0)
def kAt (t : T_api_Table) (i : Nat) : Int := (regAt t i).f1
def manyOf (t : T_api_Table) : Nat := min t.f0.length 16
def tyOf (t : T_api_Table) : Int := if 1 ≤ t.f1.f0 ∧ t.f1.f0 ≤ 6 then t.f1.f0 else 0
def repL (t : T_api_Table) : List Int := hdrL t.f2 (tyOf t) (manyOf t) (bitI t.f3) ++ rowsL (hAt t) (kAt t) (manyOf t)

theorem mn16 (n : Nat) : mn (n : Int) 16 = ((min n 16 : Nat) : Int) := by unfold mn; split <;> omega
theorem kAt_range (t : T_api_Table) (o : t.ok) (i : Nat) : 0 ≤ kAt t i ∧ kAt t i ≤ 18446744073709551615 := by
  unfold kAt regAt
  rw [List.getD_eq_getElem?_getD]
  cases e : t.f0[i]? with
  | none => simp [T_api_Reg.z]
  | some r => exact (o.f0.2 r (List.mem_of_getElem? e)).f1

theorem report_loop (t : T_api_Table) (o : t.ok) (hl : t.f0.length ≤ 1000000) (H : List Int) (hH : H.length ≤ 1000) (K : Nat) (hK : t.f0.length < K + 70) : ∀ (m j : Nat), m ≤ manyOf t →
    nresv_Report.l0 (K + 70) t (m + 1 + j) (strOfNums (H ++ rowsL (hAt t) (kAt t) (manyOf t - m))) (((manyOf t - m : Nat)) : Int) = some (strOfNums (H ++ rowsL (hAt t) (kAt t) (manyOf t))) := by
  have hn : manyOf t ≤ 16 ∧ manyOf t ≤ t.f0.length := by unfold manyOf; omega
  have htk : (t.f0.take (mn (t.f0.length : Int) 16 : Int).toNat).length = manyOf t := by rw [mn16, Int.toNat_natCast, List.length_take]; unfold manyOf; omega
  intro m
  induction m with
  | zero =>
    intro j hm
    rw [show 0 + 1 + j = j + 1 by omega, nresv_Report.l0]
    unfold nresv_Report.b0
    rw [htk, Nat.sub_zero, if_neg (by omega)]
  | succ m ih =>
    intro j hm
    have hi : manyOf t - (m + 1) < manyOf t := by omega
    have en : manyOf t - m = (manyOf t - (m + 1)) + 1 := by omega
    have ih := ih j (by omega)
    rw [en, rowsL] at ih
    generalize manyOf t - (m + 1) = i at hi ih
    have er : rdL T_api_Reg.z (t.f0.take (mn (t.f0.length : Int) 16 : Int).toNat) (i : Int) = regAt t i := by
      unfold rdL regAt
      rw [Int.toNat_natCast, List.getD_eq_getElem?_getD, List.getD_eq_getElem?_getD, List.getElem?_take, if_pos]
      rw [mn16, Int.toNat_natCast]; unfold manyOf at hi; omega
    have e1 : IntKind.wrap .i64 ((i : Int) + 1) = (i : Int) + 1 := by rw [wi] <;> omega
    rw [show ((i + 1 : Nat) : Int) = (i : Int) + 1 by omega] at ih
    rw [show m + 1 + 1 + j = (m + 1 + j) + 1 by omega, nresv_Report.l0]
    unfold nresv_Report.b0
    rw [htk, if_pos (by omega), asrt_pos (by omega), er, show access_Holds.f (K + 70) _ (regAt t i).f0 = some (holdsB t (regAt t i).f0) from access_Holds.is t _ _ hK hl, Option.bind_some, nresv_bit.is, Option.bind_some, e1,
      show nresv_entry.f (K + 70) ((i : Int) + 1) (bitI (holdsB t (regAt t i).f0)) (regAt t i).f1 = some (strOfNums (entL ((i : Int) + 1) (hAt t i) (kAt t i))) from nresv_entry.is ((i : Int) + 1) (hAt t i) (kAt t i) (by omega) (by have := bitI_range (holdsB t (regAt t i).f0); unfold hAt; omega) (kAt_range t o i) K, Option.bind_some, nums_append, asrt_pos, List.append_assoc]
    · exact ih
    · rw [strOfNums_size, strOfNums_size, List.length_append, rowsL_length, entL_length]; omega

theorem nresv_Report.is (t : T_api_Table) (o : t.ok) (hl : t.f0.length ≤ 1000000) (K : Nat) (hK : t.f0.length < K + 70) : nresv_Report.f (K + 70) t = some (strOfNums (repL t)) := by
  have hn : manyOf t ≤ 16 ∧ manyOf t ≤ t.f0.length := by unfold manyOf; omega
  have htk : (t.f0.take (mn (t.f0.length : Int) 16 : Int).toNat).length = manyOf t := by rw [mn16, Int.toNat_natCast, List.length_take]; unfold manyOf; omega
  have j0 : ∀ ty, ty = tyOf t → nresv_Report.j0 (K + 70) t ty = some (strOfNums (repL t)) := by
    intro ty hty
    have hr : 0 ≤ ty ∧ ty ≤ 255 := by rw [hty]; unfold tyOf; split <;> omega
    have hb := bitI_range t.f3
    unfold nresv_Report.j0
    rw [nresv_bit.is, Option.bind_some, htk, nresv_header.is _ _ _ _ o.f2 hr (by omega) (by omega), Option.bind_some, hty]
    have := report_loop t o hl (hdrL t.f2 (tyOf t) (manyOf t) (bitI t.f3)) (by rw [hdrL_length]; omega) K hK (manyOf t) (K + 69 - manyOf t) (Nat.le_refl _)
    rw [show manyOf t + 1 + (K + 69 - manyOf t) = K + 70 by omega, Nat.sub_self, rowsL, List.append_nil] at this
    exact this
  unfold nresv_Report.f
  rw [mn16, asrt_pos (by omega), asrt_pos (by omega), access_Type.val, Option.bind_some]
  by_cases h : 1 ≤ t.f1.f0 ∧ t.f1.f0 ≤ 6
  · rw [if_pos (by simpa using h)]; exact j0 _ (by unfold tyOf; rw [if_pos h])
  · rw [if_neg (by simpa using h)]; exact j0 _ (by unfold tyOf; rw [if_neg h])

theorem ltB_two (n : Int) (h0 : 0 ≤ n) (h1 : n ≤ 255) : ltB n 2 = [n, 0] := by
  have a : lb n 0 = n := by unfold lb; simp; omega
  have b : lb n 1 = 0 := by unfold lb; simp; omega
  show [lb n 0, lb n 1] = _
  rw [a, b]

theorem refreport_loop (t : T_api_Table) (o : t.ok) (hl : t.f0.length ≤ 1000000) (H : List Int) (hH : H.length ≤ 1000) (K : Nat) (hK : t.f0.length < K + 70) : ∀ (m j : Nat), m ≤ manyOf t →
    headgateref27_Report.l0 (K + 70) t (m + 1 + j) (strOfNums (H ++ rowsL (hAt t) (kAt t) (manyOf t - m))) (((manyOf t - m : Nat)) : Int) = some (strOfNums (H ++ rowsL (hAt t) (kAt t) (manyOf t))) := by
  have hn : manyOf t ≤ 16 ∧ manyOf t ≤ t.f0.length := by unfold manyOf; omega
  have hmn : mn (t.f0.length : Int) 16 = (manyOf t : Int) := mn16 _
  intro m
  induction m with
  | zero =>
    intro j hm
    rw [show 0 + 1 + j = j + 1 by omega, headgateref27_Report.l0]
    unfold headgateref27_Report.b0
    rw [hmn, Nat.sub_zero, if_neg (by omega)]
  | succ m ih =>
    intro j hm
    have hi : manyOf t - (m + 1) < manyOf t := by omega
    have en : manyOf t - m = (manyOf t - (m + 1)) + 1 := by omega
    have ih := ih j (by omega)
    rw [en, rowsL] at ih
    generalize manyOf t - (m + 1) = i at hi ih
    have er : rdL T_api_Reg.z t.f0 (i : Int) = regAt t i := by
      unfold rdL regAt
      rw [Int.toNat_natCast]
    have e1 : IntKind.wrap .i64 ((i : Int) + 1) = ((i + 1 : Nat) : Int) := by rw [wi] <;> omega
    have e2 : IntKind.wrap .u8 ((i + 1 : Nat) : Int) = ((i : Int) + 1) := by rw [wrapu8]; omega
    have j2 : ∀ x, x = hAt t i → headgateref27_Report.j2 (K + 70) t (headgateref27_Report.l0 (K + 70) t (m + 1 + j)) (strOfNums (H ++ rowsL (hAt t) (kAt t) i)) (i : Int) x = some (strOfNums (H ++ rowsL (hAt t) (kAt t) (manyOf t))) := by
      intro x hx
      have ee : [(i : Int) + 1, 0, x] ++ List.replicate 13 0 ++ ltB (kAt t i) 8 = entL ((i : Int) + 1) (hAt t i) (kAt t i) := by
        unfold entL
        rw [ltB_two _ (by omega) (by omega), hx]; rfl
      unfold headgateref27_Report.j2
      rw [e1, e2, er, show headgateref01_PutLittle.f (K + 70) (regAt t i).f1 8 = _ from refputL (kAt t i) (kAt_range t o i).1 (kAt_range t o i).2 8 K (by omega) (by omega), Option.bind_some, nums_append, show ((13 : Int)).toNat = 13 from rfl, nums_append, nums_append, ee, asrt_pos, asrt_pos (by omega), asrt_pos (by omega), asrt_pos, asrt_pos, List.append_assoc]
      · exact ih
      · rw [strOfNums_size, strOfNums_size, List.length_append, rowsL_length, entL_length]; omega
      · simp only [strOfNums_size, List.length_append, ltB_length, List.length_cons, List.length_nil, List.length_replicate]; omega
      · simp only [strOfNums_size, List.length_append, ltB_length, List.length_cons, List.length_nil, List.length_replicate]; omega
    rw [show m + 1 + 1 + j = (m + 1 + j) + 1 by omega, headgateref27_Report.l0]
    unfold headgateref27_Report.b0
    rw [hmn, if_pos (by omega), asrt_pos (by omega), asrt_pos (by omega), er, show headgateref10_Holds.f (K + 70) _ (regAt t i).f0 = some (holdsB t (regAt t i).f0) from headgateref10_Holds.is t _ _ hK hl, Option.bind_some]
    by_cases hb : holdsB t (regAt t i).f0 = true
    · rw [if_pos hb]; exact j2 1 (by unfold hAt bitI; rw [if_pos hb])
    · rw [if_neg hb]; exact j2 0 (by unfold hAt bitI; rw [if_neg hb])

theorem headgateref10_Type.val (t : Int) : headgateref10_Type.f t = some (decide (1 ≤ t ∧ t ≤ 6)) := by
  unfold headgateref10_Type.f
  by_cases h : t ≥ 1 <;> by_cases h' : t ≤ 6 <;> simp [h, h'] <;> omega

theorem headgateref27_Report.is (t : T_api_Table) (o : t.ok) (hl : t.f0.length ≤ 1000000) (K : Nat) (hK : t.f0.length < K + 70) : headgateref27_Report.f (K + 70) t = some (strOfNums (repL t)) := by
  have hn : manyOf t ≤ 16 ∧ manyOf t ≤ t.f0.length := by unfold manyOf; omega
  have hmn : mn (t.f0.length : Int) 16 = (manyOf t : Int) := mn16 _
  have hg := o.f2
  have j1 : ∀ ty b, ty = tyOf t → b = bitI t.f3 → headgateref27_Report.j1 (K + 70) t ty b = some (strOfNums (repL t)) := by
    intro ty b hty hb
    have eh : ltB t.f2 4 ++ [ty, (manyOf t : Int), 0, 0, 0, b] ++ List.replicate 14 0 = hdrL t.f2 (tyOf t) (manyOf t) (bitI t.f3) := by
      unfold hdrL
      rw [ltB_two _ (by omega) (by omega), hty, hb]
      simp only [List.append_assoc, List.cons_append, List.nil_append]
    unfold headgateref27_Report.j1
    rw [hmn, show IntKind.wrap .u8 (manyOf t : Int) = manyOf t by rw [wrapu8]; omega, show IntKind.wrap .u64 t.f2 = t.f2 from wu (by omega) (by omega), show headgateref01_PutLittle.f (K + 70) t.f2 4 = _ from refputL t.f2 hg.1 (by omega) 4 K (by omega) (by omega), Option.bind_some,
      nums_append, show ((14 : Int)).toNat = 14 from rfl, nums_append, eh, asrt_pos, asrt_pos]
    · have := refreport_loop t o hl (hdrL t.f2 (tyOf t) (manyOf t) (bitI t.f3)) (by rw [hdrL_length]; omega) K hK (manyOf t) (K + 69 - manyOf t) (Nat.le_refl _)
      rw [show manyOf t + 1 + (K + 69 - manyOf t) = K + 70 by omega, Nat.sub_self, rowsL, List.append_nil] at this
      exact this
    · simp only [strOfNums_size, List.length_append, ltB_length, List.length_cons, List.length_nil, List.length_replicate]; omega
    · simp only [strOfNums_size, List.length_append, ltB_length, List.length_cons, List.length_nil, List.length_replicate]; omega
  have j0 : ∀ ty, ty = tyOf t → headgateref27_Report.j0 (K + 70) t ty = some (strOfNums (repL t)) := by
    intro ty hty
    unfold headgateref27_Report.j0
    by_cases h : t.f3 = true
    · rw [if_pos h]; exact j1 _ _ hty (by unfold bitI; rw [if_pos h])
    · rw [if_neg h]; exact j1 _ _ hty (by unfold bitI; rw [if_neg h])
  unfold headgateref27_Report.f
  rw [headgateref10_Type.val, Option.bind_some]
  by_cases h : 1 ≤ t.f1.f0 ∧ t.f1.f0 ≤ 6
  · rw [if_pos (by simpa using h)]; exact j0 _ (by unfold tyOf; rw [if_pos h, wrapu8]; omega)
  · rw [if_neg (by simpa using h)]; exact j0 _ (by unfold tyOf; rw [if_neg h])

end Go.Proofs.YthjjbkgifelooaaDoor.F
