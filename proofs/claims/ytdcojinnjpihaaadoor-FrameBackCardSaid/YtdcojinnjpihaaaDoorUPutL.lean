/- A number's bytes, the lowest first: the program's way and the document's come to the same. No condition. -/
import Derived.Test.YtdcojinnjpihaaaDoorXPure
import Derived.Test.YtdcojinnjpihaaaDoorUNums
import Derived.Test.YtdcojinnjpihaaaDoorF45
import Derived.Test.YtdcojinnjpihaaaDoorF25
import Derived.Test.YtdcojinnjpihaaaDoorF45
import Derived.Test.YtdcojinnjpihaaaDoorF45
namespace Go.Proofs.YtdcojinnjpihaaaDoor.F
open Go Go.RowKit Go.Proofs.YtdcojinnjpihaaaDoor.X
set_option linter.unusedVariables false
set_option linter.unusedSimpArgs false

def shL (i : Nat) : Int := 8 * (i : Int)
def lb (v : Int) (i : Nat) : Int := v / 256 ^ i % 256
def ltB (v : Int) (n : Nat) : List Int := (List.range n).map (lb v)
theorem lb_range (v : Int) (i : Nat) : 0 ≤ lb v i ∧ lb v i ≤ 255 := by unfold lb; omega
theorem ltB_length (v : Int) (n : Nat) : (ltB v n).length = n := by simp [ltB]

theorem shiftsL_loop (n : Nat) (hn : n ≤ 8) : ∀ (m K j : Nat), m ≤ n → fields_shifts.l0 K (n : Int) false (m + 1 + j) ((List.range (n - m)).map shL) ((n : Int) - m) = some ((List.range n).map shL) := by
  intro m
  induction m with
  | zero =>
    intro K j h
    rw [show 0 + 1 + j = j + 1 by omega, fields_shifts.l0]
    unfold fields_shifts.b0
    rw [if_neg (by simp)]; rfl
  | succ m ih =>
    intro K j h
    rw [show m + 1 + 1 + j = (m + 1 + j) + 1 by omega, fields_shifts.l0]
    unfold fields_shifts.b0
    have e1 : IntKind.wrap .i64 ((n : Int) - (m + 1 : Nat) + 1) = (n : Int) - m := by rw [wi] <;> omega
    have e2 : IntKind.wrap .i64 (8 * ((n : Int) - (m + 1 : Nat))) = shL (n - (m + 1)) := by
      unfold shL
      simp only [wrapi64]
      omega
    have e3 : (List.range (n - (m + 1))).map shL ++ [shL (n - (m + 1))] = (List.range (n - m)).map shL := by
      rw [show n - m = (n - (m + 1)) + 1 by omega, List.range_succ, List.map_append]; rfl
    rw [if_pos (by omega), if_neg (by simp), asrt_pos (by simp; omega), e1, e2, e3]
    exact ih K j (by omega)

theorem shifts_little (n : Nat) (hn : n ≤ 8) (K : Nat) : fields_shifts.f (K + 9) (n : Int) false = some ((List.range n).map shL) := by
  have h := shiftsL_loop n hn n (K + 9) (K + 8 - n) (Nat.le_refl n)
  rw [show n + 1 + (K + 8 - n) = K + 9 by omega] at h
  unfold fields_shifts.f
  simpa using h

theorem putL_loop (v : Int) (hv : 0 ≤ v) (n : Nat) (hn : n ≤ 8) : ∀ (m K j : Nat), m ≤ n →
    fields_put_uint64.l0 K v ((List.range n).map shL) (m + 1 + j) ((List.range (n - m)).map (lb v)) ((n : Int) - m) = some (strOfNums (ltB v n)) := by
  intro m
  induction m with
  | zero =>
    intro K j h
    rw [show 0 + 1 + j = j + 1 by omega, fields_put_uint64.l0]
    unfold fields_put_uint64.b0
    rw [if_neg (by simp)]; simp [ltB]
  | succ m ih =>
    intro K j h
    have hi : ((n : Int) - (m + 1 : Nat)).toNat = n - (m + 1) := by omega
    have er : rdL (0 : Int) ((List.range n).map shL) ((n : Int) - (m + 1 : Nat)) = 8 * ((n - (m + 1) : Nat) : Int) := by
      unfold rdL
      rw [hi, List.getD_eq_getElem?_getD, List.getElem?_map, List.getElem?_range (by omega)]
      rfl
    have e1 : IntKind.wrap .i64 ((n : Int) - (m + 1 : Nat) + 1) = (n : Int) - m := by rw [wi] <;> omega
    have e2 : IntKind.wrap .u8 (sshr .u64 v (8 * ((n - (m + 1) : Nat) : Int))) = lb v (n - (m + 1)) := by
      rw [wrapu8]
      unfold sshr lb
      have : min (8 * ((n - (m + 1) : Nat) : Int)).toNat IntKind.u64.bits = 8 * (n - (m + 1)) := by simp only [IntKind.bits]; omega
      rw [this, show (2 : Int) ^ (8 * (n - (m + 1))) = 256 ^ (n - (m + 1)) by rw [Int.pow_mul]; rfl, Int.fdiv_eq_ediv_of_nonneg _ (Int.pow_nonneg (by omega))]
    have e3 : (List.range (n - (m + 1))).map (lb v) ++ [lb v (n - (m + 1))] = (List.range (n - m)).map (lb v) := by
      rw [show n - m = (n - (m + 1)) + 1 by omega, List.range_succ, List.map_append]; rfl
    rw [show m + 1 + 1 + j = (m + 1 + j) + 1 by omega, fields_put_uint64.l0]
    unfold fields_put_uint64.b0
    rw [if_pos (by simp; omega), asrt_pos (by omega), er, asrt_pos (by omega), asrt_pos (by simp; omega), e1, e2, e3]
    exact ih K j (by omega)

theorem fields_PutLittle.is (v : Int) (hv : 0 ≤ v) (n K : Nat) (h1 : 1 ≤ n) (hn : n ≤ 8) : fields_PutLittle.f (K + 9) v (n : Int) = some (strOfNums (ltB v n)) := by
  unfold fields_PutLittle.f fields_put_uint64.f
  rw [if_neg (by omega), if_neg (by omega), shifts_little n hn]
  simp only [Option.bind_some]
  have := putL_loop v hv n hn n (K + 9) (K + 8 - n) (Nat.le_refl n)
  rw [show n + 1 + (K + 8 - n) = K + 9 by omega] at this
  simp only [Nat.sub_self, List.range_zero, List.map_nil, Int.sub_self] at this
  rw [this]; rfl

theorem refputL_loop (v : Int) (hv : 0 ≤ v) (hv2 : v ≤ 18446744073709551615) (n : Nat) (hn : n ≤ 8) : ∀ (m K j : Nat), m ≤ n →
    headgateref01_PutLittle.l0 K (n : Int) (m + 1 + j) (v / 256 ^ (n - m)) ((List.range (n - m)).map (lb v) ++ List.replicate m 0) ((n : Int) - m) = some (strOfNums (ltB v n)) := by
  intro m
  induction m with
  | zero =>
    intro K j h
    rw [show 0 + 1 + j = j + 1 by omega, headgateref01_PutLittle.l0]
    unfold headgateref01_PutLittle.b0
    rw [if_neg (by simp)]; simp [ltB]
  | succ m ih =>
    intro K j h
    have hq : 0 ≤ v / 256 ^ (n - (m + 1)) := Int.ediv_nonneg hv (Int.pow_nonneg (by omega))
    have hq2 : v / 256 ^ (n - (m + 1)) ≤ 18446744073709551615 := Int.le_trans (Int.ediv_le_self _ hv) hv2
    have e1 : IntKind.wrap .i64 ((n : Int) - (m + 1 : Nat) + 1) = (n : Int) - m := by rw [wi] <;> omega
    have e2 : IntKind.wrap .u64 (Int.tdiv (v / 256 ^ (n - (m + 1))) 256) = v / 256 ^ (n - m) := by
      rw [Int.tdiv_eq_ediv_of_nonneg hq, wu (by omega) (by omega), show n - m = n - (m + 1) + 1 by omega, Int.pow_succ, Int.ediv_ediv_of_nonneg (Int.pow_nonneg (by omega))]
    have e3 : IntKind.wrap .u8 (Int.tmod (v / 256 ^ (n - (m + 1))) 256) = lb v (n - (m + 1)) := by
      rw [Int.tmod_eq_emod_of_nonneg hq, wrapu8]
      unfold lb
      omega
    have e4 : ((List.range (n - (m + 1))).map (lb v) ++ List.replicate (m + 1) (0 : Int)).set ((n : Int) - (m + 1 : Nat)).toNat (lb v (n - (m + 1))) = (List.range (n - m)).map (lb v) ++ List.replicate m 0 := by
      rw [show ((n : Int) - (m + 1 : Nat)).toNat = n - (m + 1) by omega, List.set_append_right _ _ (by simp), List.replicate_succ, show n - m = (n - (m + 1)) + 1 by omega, List.range_succ, List.map_append]
      simp
    rw [show m + 1 + 1 + j = (m + 1 + j) + 1 by omega, headgateref01_PutLittle.l0]
    unfold headgateref01_PutLittle.b0
    rw [if_pos (by omega), asrt_pos (by omega), asrt_pos (by simp; omega), e1, e2, e3, e4]
    exact ih K j (by omega)

theorem headgateref01_PutLittle.is (v : Int) (hv : 0 ≤ v) (hv2 : v ≤ 18446744073709551615) (n K : Nat) (h1 : 1 ≤ n) (hn : n ≤ 8) : headgateref01_PutLittle.f (K + 9) v (n : Int) = some (strOfNums (ltB v n)) := by
  unfold headgateref01_PutLittle.f
  rw [if_neg (by omega), if_neg (by omega), asrt_pos (by omega), asrt_pos (by omega)]
  have := refputL_loop v hv hv2 n hn n (K + 9) (K + 8 - n) (Nat.le_refl n)
  rw [show n + 1 + (K + 8 - n) = K + 9 by omega] at this
  simpa using this

theorem inB_ltB (v : Int) (n : Nat) : inB (ltB v n) := fun y hy => by
  simp only [ltB, List.mem_map] at hy
  obtain ⟨i, _, rfl⟩ := hy
  exact lb_range v i
theorem size_ltB (v : Int) (n : Nat) : (strOfNums (ltB v n)).size = n := by rw [strOfNums_size, ltB_length]
end Go.Proofs.YtdcojinnjpihaaaDoor.F
