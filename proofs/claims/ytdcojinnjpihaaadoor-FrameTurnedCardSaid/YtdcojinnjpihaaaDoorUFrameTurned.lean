/- The plain law of headgatelaw05.FrameTurned: whatever the input, it is true. No condition. -/
import Derived.Test.YtdcojinnjpihaaaDoorUFrameGot
import Derived.Test.YtdcojinnjpihaaaDoorUFrameW
import Derived.Test.YtdcojinnjpihaaaDoorF5
namespace Go.Proofs.YtdcojinnjpihaaaDoor.F
open Go Go.RowKit Go.Proofs.YtdcojinnjpihaaaDoor.X
set_option linter.unusedVariables false
set_option linter.unusedSimpArgs false

/-! ### A sum tells one byte -/
theorem xor_cancel {a b c : Nat} (h : a ^^^ c = b ^^^ c) : a = b := by
  have h2 : (a ^^^ c) ^^^ c = (b ^^^ c) ^^^ c := by rw [h]
  rwa [Nat.xor_assoc, Nat.xor_self, Nat.xor_zero, Nat.xor_assoc, Nat.xor_self, Nat.xor_zero] at h2
theorem t1_bit {x : Nat} (hx : x < 4294967296) : (t1 x).testBit 31 = decide (x % 2 = 1) := by
  have h31 : (x / 2).testBit 31 = false := Nat.testBit_lt_two_pow (by omega)
  unfold t1
  split
  · rename_i h
    rw [Nat.testBit_xor, h31, decide_eq_true h]; decide
  · rename_i h
    rw [h31, decide_eq_false h]
theorem t1_inj {x y : Nat} (hx : x < 4294967296) (hy : y < 4294967296) (h : t1 x = t1 y) : x = y := by
  have hb : decide (x % 2 = 1) = decide (y % 2 = 1) := by rw [← t1_bit hx, ← t1_bit hy, h]
  unfold t1 at h
  by_cases h1 : x % 2 = 1
  · have h2 : y % 2 = 1 := by simpa [h1] using hb.symm
    rw [if_pos h1, if_pos h2] at h
    have := xor_cancel h
    omega
  · have h2 : ¬ y % 2 = 1 := by simpa [h1] using hb.symm
    rw [if_neg h1, if_neg h2] at h
    omega
theorem t4_inj {x y : Nat} (hx : x < 4294967296) (hy : y < 4294967296) (h : t4 x = t4 y) : x = y := by
  unfold t4 at h
  exact t1_inj hx hy (t1_inj (t1_lt hx) (t1_lt hy) (t1_inj (t1_lt (t1_lt hx)) (t1_lt (t1_lt hy)) (t1_inj (t1_lt (t1_lt (t1_lt hx))) (t1_lt (t1_lt (t1_lt hy))) h)))
theorem crcS_inj {w w' b b' : Nat} (hw : w < 4294967296) (hw' : w' < 4294967296) (hb : b < 256) (hb' : b' < 256) (h : crcS w b = crcS w' b') : w ^^^ b = w' ^^^ b' := by
  have h1 : w ^^^ b < 4294967296 := Nat.xor_lt_two_pow (n := 32) hw (by omega)
  have h2 : w' ^^^ b' < 4294967296 := Nat.xor_lt_two_pow (n := 32) hw' (by omega)
  exact t4_inj h1 h2 (t4_inj (t4_lt h1) (t4_lt h2) h)
theorem crcW_inj : ∀ (l : List Nat) (w w' : Nat), w < 4294967296 → w' < 4294967296 → (∀ b ∈ l, b < 256) → crcW w l = crcW w' l → w = w'
  | [], w, w', _, _, _, h => h
  | b :: l, w, w', hw, hw', hl, h => by
    have hb := hl b List.mem_cons_self
    have := crcW_inj l (crcS w b) (crcS w' b) (crcS_lt hw hb) (crcS_lt hw' hb) (fun x hx => hl x (List.mem_cons_of_mem _ hx)) h
    exact xor_cancel (crcS_inj hw hw' hb hb this)
theorem crcW_set : ∀ (l : List Nat) (k w c : Nat), w < 4294967296 → (∀ b ∈ l, b < 256) → c < 256 → (hk : k < l.length) → crcW w (l.set k c) = crcW w l → c = l[k]
  | [], _, _, _, _, _, _, hk, _ => by simp at hk
  | b :: l, 0, w, c, hw, hl, hc, _, h => by
    have hb := hl b List.mem_cons_self
    have := crcW_inj l (crcS w c) (crcS w b) (crcS_lt hw hc) (crcS_lt hw hb) (fun x hx => hl x (List.mem_cons_of_mem _ hx)) h
    have h2 := crcS_inj hw hw hc hb this
    rw [Nat.xor_comm w c, Nat.xor_comm w b] at h2
    exact xor_cancel h2
  | b :: l, k + 1, w, c, hw, hl, hc, hk, h => by
    have hb := hl b List.mem_cons_self
    exact crcW_set l k (crcS w b) c (crcS_lt hw hb) (fun x hx => hl x (List.mem_cons_of_mem _ hx)) hc (by simpa using hk) h
theorem crcN_set (l : List Nat) (k c : Nat) (hl : ∀ b ∈ l, b < 256) (hc : c < 256) (hk : k < l.length) (h : crcN (l.set k c) = crcN l) : c = l[k] := by
  unfold crcN at h
  rw [Nat.xor_comm, Nat.xor_comm 4294967295 (crcW _ l)] at h
  exact crcW_set l k _ c (by omega) hl hc hk (xor_cancel h)

theorem dig_inj {s t : ByteArray} (h : dig s = dig t) : crcN (bsN s) = crcN (bsN t) := by
  unfold dig at h
  rw [nums_inj (inB_ltB _ _) (inB_ltB _ _)] at h
  have h1 := crcN_lt (bsN s) (bsN_lt s)
  have h2 := crcN_lt (bsN t) (bsN_lt t)
  generalize crcN (bsN s) = x at *
  generalize crcN (bsN t) = y at *
  unfold ltB lb at h
  simp only [show List.range 4 = [0, 1, 2, 3] from rfl, List.map_cons, List.map_nil, List.cons.injEq, and_true] at h
  obtain ⟨a0, a1, a2, a3⟩ := h
  simp only [Int.pow_zero, Int.reducePow] at a0 a1 a2 a3
  omega

/-! ### One byte turned -/
theorem bsN_inj {s t : ByteArray} (h : bsN s = bsN t) : s = t := by
  apply text_ext
  · rw [← bsN_length, ← bsN_length, h]
  · intro i _; rw [bt_bsN, bt_bsN, h]
theorem bsN_extract (s : ByteArray) (p q : Nat) : bsN (s.extract p q) = ((bsN s).take q).drop p := by
  unfold bsN
  rw [← List.map_take, ← List.map_drop]
  congr 1
  rw [ByteArray.data_extract, Array.toList_extract]
  apply List.ext_getElem?
  intro i
  simp only [List.extract_eq_take_drop, List.getElem?_take, List.getElem?_drop]
  by_cases h : i < q - p
  · rw [if_pos h, if_pos (by omega)]
  · rw [if_neg h, if_neg (by omega)]
theorem bsN_turn (s : ByteArray) (k : Nat) (c : Int) (h0 : 0 ≤ c) (h1 : c ≤ 255) : bsN (strOfNums ((bytesI s).set k c)) = (bsN s).set k c.toNat := by
  have hin : inB ((bytesI s).set k c) := fun y hy => by
    rcases List.mem_or_eq_of_mem_set hy with h | rfl
    · exact numsOf_in s y h
    · exact ⟨h0, h1⟩
  have h2 := numsOf_nums _ hin
  have h3 : ∀ t : ByteArray, bsN t = (numsOf t).map Int.toNat := fun t => by
    unfold bsN numsOf
    rw [List.map_map]
    apply List.map_congr_left
    intro b _
    simp
  rw [h3, h2, List.map_set, h3]
  rfl

section
variable {B : List Nat} {k c p q : Nat}
theorem part_get (l : List Nat) (p q i : Nat) : ((l.take q).drop p)[i]? = if p + i < q then l[p + i]? else none := by
  rw [List.getElem?_drop, List.getElem?_take]
theorem part_out (h : k < p ∨ q ≤ k) : ((B.set k c).take q).drop p = (B.take q).drop p := by
  apply List.ext_getElem?
  intro i
  rw [part_get, part_get]
  split
  · rw [List.getElem?_set_ne (by omega)]
  · rfl
theorem part_in (h1 : p ≤ k) (h2 : k < q) : ((B.set k c).take q).drop p = ((B.take q).drop p).set (k - p) c := by
  apply List.ext_getElem?
  intro i
  rw [List.getElem?_set, part_get, part_get]
  by_cases hi : k - p = i
  · rw [if_pos hi, if_pos (by omega), show p + i = k by omega, List.getElem?_set]
    rw [if_pos rfl]
    have : (k < B.length) ↔ i < ((B.take q).drop p).length := by rw [List.length_drop, List.length_take]; omega
    rw [hi]
    by_cases hk : k < B.length
    · rw [if_pos hk, if_pos (this.mp hk)]
    · rw [if_neg hk, if_neg (fun h => hk (this.mpr h))]
  · rw [if_neg hi]
    split
    · rw [List.getElem?_set_ne (by omega)]
    · rfl
theorem set_same (hk : k < B.length) (h : c = B[k]) : B.set k c = B := by subst h; exact List.set_getElem_self hk
theorem part_eq (hk : k < B.length) (h1 : p ≤ k) (h2 : k < q) (h : ((B.set k c).take q).drop p = (B.take q).drop p) : B.set k c = B := by
  have := congrArg (fun l => l[k - p]?) h
  simp only [part_get] at this
  rw [if_pos (by omega), if_pos (by omega), show p + (k - p) = k by omega, List.getElem?_set_self hk, List.getElem?_eq_getElem hk] at this
  exact set_same hk (by simpa using this)
theorem part_crc (hk : k < B.length) (hB : ∀ b ∈ B, b < 256) (hc : c < 256) (h1 : p ≤ k) (h2 : k < q) (h : crcN (((B.set k c).take q).drop p) = crcN ((B.take q).drop p)) : B.set k c = B := by
  rw [part_in h1 h2] at h
  have hlen : k - p < ((B.take q).drop p).length := by rw [List.length_drop, List.length_take]; omega
  have := crcN_set _ (k - p) c (fun b hb => hB b (List.mem_of_mem_take (List.mem_of_mem_drop hb))) hc hlen h
  refine set_same hk (this.trans ?_)
  rw [List.getElem_drop, List.getElem_take]
  congr 1
  omega
end

theorem getB_ok {s : ByteArray} {x : Int × ByteArray × Int} (h : getB s = .ok x) : 20 ≤ s.size ∧ s.extract 0 4 = hgfr ∧ s.extract 16 20 = dig (s.extract 0 16) ∧ s.extract (20 + (be s 12 4).toNat) (24 + (be s 12 4).toNat) = dig (s.extract 20 (20 + (be s 12 4).toNat)) := by
  unfold getB at h
  split at h
  · cases h
  · rename_i h1
    split at h
    · rename_i h2
      split at h
      · rename_i h3
        split at h
        · split at h
          · rename_i h5
            exact ⟨by omega, h2, h3, h5⟩
          · cases h
        · cases h
      · cases h
    · cases h
theorem getB_err {s : ByteArray} {k : Int} (h : getB s = .error k) : k ≠ 0 := by
  unfold getB at h
  repeat' split at h
  all_goals first | cases h | skip
  all_goals first | omega | decide | (intro h9; cases h9)

theorem turned (n : Int) (h0 : 0 ≤ n) (h1 : n ≤ 18446744073709551615) (t : ByteArray) (ht : t.size ≤ 65536) (k : Nat) (hk : k < 24 + t.size) (c : Int) (c0 : 0 ≤ c) (c1 : c ≤ 255) (hne : ¬ strOfNums ((bytesI (putB n t)).set k c) = putB n t) : ∃ e, e ≠ 0 ∧ getB (strOfNums ((bytesI (putB n t)).set k c)) = .error e := by
  cases hg : getB (strOfNums ((bytesI (putB n t)).set k c)) with
  | error e => exact ⟨e, getB_err hg, rfl⟩
  | ok x =>
    exfalso
    apply hne
    have hs := getB_put n h0 h1 t ht ⟨#[]⟩
    rw [app_nil] at hs
    have hsz := putB_size n t
    have hsec : sec t.size = (t.size + 535) / 512 := rfl
    have hb4 : be (putB n t) 12 4 = (t.size : Int) := by
      have e1 : putB n t = hd05 n t.size ++ (dig (hd05 n t.size) ++ (t ++ (dig t ++ strOfNums (List.replicate ((512 - (t.size + 24) % 512) % 512) 0)))) := by
        unfold putB; rw [pad512_eq, body_size]; simp only [ByteArray.append_assoc]
      rw [e1]; exact hd05_be4 n _ ht _
    obtain ⟨_, s1, s2, s3⟩ := getB_ok hs
    obtain ⟨_, r1, r2, r3⟩ := getB_ok hg
    rw [hb4, Int.toNat_natCast] at s3
    have hB' := bsN_turn (putB n t) k c c0 c1
    have hbt : ∀ i : Nat, i ≠ k → bt (strOfNums ((bytesI (putB n t)).set k c)) (i : Int) = bt (putB n t) (i : Int) := fun i hi => by
      rw [bt_bsN, bt_bsN, hB', List.getD_eq_getElem?_getD, List.getD_eq_getElem?_getD, List.getElem?_set_ne (by omega)]
    generalize strOfNums ((bytesI (putB n t)).set k c) = s' at *
    generalize hsS : putB n t = s at *
    have hB := bsN_lt s
    have hkl : k < (bsN s).length := by rw [bsN_length]; omega
    have hc : c.toNat < 256 := by omega
    apply bsN_inj
    rw [hB']
    rcases Nat.lt_or_ge k 4 with hk4 | hk4
    · refine part_eq (p := 0) (q := 4) hkl (by omega) hk4 ?_
      rw [← hB', ← bsN_extract, ← bsN_extract, r1, s1]
    rcases Nat.lt_or_ge k 16 with hk16 | hk16
    · refine part_crc (p := 0) (q := 16) hkl hB hc (by omega) hk16 ?_
      have e1 : s'.extract 16 20 = s.extract 16 20 := bsN_inj (by rw [bsN_extract, bsN_extract, hB', part_out (.inl hk16)])
      rw [← hB', ← bsN_extract, ← bsN_extract]
      exact dig_inj (by rw [← r2, ← s2, e1])
    rcases Nat.lt_or_ge k 20 with hk20 | hk20
    · refine part_eq (p := 16) (q := 20) hkl hk16 hk20 ?_
      have e1 : s'.extract 0 16 = s.extract 0 16 := bsN_inj (by rw [bsN_extract, bsN_extract, hB', part_out (.inr hk16)])
      rw [← hB', ← bsN_extract, ← bsN_extract, r2, s2, e1]
    have hb' : be s' 12 4 = (t.size : Int) := by
      rw [← hb4]
      refine be_congr _ _ _ _ _ fun i hi => ?_
      have := hbt (12 + i) (by omega)
      rwa [show ((12 + i : Nat) : Int) = (12 : Int) + (i : Int) by omega] at this
    rw [hb', Int.toNat_natCast] at r3
    rcases Nat.lt_or_ge k (20 + t.size) with hkt | hkt
    · refine part_crc (p := 20) (q := 20 + t.size) hkl hB hc hk20 hkt ?_
      have e1 : s'.extract (20 + t.size) (24 + t.size) = s.extract (20 + t.size) (24 + t.size) := bsN_inj (by rw [bsN_extract, bsN_extract, hB', part_out (.inl hkt)])
      rw [← hB', ← bsN_extract, ← bsN_extract]
      exact dig_inj (by rw [← r3, ← s3, e1])
    · refine part_eq (p := 20 + t.size) (q := 24 + t.size) hkl hkt hk ?_
      have e1 : s'.extract 20 (20 + t.size) = s.extract 20 (20 + t.size) := bsN_inj (by rw [bsN_extract, bsN_extract, hB', part_out (.inr hkt)])
      rw [← hB', ← bsN_extract, ← bsN_extract, r3, s3, e1]

theorem headgatelaw05_FrameTurned.pure (a0 : Int) (a1 : ByteArray) (a2 : T_arr2_3) (o0 : 0 ≤ a0 ∧ a0 ≤ 18446744073709551615) (o1 : a1.size ≤ 140737488351232) (o2 : a2.ok) : ∃ K, headgatelaw05_FrameTurned.f K a0 a1 a2 = some true := by
  refine ⟨100000 + 200, ?_⟩
  have hw : headgatelaw05_wakes.f (100000 + 200) = some true := headgatelaw05_wakes.is 100000
  unfold headgatelaw05_FrameTurned.f
  by_cases h : (a1.size : Int) > 5000
  · rw [if_pos h, hw]; rfl
  have hsz := putB_size a0 a1
  have hsec : sec a1.size = (a1.size + 535) / 512 := rfl
  have e0 : IntKind.wrap .i64 (24 + (a1.size : Int)) = ((24 + a1.size : Nat) : Int) := by rw [wi] <;> omega
  have e1 : IntKind.wrap .u64 ((24 + a1.size : Nat) : Int) = ((24 + a1.size : Nat) : Int) := by rw [wu] <;> omega
  have hp : frame_Put.f (100000 + 200) a0 a1 = some (putB a0 a1, 0) := by
    have := frame_Put.is a0 o0.1 o0.2 a1 (by omega) (100000 + 200) (by omega)
    rwa [if_neg (by omega)] at this
  rw [if_neg h, hp, Option.bind_some, if_pos rfl, e0, if_neg (by simp only; omega), e1]
  have hu := wrapu64 a2.f0
  generalize hk : IntKind.wrap .i64 (Int.tmod (IntKind.wrap .u64 a2.f0) ((24 + a1.size : Nat) : Int)) = kk
  have hk2 : 0 ≤ kk ∧ kk < ((24 + a1.size : Nat) : Int) := by
    rw [← hk, hu, Int.tmod_eq_emod_of_nonneg (by omega)]
    have h1 := Int.emod_nonneg (a2.f0 % 18446744073709551616) (b := ((24 + a1.size : Nat) : Int)) (by omega)
    have h2 := Int.emod_lt_of_pos (a2.f0 % 18446744073709551616) (b := ((24 + a1.size : Nat) : Int)) (by omega)
    rw [wi (by omega) (by omega)]
    exact ⟨h1, h2⟩
  have hc : 0 ≤ IntKind.wrap .u8 a2.f1 ∧ IntKind.wrap .u8 a2.f1 ≤ 255 := by rw [wrapu8]; omega
  generalize IntKind.wrap .u8 a2.f1 = c at *
  rw [asrt_pos (by omega), asrt_pos hk2.1, asrt_pos (by simp only; omega)]
  have hs2 : (strOfNums ((bytesI (putB a0 a1)).set kk.toNat c)).size ≤ 200000 := by rw [strOfNums_size, List.length_set, bytesI_length]; omega
  have hs3 : (strOfNums ((bytesI (putB a0 a1)).set kk.toNat c)).size + 40 ≤ 100000 + 200 := by rw [strOfNums_size, List.length_set, bytesI_length]; omega
  rw [frame_Get.is _ hs2 _ hs3, Option.bind_some]
  by_cases he : strOfNums ((bytesI (putB a0 a1)).set kk.toNat c) = putB a0 a1
  · have ho := outB_put a0 o0.1 o0.2 a1 (by omega) ⟨#[]⟩
    rw [app_nil] at ho
    rw [if_pos he, he, ho, if_pos rfl, if_pos rfl, if_pos rfl, hw]
    rfl
  · obtain ⟨e, h1, h2⟩ := turned a0 o0.1 o0.2 a1 (by omega) kk.toNat (by omega) c hc.1 hc.2 he
    have ho : outB (strOfNums ((bytesI (putB a0 a1)).set kk.toNat c)) = (0, ⟨#[]⟩, 0, e) := by unfold outB; rw [h2]
    rw [if_neg he, ho, if_neg h1, if_pos rfl, if_pos rfl, hw]
    rfl

end Go.Proofs.YtdcojinnjpihaaaDoor.F
