/- The entries of layer 25: what is read. No condition. -/
import Derived.Test.YtceagilmillgfaaDoorUSqe
import Derived.Test.YtceagilmillgfaaDoorF53
import Derived.Test.YtceagilmillgfaaDoorF24
import Derived.Test.YtceagilmillgfaaDoorF26
import Derived.Test.YtceagilmillgfaaDoorF25
import Derived.Test.YtceagilmillgfaaDoorF27
import Derived.Test.YtceagilmillgfaaDoorF54
import Derived.Test.YtceagilmillgfaaDoorF28
import Derived.Test.YtceagilmillgfaaDoorF29
namespace Go.Proofs.YtceagilmillgfaaDoor.F
open Go Go.RowKit Go.Proofs.YtceagilmillgfaaDoor.X
open Classical
set_option linter.unusedVariables false
set_option linter.unusedSimpArgs false

theorem sqe_get_loop (s : ByteArray) (hs : (s.size : Int) ≤ 1000000) (fs : List T_sqe_field) (hf : ∀ f ∈ fs, fieldOk s.size f) (hl : fs.length ≤ 1000000) : ∀ (m K j : Nat), m ≤ fs.length →
    sqe_get.l0 (K + 9) s fs (m + 1 + j) ((fs.take (fs.length - m)).map fun f => le s f.f0 f.f1.toNat) ((fs.length : Int) - m) = some (fs.map fun f => le s f.f0 f.f1.toNat) := by
  intro m
  induction m with
  | zero =>
    intro K j h
    rw [show 0 + 1 + j = j + 1 by omega, sqe_get.l0]
    unfold sqe_get.b0
    rw [if_neg (by omega), Nat.sub_zero, List.take_length]
  | succ m ih =>
    intro K j h
    have e0 : (fs.length : Int) - ((m + 1 : Nat) : Int) = ((fs.length - (m + 1) : Nat) : Int) := by omega
    have e1 : IntKind.wrap .i64 (((fs.length - (m + 1) : Nat) : Int) + 1) = (fs.length : Int) - m := by rw [wi] <;> omega
    have e3 : (fs.take (fs.length - (m + 1))).map (fun f => le s f.f0 f.f1.toNat) ++ [le s fs[fs.length - (m + 1)].f0 fs[fs.length - (m + 1)].f1.toNat] = (fs.take (fs.length - m)).map fun f => le s f.f0 f.f1.toNat := by
      rw [show fs.length - m = (fs.length - (m + 1)) + 1 by omega, List.take_succ_eq_append_getElem (by omega), List.map_append]; rfl
    rw [show m + 1 + 1 + j = (m + 1 + j) + 1 by omega, sqe_get.l0]
    unfold sqe_get.b0
    rw [e0, if_pos (by omega), asrt_pos (by omega), rdL_at _ _ _ (by omega), e1]
    have hf' := hf fs[fs.length - (m + 1)] (List.getElem_mem _)
    obtain ⟨h1, h2, h3, h4⟩ := hf'
    have p := fields_Little.is s fs[fs.length - (m + 1)].f0 fs[fs.length - (m + 1)].f1.toNat K (by omega) (by omega) (by omega)
    rw [show ((fs[fs.length - (m + 1)].f1.toNat : Nat) : Int) = fs[fs.length - (m + 1)].f1 by omega, if_pos (by omega)] at p
    rw [p, Option.bind_some, asrt_pos (by simp; omega), e3]
    exact ih K j (by omega)

theorem sqe_get.is (s : ByteArray) (hs : (s.size : Int) ≤ 1000000) (fs : List T_sqe_field) (hf : ∀ f ∈ fs, fieldOk s.size f) (K : Nat) (hK : fs.length < K + 9) (hl : fs.length ≤ 1000000) : sqe_get.f (K + 9) s fs = some (fs.map fun f => le s f.f0 f.f1.toNat) := by
  unfold sqe_get.f
  have := sqe_get_loop s hs fs hf hl fs.length K (K + 9 - 1 - fs.length) (Nat.le_refl _)
  rw [show fs.length + 1 + (K + 9 - 1 - fs.length) = K + 9 by omega] at this
  simpa using this

theorem num_is (s : ByteArray) (p : Int) (n K : Nat) (h1 : 1 ≤ n) (hn : n ≤ 4) (h0 : 0 ≤ p) (h : p + n ≤ s.size) (hs : (s.size : Int) ≤ 1000000) : headgateref25_num.f (K + 9) s p (n : Int) = some (le s p n) := by
  unfold headgateref25_num.f
  rw [headgateref01_Little.is s p n K h1 (by omega) (by omega), if_pos ⟨h0, h⟩, Option.bind_some]
  have a := le_lo s p n; have b := le_hi s p n
  have c : (256 : Int) ^ n ≤ 256 ^ 4 := pow256 hn
  rw [wi] <;> omega

theorem le_one (s : ByteArray) (p : Int) : le s p 1 = bt s p := by simp [le]
theorem le4 (s : ByteArray) (p : Int) : 0 ≤ le s p 4 ∧ le s p 4 ≤ 4294967295 := by have a := le_lo s p 4; have b := le_hi s p 4; omega
theorem le2 (s : ByteArray) (p : Int) : 0 ≤ le s p 2 ∧ le s p 2 ≤ 65535 := by have a := le_lo s p 2; have b := le_hi s p 2; omega

/-- What is read with a given second number. -/
def rawSq (s : ByteArray) (f : Int) : T_api_Sqe := ⟨bt s 0, f, le s 2 2, le s 4 4, le s 32 4, ⟨le s 40 4, le s 44 4, le s 48 4, le s 52 4, le s 56 4, le s 60 4⟩⟩
def zSq : T_api_Sqe := ⟨0, 0, 0, 0, 0, ⟨0, 0, 0, 0, 0, 0⟩⟩
theorem rawSq_ok (s : ByteArray) (f : Int) (h : 0 ≤ f ∧ f ≤ 255) : (rawSq s f).ok := by
  have a := bt_lo s 0; have b := bt_hi s 0
  have c2 := le2 s 2; have c4 := le4 s 4; have c32 := le4 s 32
  exact ⟨by simp only [rawSq]; omega, by simp only [rawSq]; omega, by simp only [rawSq]; omega, by simp only [rawSq]; omega, by simp only [rawSq]; omega, ⟨le4 s 40, le4 s 44, le4 s 48, le4 s 52, le4 s 56, le4 s 60⟩⟩

theorem bt_second (a b : Int) (r : List Int) (h : 0 ≤ b ∧ b ≤ 255) : bt (strOfNums (a :: b :: r)) 1 = b := by
  unfold bt
  rw [strOfNums_data]
  simp only [List.map_cons, show (1 : Int).toNat = 1 from rfl, List.getD_cons_succ, List.getD_cons_zero, UInt8.toNat_ofNat']
  omega

theorem put_second (x : T_api_Sqe) (w : Bool) (s : ByteArray) (h : putSq x w = (s, 0)) : (0 ≤ x.f1 ∧ x.f1 ≤ 2) ∧ bt s 1 = 64 + x.f1 := by
  unfold putSq at h
  by_cases hk : okSq x
  · rw [if_pos hk] at h
    have e := (Prod.mk.inj h).1
    refine ⟨hk.2.1, ?_⟩
    rw [← e]
    have h1 := hk.2.1
    exact bt_second _ (64 + x.f1) _ (by omega)
  · rw [if_neg hk] at h
    exact absurd (Prod.mk.inj h).2 (by decide)

noncomputable def getSq (s : ByteArray) : T_api_Sqe × Bool × Int := if s.size = 64 ∧ putSq (rawSq s (bt s 1 % 64)) (bt s 39 == 1) = (s, 0) then (rawSq s (bt s 1 % 64), bt s 39 == 1, 0) else (zSq, false, 250)

theorem same_second (s : ByteArray) (w : Bool) : (putSq (rawSq s (bt s 1 % 64)) w = (s, 0) ↔ putSq (rawSq s (bt s 1 % 4)) w = (s, 0)) ∧ (putSq (rawSq s (bt s 1 % 4)) w = (s, 0) → bt s 1 % 4 = bt s 1 % 64) := by
  have a := bt_lo s 1; have b := bt_hi s 1
  have go : ∀ f, putSq (rawSq s f) w = (s, 0) → (0 ≤ f ∧ f ≤ 2) ∧ bt s 1 = 64 + f := fun f h => put_second _ _ _ h
  refine ⟨⟨fun h => ?_, fun h => ?_⟩, fun h => ?_⟩
  · have := go _ h
    have e : bt s 1 % 4 = bt s 1 % 64 := by omega
    rw [e]; exact h
  · have := go _ h
    have e : bt s 1 % 64 = bt s 1 % 4 := by omega
    rw [e]; exact h
  · have := go _ h
    omega

theorem band63 {x : Int} (h0 : 0 ≤ x) (h1 : x ≤ 255) : band .u64 x 63 = x % 64 := by
  obtain ⟨n, rfl⟩ := Int.eq_ofNat_of_zero_le h0
  have := bits_and n 63 (by omega) (by omega)
  rw [show n &&& 63 = n % 64 from Nat.and_two_pow_sub_one_eq_mod n 6] at this
  rw [show ((63 : Nat) : Int) = 63 from rfl] at this
  rw [this, Int.natCast_emod]; rfl

theorem put_pair (x : T_api_Sqe) (w : Bool) (s : ByteArray) {α : Type} (a b : α) : (if (putSq x w).2 = 0 then (if (putSq x w).1 = s then a else b) else b) = if putSq x w = (s, 0) then a else b := by
  generalize putSq x w = z
  obtain ⟨z1, z2⟩ := z
  by_cases h2 : z2 = 0
  · subst h2
    by_cases h1 : z1 = s
    · subst h1; simp
    · rw [if_pos rfl, if_neg h1, if_neg (fun h => h1 (Prod.mk.inj h).1)]
  · rw [if_neg h2, if_neg (fun h => h2 (Prod.mk.inj h).2)]

theorem sqe_Get.is (s : ByteArray) (K : Nat) : sqe_Get.f (K + 20) s = some (getSq s) := by
  unfold sqe_Get.f getSq
  by_cases hs : s.size = 64
  · have hsz : (s.size : Int) = 64 := by omega
    rw [if_pos hsz, fieldsFor_sq, Option.bind_some, show K + 20 = K + 11 + 9 by omega]
    have g := sqe_get.is s (by omega) G_sqe_fieldsOf (by rw [hs]; exact fieldsOf_ok) (K + 11) (by simp [G_sqe_fieldsOf]) (by simp [G_sqe_fieldsOf])
    have ge : (G_sqe_fieldsOf.map fun f => le s f.f0 f.f1.toNat) = [le s 0 1, le s 1 1, le s 2 2, le s 4 4, le s 32 4, le s 40 4, le s 44 4, le s 48 4, le s 52 4, le s 56 4, le s 60 4] := rfl
    rw [g, ge, Option.bind_some, asrt_pos (by simp), asrt_pos (by simp), asrt_pos (by simp), asrt_pos (by simp), asrt_pos (by simp)]
    have st : ∀ (k : Nat) (i c0 c1 c2 c3 c4 c5 v : Int), 0 ≤ i → i < 6 → IntKind.wrap .u32 (rdL (0 : Int) [le s 0 1, le s 1 1, le s 2 2, le s 4 4, le s 32 4, le s 40 4, le s 44 4, le s 48 4, le s 52 4, le s 56 4, le s 60 4] (5 + i)) = v →
        sqe_Get.l0 (K + 11 + 9) s [le s 0 1, le s 1 1, le s 2 2, le s 4 4, le s 32 4, le s 40 4, le s 44 4, le s 48 4, le s 52 4, le s 56 4, le s 60 4] (k + 1) i c0 c1 c2 c3 c4 c5 =
        sqe_Get.l0 (K + 11 + 9) s [le s 0 1, le s 1 1, le s 2 2, le s 4 4, le s 32 4, le s 40 4, le s 44 4, le s 48 4, le s 52 4, le s 56 4, le s 60 4] k (i + 1) (rdL 0 ([c0, c1, c2, c3, c4, c5].set i.toNat v) 0) (rdL 0 ([c0, c1, c2, c3, c4, c5].set i.toNat v) 1) (rdL 0 ([c0, c1, c2, c3, c4, c5].set i.toNat v) 2) (rdL 0 ([c0, c1, c2, c3, c4, c5].set i.toNat v) 3) (rdL 0 ([c0, c1, c2, c3, c4, c5].set i.toNat v) 4) (rdL 0 ([c0, c1, c2, c3, c4, c5].set i.toNat v) 5) := by
      intro k i c0 c1 c2 c3 c4 c5 v h0 h6 hv
      have e1 : IntKind.wrap .i64 (i + 1) = i + 1 := by rw [wi] <;> omega
      have e2 : IntKind.wrap .i64 (5 + i) = 5 + i := by rw [wi] <;> omega
      rw [sqe_Get.l0]
      unfold sqe_Get.b0
      rw [e1, e2, hv, if_pos h6, asrt_pos (by omega), asrt_pos (by simp; omega), asrt_pos h0]
    have w4 : ∀ p, IntKind.wrap .u32 (le s p 4) = le s p 4 := fun p => by have := le4 s p; rw [wrapu32]; omega
    have fin : sqe_Get.l0 (K + 11 + 9) s [le s 0 1, le s 1 1, le s 2 2, le s 4 4, le s 32 4, le s 40 4, le s 44 4, le s 48 4, le s 52 4, le s 56 4, le s 60 4] (K + 13 + 1 + 1 + 1 + 1 + 1 + 1 + 1) 0 0 0 0 0 0 0 =
        sqe_Get.l0 (K + 11 + 9) s [le s 0 1, le s 1 1, le s 2 2, le s 4 4, le s 32 4, le s 40 4, le s 44 4, le s 48 4, le s 52 4, le s 56 4, le s 60 4] (K + 13 + 1) 6 (le s 40 4) (le s 44 4) (le s 48 4) (le s 52 4) (le s 56 4) (le s 60 4) := by
      refine Eq.trans (st _ 0 _ _ _ _ _ _ (le s 40 4) (by omega) (by omega) (w4 40)) ?_
      refine Eq.trans (st _ 1 _ _ _ _ _ _ (le s 44 4) (by omega) (by omega) (w4 44)) ?_
      refine Eq.trans (st _ 2 _ _ _ _ _ _ (le s 48 4) (by omega) (by omega) (w4 48)) ?_
      refine Eq.trans (st _ 3 _ _ _ _ _ _ (le s 52 4) (by omega) (by omega) (w4 52)) ?_
      refine Eq.trans (st _ 4 _ _ _ _ _ _ (le s 56 4) (by omega) (by omega) (w4 56)) ?_
      exact st _ 5 _ _ _ _ _ _ (le s 60 4) (by omega) (by omega) (w4 60)
    rw [show sqe_Get.l0 (K + 11 + 9) s [le s 0 1, le s 1 1, le s 2 2, le s 4 4, le s 32 4, le s 40 4, le s 44 4, le s 48 4, le s 52 4, le s 56 4, le s 60 4] (K + 11 + 9) 0 0 0 0 0 0 0 = _ from fin, sqe_Get.l0]
    unfold sqe_Get.b0
    rw [if_neg (by omega), asrt_pos (by omega)]
    have a0 := bt_lo s 0; have b0 := bt_hi s 0; have a1 := bt_lo s 1; have b1 := bt_hi s 1
    have r0 : IntKind.wrap .i64 (rdL (0 : Int) [le s 0 1, le s 1 1, le s 2 2, le s 4 4, le s 32 4, le s 40 4, le s 44 4, le s 48 4, le s 52 4, le s 56 4, le s 60 4] 0) = bt s 0 := by
      change IntKind.wrap .i64 (le s 0 1) = _
      rw [le_one, wi] <;> omega
    have r1 : IntKind.wrap .i64 (band .u64 (rdL (0 : Int) [le s 0 1, le s 1 1, le s 2 2, le s 4 4, le s 32 4, le s 40 4, le s 44 4, le s 48 4, le s 52 4, le s 56 4, le s 60 4] 1) 63) = bt s 1 % 64 := by
      change IntKind.wrap .i64 (band .u64 (le s 1 1) 63) = _
      rw [le_one, band63 a1 b1, wi] <;> omega
    have r2 : IntKind.wrap .i64 (rdL (0 : Int) [le s 0 1, le s 1 1, le s 2 2, le s 4 4, le s 32 4, le s 40 4, le s 44 4, le s 48 4, le s 52 4, le s 56 4, le s 60 4] 2) = le s 2 2 := by
      have := le2 s 2
      change IntKind.wrap .i64 (le s 2 2) = _
      rw [wi] <;> omega
    have r3 : IntKind.wrap .u32 (rdL (0 : Int) [le s 0 1, le s 1 1, le s 2 2, le s 4 4, le s 32 4, le s 40 4, le s 44 4, le s 48 4, le s 52 4, le s 56 4, le s 60 4] 3) = le s 4 4 := w4 4
    have r4 : IntKind.wrap .i64 (rdL (0 : Int) [le s 0 1, le s 1 1, le s 2 2, le s 4 4, le s 32 4, le s 40 4, le s 44 4, le s 48 4, le s 52 4, le s 56 4, le s 60 4] 4) = le s 32 4 := by
      have := le4 s 32
      change IntKind.wrap .i64 (le s 32 4) = _
      rw [wi] <;> omega
    rw [r0, r1, r2, r3, r4]
    change (sqe_Put.f (K + 20) (rawSq s (bt s 1 % 64)) (bt s 39 == 1)).bind _ = _
    rw [sqe_Put.is _ (rawSq_ok s _ (by omega)), Option.bind_some, put_pair]
    by_cases h : putSq (rawSq s (bt s 1 % 64)) (bt s 39 == 1) = (s, 0)
    · rw [if_pos h, if_pos ⟨hs, h⟩]; rfl
    · rw [if_neg h, if_neg (fun h' => h h'.2)]; rfl
  · rw [if_neg (by omega), if_neg (fun h => hs h.1)]; rfl

/-- The document's. -/
theorem headgateref25_Get.is (s : ByteArray) (K : Nat) : headgateref25_Get.f (K + 20) s = some (⟨(getSq s).1, (getSq s).2.1⟩, (getSq s).2.2) := by
  unfold headgateref25_Get.f getSq
  by_cases hs : s.size = 64
  · have hsz : (s.size : Int) = 64 := by omega
    have n2 := num_is s 2 2 (K + 11) (by omega) (by omega) (by omega) (by omega) (by omega)
    have n4 := fun p h0 h => num_is s p 4 (K + 11) (by omega) (by omega) h0 h (by omega)
    rw [show ((2 : Nat) : Int) = 2 from rfl] at n2
    rw [show ((4 : Nat) : Int) = 4 from rfl] at n4
    rw [if_pos hsz, asrt_pos (by omega), asrt_pos (by omega), show K + 20 = K + 11 + 9 by omega, n2, Option.bind_some, n4 4 (by omega) (by omega), Option.bind_some, n4 32 (by omega) (by omega), Option.bind_some, asrt_pos (by omega)]
    have st : ∀ (k : Nat) (i c0 c1 c2 c3 c4 c5 p : Int), 0 ≤ i → i < 6 → 40 + 4 * i = p →
        headgateref25_Get.l0 (K + 11 + 9) s (le s 2 2) (le s 4 4) (le s 32 4) (k + 1) i c0 c1 c2 c3 c4 c5 =
        headgateref25_Get.l0 (K + 11 + 9) s (le s 2 2) (le s 4 4) (le s 32 4) k (i + 1) (rdL 0 ([c0, c1, c2, c3, c4, c5].set i.toNat (le s p 4)) 0) (rdL 0 ([c0, c1, c2, c3, c4, c5].set i.toNat (le s p 4)) 1) (rdL 0 ([c0, c1, c2, c3, c4, c5].set i.toNat (le s p 4)) 2) (rdL 0 ([c0, c1, c2, c3, c4, c5].set i.toNat (le s p 4)) 3) (rdL 0 ([c0, c1, c2, c3, c4, c5].set i.toNat (le s p 4)) 4) (rdL 0 ([c0, c1, c2, c3, c4, c5].set i.toNat (le s p 4)) 5) := by
      intro k i c0 c1 c2 c3 c4 c5 p h0 h6 hp
      have e1 : IntKind.wrap .i64 (i + 1) = i + 1 := by rw [wi] <;> omega
      have e2 : IntKind.wrap .i64 (40 + IntKind.wrap .i64 (4 * i)) = p := by rw [wi (n := 4 * i), wi] <;> omega
      have w4 : IntKind.wrap .u32 (le s p 4) = le s p 4 := by have := le4 s p; rw [wrapu32]; omega
      rw [headgateref25_Get.l0]
      unfold headgateref25_Get.b0
      rw [e1, e2, if_pos h6, n4 p (by omega) (by omega), Option.bind_some, w4, asrt_pos h0]
    have fin : headgateref25_Get.l0 (K + 11 + 9) s (le s 2 2) (le s 4 4) (le s 32 4) (K + 13 + 1 + 1 + 1 + 1 + 1 + 1 + 1) 0 0 0 0 0 0 0 =
        headgateref25_Get.l0 (K + 11 + 9) s (le s 2 2) (le s 4 4) (le s 32 4) (K + 13 + 1) 6 (le s 40 4) (le s 44 4) (le s 48 4) (le s 52 4) (le s 56 4) (le s 60 4) := by
      refine Eq.trans (st _ 0 _ _ _ _ _ _ 40 (by omega) (by omega) rfl) ?_
      refine Eq.trans (st _ 1 _ _ _ _ _ _ 44 (by omega) (by omega) rfl) ?_
      refine Eq.trans (st _ 2 _ _ _ _ _ _ 48 (by omega) (by omega) rfl) ?_
      refine Eq.trans (st _ 3 _ _ _ _ _ _ 52 (by omega) (by omega) rfl) ?_
      refine Eq.trans (st _ 4 _ _ _ _ _ _ 56 (by omega) (by omega) rfl) ?_
      exact st _ 5 _ _ _ _ _ _ 60 (by omega) (by omega) rfl
    rw [show headgateref25_Get.l0 (K + 11 + 9) s (le s 2 2) (le s 4 4) (le s 32 4) (K + 11 + 9) 0 0 0 0 0 0 0 = _ from fin, headgateref25_Get.l0]
    unfold headgateref25_Get.b0
    rw [if_neg (by omega)]
    have a0 := bt_lo s 0; have b0 := bt_hi s 0; have a1 := bt_lo s 1; have b1 := bt_hi s 1
    have w3 : IntKind.wrap .u32 (le s 4 4) = le s 4 4 := by have := le4 s 4; rw [wrapu32]; omega
    have r0 : IntKind.wrap .i64 (bt s 0) = bt s 0 := by rw [wi] <;> omega
    have r1 : IntKind.wrap .i64 (Int.tmod (bt s 1) 4) = bt s 1 % 4 := by rw [Int.tmod_eq_emod_of_nonneg a1, wi] <;> omega
    rw [r0, r1, w3]
    change ((headgateref25_Put.f (K + 20) (rawSq s (bt s 1 % 4)) (bt s 39 == 1)).bind _) = _
    rw [headgateref25_Put.is _ (rawSq_ok s _ (by omega)), Option.bind_some, put_pair]
    obtain ⟨q1, q2⟩ := same_second s (bt s 39 == 1)
    by_cases h : putSq (rawSq s (bt s 1 % 4)) (bt s 39 == 1) = (s, 0)
    · have e := q2 h
      rw [if_pos h, if_pos ⟨hs, q1.2 h⟩, e]
      rfl
    · rw [if_neg h, if_neg (fun h' => h (q1.1 h'.2))]; rfl
  · rw [if_neg (by omega), if_neg (fun h => hs h.1)]; rfl

theorem headgateref25_Same.is (a b : T_api_Sqe) (K : Nat) : headgateref25_Same.f (K + 20) a b = some (decide (a = b)) := by
  have st : ∀ (k : Nat) (i x y : Int), 0 ≤ i → i < 6 → rdL (0 : Int) [a.f5.f0, a.f5.f1, a.f5.f2, a.f5.f3, a.f5.f4, a.f5.f5] i = x → rdL (0 : Int) [b.f5.f0, b.f5.f1, b.f5.f2, b.f5.f3, b.f5.f4, b.f5.f5] i = y →
      headgateref25_Same.l0 (K + 20) a b (k + 1) i = if x = y then headgateref25_Same.l0 (K + 20) a b k (i + 1) else some false := by
    intro k i x y h0 h6 hx hy
    have e1 : IntKind.wrap .i64 (i + 1) = i + 1 := by rw [wi] <;> omega
    rw [headgateref25_Same.l0]
    unfold headgateref25_Same.b0
    rw [if_pos h6, asrt_pos h0, hx, hy, e1]
  have fl : headgateref25_Same.l0 (K + 20) a b (K + 13 + 1) (0 + 1 + 1 + 1 + 1 + 1 + 1) = (if a.f0 = b.f0 then (if a.f1 = b.f1 then (if a.f2 = b.f2 then (if a.f3 = b.f3 then (some (a.f4 == b.f4)) else (some false)) else (some false)) else (some false)) else (some false)) := by
    rw [headgateref25_Same.l0]
    unfold headgateref25_Same.b0
    rw [if_neg (by omega)]
  unfold headgateref25_Same.f
  rw [show headgateref25_Same.l0 (K + 20) a b (K + 20) 0 = headgateref25_Same.l0 (K + 20) a b (K + 13 + 1 + 1 + 1 + 1 + 1 + 1 + 1) 0 from rfl]
  rw [st _ 0 a.f5.f0 b.f5.f0 (by omega) (by omega) rfl rfl, st _ (0 + 1) a.f5.f1 b.f5.f1 (by omega) (by omega) rfl rfl, st _ (0 + 1 + 1) a.f5.f2 b.f5.f2 (by omega) (by omega) rfl rfl, st _ (0 + 1 + 1 + 1) a.f5.f3 b.f5.f3 (by omega) (by omega) rfl rfl,
    st _ (0 + 1 + 1 + 1 + 1) a.f5.f4 b.f5.f4 (by omega) (by omega) rfl rfl, st _ (0 + 1 + 1 + 1 + 1 + 1) a.f5.f5 b.f5.f5 (by omega) (by omega) rfl rfl, fl]
  obtain ⟨a0, a1, a2, a3, a4, ⟨p0, p1, p2, p3, p4, p5⟩⟩ := a
  obtain ⟨b0, b1, b2, b3, b4, ⟨q0, q1, q2, q3, q4, q5⟩⟩ := b
  simp only [T_api_Sqe.mk.injEq, T_arr6_22.mk.injEq]
  by_cases h0 : p0 = q0 <;> simp [h0]
  by_cases h1 : p1 = q1 <;> simp [h1]
  by_cases h2 : p2 = q2 <;> simp [h2]
  by_cases h3 : p3 = q3 <;> simp [h3]
  by_cases h4 : p4 = q4 <;> simp [h4]
  by_cases h5 : p5 = q5 <;> simp [h5]
  by_cases k0 : a0 = b0 <;> simp [k0]
  by_cases k1 : a1 = b1 <;> simp [k1]
  by_cases k2 : a2 = b2 <;> simp [k2]
  by_cases k3 : a3 = b3 <;> simp [k3]
  by_cases k4 : a4 = b4 <;> simp [k4]

theorem headgateref25_SameEnd.is (a b : T_api_Cqe) : headgateref25_SameEnd.f a b = some (decide (a = b)) := by
  unfold headgateref25_SameEnd.f
  obtain ⟨a0, a1, a2, a3, a4, a5⟩ := a
  obtain ⟨b0, b1, b2, b3, b4, b5⟩ := b
  simp only [T_api_Cqe.mk.injEq]
  by_cases k0 : a0 = b0 <;> simp [k0]
  by_cases k1 : a1 = b1 <;> simp [k1]
  by_cases k2 : a2 = b2 <;> simp [k2]
  by_cases k3 : a3 = b3 <;> simp [k3]
  by_cases k4 : a4 = b4 <;> simp [k4]
  by_cases k5 : a5 = b5 <;> simp [k5]

def rawCq (s : ByteArray) : T_api_Cqe := ⟨le s 0 4, le s 4 4, le s 8 2, le s 10 2, le s 12 2, le s 14 2 / 2⟩
def zCq : T_api_Cqe := ⟨0, 0, 0, 0, 0, 0⟩
theorem rawCq_ok (s : ByteArray) : (rawCq s).ok := by
  have c0 := le4 s 0; have c4 := le4 s 4; have c8 := le2 s 8; have c10 := le2 s 10; have c12 := le2 s 12; have c14 := le2 s 14
  exact ⟨by simp only [rawCq]; omega, by simp only [rawCq]; omega, by simp only [rawCq]; omega, by simp only [rawCq]; omega, by simp only [rawCq]; omega, by simp only [rawCq]; omega⟩
noncomputable def endedCq (s : ByteArray) : T_api_Cqe × Int := if s.size = 16 ∧ putCq (rawCq s) = (s, 0) then (rawCq s, 0) else (zCq, 250)
theorem put_pairC (x : T_api_Cqe) (s : ByteArray) {α : Type} (a b : α) : (if (putCq x).2 = 0 then (if (putCq x).1 = s then a else b) else b) = if putCq x = (s, 0) then a else b := by
  generalize putCq x = z
  obtain ⟨z1, z2⟩ := z
  by_cases h2 : z2 = 0
  · subst h2
    by_cases h1 : z1 = s
    · subst h1; simp
    · rw [if_pos rfl, if_neg h1, if_neg (fun h => h1 (Prod.mk.inj h).1)]
  · rw [if_neg h2, if_neg (fun h => h2 (Prod.mk.inj h).2)]

theorem sqe_Ended.is (s : ByteArray) (K : Nat) : sqe_Ended.f (K + 20) s = some (endedCq s) := by
  unfold sqe_Ended.f endedCq
  by_cases hs : s.size = 16
  · have hsz : (s.size : Int) = 16 := by omega
    rw [if_pos hsz, fieldsFor_cq, Option.bind_some, show K + 20 = K + 11 + 9 by omega]
    have g := sqe_get.is s (by omega) G_sqe_endsOf (by rw [hs]; exact endsOf_ok) (K + 11) (by simp [G_sqe_endsOf]) (by simp [G_sqe_endsOf])
    have ge : (G_sqe_endsOf.map fun f => le s f.f0 f.f1.toNat) = [le s 0 4, le s 4 4, le s 8 2, le s 10 2, le s 12 2, le s 14 2] := rfl
    rw [g, ge, Option.bind_some, asrt_pos (by simp), asrt_pos (by simp), asrt_pos (by simp), asrt_pos (by simp), asrt_pos (by simp), asrt_pos (by simp)]
    have c0 := le4 s 0; have c4 := le4 s 4; have c8 := le2 s 8; have c10 := le2 s 10; have c12 := le2 s 12; have c14 := le2 s 14
    have r0 : IntKind.wrap .u32 (rdL (0 : Int) [le s 0 4, le s 4 4, le s 8 2, le s 10 2, le s 12 2, le s 14 2] 0) = le s 0 4 := by change IntKind.wrap .u32 (le s 0 4) = _; rw [wrapu32]; omega
    have r1 : IntKind.wrap .u32 (rdL (0 : Int) [le s 0 4, le s 4 4, le s 8 2, le s 10 2, le s 12 2, le s 14 2] 1) = le s 4 4 := by change IntKind.wrap .u32 (le s 4 4) = _; rw [wrapu32]; omega
    have r2 : IntKind.wrap .i64 (rdL (0 : Int) [le s 0 4, le s 4 4, le s 8 2, le s 10 2, le s 12 2, le s 14 2] 2) = le s 8 2 := by change IntKind.wrap .i64 (le s 8 2) = _; rw [wi] <;> omega
    have r3 : IntKind.wrap .i64 (rdL (0 : Int) [le s 0 4, le s 4 4, le s 8 2, le s 10 2, le s 12 2, le s 14 2] 3) = le s 10 2 := by change IntKind.wrap .i64 (le s 10 2) = _; rw [wi] <;> omega
    have r4 : IntKind.wrap .i64 (rdL (0 : Int) [le s 0 4, le s 4 4, le s 8 2, le s 10 2, le s 12 2, le s 14 2] 4) = le s 12 2 := by change IntKind.wrap .i64 (le s 12 2) = _; rw [wi] <;> omega
    have r5 : IntKind.wrap .i64 (IntKind.wrap .u64 (Int.tdiv (rdL (0 : Int) [le s 0 4, le s 4 4, le s 8 2, le s 10 2, le s 12 2, le s 14 2] 5) 2)) = le s 14 2 / 2 := by
      change IntKind.wrap .i64 (IntKind.wrap .u64 (Int.tdiv (le s 14 2) 2)) = _
      rw [Int.tdiv_eq_ediv_of_nonneg c14.1, wu (by omega) (by omega), wi] <;> omega
    rw [r0, r1, r2, r3, r4, r5]
    change ((sqe_End.f (K + 20) (rawCq s)).bind _) = _
    rw [sqe_End.is _ (rawCq_ok s), Option.bind_some, put_pairC]
    by_cases h : putCq (rawCq s) = (s, 0)
    · rw [if_pos h, if_pos ⟨hs, h⟩]; rfl
    · rw [if_neg h, if_neg (fun h' => h h'.2)]; rfl
  · rw [if_neg (by omega), if_neg (fun h => hs h.1)]; rfl

theorem headgateref25_Ended.is (s : ByteArray) (K : Nat) : headgateref25_Ended.f (K + 20) s = some (endedCq s) := by
  unfold headgateref25_Ended.f endedCq
  by_cases hs : s.size = 16
  · have hsz : (s.size : Int) = 16 := by omega
    have n2 := fun p h0 h => num_is s p 2 (K + 11) (by omega) (by omega) h0 h (by omega)
    have n4 := fun p h0 h => num_is s p 4 (K + 11) (by omega) (by omega) h0 h (by omega)
    rw [show ((2 : Nat) : Int) = 2 from rfl] at n2
    rw [show ((4 : Nat) : Int) = 4 from rfl] at n4
    have c0 := le4 s 0; have c4 := le4 s 4; have c8 := le2 s 8; have c10 := le2 s 10; have c12 := le2 s 12; have c14 := le2 s 14
    have r0 : IntKind.wrap .u32 (le s 0 4) = le s 0 4 := by rw [wrapu32]; omega
    have r1 : IntKind.wrap .u32 (le s 4 4) = le s 4 4 := by rw [wrapu32]; omega
    have r5 : IntKind.wrap .i64 (Int.tdiv (le s 14 2) 2) = le s 14 2 / 2 := by rw [Int.tdiv_eq_ediv_of_nonneg c14.1, wi] <;> omega
    rw [if_pos hsz, show K + 20 = K + 11 + 9 by omega, n4 0 (by omega) (by omega), Option.bind_some, n4 4 (by omega) (by omega), Option.bind_some, n2 8 (by omega) (by omega), Option.bind_some, n2 10 (by omega) (by omega), Option.bind_some, n2 12 (by omega) (by omega), Option.bind_some, n2 14 (by omega) (by omega), Option.bind_some, r0, r1, r5]
    change ((headgateref25_End.f (K + 20) (rawCq s)).bind _) = _
    rw [headgateref25_End.is _ (rawCq_ok s), Option.bind_some, put_pairC]
    by_cases h : putCq (rawCq s) = (s, 0)
    · rw [if_pos h, if_pos ⟨hs, h⟩]; rfl
    · rw [if_neg h, if_neg (fun h' => h h'.2)]; rfl
  · rw [if_neg (by omega), if_neg (fun h => hs h.1)]; rfl

end Go.Proofs.YtceagilmillgfaaDoor.F
