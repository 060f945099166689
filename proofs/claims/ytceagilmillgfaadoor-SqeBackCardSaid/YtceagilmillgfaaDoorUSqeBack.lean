/- The plain law of headgatelaw25.SqeBack: whatever the input, it is true. No condition. -/
import Derived.Test.YtceagilmillgfaaDoorUSqeGets
import Derived.Test.YtceagilmillgfaaDoorF6
namespace Go.Proofs.YtceagilmillgfaaDoor.F
open Go Go.RowKit Go.Proofs.YtceagilmillgfaaDoor.X
open Classical
set_option linter.unusedVariables false
set_option linter.unusedSimpArgs false

def inB (l : List Int) : Prop := ∀ y ∈ l, 0 ≤ y ∧ y ≤ 255
theorem inB_append {l m : List Int} (h : inB l) (h' : inB m) : inB (l ++ m) := fun y hy => (List.mem_append.1 hy).elim (h y) (h' y)
theorem inB_ltB (v : Int) (n : Nat) : inB (ltB v n) := fun y hy => by
  obtain ⟨i, _, rfl⟩ := List.mem_map.1 hy
  exact lb_range v i
theorem inB_zero (n : Nat) : inB (List.replicate n 0) := fun y hy => by
  obtain rfl := List.eq_of_mem_replicate hy
  omega
theorem inB_nil : inB [] := fun y hy => by simp at hy
theorem inB_cons {a : Int} {l : List Int} (h : 0 ≤ a ∧ a ≤ 255) (h' : inB l) : inB (a :: l) := fun y hy => by
  rcases List.mem_cons.1 hy with rfl | hy
  · exact h
  · exact h' y hy
theorem bt_of (l : List Int) (h : inB l) (i : Int) : bt (strOfNums l) i = l.getD i.toNat 0 := by
  unfold bt
  rw [strOfNums_data, List.getD_eq_getElem?_getD, List.getD_eq_getElem?_getD, List.getElem?_map]
  cases e : l[i.toNat]? with
  | none => rfl
  | some x =>
    have := h x (List.mem_of_getElem? e)
    simp only [Option.map_some, Option.getD_some, UInt8.toNat_ofNat']
    omega
theorem le_of (l : List Int) (h : inB l) (p : Nat) (v : Int) (hv : 0 ≤ v) : ∀ (n : Nat), (∀ i : Nat, i < n → l.getD (p + i) 0 = lb v i) → le (strOfNums l) (p : Int) n = v % 256 ^ n
  | 0, _ => by simp [le, Int.emod_one]
  | n + 1, hi => by
    rw [le, le_of l h p v hv n (fun i h' => hi i (by omega)), bt_of l h, show ((p : Int) + (n : Int)).toNat = p + n by omega, hi n (by omega)]
    unfold lb
    obtain ⟨w, rfl⟩ := Int.eq_ofNat_of_zero_le hv
    have := Nat.mod_pow_succ (b := 256) (k := n) (x := w)
    have c : ((w % 256 ^ (n + 1) : Nat) : Int) = (w : Int) % 256 ^ (n + 1) := by rw [Int.natCast_emod, c256]
    have c2 : ((w % 256 ^ n : Nat) : Int) = (w : Int) % 256 ^ n := by rw [Int.natCast_emod, c256]
    have c3 : ((w / 256 ^ n % 256 : Nat) : Int) = (w : Int) / 256 ^ n % 256 := by rw [Int.natCast_emod, Int.natCast_ediv, c256]; rfl
    rw [← c, this, ← c2, ← c3, Int.natCast_add, Int.natCast_mul, c256, Int.mul_comm]

theorem laySq_in (x : T_api_Sqe) (w : Bool) (h : okSq x) : inB (laySq x w) := by
  have h1 := h.2.1
  unfold laySq
  refine inB_append (inB_append (inB_append (inB_append (inB_append (inB_append (inB_append (inB_append (inB_append (inB_append (inB_append ?_ (inB_ltB _ _)) (inB_ltB _ _)) (inB_zero _)) (inB_ltB _ _)) ?_) (inB_ltB _ _)) (inB_ltB _ _)) (inB_ltB _ _)) (inB_ltB _ _)) (inB_ltB _ _)) (inB_ltB _ _)
  · exact inB_cons (lb_range _ _) (inB_cons (by omega) inB_nil)
  · refine inB_cons (by omega) (inB_cons (by omega) (inB_cons (by omega) (inB_cons ?_ inB_nil)))
    cases w <;> simp

theorem get_put (x : T_api_Sqe) (o : x.ok) (w : Bool) (h : okSq x) : getSq (strOfNums (laySq x w)) = (x, w, 0) := by
  have hin := laySq_in x w h
  obtain ⟨k0, k1, k2, k4⟩ := h
  obtain ⟨o0, o1, o2, o3, o4, ⟨q0, q1, q2, q3, q4, q5⟩⟩ := o
  have hs : (strOfNums (laySq x w)).size = 64 := by rw [strOfNums_size]; rfl
  have b0 : bt (strOfNums (laySq x w)) 0 = x.f0 := by rw [bt_of _ hin]; exact lb_small _ k0.1 k0.2
  have b1 : bt (strOfNums (laySq x w)) 1 % 64 = x.f1 := by
    rw [bt_of _ hin]
    change (64 + x.f1) % 64 = x.f1
    omega
  have b39 : (bt (strOfNums (laySq x w)) 39 == 1) = w := by
    rw [bt_of _ hin]
    cases w <;> rfl
  have l2 : ∀ (p : Nat) (v : Int), 0 ≤ v ∧ v ≤ 65535 → (∀ i : Nat, i < 2 → (laySq x w).getD (p + i) 0 = lb v i) → le (strOfNums (laySq x w)) (p : Int) 2 = v := fun p v hv hi => by
    rw [le_of _ hin p v hv.1 2 hi]; omega
  have l4 : ∀ (p : Nat) (v : Int), 0 ≤ v ∧ v ≤ 4294967295 → (∀ i : Nat, i < 4 → (laySq x w).getD (p + i) 0 = lb v i) → le (strOfNums (laySq x w)) (p : Int) 4 = v := fun p v hv hi => by
    rw [le_of _ hin p v hv.1 4 hi]; omega
  have two : ∀ {g : Nat → Prop}, g 0 → g 1 → ∀ i, i < 2 → g i := fun {g} h0 h1 i hi => by
    rcases (by omega : i = 0 ∨ i = 1) with rfl | rfl
    · exact h0
    · exact h1
  have four : ∀ {g : Nat → Prop}, g 0 → g 1 → g 2 → g 3 → ∀ i, i < 4 → g i := fun {g} h0 h1 h2 h3 i hi => by
    rcases (by omega : i = 0 ∨ i = 1 ∨ i = 2 ∨ i = 3) with rfl | rfl | rfl | rfl
    · exact h0
    · exact h1
    · exact h2
    · exact h3
  have e : rawSq (strOfNums (laySq x w)) (bt (strOfNums (laySq x w)) 1 % 64) = x := by
    unfold rawSq
    rw [b0, b1]
    have e2 : le (strOfNums (laySq x w)) 2 2 = x.f2 := l2 2 x.f2 k2 (two (by kernel_rfl) (by kernel_rfl))
    have e4 : le (strOfNums (laySq x w)) 4 4 = x.f3 := l4 4 x.f3 o3 (four (by kernel_rfl) (by kernel_rfl) (by kernel_rfl) (by kernel_rfl))
    have e32 : le (strOfNums (laySq x w)) 32 4 = x.f4 := l4 32 x.f4 k4 (four (by kernel_rfl) (by kernel_rfl) (by kernel_rfl) (by kernel_rfl))
    have e40 : le (strOfNums (laySq x w)) 40 4 = x.f5.f0 := l4 40 x.f5.f0 q0 (four (by kernel_rfl) (by kernel_rfl) (by kernel_rfl) (by kernel_rfl))
    have e44 : le (strOfNums (laySq x w)) 44 4 = x.f5.f1 := l4 44 x.f5.f1 q1 (four (by kernel_rfl) (by kernel_rfl) (by kernel_rfl) (by kernel_rfl))
    have e48 : le (strOfNums (laySq x w)) 48 4 = x.f5.f2 := l4 48 x.f5.f2 q2 (four (by kernel_rfl) (by kernel_rfl) (by kernel_rfl) (by kernel_rfl))
    have e52 : le (strOfNums (laySq x w)) 52 4 = x.f5.f3 := l4 52 x.f5.f3 q3 (four (by kernel_rfl) (by kernel_rfl) (by kernel_rfl) (by kernel_rfl))
    have e56 : le (strOfNums (laySq x w)) 56 4 = x.f5.f4 := l4 56 x.f5.f4 q4 (four (by kernel_rfl) (by kernel_rfl) (by kernel_rfl) (by kernel_rfl))
    have e60 : le (strOfNums (laySq x w)) 60 4 = x.f5.f5 := l4 60 x.f5.f5 q5 (four (by kernel_rfl) (by kernel_rfl) (by kernel_rfl) (by kernel_rfl))
    rw [e2, e4, e32, e40, e44, e48, e52, e56, e60]
  have hp : putSq x w = (strOfNums (laySq x w), 0) := by unfold putSq; rw [if_pos ⟨k0, k1, k2, k4⟩]
  unfold getSq
  rw [e, b39, if_pos ⟨hs, hp⟩]

theorem put_get (s : ByteArray) (h : (getSq s).2.2 = 0) : putSq (getSq s).1 (getSq s).2.1 = (s, 0) ∧ (getSq s).1.ok := by
  have a1 := bt_lo s 1; have b1 := bt_hi s 1
  unfold getSq at h ⊢
  by_cases hc : s.size = 64 ∧ putSq (rawSq s (bt s 1 % 64)) (bt s 39 == 1) = (s, 0)
  · rw [if_pos hc]
    exact ⟨hc.2, rawSq_ok s _ (by omega)⟩
  · rw [if_neg hc] at h
    exact absurd h (by decide)

theorem layCq_in (x : T_api_Cqe) : inB (layCq x) := by
  unfold layCq
  exact inB_append (inB_append (inB_append (inB_append (inB_append (inB_ltB _ _) (inB_ltB _ _)) (inB_ltB _ _)) (inB_ltB _ _)) (inB_ltB _ _)) (inB_ltB _ _)

theorem ended_put (x : T_api_Cqe) (o : x.ok) (h : okCq x) : endedCq (strOfNums (layCq x)) = (x, 0) := by
  have hin := layCq_in x
  obtain ⟨k2, k3, k4, k5⟩ := h
  obtain ⟨o0, o1, o2, o3, o4, o5⟩ := o
  have hs : (strOfNums (layCq x)).size = 16 := by rw [strOfNums_size]; rfl
  have l2 : ∀ (p : Nat) (v : Int), 0 ≤ v ∧ v ≤ 65535 → (∀ i : Nat, i < 2 → (layCq x).getD (p + i) 0 = lb v i) → le (strOfNums (layCq x)) (p : Int) 2 = v := fun p v hv hi => by
    rw [le_of _ hin p v hv.1 2 hi]; omega
  have l4 : ∀ (p : Nat) (v : Int), 0 ≤ v ∧ v ≤ 4294967295 → (∀ i : Nat, i < 4 → (layCq x).getD (p + i) 0 = lb v i) → le (strOfNums (layCq x)) (p : Int) 4 = v := fun p v hv hi => by
    rw [le_of _ hin p v hv.1 4 hi]; omega
  have two : ∀ {g : Nat → Prop}, g 0 → g 1 → ∀ i, i < 2 → g i := fun {g} h0 h1 i hi => by
    rcases (by omega : i = 0 ∨ i = 1) with rfl | rfl
    · exact h0
    · exact h1
  have four : ∀ {g : Nat → Prop}, g 0 → g 1 → g 2 → g 3 → ∀ i, i < 4 → g i := fun {g} h0 h1 h2 h3 i hi => by
    rcases (by omega : i = 0 ∨ i = 1 ∨ i = 2 ∨ i = 3) with rfl | rfl | rfl | rfl
    · exact h0
    · exact h1
    · exact h2
    · exact h3
  have e : rawCq (strOfNums (layCq x)) = x := by
    have e0 : le (strOfNums (layCq x)) 0 4 = x.f0 := l4 0 x.f0 o0 (four (by kernel_rfl) (by kernel_rfl) (by kernel_rfl) (by kernel_rfl))
    have e4 : le (strOfNums (layCq x)) 4 4 = x.f1 := l4 4 x.f1 o1 (four (by kernel_rfl) (by kernel_rfl) (by kernel_rfl) (by kernel_rfl))
    have e8 : le (strOfNums (layCq x)) 8 2 = x.f2 := l2 8 x.f2 k2 (two (by kernel_rfl) (by kernel_rfl))
    have e10 : le (strOfNums (layCq x)) 10 2 = x.f3 := l2 10 x.f3 k3 (two (by kernel_rfl) (by kernel_rfl))
    have e12 : le (strOfNums (layCq x)) 12 2 = x.f4 := l2 12 x.f4 k4 (two (by kernel_rfl) (by kernel_rfl))
    have e14 : le (strOfNums (layCq x)) 14 2 = 2 * x.f5 := l2 14 (2 * x.f5) (by omega) (two (by kernel_rfl) (by kernel_rfl))
    unfold rawCq
    rw [e0, e4, e8, e10, e12, e14, show 2 * x.f5 / 2 = x.f5 by omega]
  have hp : putCq x = (strOfNums (layCq x), 0) := by unfold putCq; rw [if_pos ⟨k2, k3, k4, k5⟩]
  unfold endedCq
  rw [e, if_pos ⟨hs, hp⟩]

theorem put_ended (s : ByteArray) (h : (endedCq s).2 = 0) : putCq (endedCq s).1 = (s, 0) ∧ (endedCq s).1.ok := by
  unfold endedCq at h ⊢
  by_cases hc : s.size = 16 ∧ putCq (rawCq s) = (s, 0)
  · rw [if_pos hc]
    exact ⟨hc.2, rawCq_ok s⟩
  · rw [if_neg hc] at h
    exact absurd h (by decide)

theorem headgatelaw25_SqeBack.pure (a0 : T_api_Sqe) (a1 : T_api_Cqe) (a2 : ByteArray) (o0 : a0.ok) (o1 : a1.ok) (o2 : a2.size ≤ 140737488351232) : ∃ K, headgatelaw25_SqeBack.f K a0 a1 a2 = some true := by
  refine ⟨180 + 20, ?_⟩
  have hw : headgatelaw25_wakes.f (180 + 20) = some true := headgatelaw25_wakes.is 0
  have j1 : headgatelaw25_SqeBack.j1 (180 + 20) a2 = some true := by
    unfold headgatelaw25_SqeBack.j1
    rw [sqe_Ended.is, Option.bind_some]
    by_cases h : (endedCq a2).2 = 0
    · obtain ⟨hp, hk⟩ := put_ended a2 h
      rw [if_pos h]
      change (Option.bind (sqe_End.f (180 + 20) (endedCq a2).1) _) = _
      rw [sqe_End.is _ hk, Option.bind_some, hp, if_pos rfl, if_pos rfl, hw]; rfl
    · rw [if_neg h, hw]; rfl
  have j0 : headgatelaw25_SqeBack.j0 (180 + 20) a2 = some true := by
    unfold headgatelaw25_SqeBack.j0
    rw [sqe_Get.is, Option.bind_some]
    by_cases h : (getSq a2).2.2 = 0
    · obtain ⟨hp, hk⟩ := put_get a2 h
      rw [if_pos h]
      change (Option.bind (sqe_Put.f (180 + 20) (getSq a2).1 (getSq a2).2.1) _) = _
      rw [sqe_Put.is _ hk, Option.bind_some, hp, if_pos rfl, if_pos rfl]; exact j1
    · rw [if_neg h]; exact j1
  unfold headgatelaw25_SqeBack.f
  by_cases h : (a2.size : Int) > 5000
  · rw [if_pos h, hw]; rfl
  · rw [if_neg h]
    have st : ∀ (k : Nat) (i : Int), 0 ≤ i → i < 2 → headgatelaw25_SqeBack.l0 (180 + 20) a0 a1 a2 (k + 1) i = headgatelaw25_SqeBack.l0 (180 + 20) a0 a1 a2 k (i + 1) := by
      intro k i h0 h2
      have e1 : IntKind.wrap .i64 (i + 1) = i + 1 := by rw [wi] <;> omega
      rw [headgatelaw25_SqeBack.l0]
      unfold headgatelaw25_SqeBack.b0
      rw [if_pos h2, sqe_Put.is _ o0, Option.bind_some, e1]
      change (if (putSq a0 (i == 1)).2 = 0 then _ else _) = _
      unfold putSq
      by_cases hk : okSq a0
      · rw [if_pos hk, if_pos rfl, sqe_Get.is, Option.bind_some, get_put a0 o0 _ hk, if_pos rfl, headgateref25_Same.is, Option.bind_some, if_pos (by simp), if_pos rfl]
      · rw [if_neg hk, if_neg (by decide)]
    rw [show headgatelaw25_SqeBack.l0 (180 + 20) a0 a1 a2 (180 + 20) 0 = headgatelaw25_SqeBack.l0 (180 + 20) a0 a1 a2 (197 + 1 + 1 + 1) 0 from rfl, st _ 0 (by omega) (by omega), st _ (0 + 1) (by omega) (by omega), headgatelaw25_SqeBack.l0]
    unfold headgatelaw25_SqeBack.b0
    rw [if_neg (by omega), sqe_End.is _ o1, Option.bind_some]
    unfold putCq
    by_cases hk : okCq a1
    · rw [if_pos hk, if_pos rfl, sqe_Ended.is, Option.bind_some, ended_put a1 o1 hk, if_pos rfl, headgateref25_SameEnd.is, Option.bind_some, if_pos (by simp)]
      exact j0
    · rw [if_neg hk, if_neg (by decide)]; exact j0

end Go.Proofs.YtceagilmillgfaaDoor.F
