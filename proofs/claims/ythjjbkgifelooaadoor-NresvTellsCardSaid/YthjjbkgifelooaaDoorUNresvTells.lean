/- The plain law of headgatelaw27.NresvTells: whatever the input, it is true. No condition. -/
import Derived.Test.YthjjbkgifelooaaDoorUNresvReported
import Derived.Test.YthjjbkgifelooaaDoorUNresvLaw
import Derived.Test.YthjjbkgifelooaaDoorUNresvLarge
import Derived.Test.YthjjbkgifelooaaDoorF4
import Derived.Test.YthjjbkgifelooaaDoorF79
import Derived.Test.YthjjbkgifelooaaDoorF79
import Derived.Test.YthjjbkgifelooaaDoorF79
import Derived.Test.YthjjbkgifelooaaDoorF79
import Derived.Test.YthjjbkgifelooaaDoorF79
namespace Go.Proofs.YthjjbkgifelooaaDoor.F
open Go Go.RowKit Go.Proofs.YthjjbkgifelooaaDoor.X
open Classical
set_option linter.unusedVariables false
set_option linter.unusedSimpArgs false

theorem letter_some (c : Int) : ∃ b, headgateref03_letter.f c = some b := by
  unfold headgateref03_letter.f
  split
  · exact ⟨_, rfl⟩
  · exact ⟨_, rfl⟩
theorem digit_some (c : Int) : ∃ b, headgateref03_digit.f c = some b := by
  unfold headgateref03_digit.f
  split
  · exact ⟨_, rfl⟩
  · exact ⟨_, rfl⟩
theorem name_loop (s : ByteArray) (hl : s.size ≤ 1000) : ∀ (m K j : Nat), m ≤ s.size → ∃ b, headgateref03_Name.l0 K s (m + 1 + j) ((s.size : Int) - m) = some b := by
  intro m
  induction m with
  | zero =>
    intro K j hm
    rw [show 0 + 1 + j = j + 1 by omega, headgateref03_Name.l0]
    unfold headgateref03_Name.b0
    rw [if_neg (by omega)]
    exact ⟨_, rfl⟩
  | succ m ih =>
    intro K j hm
    have e1 : IntKind.wrap .i64 ((s.size : Int) - ((m + 1 : Nat) : Int) + 1) = (s.size : Int) - m := by rw [wi] <;> omega
    obtain ⟨b1, h1⟩ := letter_some (bt s ((s.size : Int) - ((m + 1 : Nat) : Int)))
    obtain ⟨b2, h2⟩ := digit_some (bt s ((s.size : Int) - ((m + 1 : Nat) : Int)))
    rw [show m + 1 + 1 + j = (m + 1 + j) + 1 by omega, headgateref03_Name.l0]
    unfold headgateref03_Name.b0
    rw [if_pos (by omega), asrt_pos (by omega), h1, Option.bind_some, h2, Option.bind_some, e1]
    (repeat' split) <;> first | exact ih K j (by omega) | exact ⟨_, rfl⟩
theorem name_some (s : ByteArray) (K : Nat) (hK : 100 ≤ K) : ∃ b, headgateref03_Name.f K s = some b := by
  unfold headgateref03_Name.f
  by_cases h : (s.size : Int) < 1
  · rw [if_pos h]; exact ⟨_, rfl⟩
  rw [if_neg h]
  by_cases h' : (s.size : Int) > 64
  · rw [if_pos h']; exact ⟨_, rfl⟩
  obtain ⟨b1, h1⟩ := letter_some (bt s 0)
  rw [if_neg h', asrt_pos (by omega), h1, Option.bind_some]
  split
  · obtain ⟨b, hb⟩ := name_loop s (by omega) s.size K (K - s.size - 1) (Nat.le_refl _)
    rw [show s.size + 1 + (K - s.size - 1) = K by omega, Int.sub_self] at hb
    exact ⟨b, hb⟩
  · exact ⟨_, rfl⟩

/-- What a good table has. -/
structure goodT (t : T_api_Table) : Prop where
  many : t.f0.length ≤ 16
  apart : ∀ i k : Nat, i < t.f0.length → k < i → (regAt t k).f0 ≠ (regAt t i).f0
  ty : 0 ≤ t.f1.f0 ∧ t.f1.f0 ≤ 6

theorem good_inner (t : T_api_Table) (hl : t.f0.length ≤ 16) (again : Int → Option Bool) (i : Nat) (hi : i < t.f0.length) : ∀ (m K j : Nat), m ≤ i →
    headgateref11_Good.l1 K t again (i : Int) (m + 1 + j) ((i : Int) - m) = some false ∨
    (headgateref11_Good.l1 K t again (i : Int) (m + 1 + j) ((i : Int) - m) = again ((i : Int) + 1) ∧ ∀ k : Nat, i - m ≤ k → k < i → (regAt t k).f0 ≠ (regAt t i).f0) := by
  intro m
  induction m with
  | zero =>
    intro K j hm
    right
    rw [show 0 + 1 + j = j + 1 by omega, headgateref11_Good.l1]
    unfold headgateref11_Good.b1
    rw [if_neg (by omega), wi (n := (i : Int) + 1) (by omega) (by omega)]
    exact ⟨rfl, fun k h1 h2 => by omega⟩
  | succ m ih =>
    intro K j hm
    have e1 : IntKind.wrap .i64 ((i : Int) - ((m + 1 : Nat) : Int) + 1) = (i : Int) - m := by rw [wi] <;> omega
    have e2 : (i : Int) - ((m + 1 : Nat) : Int) = ((i - (m + 1) : Nat) : Int) := by omega
    rw [show m + 1 + 1 + j = (m + 1 + j) + 1 by omega, headgateref11_Good.l1]
    unfold headgateref11_Good.b1
    rw [if_pos (by omega), asrt_pos (by omega), asrt_pos (by omega), e1, e2]
    have r1 : rdL T_api_Reg.z t.f0 ((i - (m + 1) : Nat) : Int) = regAt t (i - (m + 1)) := by unfold rdL regAt; rw [Int.toNat_natCast]
    have r2 : rdL T_api_Reg.z t.f0 (i : Int) = regAt t i := by unfold rdL regAt; rw [Int.toNat_natCast]
    rw [r1, r2]
    by_cases c : (regAt t (i - (m + 1))).f0 = (regAt t i).f0
    · rw [if_pos c]; exact Or.inl rfl
    · rw [if_neg c]
      rcases ih K j (by omega) with h | ⟨h, h'⟩
      · exact Or.inl h
      · right
        refine ⟨h, fun k q1 q2 => ?_⟩
        by_cases e : k = i - (m + 1)
        · subst e; exact c
        · exact h' k (by omega) q2

theorem good_loop (t : T_api_Table) (hl : t.f0.length ≤ 16) (K : Nat) (hK : 100 ≤ K) : ∀ (m j : Nat), m ≤ t.f0.length →
    ∃ b, headgateref11_Good.l0 K t (m + 1 + j) ((t.f0.length : Int) - m) = some b ∧ (b = true → (∀ i k : Nat, t.f0.length - m ≤ i → i < t.f0.length → k < i → (regAt t k).f0 ≠ (regAt t i).f0) ∧ 0 ≤ t.f1.f0 ∧ t.f1.f0 ≤ 6) := by
  intro m
  induction m with
  | zero =>
    intro j hm
    rw [show 0 + 1 + j = j + 1 by omega, headgateref11_Good.l0]
    unfold headgateref11_Good.b0
    rw [if_neg (by omega)]
    have v : ∀ i k : Nat, t.f0.length - 0 ≤ i → i < t.f0.length → k < i → (regAt t k).f0 ≠ (regAt t i).f0 := fun i k h1 h2 => by omega
    by_cases c0 : t.f1.f0 = 0
    · rw [if_pos c0]; exact ⟨_, rfl, fun _ => ⟨v, by omega⟩⟩
    rw [if_neg c0]
    have al : headgateref11_alone.f t.f1.f0 = some (decide (1 ≤ t.f1.f0 ∧ t.f1.f0 ≤ 4)) := by
      unfold headgateref11_alone.f
      by_cases h : t.f1.f0 ≥ 1 <;> by_cases h' : t.f1.f0 ≤ 4 <;> simp [h, h'] <;> omega
    rw [al, Option.bind_some]
    by_cases c1 : 1 ≤ t.f1.f0 ∧ t.f1.f0 ≤ 4
    · rw [if_pos (by simpa using c1), show headgateref10_Registered.f K _ t.f1.f1 = some (isReg t.f0 t.f1.f1) from headgateref10_Registered.is t _ K (by omega) (by omega), Option.bind_some]
      exact ⟨_, rfl, fun _ => ⟨v, by omega⟩⟩
    rw [if_neg (by simpa using c1), headgateref10_Type.val, Option.bind_some]
    by_cases c2 : 1 ≤ t.f1.f0 ∧ t.f1.f0 ≤ 6
    · rw [if_pos (by simpa using c2)]
      split
      · exact ⟨_, rfl, fun _ => ⟨v, by omega⟩⟩
      · exact ⟨_, rfl, fun _ => ⟨v, by omega⟩⟩
    · rw [if_neg (by simpa using c2)]
      exact ⟨_, rfl, fun h => by cases h⟩
  | succ m ih =>
    intro j hm
    have e2 : (t.f0.length : Int) - ((m + 1 : Nat) : Int) = ((t.f0.length - (m + 1) : Nat) : Int) := by omega
    have hi : t.f0.length - (m + 1) < t.f0.length := by omega
    obtain ⟨b, hb, hb2⟩ := ih j (by omega)
    have e3 : (t.f0.length : Int) - (m : Int) = ((t.f0.length - (m + 1) : Nat) : Int) + 1 := by omega
    rw [e3] at hb
    have hmi : t.f0.length - m = (t.f0.length - (m + 1)) + 1 := by omega
    rw [hmi] at hb2
    rw [e2, show m + 1 + 1 + j = (m + 1 + j) + 1 by omega, headgateref11_Good.l0]
    generalize t.f0.length - (m + 1) = i at hi hb hb2
    unfold headgateref11_Good.b0
    obtain ⟨n, hn⟩ := name_some (rdL T_api_Reg.z t.f0 (i : Int)).f0 K hK
    rw [if_pos (by omega), asrt_pos (by omega), hn, Option.bind_some]
    split
    · split
      · exact ⟨_, rfl, fun h => by cases h⟩
      · have := good_inner t hl (headgateref11_Good.l0 K t (m + 1 + j)) i hi i K (K - i - 1) (Nat.le_refl _)
        rw [show i + 1 + (K - i - 1) = K by omega, Int.sub_self] at this
        rcases this with h | ⟨h, h'⟩
        · rw [h]; exact ⟨_, rfl, fun h => by cases h⟩
        · rw [h, hb]
          refine ⟨b, rfl, fun q => ?_⟩
          obtain ⟨r1, r2⟩ := hb2 q
          refine ⟨fun a k q1 q2 q3 => ?_, r2⟩
          by_cases e : a = i
          · subst e; exact h' k (by omega) q3
          · exact r1 a k (by omega) q2 q3
    · exact ⟨_, rfl, fun h => by cases h⟩

theorem headgateref11_Good.is (t : T_api_Table) (K : Nat) (hK : 100 ≤ K) : ∃ b, headgateref11_Good.f K t = some b ∧ (b = true → goodT t) := by
  unfold headgateref11_Good.f
  by_cases h : (t.f0.length : Int) > 16
  · rw [if_pos h]; exact ⟨_, rfl, fun h => by cases h⟩
  · rw [if_neg h]
    obtain ⟨b, hb, hb2⟩ := good_loop t (by omega) K hK t.f0.length (K - t.f0.length - 1) (Nat.le_refl _)
    rw [show t.f0.length + 1 + (K - t.f0.length - 1) = K by omega, Int.sub_self] at hb
    exact ⟨b, hb, fun q => ⟨by omega, fun i k h1 h2 => (hb2 q).1 i k (by omega) h1 h2, (hb2 q).2⟩⟩

/-- What stands in a good table's report. -/
theorem rep_vals (t : T_api_Table) (o : t.ok) (g : goodT t) : manyS (strOfNums (repL t)) = t.f0.length ∧ le (strOfNums (repL t)) 0 4 = t.f2 ∧ bt (strOfNums (repL t)) 4 = t.f1.f0 ∧ bt (strOfNums (repL t)) 9 = bitI t.f3 ∧
    (∀ j, j < t.f0.length → bS (strOfNums (repL t)) j = hAt t j ∧ kS (strOfNums (repL t)) j = kAt t j) := by
  have hm := g.many
  have ht := g.ty
  have e1 : manyOf t = t.f0.length := by unfold manyOf; omega
  have e2 : tyOf t = t.f1.f0 := by unfold tyOf; split <;> omega
  have hb := bitI_range t.f3
  have hin : inB (hdrL t.f2 t.f1.f0 (t.f0.length : Int) (bitI t.f3) ++ rowsL (hAt t) (kAt t) t.f0.length) :=
    inB_append (hdrL_in _ _ _ _ (by omega) (by omega)) (rowsL_in _ _ (fun j => by have := bitI_range (holdsB t (regAt t j).f0); unfold hAt; omega) _)
  have hin2 := (inB_append'.1 hin).2
  unfold repL
  rw [e1, e2]
  have hd : hdrL t.f2 t.f1.f0 (t.f0.length : Int) (bitI t.f3) ++ rowsL (hAt t) (kAt t) t.f0.length = ltB t.f2 4 ++ ([t.f1.f0] ++ (ltB (t.f0.length : Int) 2 ++ ([0, 0, bitI t.f3] ++ (List.replicate 14 0 ++ rowsL (hAt t) (kAt t) t.f0.length)))) := by
    unfold hdrL; simp only [List.append_assoc]
  have l4 : ∀ m, (ltB t.f2 4 ++ m)[4]? = m[0]? := fun m => by rw [List.getElem?_append_right (by rw [ltB_length]; omega), ltB_length]
  refine ⟨?_, ?_, ?_, ?_, fun j hj => ⟨row_bit _ _ _ _ _ _ _ j hj hin, ?_⟩⟩
  · unfold manyS
    have hx : inB (ltB t.f2 4 ++ [t.f1.f0]) := inB_append (inB_ltB _ _) (inB_cons (by omega) inB_nil)
    have hy : inB ([0, 0, bitI t.f3] ++ (List.replicate 14 0 ++ rowsL (hAt t) (kAt t) t.f0.length)) := inB_append (inB_cons (by omega) (inB_cons (by omega) (inB_cons (by omega) inB_nil))) (inB_append (inB_zero _) hin2)
    have := le_behind (ltB t.f2 4 ++ [t.f1.f0]) hx (t.f0.length : Int) 2 (by omega) (by omega) _ hy 5 (by rw [List.length_append, ltB_length]; rfl)
    rw [hd, ← List.append_assoc, show (5 : Int) = ((5 : Nat) : Int) from rfl, this, Int.toNat_natCast]
  · have hg := o.f2
    rw [hd]
    rw [hd] at hin
    exact le_ahead t.f2 4 hg.1 (by omega) _ (inB_append'.1 hin).2
  · rw [hd] at hin ⊢
    rw [bt_of _ hin, List.getD_eq_getElem?_getD, show ((4 : Int)).toNat = 4 from rfl, l4]; rfl
  · rw [hd] at hin ⊢
    rw [bt_of _ hin, List.getD_eq_getElem?_getD, show ((9 : Int)).toNat = 9 from rfl, List.getElem?_append_right (by rw [ltB_length]; omega), ltB_length, List.getElem?_append_right (by simp), List.getElem?_append_right (by rw [ltB_length]; simp), ltB_length]; rfl
  · have hk := kAt_range t o j
    unfold kS
    have := le_of _ hin (40 + 24 * j) (kAt t j) hk.1 8 fun i hi => by
      rw [List.getD_eq_getElem?_getD, List.getElem?_append_right (by rw [hdrL_length]; omega), hdrL_length, show 40 + 24 * j + i - 24 = 24 * j + (16 + i) by omega, rowsL_get _ _ (16 + i) (by omega) _ j hj]
      have : entL ((j : Int) + 1) (hAt t j) (kAt t j) = (ltB ((j : Int) + 1) 2 ++ [hAt t j] ++ List.replicate 13 0) ++ ltB (kAt t j) 8 := rfl
      have hlen : (ltB ((j : Int) + 1) 2 ++ [hAt t j] ++ List.replicate 13 (0 : Int)).length = 16 := by simp [ltB_length]
      rw [this, List.getElem?_append_right (by rw [hlen]; omega), hlen, show 16 + i - 16 = i by omega, ← List.getD_eq_getElem?_getD, ltB_get _ _ _ hi]
    rw [show ((40 + 24 * j : Nat) : Int) = 40 + 24 * (j : Int) by omega] at this
    rw [this, Int.emod_eq_of_lt hk.1 (by have : (256 : Int) ^ 8 = 18446744073709551616 := by decide
                                         omega)]

theorem first_congr (b b' : Nat → Int) : ∀ n, (∀ j, j < n → b j = b' j) → firstAt b n = firstAt b' n ∧ cntB b n = cntB b' n
  | 0, _ => ⟨rfl, rfl⟩
  | n + 1, h => by
    obtain ⟨h1, h2⟩ := first_congr b b' n fun j hj => h j (by omega)
    have := h n (by omega)
    unfold firstAt cntB
    rw [h1, h2, this]; exact ⟨rfl, rfl⟩
theorem regs_congr (b b' : Nat → Int) : ∀ n, (∀ j, j < n → b j = b' j) → regsOf b n = regsOf b' n
  | 0, _ => rfl
  | n + 1, h => by
    rw [regsOf, regsOf, regs_congr b b' n fun j hj => h j (by omega), h n (by omega)]

theorem good_bits (t : T_api_Table) (g : goodT t) : (∀ j, j < t.f0.length → hAt t j ≤ 1) ∧ cntB (hAt t) t.f0.length ≤ mostOf t.f1.f0 t.f0.length ∧ (4 < t.f1.f0 → cntB (hAt t) t.f0.length = t.f0.length) := by
  have hb : ∀ j, 0 ≤ hAt t j := fun j => (bitI_range _).1
  have h1 : ∀ j, j < t.f0.length → hAt t j ≤ 1 := fun j _ => (bitI_range _).2
  have ht := g.ty
  refine ⟨h1, ?_, ?_⟩
  · unfold mostOf
    by_cases c0 : t.f1.f0 = 0
    · rw [if_pos c0, cnt_zero _ hb]
      intro j hj
      unfold hAt holdsB
      rw [if_neg (by omega), if_neg (by omega)]; rfl
    rw [if_neg c0]
    by_cases c4 : t.f1.f0 ≤ 4
    · rw [if_pos c4]
      have hh : ∀ j, hAt t j = bitI (decide ((regAt t j).f0 = t.f1.f1)) := fun j => by unfold hAt holdsB; rw [if_pos (by omega)]
      refine ((cnt_one _ hb _).2 fun j hj => ?_).2
      rcases first_cases (hAt t) hb t.f0.length with ⟨q1, q2, _⟩ | ⟨f, q0, q1, q2, q3, _⟩
      · rw [q1, if_neg (by omega)]; exact q2 j hj
      · rw [q1]
        have hf : (regAt t f).f0 = t.f1.f1 := by
          rw [hh] at q2
          by_cases c : (regAt t f).f0 = t.f1.f1
          · exact c
          · rw [decide_eq_false c] at q2; exact absurd q2 (by decide)
        by_cases e : f = j
        · subst e
          rw [if_pos rfl, hh, decide_eq_true hf]; rfl
        · rw [if_neg (by omega), hh, decide_eq_false]
          · rfl
          · intro hj2
            rcases Nat.lt_or_gt_of_ne e with h | h
            · exact g.apart j f hj h (by rw [hf, hj2])
            · exact g.apart f j q0 h (by rw [hf, hj2])
    · rw [if_neg c4]; exact cnt_le _ hb _ h1
  · intro c
    refine (cnt_all _ hb _ h1).2 fun j hj => ?_
    unfold hAt holdsB
    rw [if_neg (by omega), if_pos (by omega), (isReg_iff _ _).2 ⟨regAt t j, ?_, rfl⟩]
    · rfl
    · unfold regAt
      rw [List.getD_eq_getElem?_getD, List.getElem?_eq_getElem hj]
      exact List.getElem_mem hj

theorem told_good (t : T_api_Table) (o : t.ok) (g : goodT t) : toldR (strOfNums (repL t)) = (t.f2, t.f1.f0, regsOf (kAt t) t.f0.length, firstAt (hAt t) t.f0.length, 0) := by
  obtain ⟨v1, v2, v3, v4, v5⟩ := rep_vals t o g
  obtain ⟨b1, b2, b3⟩ := good_bits t g
  have hm := g.many
  have hb := bitI_range t.f3
  have e1 : manyOf t = t.f0.length := by unfold manyOf; omega
  have e2 : tyOf t = t.f1.f0 := by have := g.ty; unfold tyOf; split <;> omega
  obtain ⟨c1, c2⟩ := first_congr (bS (strOfNums (repL t))) (hAt t) t.f0.length fun j hj => (v5 j hj).1
  have c3 := regs_congr (kS (strOfNums (repL t))) (kAt t) t.f0.length fun j hj => (v5 j hj).2
  have hok : okR (strOfNums (repL t)) := by
    refine ⟨by omega, ?_, ?_, by omega, by have := g.ty; omega, fun j hj => ?_, ?_, ?_⟩
    · rw [v1, strOfNums_size, repL, List.length_append, hdrL_length, rowsL_length, e1]
    · unfold sndL
      rw [v1, v2, v3, v4, rowsL_congr _ (hAt t) _ (kAt t) _ fun j hj => v5 j hj]
      unfold repL
      rw [e1, e2]
    · rw [v1] at hj
      rw [(v5 j hj).1]; exact b1 j hj
    · rw [v1, v3, c2]; exact b2
    · rw [v1, v3, c2]; exact b3
  unfold toldR
  rw [if_pos hok, v1, v2, v3, c1, c3]

theorem tells_loop (t : T_api_Table) (hl : t.f0.length ≤ 16) (q : Int × Int × (List T_api_Reg) × Int × Int) (hq : q.2.2.1 = regsOf (kAt t) t.f0.length) (hq2 : q.2.2.2.1 = firstAt (hAt t) t.f0.length) (K : Nat) (hw : headgatelaw27_wakes.f K = some true) (hK : 100 ≤ K) : ∀ (i j : Nat) (x : Int), i ≤ t.f0.length →
    ((x = -1 ∧ ∀ a, i ≤ a → a < t.f0.length → hAt t a = 0) ∨ ∃ f : Nat, x = f ∧ i ≤ f ∧ f < t.f0.length ∧ 0 < hAt t f ∧ ∀ a, i ≤ a → a < f → hAt t a = 0) →
    headgatelaw27_NresvTells.l0 K t q (i + 1 + j) x ((i : Int) - 1) = some true := by
  intro i
  induction i with
  | zero =>
    intro j x _ hx
    rw [show 0 + 1 + j = j + 1 by omega, headgatelaw27_NresvTells.l0]
    unfold headgatelaw27_NresvTells.b0
    rw [if_neg (by omega), if_pos, hw]
    · rfl
    · rw [hq2]
      rcases first_cases (hAt t) (fun j => (bitI_range _).1) t.f0.length with ⟨q1, q2, _⟩ | ⟨f, q0, q1, q2, q3, _⟩
      · rcases hx with ⟨h1, h2⟩ | ⟨f', h1, h2, h3, h4, h5⟩
        · omega
        · have := q2 f' h3; omega
      · rcases hx with ⟨h1, h2⟩ | ⟨f', h1, h2, h3, h4, h5⟩
        · have := h2 f (by omega) q0; omega
        · rcases Nat.lt_trichotomy f f' with h | h | h
          · have := h5 f (by omega) h; omega
          · omega
          · have := q3 f' h; omega
  | succ i ih =>
    intro j x hi hx
    have e1 : IntKind.wrap .i64 ((((i + 1 : Nat) : Int) - 1) - 1) = (i : Int) - 1 := by rw [wi] <;> omega
    have e2 : ((i + 1 : Nat) : Int) - 1 = (i : Int) := by omega
    have r1 : rdL T_api_Reg.z q.2.2.1 (i : Int) = ⟨⟨#[]⟩, kAt t i⟩ := by unfold rdL; rw [Int.toNat_natCast, hq]; exact regsOf_get _ _ _ (by omega)
    have r2 : rdL T_api_Reg.z t.f0 (i : Int) = regAt t i := by unfold rdL regAt; rw [Int.toNat_natCast]
    have hlen : q.2.2.1.length = t.f0.length := by rw [hq, regsOf_length]
    have h01 := bitI_range (holdsB t (regAt t i).f0)
    rw [show i + 1 + 1 + j = (i + 1 + j) + 1 by omega, headgatelaw27_NresvTells.l0]
    unfold headgatelaw27_NresvTells.b0
    rw [e1, e2, if_pos (by omega), asrt_pos (by omega), asrt_pos (by omega), asrt_pos (by omega), r1, r2, if_pos (show kAt t i = (regAt t i).f1 from rfl), if_pos rfl, show access_Holds.f K _ (regAt t i).f0 = some (holdsB t (regAt t i).f0) from access_Holds.is t _ K (by omega) (by omega), Option.bind_some]
    by_cases c : holdsB t (regAt t i).f0 = true
    · rw [if_pos c]
      refine ih j _ (by omega) (Or.inr ⟨i, rfl, by omega, by omega, ?_, fun a h1 h2 => by omega⟩)
      unfold hAt; rw [c]; decide
    · rw [if_neg c]
      have hz : hAt t i = 0 := by unfold hAt bitI; rw [if_neg c]
      refine ih j _ (by omega) ?_
      rcases hx with ⟨h1, h2⟩ | ⟨f', h1, h2, h3, h4, h5⟩
      · left
        refine ⟨h1, fun a q1 q2 => ?_⟩
        by_cases e : a = i
        · subst e; exact hz
        · exact h2 a (by omega) q2
      · right
        refine ⟨f', h1, by omega, h3, h4, fun a q1 q2 => ?_⟩
        by_cases e : a = i
        · subst e; exact hz
        · exact h5 a (by omega) q2

theorem headgatelaw27_NresvTells.pure (a0 : T_api_Table) (o0 : a0.ok) : ∃ K, headgatelaw27_NresvTells.f K a0 = some true := by
  refine ⟨300, ?_⟩
  have hw : headgatelaw27_wakes.f 300 = some true := headgatelaw27_wakes.is 100
  have jt : headgatelaw27_NresvTells.j0 300 a0 true = some true := by
    unfold headgatelaw27_NresvTells.j0
    rw [if_pos rfl, hw]; rfl
  unfold headgatelaw27_NresvTells.f
  obtain ⟨b, hb, hb2⟩ := headgatelaw10_Large.is a0 300 (by omega)
  rw [show headgatelaw10_Large.f 300 _ = some b from hb, Option.bind_some]
  cases b with
  | true => rw [if_pos rfl]; exact jt
  | false =>
    obtain ⟨g, hg, hg2⟩ := headgateref11_Good.is a0 300 (by omega)
    rw [if_neg (by simp), show headgateref11_Good.f 300 _ = some g from hg, Option.bind_some]
    cases g with
    | false => exact jt
    | true =>
      have hgood := hg2 rfl
      have hm := hgood.many
      have r3 : nresv_Report.f 300 a0 = some (strOfNums (repL a0)) := nresv_Report.is a0 o0 (by omega) 230 (by omega)
      have hsz : ((strOfNums (repL a0)).size : Int) ≤ 1000000 := by
        rw [strOfNums_size, repL, List.length_append, hdrL_length, rowsL_length]
        unfold manyOf; omega
      have r1 : nresv_Reported.f 300 (strOfNums (repL a0)) = some (toldR (strOfNums (repL a0))) := nresv_Reported.is _ hsz 230
      rw [told_good a0 o0 hgood] at r1
      unfold headgatelaw27_NresvTells.j0
      rw [show (!true) = false from rfl, if_neg (by simp), show headgatekeep_CopyTable.f _ = some a0 from headgatekeep_CopyTable.is a0 (by omega), Option.bind_some, show nresv_Report.f 300 _ = _ from r3, Option.bind_some, r1, Option.bind_some, if_pos rfl, if_pos rfl, if_pos rfl, if_pos (by simp only [regsOf_length])]
      have := tells_loop a0 hm (a0.f2, a0.f1.f0, regsOf (kAt a0) a0.f0.length, firstAt (hAt a0) a0.f0.length, 0) rfl rfl 300 hw (by omega) a0.f0.length (299 - a0.f0.length) (-1) (Nat.le_refl _) (Or.inl ⟨rfl, fun a h1 h2 => by omega⟩)
      rw [show a0.f0.length + 1 + (299 - a0.f0.length) = 300 by omega] at this
      simp only [regsOf_length]
      rw [wi (n := (a0.f0.length : Int) - 1) (by omega) (by omega)]
      exact this

end Go.Proofs.YthjjbkgifelooaaDoor.F
