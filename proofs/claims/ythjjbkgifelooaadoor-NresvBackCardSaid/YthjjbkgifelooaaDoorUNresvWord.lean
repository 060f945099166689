/- What makes a command (layer 27): the program's and the document's are the same. No condition. -/
import Derived.Test.YthjjbkgifelooaaDoorUNresvWords
import Derived.Test.YthjjbkgifelooaaDoorUNumsLe
import Derived.KernelRfl
import Derived.Test.YthjjbkgifelooaaDoorF27
namespace Go.Proofs.YthjjbkgifelooaaDoor.F
open Go Go.RowKit Go.Proofs.YthjjbkgifelooaaDoor.X
open Classical
set_option linter.unusedVariables false
set_option linter.unusedSimpArgs false

/-- A command that an operation makes. -/
def vld (c : T_api_Cmd) : Prop :=
  (c.f1 = 0 ∧ c.f2 = ⟨#[]⟩ ∧ c.f3 = 0 ∧ c.f4 = 0 ∧ c.f5 = ⟨#[]⟩ ∧ c.f6 = false ∧ c.f7 = []) ∧
  ((c.f0 = 8 ∧ c.f10 = 0 ∧ c.f11 = 0 ∧ (c.f13 = 0 ∨ c.f13 = 1 ∨ c.f13 = 2)) ∨
   ((c.f0 = 9 ∨ c.f0 = 10) ∧ c.f9 = 0 ∧ c.f10 = 0 ∧ 1 ≤ c.f11 ∧ c.f11 ≤ 6 ∧ c.f12 = false ∧ c.f13 = 0) ∨
   (c.f0 = 12 ∧ c.f9 = 0 ∧ 1 ≤ c.f11 ∧ c.f11 ≤ 6 ∧ c.f12 = false ∧ c.f13 = 0) ∨
   (c.f0 = 11 ∧ c.f9 = 0 ∧ c.f10 = 0 ∧ c.f11 = 0 ∧ c.f12 = false ∧ c.f13 = 0))
def kindOf (c : T_api_Cmd) : Int := if c.f9 = 0 then 1 else if c.f8 = 0 then 0 else 2
def regW (c : T_api_Cmd) : Int := kindOf c + (if c.f12 = true then 8 else 0) + (if c.f13 = 0 then 0 else (c.f13 + 1) * 1073741824)
def wordOf (c : T_api_Cmd) : Int := if c.f0 = 8 then regW c else if c.f0 = 9 ∨ c.f0 = 10 then c.f11 * 256 else if c.f0 = 12 then 1 + c.f11 * 256 else 1
def opOf (c : T_api_Cmd) : Int := if c.f0 = 8 then 13 else if c.f0 = 9 ∨ c.f0 = 12 then 17 else 21
def numsC (c : T_api_Cmd) : List Int := if c.f0 = 8 then ltB c.f8 8 ++ ltB c.f9 8 else if c.f0 = 9 ∨ c.f0 = 12 then ltB c.f8 8 ++ ltB c.f10 8 else ltB c.f8 8
noncomputable def wspec (c : T_api_Cmd) : Int × Int × ByteArray × Int := if vld c then (opOf c, wordOf c, strOfNums (numsC c), 0) else (0, 0, ⟨#[]⟩, 180)

theorem vld_of (op w : Int) (s : ByteArray) (c : T_api_Cmd) (h0 : 0 ≤ w) (h1 : w ≤ 4294967295) (h : nchg op w s = (c, 0)) : vld c := by
  have bad : ∀ x : T_api_Cmd, (x, (180 : Int)) = (c, 0) → vld c := fun x h => absurd (Prod.mk.inj h).2 (by decide)
  have ty : ∀ (d k o t r : Int), nTyp d k o t r = (c, 0) → (d = 9 ∨ d = 10) ∧ o = 0 ∨ d = 12 → vld c := by
    intro d k o t r h hd
    unfold nTyp at h
    split at h
    · rename_i ht
      obtain ⟨rfl, _⟩ := Prod.mk.inj h
      refine ⟨by simp, ?_⟩
      rcases hd with ⟨rfl | rfl, rfl⟩ | rfl <;> simp [ht]
    · exact bad _ h
  unfold nchg at h
  split at h
  · unfold nReg at h
    split at h
    · rename_i hr
      obtain ⟨rfl, _⟩ := Prod.mk.inj h
      refine ⟨by simp, Or.inl ⟨rfl, rfl, rfl, ?_⟩⟩
      show (if w / 1073741824 = 0 then 0 else w / 1073741824 - 1) = 0 ∨ (if w / 1073741824 = 0 then 0 else w / 1073741824 - 1) = 1 ∨ (if w / 1073741824 = 0 then 0 else w / 1073741824 - 1) = 2
      split <;> omega
    · exact bad _ h
  · split at h
    · exact ty _ _ _ _ _ h (Or.inl ⟨Or.inl rfl, rfl⟩)
    · split at h
      · exact ty _ _ _ _ _ h (Or.inr rfl)
      · split at h
        · exact ty _ _ _ _ _ h (Or.inl ⟨Or.inr rfl, rfl⟩)
        · split at h
          · unfold nClr at h
            split at h
            · obtain ⟨rfl, _⟩ := Prod.mk.inj h
              refine ⟨by simp, ?_⟩
              simp
            · exact bad _ h
          · exact bad _ h

theorem u64_256 {v : Int} (h : v ≤ 18446744073709551615) : v < 256 ^ 8 := by
  have : (256 : Int) ^ 8 = 18446744073709551616 := by decide
  omega
theorem le_first (a : Int) (h : 0 ≤ a ∧ a ≤ 18446744073709551615) (m : List Int) (hm : inB m) : le (strOfNums (ltB a 8 ++ m)) 0 8 = a := le_ahead a 8 h.1 (u64_256 h.2) m hm
theorem le_only (a : Int) (h : 0 ≤ a ∧ a ≤ 18446744073709551615) : le (strOfNums (ltB a 8)) 0 8 = a := by
  have := le_first a h [] inB_nil
  rwa [List.append_nil] at this
theorem le_second (a b : Int) (h : 0 ≤ b ∧ b ≤ 18446744073709551615) : le (strOfNums (ltB a 8 ++ ltB b 8)) 8 8 = b := by
  have := le_behind (ltB a 8) (inB_ltB a 8) b 8 h.1 (u64_256 h.2) [] inB_nil 8 (by rw [ltB_length])
  rwa [List.append_nil] at this
theorem two_size (a b : Int) : (strOfNums (ltB a 8 ++ ltB b 8)).size = 16 := by rw [strOfNums_size, List.length_append, ltB_length, ltB_length]
theorem one_size (a : Int) : (strOfNums (ltB a 8)).size = 8 := by rw [strOfNums_size, ltB_length]

theorem of_vld (c : T_api_Cmd) (o : c.ok) (h : vld c) : nchg (opOf c) (wordOf c) (strOfNums (numsC c)) = (c, 0) := by
  have h8 := o.f8
  have h9 := o.f9
  have h10 := o.f10
  obtain ⟨f0, f1, f2, f3, f4, f5, f6, f7, f8, f9, f10, f11, f12, f13⟩ := c
  obtain ⟨⟨e1, e2, e3, e4, e5, e6, e7⟩, h⟩ := h
  simp only at e1 e2 e3 e4 e5 e6 e7 h h8 h9 h10
  subst e1 e2 e3 e4 e5 e6 e7
  rcases h with ⟨rfl, rfl, rfl, h⟩ | ⟨hf, rfl, rfl, ha, hb, rfl, rfl⟩ | ⟨rfl, rfl, ha, hb, rfl, rfl⟩ | ⟨rfl, rfl, rfl, rfl, rfl, rfl⟩
  · have a1 := le_first f8 h8 (ltB f9 8) (inB_ltB f9 8)
    have a2 := le_second f8 f9 h9
    have a3 := two_size f8 f9
    simp only [opOf, wordOf, numsC, if_true]
    unfold nchg
    rw [if_pos ⟨rfl, a3⟩, a1, a2]
    unfold nReg regW kindOf
    by_cases q9 : f9 = 0
    · subst q9
      cases f12 <;> rcases h with rfl | rfl | rfl <;> simp
    · by_cases q8 : f8 = 0
      · subst q8
        cases f12 <;> rcases h with rfl | rfl | rfl <;> simp [q9]
      · cases f12 <;> rcases h with rfl | rfl | rfl <;> simp [q9, q8]
  · rcases hf with rfl | rfl
    · have a1 := le_first f8 h8 (ltB 0 8) (inB_ltB 0 8)
      have a3 := two_size f8 0
      have q1 : f11 * 256 % 8 = 0 := by omega
      have q2 : f11 * 256 / 256 % 256 = f11 := by omega
      have q4 : f11 % 256 = f11 := by omega
      have q3 : restOf (f11 * 256) = 0 := by unfold restOf; omega
      simp only [opOf, wordOf, numsC]
      unfold nchg
      simp [a1, a3, q1, q2, q3, q4, nTyp, ha, hb]
    · have a1 := le_only f8 h8
      have a3 := one_size f8
      have q1 : f11 * 256 % 8 = 0 := by omega
      have q2 : f11 * 256 / 256 % 256 = f11 := by omega
      have q4 : f11 % 256 = f11 := by omega
      have q3 : restOf (f11 * 256) = 0 := by unfold restOf; omega
      simp only [opOf, wordOf, numsC]
      unfold nchg
      simp [a1, a3, q1, q2, q3, q4, nTyp, ha, hb]
  · have a1 := le_first f8 h8 (ltB f10 8) (inB_ltB f10 8)
    have a2 := le_second f8 f10 h10
    have a3 := two_size f8 f10
    have q1 : (1 + f11 * 256) % 8 = 1 := by omega
    have q2 : (1 + f11 * 256) / 256 % 256 = f11 := by omega
    have q4 : f11 % 256 = f11 := by omega
    have q3 : restOf (1 + f11 * 256) = 0 := by unfold restOf; omega
    simp only [opOf, wordOf, numsC]
    unfold nchg
    simp [a1, a2, a3, q1, q2, q3, q4, nTyp, ha, hb]
  · have a1 := le_only f8 h8
    have a3 := one_size f8
    simp only [opOf, wordOf, numsC]
    unfold nchg
    simp [a1, a3, nClr, restOf]

theorem registerWord.is (c : T_api_Cmd) (h : c.f13 = 0 ∨ c.f13 = 1 ∨ c.f13 = 2) (K : Nat) : nresv_registerWord.f (K + 70) c = some (regW c) := by
  obtain ⟨f0, f1, f2, f3, f4, f5, f6, f7, f8, f9, f10, f11, f12, f13⟩ := c
  unfold nresv_registerWord.f regW kindOf
  simp only at h ⊢
  by_cases q9 : f9 = 0
  · rw [if_pos q9, if_pos q9]
    cases f12 <;> rcases h with rfl | rfl | rfl <;> kernel_rfl
  · rw [if_neg q9, if_neg q9]
    by_cases q8 : f8 = 0
    · rw [if_pos q8, if_pos q8]
      cases f12 <;> rcases h with rfl | rfl | rfl <;> kernel_rfl
    · rw [if_neg q8, if_neg q8]
      cases f12 <;> rcases h with rfl | rfl | rfl <;> kernel_rfl

theorem words_skip (c : T_api_Cmd) (i op low does : Int) (h0 : 0 ≤ i) (h7 : i < 7) (ha : rdL T_nresv_action.z G_nresv_actions i = ⟨op, low, does⟩) (hd : does ≠ c.f0) (K k : Nat) : nresv_Words.l0 (K + 70) c (k + 1) i = nresv_Words.l0 (K + 70) c k (i + 1) := by
  have e1 : IntKind.wrap .i64 (i + 1) = i + 1 := by rw [wi] <;> omega
  rw [nresv_Words.l0]
  unfold nresv_Words.b0
  rw [if_pos h7, asrt_pos h0, ha, e1, if_neg hd]

theorem bor_zero (x : Int) (h : 0 ≤ x ∧ x ≤ 18446744073709551615) : bor .u64 x 0 = x := by
  obtain ⟨n, rfl⟩ := Int.eq_ofNat_of_zero_le h.1
  have := bits_or n 0 (by omega) (by omega)
  rw [Nat.or_zero] at this
  exact this
theorem zero_bor (x : Int) (h : 0 ≤ x ∧ x ≤ 18446744073709551615) : bor .u64 0 x = x := by
  obtain ⟨n, rfl⟩ := Int.eq_ofNat_of_zero_le h.1
  have := bits_or 0 n (by omega) (by omega)
  rw [Nat.zero_or] at this
  exact this
theorem dat16 (c : T_api_Cmd) : datOf c 16 = strOfNums (ltB c.f8 8 ++ ltB (bor .u64 c.f9 c.f10) 8) := by
  unfold datOf
  rw [nums_append, nums_left, List.take_of_length_le (by rw [List.length_append, ltB_length, ltB_length]; omega)]
theorem dat8 (c : T_api_Cmd) : datOf c 8 = strOfNums (ltB c.f8 8) := by
  unfold datOf
  rw [nums_append, nums_left, List.take_left' (by rw [ltB_length])]

theorem words_to (c : T_api_Cmd) (K : Nat) : ∀ m : Nat, m ≤ 7 → (∀ j : Nat, j < m → (rdL T_nresv_action.z G_nresv_actions (j : Int)).f2 ≠ c.f0) → nresv_Words.f (K + 70) c = nresv_Words.l0 (K + 70) c (K + 69 - m + 1) (m : Int)
  | 0, _, _ => rfl
  | m + 1, h, hd => by
    rw [words_to c K m (by omega) (fun j hj => hd j (by omega)), show K + 69 - m + 1 = (K + 69 - (m + 1) + 1) + 1 by omega,
      words_skip c (m : Int) _ _ _ (by omega) (by omega) rfl (hd m (by omega)) K]
    rfl

theorem words_fin (c : T_api_Cmd) (o : c.ok) (hv : vld c) (K : Nat) (i op low does : Int) (n : Nat) (ha : rdL T_nresv_action.z G_nresv_actions i = ⟨op, low, does⟩) (hn : nresv_Size.f op = some (n : Int)) (hn16 : n ≤ 16) (hop : op = opOf c) (h0 : 0 ≤ wordOf c) (h1 : wordOf c ≤ 4294967295) (hd : datOf c n = strOfNums (numsC c)) :
    nresv_Words.j0 (K + 70) c i (wordOf c) = some (opOf c, wordOf c, strOfNums (numsC c), 0) := by
  have hm : 0 ≤ bor .u64 c.f9 c.f10 := by unfold bor; rw [wrapu64]; omega
  rw [words_at c o.f8.1 hm i (wordOf c) op low does n ha hn hn16 h0 h1 K, hd, hop, if_pos (of_vld c o hv)]

theorem words_hit (c : T_api_Cmd) (K k : Nat) (i op low does : Int) (h0 : 0 ≤ i) (h7 : i < 7) (ha : rdL T_nresv_action.z G_nresv_actions i = ⟨op, low, does⟩) (hd : does = c.f0) (w : Int)
    (h : if op = 13 then w = regW c ∧ (c.f13 = 0 ∨ c.f13 = 1 ∨ c.f13 = 2) else if c.f0 = 11 then w = IntKind.wrap .u32 low else w = bor .u32 (IntKind.wrap .u32 low) (IntKind.wrap .u32 ((IntKind.wrap .u32 (band .i64 c.f11 255)) * 256))) :
    nresv_Words.l0 (K + 70) c (k + 1) i = nresv_Words.j0 (K + 70) c i w := by
  rw [nresv_Words.l0]
  unfold nresv_Words.b0
  rw [if_pos h7, asrt_pos h0, ha, if_pos hd]
  by_cases h13 : op = 13
  · rw [if_pos h13] at h
    rw [if_pos h13, registerWord.is c h.2 K, Option.bind_some, h.1]
  · rw [if_neg h13] at h
    rw [if_neg h13]
    by_cases h11 : c.f0 = 11
    · rw [if_pos h11] at h
      rw [if_pos h11, h]
    · rw [if_neg h11] at h
      rw [if_neg h11, h]

theorem typ_low (low t : Int) (hl : low = 0 ∨ low = 1) (h1 : 1 ≤ t) (h6 : t ≤ 6) : bor .u32 (IntKind.wrap .u32 low) (IntKind.wrap .u32 ((IntKind.wrap .u32 (band .i64 t 255)) * 256)) = low + t * 256 := by
  rcases (by omega : t = 1 ∨ t = 2 ∨ t = 3 ∨ t = 4 ∨ t = 5 ∨ t = 6) with h | h | h | h | h | h <;> rw [h] <;> rcases hl with rfl | rfl <;> rfl

def doesAt : Nat → Int
  | 0 => 8 | 1 => 8 | 2 => 8 | 3 => 9 | 4 => 12 | 5 => 10 | _ => 11
theorem does_at : ∀ j : Nat, j < 7 → (rdL T_nresv_action.z G_nresv_actions (j : Int)).f2 = doesAt j := by
  intro j hj
  rcases (by omega : j = 0 ∨ j = 1 ∨ j = 2 ∨ j = 3 ∨ j = 4 ∨ j = 5 ∨ j = 6) with rfl | rfl | rfl | rfl | rfl | rfl | rfl <;> rfl
theorem not_yet (x : Int) (m : Nat) (hm : m ≤ 7) (h : ∀ j : Nat, j < m → doesAt j ≠ x) : ∀ j : Nat, j < m → (rdL T_nresv_action.z G_nresv_actions (j : Int)).f2 ≠ x := fun j hj => by rw [does_at j (by omega)]; exact h j hj

theorem words_vld (c : T_api_Cmd) (o : c.ok) (hv : vld c) (K : Nat) : nresv_Words.f (K + 70) c = some (opOf c, wordOf c, strOfNums (numsC c), 0) := by
  have h8 := o.f8
  have h9 := o.f9
  have h10 := o.f10
  have small : ∀ x : Int, (x = 8 ∨ x = 9 ∨ x = 10 ∨ x = 11 ∨ x = 12) → ∀ m : Nat, m ≤ 7 → (∀ j : Nat, j < m → doesAt j ≠ x) → c.f0 = x → nresv_Words.f (K + 70) c = nresv_Words.l0 (K + 70) c (K + 69 - m + 1) (m : Int) :=
    fun x _ m hm h e => words_to c K m hm (by rw [e]; exact not_yet x m hm h)
  obtain ⟨_, hv2⟩ := id hv
  rcases hv2 with ⟨q0, q10, q11, q13⟩ | ⟨q0 | q0, q9, q10, ha, hb, q12, q13⟩ | ⟨q0, q9, ha, hb, q12, q13⟩ | ⟨q0, q9, q10, q11, q12, q13⟩
  · have wd : wordOf c = regW c := by unfold wordOf; rw [if_pos q0]
    have rw_ : 0 ≤ regW c ∧ regW c ≤ 4294967295 := by
      unfold regW kindOf
      rcases q13 with h | h | h <;> rw [h] <;> (repeat' split) <;> omega
    rw [small 8 (by omega) 0 (by omega) (by omega) q0, words_hit c K _ _ 13 0 8 (by omega) (by omega) rfl q0.symm (wordOf c) (by rw [if_pos rfl]; exact ⟨wd, q13⟩)]
    exact words_fin c o hv K _ 13 0 8 16 rfl rfl (by omega) (by unfold opOf; rw [if_pos q0]) (by omega) (by omega) (by rw [dat16, q10, bor_zero _ h9]; unfold numsC; rw [if_pos q0])
  · have wd : wordOf c = c.f11 * 256 := by unfold wordOf; rw [if_neg (by omega), if_pos (Or.inl q0)]
    rw [small 9 (by omega) 3 (by omega) (by decide) q0, words_hit c K _ _ 17 0 9 (by omega) (by omega) rfl q0.symm (wordOf c) (by rw [if_neg (by omega), if_neg (by omega), typ_low 0 _ (Or.inl rfl) ha hb, wd]; omega)]
    exact words_fin c o hv K _ 17 0 9 16 rfl rfl (by omega) (by unfold opOf; rw [if_neg (by omega), if_pos (Or.inl q0)]) (by omega) (by omega) (by rw [dat16, q9, q10]; unfold numsC; rw [if_neg (by omega), if_pos (Or.inl q0), q10]; rfl)
  · have wd : wordOf c = c.f11 * 256 := by unfold wordOf; rw [if_neg (by omega), if_pos (Or.inr q0)]
    rw [small 10 (by omega) 5 (by omega) (by decide) q0, words_hit c K _ _ 21 0 10 (by omega) (by omega) rfl q0.symm (wordOf c) (by rw [if_neg (by omega), if_neg (by omega), typ_low 0 _ (Or.inl rfl) ha hb, wd]; omega)]
    exact words_fin c o hv K _ 21 0 10 8 rfl rfl (by omega) (by unfold opOf; rw [if_neg (by omega), if_neg (by omega)]) (by omega) (by omega) (by rw [dat8]; unfold numsC; rw [if_neg (by omega), if_neg (by omega)])
  · have wd : wordOf c = 1 + c.f11 * 256 := by unfold wordOf; rw [if_neg (by omega), if_neg (by omega), if_pos q0]
    rw [small 12 (by omega) 4 (by omega) (by decide) q0, words_hit c K _ _ 17 1 12 (by omega) (by omega) rfl q0.symm (wordOf c) (by rw [if_neg (by omega), if_neg (by omega), typ_low 1 _ (Or.inr rfl) ha hb, wd])]
    exact words_fin c o hv K _ 17 1 12 16 rfl rfl (by omega) (by unfold opOf; rw [if_neg (by omega), if_pos (Or.inr q0)]) (by omega) (by omega) (by rw [dat16, q9, zero_bor _ h10]; unfold numsC; rw [if_neg (by omega), if_pos (Or.inr q0)])
  · have wd : wordOf c = 1 := by unfold wordOf; rw [if_neg (by omega), if_neg (by omega), if_neg (by omega)]
    rw [small 11 (by omega) 6 (by omega) (by decide) q0, words_hit c K _ _ 21 1 11 (by omega) (by omega) rfl q0.symm (wordOf c) (by rw [if_neg (by omega), if_pos q0, wd]; rfl)]
    exact words_fin c o hv K _ 21 1 11 8 rfl rfl (by omega) (by unfold opOf; rw [if_neg (by omega), if_neg (by omega)]) (by omega) (by omega) (by rw [dat8]; unfold numsC; rw [if_neg (by omega), if_neg (by omega)])

theorem nresv_Words.is (c : T_api_Cmd) (o : c.ok) (K : Nat) : nresv_Words.f (K + 70) c = some (wspec c) := by
  unfold wspec
  by_cases hv : vld c
  · rw [if_pos hv]; exact words_vld c o hv K
  · have hm : 0 ≤ bor .u64 c.f9 c.f10 := by unfold bor; rw [wrapu64]; omega
    obtain ⟨r, hr, hg⟩ := nresv_Words.weak c o.f8.1 hm K
    rw [hr, if_neg hv, hg.2.2 (fun h => hv (vld_of _ _ _ _ hg.1.1 hg.1.2 (hg.2.1 h)))]

end Go.Proofs.YthjjbkgifelooaaDoor.F
