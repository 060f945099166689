/- The block that asks for something (layer 15): what can be asked, and its bytes. No condition. -/
import Derived.Test.YtpjcipadjegmlaaDoorUCdbRef
import Derived.Test.YtpjcipadjegmlaaDoorF22
import Derived.Test.YtpjcipadjegmlaaDoorF16
namespace Go.Proofs.YtpjcipadjegmlaaDoor.F
open Go Go.RowKit Go.Proofs.YtpjcipadjegmlaaDoor.X
open Classical
set_option linter.unusedVariables false
set_option linter.unusedSimpArgs false

/-- What can be asked by a block with that first byte. -/
def goodA (x : T_cdb_Ask) (b : Int) : Prop :=
  ((b = 0 ∨ b = 37 ∨ b = 53) ∧ x = ⟨b, 0, 0, false, 0, 0, 0⟩) ∨
  (b = 18 ∧ (x.f4 = 0 ∨ (256 ≤ x.f4 ∧ x.f4 ≤ 511)) ∧ (0 ≤ x.f5 ∧ x.f5 ≤ 65535) ∧ x = ⟨18, 0, 0, false, x.f4, x.f5, 0⟩) ∨
  ((b = 40 ∨ b = 42) ∧ (0 ≤ x.f1 ∧ x.f1 ≤ 4294967295) ∧ (0 ≤ x.f2 ∧ x.f2 ≤ 65535) ∧ (x.f3 = true → b = 42) ∧ x = ⟨b, x.f1, x.f2, x.f3, 0, 0, 0⟩) ∨
  ((b = 136 ∨ b = 138 ∨ b = 147) ∧ (0 ≤ x.f1 ∧ x.f1 ≤ 2147483647) ∧ (0 ≤ x.f2 ∧ x.f2 ≤ 2147483647) ∧ (x.f3 = true → b = 138) ∧ x = ⟨b, x.f1, x.f2, x.f3, 0, 0, 0⟩) ∨
  (b = 137 ∧ (0 ≤ x.f1 ∧ x.f1 ≤ 2147483647) ∧ (0 ≤ x.f2 ∧ x.f2 ≤ 255) ∧ x = ⟨137, x.f1, x.f2, false, 0, 0, 0⟩) ∨
  (b = 66 ∧ (0 ≤ x.f5 ∧ x.f5 ≤ 65535) ∧ x = ⟨66, 0, 0, false, 0, x.f5, 0⟩) ∨
  (b = 160 ∧ (0 ≤ x.f5 ∧ x.f5 ≤ 4294967295) ∧ x = ⟨160, 0, 0, false, 0, x.f5, 0⟩) ∨
  (b = 94 ∧ (x.f0 = 24064 ∨ x.f0 = 24065) ∧ (0 ≤ x.f5 ∧ x.f5 ≤ 65535) ∧ x = ⟨x.f0, 0, 0, false, 0, x.f5, 0⟩) ∨
  (b = 95 ∧ (x.f0 = 24320 ∨ x.f0 = 24323 ∨ x.f0 = 24326) ∧ x = ⟨x.f0, 0, 0, false, 0, 24, 0⟩) ∨
  (b = 95 ∧ (x.f0 = 24321 ∨ x.f0 = 24322 ∨ x.f0 = 24324) ∧ (1 ≤ x.f6 ∧ x.f6 ≤ 6) ∧ x = ⟨x.f0, 0, 0, false, 0, 24, x.f6⟩)

theorem be_bound (s : ByteArray) (p : Int) : (0 ≤ be s p 2 ∧ be s p 2 ≤ 65535) ∧ (0 ≤ be s p 4 ∧ be s p 4 ≤ 4294967295) ∧ 0 ≤ be s p 8 := by
  have a := be_lo s p 2; have b := be_hi s p 2; have c := be_lo s p 4; have d := be_hi s p 4; have e := be_lo s p 8
  have e1 : (256 : Int) ^ 2 = 65536 := by decide
  have e2 : (256 : Int) ^ 4 = 4294967296 := by decide
  omega
theorem tyC_range (n : Int) (h : ¬ tyC n = 0) : 1 ≤ tyC n ∧ tyC n ≤ 6 := by
  unfold tyC at h ⊢
  (repeat' split at h) <;> (repeat' split) <;> omega

theorem pbody_good (s : ByteArray) (b : Int) (hb : isOp b) (x : T_cdb_Ask) (h : pbody s b = (x, 0)) : goodA x b := by
  have b10 := bt_lo s 1; have b11 := bt_hi s 1; have b20 := bt_lo s 2; have b21 := bt_hi s 2; have b130 := bt_lo s 13; have b131 := bt_hi s 13
  have q3 := be_bound s 3; have q2 := be_bound s 2; have q7 := be_bound s 7; have q10 := be_bound s 10; have q6 := be_bound s 6; have q5 := be_bound s 5
  have bad : ∀ {p : Prop} (y : T_cdb_Ask), (y, (150 : Int)) = (x, 0) → p := fun y h => absurd (Prod.mk.inj h).2 (by decide)
  unfold pbody at h
  unfold goodA
  by_cases c1 : b = 0 ∨ b = 37 ∨ b = 53
  · rw [if_pos c1] at h
    obtain ⟨rfl, _⟩ := Prod.mk.inj h
    exact Or.inl ⟨c1, rfl⟩
  rw [if_neg c1] at h
  by_cases c2 : b = 18
  · rw [if_pos c2] at h
    obtain ⟨rfl, _⟩ := Prod.mk.inj h
    refine Or.inr (Or.inl ⟨c2, ?_, q3.1, rfl⟩)
    show (if bt s 1 % 2 = 1 then 256 + bt s 2 else 0) = 0 ∨ 256 ≤ (if bt s 1 % 2 = 1 then 256 + bt s 2 else 0) ∧ (if bt s 1 % 2 = 1 then 256 + bt s 2 else 0) ≤ 511
    split <;> omega
  rw [if_neg c2] at h
  by_cases c3 : b = 40 ∨ b = 42
  · rw [if_pos c3] at h
    obtain ⟨rfl, _⟩ := Prod.mk.inj h
    exact Or.inr (Or.inr (Or.inl ⟨c3, q2.2.1, q7.1, fun e => (of_decide_eq_true e).1, rfl⟩))
  rw [if_neg c3] at h
  by_cases c4 : b = 136 ∨ b = 138 ∨ b = 147
  · rw [if_pos c4] at h
    by_cases hn : be s 2 8 ≥ 2147483648 ∨ be s 10 4 ≥ 2147483648 ∨ (b = 147 ∧ bt s 1 % 2 = 0)
    · rw [if_pos hn] at h; exact bad _ h
    · rw [if_neg hn] at h
      simp only [not_or] at hn
      obtain ⟨rfl, _⟩ := Prod.mk.inj h
      exact Or.inr (Or.inr (Or.inr (Or.inl ⟨c4, ⟨q2.2.2, by show be s 2 8 ≤ _; omega⟩, ⟨q10.2.1.1, by show be s 10 4 ≤ _; omega⟩, fun e => (of_decide_eq_true e).1, rfl⟩)))
  rw [if_neg c4] at h
  by_cases c5 : b = 137
  · rw [if_pos c5] at h
    by_cases hn : be s 2 8 ≥ 2147483648
    · rw [if_pos hn] at h; exact bad _ h
    · rw [if_neg hn] at h
      obtain ⟨rfl, _⟩ := Prod.mk.inj h
      exact Or.inr (Or.inr (Or.inr (Or.inr (Or.inl ⟨c5, ⟨q2.2.2, by show be s 2 8 ≤ _; omega⟩, ⟨b130, b131⟩, rfl⟩))))
  rw [if_neg c5] at h
  by_cases c6 : b = 66
  · rw [if_pos c6] at h
    obtain ⟨rfl, _⟩ := Prod.mk.inj h
    exact Or.inr (Or.inr (Or.inr (Or.inr (Or.inr (Or.inl ⟨c6, q7.1, rfl⟩)))))
  rw [if_neg c6] at h
  by_cases c7 : b = 160
  · rw [if_pos c7] at h
    obtain ⟨rfl, _⟩ := Prod.mk.inj h
    exact Or.inr (Or.inr (Or.inr (Or.inr (Or.inr (Or.inr (Or.inl ⟨c7, q6.2.1, rfl⟩))))))
  rw [if_neg c7] at h
  by_cases c8 : b = 94
  · rw [if_pos c8] at h
    by_cases hn : bt s 1 % 32 > 1
    · rw [if_pos hn] at h; exact bad _ h
    · rw [if_neg hn] at h
      obtain ⟨rfl, _⟩ := Prod.mk.inj h
      exact Or.inr (Or.inr (Or.inr (Or.inr (Or.inr (Or.inr (Or.inr (Or.inl ⟨c8, by show 24064 + bt s 1 % 32 = 24064 ∨ 24064 + bt s 1 % 32 = 24065; omega, q7.1, rfl⟩)))))))
  rw [if_neg c8] at h
  have h95 : b = 95 := by unfold isOp at hb; omega
  by_cases hn : be s 5 4 ≠ 24 ∨ bt s 2 > 15 ∨ bt s 1 % 32 > 6 ∨ bt s 1 % 32 = 5
  · rw [if_pos hn] at h; exact bad _ h
  rw [if_neg hn] at h
  simp only [not_or] at hn
  by_cases ha : bt s 1 % 32 = 1 ∨ bt s 1 % 32 = 2 ∨ bt s 1 % 32 = 4
  · rw [if_pos ha] at h
    by_cases ht : tyC (bt s 2) = 0
    · rw [if_pos ht] at h; exact bad _ h
    · rw [if_neg ht] at h
      obtain ⟨rfl, _⟩ := Prod.mk.inj h
      exact Or.inr (Or.inr (Or.inr (Or.inr (Or.inr (Or.inr (Or.inr (Or.inr (Or.inr ⟨h95, by show 24320 + bt s 1 % 32 = _ ∨ 24320 + bt s 1 % 32 = _ ∨ 24320 + bt s 1 % 32 = _; omega, tyC_range _ ht, rfl⟩))))))))
  · rw [if_neg ha] at h
    obtain ⟨rfl, _⟩ := Prod.mk.inj h
    exact Or.inr (Or.inr (Or.inr (Or.inr (Or.inr (Or.inr (Or.inr (Or.inr (Or.inl ⟨h95, by show 24320 + bt s 1 % 32 = _ ∨ 24320 + bt s 1 % 32 = _ ∨ 24320 + bt s 1 % 32 = _; omega, rfl⟩))))))))

/-- The first byte of what is asked. -/
def opA (x : T_cdb_Ask) : Int := if x.f0 > 255 then x.f0 / 256 else x.f0
theorem goodA_op (x : T_cdb_Ask) (b : Int) (h : goodA x b) : b = opA x ∧ isOp b ∧ 0 ≤ x.f0 ∧ x.f0 ≤ 65535 := by
  unfold goodA at h
  unfold opA isOp
  rcases h with ⟨h1, h⟩ | ⟨h1, _, _, h⟩ | ⟨h1, _, _, _, h⟩ | ⟨h1, _, _, _, h⟩ | ⟨h1, _, _, h⟩ | ⟨h1, _, h⟩ | ⟨h1, _, h⟩ | ⟨h1, h2, _, h⟩ | ⟨h1, h2, h⟩ | ⟨h1, h2, _, h⟩
  all_goals (have e := congrArg T_cdb_Ask.f0 h; simp only at e; refine ⟨?_, ?_, ?_, ?_⟩ <;> (try split) <;> omega)

/-- Its bytes. -/
def layA (x : T_cdb_Ask) : List Int :=
  if opA x = 0 then [0, 0, 0, 0, 0, 0]
  else if opA x = 18 then [18, if x.f4 > 0 then 1 else 0, if x.f4 > 0 then x.f4 % 256 else 0] ++ beB x.f5 2 ++ [0]
  else if opA x = 37 ∨ opA x = 53 then [opA x, 0, 0, 0, 0, 0, 0, 0, 0, 0]
  else if opA x = 40 ∨ opA x = 42 then [opA x, if x.f3 = true then 8 else 0] ++ beB x.f1 4 ++ [0] ++ beB x.f2 2 ++ [0]
  else if opA x = 136 ∨ opA x = 138 ∨ opA x = 147 then [opA x, if opA x = 147 then 1 else if x.f3 = true then 8 else 0] ++ beB x.f1 8 ++ beB x.f2 4 ++ [0, 0]
  else if opA x = 137 then [137, 0] ++ beB x.f1 8 ++ [0, 0, 0] ++ beB x.f2 1 ++ [0, 0]
  else if opA x = 66 then [66, 0, 0, 0, 0, 0, 0] ++ beB x.f5 2 ++ [0]
  else if opA x = 160 then [160, 0, 0, 0, 0, 0] ++ beB x.f5 4 ++ [0, 0]
  else if opA x = 94 then [94, x.f0 % 256, 0, 0, 0, 0, 0] ++ beB x.f5 2 ++ [0]
  else [95, x.f0 % 256, noC x.f6, 0, 0] ++ beB x.f5 4 ++ [0]

theorem noC_back (t : Int) (h : 1 ≤ t ∧ t ≤ 6) : tyC (noC t) = t ∧ 1 ≤ noC t ∧ noC t ≤ 8 := by
  rcases (by omega : t = 1 ∨ t = 2 ∨ t = 3 ∨ t = 4 ∨ t = 5 ∨ t = 6) with rfl | rfl | rfl | rfl | rfl | rfl <;> decide

theorem cparse_at (l : List Int) (hin : inB l) (b : Int) (hl : (l.length : Int) = lenC b) (h0 : l.getD 0 0 = b) (hlen : 0 < l.length) (hlast : l.getD (l.length - 1) 0 = 0) : cparse (strOfNums l) = pbody (strOfNums l) b := by
  have hb : bt (strOfNums l) 0 = b := by rw [bt_of l hin]; exact h0
  have hs : (strOfNums l).size = l.length := strOfNums_size l
  rw [cparse_good (strOfNums l) (by rw [hs]; omega) (by rw [hb, ← hl]; omega) (by rw [hb, hs, hl]), hb]
  rw [hb, ← hl, bt_of l hin, show ((l.length : Int) - 1).toNat = l.length - 1 by omega]
  exact hlast

theorem layA_in (x : T_cdb_Ask) (b : Int) (h : goodA x b) : inB (layA x) := by
  obtain ⟨hb, hop, h0, h1⟩ := goodA_op x b h
  have hn : 0 ≤ noC x.f6 ∧ noC x.f6 ≤ 255 := by unfold noC; (repeat' split) <;> omega
  have hob : 0 ≤ opA x ∧ opA x ≤ 255 := by rw [← hb]; unfold isOp at hop; omega
  have bb : ∀ v n, inB (beB v n) := fun v n => inB_beB v n
  unfold layA
  (repeat' split) <;> simp only [inB_append', inB_cons', bb, inB_nil, true_and, and_true] <;> (try omega)

set_option maxHeartbeats 4000000 in
/-- What is asked comes back out of its bytes. -/
theorem lay_parse (x : T_cdb_Ask) (b : Int) (h : goodA x b) : cparse (strOfNums (layA x)) = (x, 0) := by
  obtain ⟨hb, hop, hx0, hx1⟩ := goodA_op x b h
  have hin := layA_in x b h
  clear hx0 hx1 hop
  have r2 : ∀ (l : List Int) (p : Nat) (v : Int), inB l → 0 ≤ v → v ≤ 65535 → l.getD p 0 = byteOf v 2 0 → l.getD (p + 1) 0 = byteOf v 2 1 → be (strOfNums l) (p : Int) 2 = v := by
    intro l p v hl hv hv2 e0 e1
    refine be_of l hl p 2 v hv (by have : (256 : Int) ^ 2 = 65536 := by decide
                                   omega) fun i hi => ?_
    rcases (by omega : i = 0 ∨ i = 1) with rfl | rfl
    · exact e0
    · exact e1
  have r4 : ∀ (l : List Int) (p : Nat) (v : Int), inB l → 0 ≤ v → v ≤ 4294967295 → (∀ i : Nat, i < 4 → l.getD (p + i) 0 = byteOf v 4 i) → be (strOfNums l) (p : Int) 4 = v := by
    intro l p v hl hv hv2 e
    exact be_of l hl p 4 v hv (by have : (256 : Int) ^ 4 = 4294967296 := by decide
                                  omega) e
  have r8 : ∀ (l : List Int) (p : Nat) (v : Int), inB l → 0 ≤ v → v ≤ 4294967295 → (∀ i : Nat, i < 8 → l.getD (p + i) 0 = byteOf v 8 i) → be (strOfNums l) (p : Int) 8 = v := by
    intro l p v hl hv hv2 e
    exact be_of l hl p 8 v hv (by have : (256 : Int) ^ 8 = 18446744073709551616 := by decide
                                  omega) e
  have c4 : ∀ {p : Nat → Prop}, p 0 → p 1 → p 2 → p 3 → ∀ i : Nat, i < 4 → p i := by
    intro p h0 h1 h2 h3 i hi
    rcases (by omega : i = 0 ∨ i = 1 ∨ i = 2 ∨ i = 3) with rfl | rfl | rfl | rfl <;> assumption
  have c8 : ∀ {p : Nat → Prop}, p 0 → p 1 → p 2 → p 3 → p 4 → p 5 → p 6 → p 7 → ∀ i : Nat, i < 8 → p i := by
    intro p h0 h1 h2 h3 h4 h5 h6 h7 i hi
    rcases (by omega : i = 0 ∨ i = 1 ∨ i = 2 ∨ i = 3 ∨ i = 4 ∨ i = 5 ∨ i = 6 ∨ i = 7) with rfl | rfl | rfl | rfl | rfl | rfl | rfl | rfl <;> assumption
  have B : ∀ (l : List Int), inB l → ∀ i : Nat, bt (strOfNums l) (i : Int) = l.getD i 0 := fun l hl i => by rw [bt_of l hl]; rfl
  unfold layA at hin ⊢
  rw [← hb] at hin ⊢
  clear hb
  obtain ⟨f0, f1, f2, f3, f4, f5, f6⟩ := x
  unfold goodA at h
  simp only [T_cdb_Ask.mk.injEq] at h hin ⊢
  rcases h with ⟨h1, e0, e1, e2, e3, e4, e5, e6⟩ | ⟨h1, hp, hw, e0, e1, e2, e3, _, _, e6⟩ | ⟨h1, q1, q2, q3, e0, _, _, _, e4, e5, e6⟩ | ⟨h1, q1, q2, q3, e0, _, _, _, e4, e5, e6⟩ | ⟨h1, q1, q2, e0, _, _, e3, e4, e5, e6⟩ | ⟨h1, hw, e0, e1, e2, e3, e4, _, e6⟩ | ⟨h1, hw, e0, e1, e2, e3, e4, _, e6⟩ | ⟨h1, h2, hw, _, e1, e2, e3, e4, _, e6⟩ | ⟨h1, h2, _, e1, e2, e3, e4, e5, e6⟩ | ⟨h1, h2, h6, _, e1, e2, e3, e4, e5, _⟩
  · subst e0 e1 e2 e3 e4 e5 e6
    rcases h1 with rfl | rfl | rfl
    · rw [if_pos rfl] at hin ⊢
      rw [cparse_at _ hin 0 (by kernel_rfl) rfl (by simp) rfl]; rfl
    · simp only [show ¬ (37 : Int) = 0 by decide, show ¬ (37 : Int) = 18 by decide, if_false, true_or, if_true] at hin ⊢
      rw [cparse_at _ hin 37 (by kernel_rfl) rfl (by simp) rfl]; rfl
    · simp only [show ¬ (53 : Int) = 0 by decide, show ¬ (53 : Int) = 18 by decide, if_false, or_true, if_true] at hin ⊢
      rw [cparse_at _ hin 53 (by kernel_rfl) rfl (by simp) rfl]; rfl
  · subst e0 e1 e2 e3 e6
    subst h1
    simp only [show ¬ (18 : Int) = 0 by decide, if_false, if_true] at hin ⊢
    rw [cparse_at _ hin 18 (by kernel_rfl) rfl (by simp) rfl]
    have e32 := r2 _ 3 f5 hin hw.1 hw.2 rfl rfl
    have e1' := B _ hin 1
    have e2' := B _ hin 2
    rw [show ((3 : Nat) : Int) = 3 from rfl] at e32
    rw [show ((1 : Nat) : Int) = 1 from rfl] at e1'
    rw [show ((2 : Nat) : Int) = 2 from rfl] at e2'
    unfold pbody
    rw [if_neg (by omega), if_pos rfl, e32, e1', e2']
    show ((⟨18, 0, 0, false, if (if f4 > 0 then (1 : Int) else 0) % 2 = 1 then 256 + (if f4 > 0 then f4 % 256 else 0) else 0, f5, 0⟩ : T_cdb_Ask), (0 : Int)) = _
    congr 2
    by_cases q : f4 > 0
    · rw [if_pos q, if_pos (by omega), if_pos q]; omega
    · rw [if_neg q, if_neg (by omega)]; omega
  · subst e4 e5 e6
    rcases h1 with rfl | rfl
    · subst e0
      have hf : f3 = false := by cases f3 with
        | false => rfl
        | true => exact absurd (q3 rfl) (by decide)
      subst hf
      simp only [show ¬ (40 : Int) = 0 by decide, show ¬ (40 : Int) = 18 by decide, show ¬ ((40 : Int) = 37 ∨ (40 : Int) = 53) by decide, if_false, true_or, if_true] at hin ⊢
      rw [cparse_at _ hin 40 (by kernel_rfl) rfl (by simp) rfl]
      have a1 := r4 _ 2 f1 hin q1.1 q1.2 (c4 rfl rfl rfl rfl)
      have a2 := r2 _ 7 f2 hin q2.1 q2.2 rfl rfl
      rw [show ((2 : Nat) : Int) = 2 from rfl] at a1
      rw [show ((7 : Nat) : Int) = 7 from rfl] at a2
      unfold pbody
      rw [if_neg (by omega), if_neg (by omega), if_pos (Or.inl rfl), a1, a2]
      rfl
    · subst e0
      simp only [show ¬ (42 : Int) = 0 by decide, show ¬ (42 : Int) = 18 by decide, show ¬ ((42 : Int) = 37 ∨ (42 : Int) = 53) by decide, if_false, or_true, if_true] at hin ⊢
      rw [cparse_at _ hin 42 (by kernel_rfl) rfl (by simp) rfl]
      have a1 := r4 _ 2 f1 hin q1.1 q1.2 (c4 rfl rfl rfl rfl)
      have a2 := r2 _ 7 f2 hin q2.1 q2.2 rfl rfl
      have e1' := B _ hin 1
      rw [show ((2 : Nat) : Int) = 2 from rfl] at a1
      rw [show ((7 : Nat) : Int) = 7 from rfl] at a2
      rw [show ((1 : Nat) : Int) = 1 from rfl] at e1'
      unfold pbody
      rw [if_neg (by omega), if_neg (by omega), if_pos (Or.inr rfl), a1, a2, e1']
      cases f3 <;> rfl
  · subst e4 e5 e6
    have a1 := fun l hl e => r8 l 2 f1 hl q1.1 (by omega) e
    have a2 := fun l hl e => r4 l 10 f2 hl q2.1 (by omega) e
    rw [show ((2 : Nat) : Int) = 2 from rfl] at a1
    rw [show ((10 : Nat) : Int) = 10 from rfl] at a2
    rcases h1 with rfl | rfl | rfl
    · subst e0
      have hf : f3 = false := by cases f3 with
        | false => rfl
        | true => exact absurd (q3 rfl) (by decide)
      subst hf
      simp only [show ¬ (136 : Int) = 0 by decide, show ¬ (136 : Int) = 18 by decide, show ¬ ((136 : Int) = 37 ∨ (136 : Int) = 53) by decide, show ¬ ((136 : Int) = 40 ∨ (136 : Int) = 42) by decide, show ¬ (136 : Int) = 147 by decide, if_false, true_or, if_true] at hin ⊢
      rw [cparse_at _ hin 136 (by kernel_rfl) rfl (by simp) rfl]
      have a1 := a1 _ hin (c8 rfl rfl rfl rfl rfl rfl rfl rfl)
      have a2 := a2 _ hin (c4 rfl rfl rfl rfl)
      unfold pbody
      rw [if_neg (by omega), if_neg (by omega), if_neg (by omega), if_pos (Or.inl rfl), a1, a2, if_neg (by omega)]
      rfl
    · subst e0
      simp only [show ¬ (138 : Int) = 0 by decide, show ¬ (138 : Int) = 18 by decide, show ¬ ((138 : Int) = 37 ∨ (138 : Int) = 53) by decide, show ¬ ((138 : Int) = 40 ∨ (138 : Int) = 42) by decide, show ¬ (138 : Int) = 147 by decide, if_false, true_or, or_true, if_true] at hin ⊢
      rw [cparse_at _ hin 138 (by kernel_rfl) rfl (by simp) rfl]
      have a1 := a1 _ hin (c8 rfl rfl rfl rfl rfl rfl rfl rfl)
      have a2 := a2 _ hin (c4 rfl rfl rfl rfl)
      have e1' := B _ hin 1
      rw [show ((1 : Nat) : Int) = 1 from rfl] at e1'
      unfold pbody
      rw [if_neg (by omega), if_neg (by omega), if_neg (by omega), if_pos (Or.inr (Or.inl rfl)), a1, a2, if_neg (by omega), e1']
      cases f3 <;> rfl
    · subst e0
      have hf : f3 = false := by cases f3 with
        | false => rfl
        | true => exact absurd (q3 rfl) (by decide)
      subst hf
      simp only [show ¬ (147 : Int) = 0 by decide, show ¬ (147 : Int) = 18 by decide, show ¬ ((147 : Int) = 37 ∨ (147 : Int) = 53) by decide, show ¬ ((147 : Int) = 40 ∨ (147 : Int) = 42) by decide, if_false, or_true, if_true] at hin ⊢
      rw [cparse_at _ hin 147 (by kernel_rfl) rfl (by simp) rfl]
      have a1 := a1 _ hin (c8 rfl rfl rfl rfl rfl rfl rfl rfl)
      have a2 := a2 _ hin (c4 rfl rfl rfl rfl)
      have e1' := B _ hin 1
      rw [show ((1 : Nat) : Int) = 1 from rfl] at e1'
      have e1'' : ([(147 : Int), 1] ++ beB f1 8 ++ beB f2 4 ++ [0, 0]).getD 1 0 = 1 := rfl
      unfold pbody
      rw [if_neg (by omega), if_neg (by omega), if_neg (by omega), if_pos (Or.inr (Or.inr rfl)), a1, a2, e1', e1'', if_neg (by omega)]
      rfl
  · subst e3 e4 e5 e6 h1 e0
    simp only [show ¬ (137 : Int) = 0 by decide, show ¬ (137 : Int) = 18 by decide, show ¬ ((137 : Int) = 37 ∨ (137 : Int) = 53) by decide, show ¬ ((137 : Int) = 40 ∨ (137 : Int) = 42) by decide, show ¬ ((137 : Int) = 136 ∨ (137 : Int) = 138 ∨ (137 : Int) = 147) by decide, if_false, if_true] at hin ⊢
    rw [cparse_at _ hin 137 (by kernel_rfl) rfl (by simp) rfl]
    have a1 := r8 _ 2 f1 hin q1.1 (by omega) (c8 rfl rfl rfl rfl rfl rfl rfl rfl)
    have a2 := B _ hin 13
    rw [show ((2 : Nat) : Int) = 2 from rfl] at a1
    rw [show ((13 : Nat) : Int) = 13 from rfl] at a2
    have a3 : ([(137 : Int), 0] ++ beB f1 8 ++ [0, 0, 0] ++ beB f2 1 ++ [0, 0]).getD 13 0 = f2 := by
      show byteOf f2 1 0 = f2
      unfold byteOf
      simp; omega
    unfold pbody
    rw [if_neg (by omega), if_neg (by omega), if_neg (by omega), if_neg (by omega), if_pos rfl, a1, a2, a3, if_neg (by omega)]
  · subst e0 e1 e2 e3 e4 e6 h1
    simp only [show ¬ (66 : Int) = 0 by decide, show ¬ (66 : Int) = 18 by decide, show ¬ ((66 : Int) = 37 ∨ (66 : Int) = 53) by decide, show ¬ ((66 : Int) = 40 ∨ (66 : Int) = 42) by decide, show ¬ ((66 : Int) = 136 ∨ (66 : Int) = 138 ∨ (66 : Int) = 147) by decide, show ¬ (66 : Int) = 137 by decide, if_false, if_true] at hin ⊢
    rw [cparse_at _ hin 66 (by kernel_rfl) rfl (by simp) rfl]
    have a1 := r2 _ 7 f5 hin hw.1 hw.2 rfl rfl
    rw [show ((7 : Nat) : Int) = 7 from rfl] at a1
    unfold pbody
    rw [if_neg (by omega), if_neg (by omega), if_neg (by omega), if_neg (by omega), if_neg (by omega), if_pos rfl, a1]
  · subst e0 e1 e2 e3 e4 e6 h1
    simp only [show ¬ (160 : Int) = 0 by decide, show ¬ (160 : Int) = 18 by decide, show ¬ ((160 : Int) = 37 ∨ (160 : Int) = 53) by decide, show ¬ ((160 : Int) = 40 ∨ (160 : Int) = 42) by decide, show ¬ ((160 : Int) = 136 ∨ (160 : Int) = 138 ∨ (160 : Int) = 147) by decide, show ¬ (160 : Int) = 137 by decide, show ¬ (160 : Int) = 66 by decide, if_false, if_true] at hin ⊢
    rw [cparse_at _ hin 160 (by kernel_rfl) rfl (by simp) rfl]
    have a1 := r4 _ 6 f5 hin hw.1 hw.2 (c4 rfl rfl rfl rfl)
    rw [show ((6 : Nat) : Int) = 6 from rfl] at a1
    unfold pbody
    rw [if_neg (by omega), if_neg (by omega), if_neg (by omega), if_neg (by omega), if_neg (by omega), if_neg (by omega), if_pos rfl, a1]
  · subst e1 e2 e3 e4 e6 h1
    simp only [show ¬ (94 : Int) = 0 by decide, show ¬ (94 : Int) = 18 by decide, show ¬ ((94 : Int) = 37 ∨ (94 : Int) = 53) by decide, show ¬ ((94 : Int) = 40 ∨ (94 : Int) = 42) by decide, show ¬ ((94 : Int) = 136 ∨ (94 : Int) = 138 ∨ (94 : Int) = 147) by decide, show ¬ (94 : Int) = 137 by decide, show ¬ (94 : Int) = 66 by decide, show ¬ (94 : Int) = 160 by decide, if_false, if_true] at hin ⊢
    rw [cparse_at _ hin 94 (by kernel_rfl) rfl (by simp) rfl]
    have a1 := r2 _ 7 f5 hin hw.1 hw.2 rfl rfl
    have a2 := B _ hin 1
    rw [show ((7 : Nat) : Int) = 7 from rfl] at a1
    rw [show ((1 : Nat) : Int) = 1 from rfl] at a2
    have a3 : ([(94 : Int), f0 % 256, 0, 0, 0, 0, 0] ++ beB f5 2 ++ [0]).getD 1 0 = f0 % 256 := rfl
    unfold pbody
    rw [if_neg (by omega), if_neg (by omega), if_neg (by omega), if_neg (by omega), if_neg (by omega), if_neg (by omega), if_neg (by omega), if_pos rfl, a1, a2, a3, if_neg (by omega), show 24064 + f0 % 256 % 32 = f0 by omega]
  · subst e1 e2 e3 e4 e5 e6 h1
    simp only [show ¬ (95 : Int) = 0 by decide, show ¬ (95 : Int) = 18 by decide, show ¬ ((95 : Int) = 37 ∨ (95 : Int) = 53) by decide, show ¬ ((95 : Int) = 40 ∨ (95 : Int) = 42) by decide, show ¬ ((95 : Int) = 136 ∨ (95 : Int) = 138 ∨ (95 : Int) = 147) by decide, show ¬ (95 : Int) = 137 by decide, show ¬ (95 : Int) = 66 by decide, show ¬ (95 : Int) = 160 by decide, show ¬ (95 : Int) = 94 by decide, if_false] at hin ⊢
    rw [cparse_at _ hin 95 (by kernel_rfl) rfl (by simp) rfl]
    have a1 := r4 _ 5 24 hin (by omega) (by omega) (c4 rfl rfl rfl rfl)
    have a2 := B _ hin 1
    have a4 := B _ hin 2
    rw [show ((5 : Nat) : Int) = 5 from rfl] at a1
    rw [show ((1 : Nat) : Int) = 1 from rfl] at a2
    rw [show ((2 : Nat) : Int) = 2 from rfl] at a4
    have a3 : ([(95 : Int), f0 % 256, noC 0, 0, 0] ++ beB 24 4 ++ [0]).getD 1 0 = f0 % 256 := rfl
    have a5 : ([(95 : Int), f0 % 256, noC 0, 0, 0] ++ beB 24 4 ++ [0]).getD 2 0 = 0 := rfl
    unfold pbody
    rw [if_neg (by omega), if_neg (by omega), if_neg (by omega), if_neg (by omega), if_neg (by omega), if_neg (by omega), if_neg (by omega), if_neg (by omega), a1, a2, a3, a4, a5, if_neg (by omega), if_neg (by omega), show 24320 + f0 % 256 % 32 = f0 by omega]
  · subst e1 e2 e3 e4 e5 h1
    obtain ⟨t1, t2, t3⟩ := noC_back f6 h6
    simp only [show ¬ (95 : Int) = 0 by decide, show ¬ (95 : Int) = 18 by decide, show ¬ ((95 : Int) = 37 ∨ (95 : Int) = 53) by decide, show ¬ ((95 : Int) = 40 ∨ (95 : Int) = 42) by decide, show ¬ ((95 : Int) = 136 ∨ (95 : Int) = 138 ∨ (95 : Int) = 147) by decide, show ¬ (95 : Int) = 137 by decide, show ¬ (95 : Int) = 66 by decide, show ¬ (95 : Int) = 160 by decide, show ¬ (95 : Int) = 94 by decide, if_false] at hin ⊢
    rw [cparse_at _ hin 95 (by kernel_rfl) rfl (by simp) rfl]
    have a1 := r4 _ 5 24 hin (by omega) (by omega) (c4 rfl rfl rfl rfl)
    have a2 := B _ hin 1
    have a4 := B _ hin 2
    rw [show ((5 : Nat) : Int) = 5 from rfl] at a1
    rw [show ((1 : Nat) : Int) = 1 from rfl] at a2
    rw [show ((2 : Nat) : Int) = 2 from rfl] at a4
    have a3 : ([(95 : Int), f0 % 256, noC f6, 0, 0] ++ beB 24 4 ++ [0]).getD 1 0 = f0 % 256 := rfl
    have a5 : ([(95 : Int), f0 % 256, noC f6, 0, 0] ++ beB 24 4 ++ [0]).getD 2 0 = noC f6 := rfl
    unfold pbody
    rw [if_neg (by omega), if_neg (by omega), if_neg (by omega), if_neg (by omega), if_neg (by omega), if_neg (by omega), if_neg (by omega), if_neg (by omega), a1, a2, a3, a4, a5, if_neg (by omega), if_pos (by omega), t1, if_neg (by omega), show 24320 + f0 % 256 % 32 = f0 by omega]

end Go.Proofs.YtpjcipadjegmlaaDoor.F
