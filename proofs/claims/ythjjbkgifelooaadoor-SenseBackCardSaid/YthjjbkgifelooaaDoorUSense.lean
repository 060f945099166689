/- What a failure is called by (layer 16): the program's statuses and senses, and what they say. No condition. -/
import Derived.Test.YthjjbkgifelooaaDoorUPutB
import Derived.KernelRfl
import Derived.Test.YthjjbkgifelooaaDoorF64
import Derived.Test.YthjjbkgifelooaaDoorF64
import Derived.Test.YthjjbkgifelooaaDoorF33
namespace Go.Proofs.YthjjbkgifelooaaDoor.F
open Go Go.RowKit Go.Proofs.YthjjbkgifelooaaDoor.X
set_option linter.unusedVariables false
set_option linter.unusedSimpArgs false

theorem rdL_nth {α : Type} (d : α) (xs : List α) (i : Nat) (h : i < xs.length) : rdL d xs (i : Int) = xs[i] := by
  unfold rdL
  rw [List.getD_eq_getElem?_getD, Int.toNat_natCast, List.getElem?_eq_getElem h]; rfl
theorem srows_length : G_sense_rows.length = 11 := rfl
theorem outcome_is (r : T_sense_row) (o : T_api_Out) : sense_row_outcome.f r o = some (decide (r.f0 = o.f0 ∧ (r.f0 = 7 → r.f1 = o.f3))) := by
  unfold sense_row_outcome.f
  by_cases h : r.f0 = o.f0
  · rw [if_pos h]
    by_cases h7 : r.f0 = 7
    · rw [if_pos h7]
      congr 1
      rw [Bool.beq_eq_decide_eq]
      exact decide_eq_decide.2 ⟨fun q => ⟨h, fun _ => q⟩, fun q => q.2 h7⟩
    · rw [if_neg h7, decide_eq_true ⟨h, fun q => absurd q h7⟩]
  · rw [if_neg h, decide_eq_false (fun q => h q.1)]
def tellS (r : T_sense_row) (a : Int) : T_api_Sense := if r.f0 = 3 then ⟨r.f3, r.f4, r.f5, a⟩ else ⟨r.f3, r.f4, r.f5, -1⟩
def hitS (c w : Int) (r : T_sense_row) : Bool := decide (r.f0 = c ∧ (r.f0 = 7 → r.f1 = w))

theorem of0_loop (K : Nat) (c a w : Int) (s : ByteArray) (l : List T_api_Reg) (x5 x6 : Int) (s2 : ByteArray) (x7 : Int) : ∀ (m j : Nat), m ≤ 11 → ∀ r, (G_sense_rows.drop (11 - m)).find? (hitS c w) = some r →
    sense_Of_0.l0 K c s a w l x5 x6 s2 x7 (m + 1 + j) ((11 : Int) - m) = some (r.f2, tellS r a) := by
  intro m
  induction m with
  | zero =>
    intro j h r hr
    rw [show G_sense_rows.drop (11 - 0) = [] from rfl] at hr
    cases hr
  | succ m ih =>
    intro j h r hr
    have e1 : IntKind.wrap .i64 ((11 : Int) - ((m + 1 : Nat) : Int) + 1) = (11 : Int) - m := by rw [wi] <;> omega
    have e2 : (11 : Int) - ((m + 1 : Nat) : Int) = ((11 - (m + 1) : Nat) : Int) := by omega
    have hl : 11 - (m + 1) < G_sense_rows.length := by rw [srows_length]; omega
    have d1 : G_sense_rows.drop (11 - (m + 1)) = G_sense_rows[11 - (m + 1)] :: G_sense_rows.drop (11 - m) := by
      rw [List.drop_eq_getElem_cons hl]; congr 2; omega
    rw [d1, List.find?_cons] at hr
    rw [show m + 1 + 1 + j = (m + 1 + j) + 1 by omega, sense_Of_0.l0]
    unfold sense_Of_0.b0
    rw [if_pos (by omega), asrt_pos (by omega), e1, e2, rdL_nth _ _ _ hl, outcome_is, Option.bind_some]
    generalize G_sense_rows[11 - (m + 1)] = q at hr ⊢
    by_cases hq : hitS c w q = true
    · rw [hq] at hr
      cases hr
      rw [if_pos (show decide _ = true from hq)]
      unfold sense_row_sense.f tellS
      by_cases h3 : r.f0 = 3
      · simp only [Option.bind_some, h3, if_true]
      · simp only [Option.bind_some, h3, if_false]
    · rw [Bool.not_eq_true] at hq
      rw [hq] at hr
      rw [if_neg (show ¬ decide _ = true from by rw [show decide _ = hitS c w q from rfl, hq]; decide)]
      exact ih j (by omega) r hr

theorem of_loop (K : Nat) (c a w : Int) (s : ByteArray) (l : List T_api_Reg) (x5 x6 : Int) (s2 : ByteArray) (x7 : Int) : ∀ (m j : Nat), m ≤ 11 →
    sense_Of.l0 K c s a w l x5 x6 s2 x7 (m + 1 + j) ((11 : Int) - m) = (match (G_sense_rows.drop (11 - m)).find? (hitS c w) with
      | some r => some (r.f2, tellS r a)
      | none => sense_Of_0.f K (⟨8, (⟨#[]⟩ : ByteArray), 0, 0, ([] : List T_api_Reg), 0, (⟨0, (⟨#[]⟩ : ByteArray)⟩ : T_api_Hold), 0⟩ : T_api_Out)) := by
  intro m
  induction m with
  | zero =>
    intro j h
    rw [show G_sense_rows.drop (11 - 0) = [] from rfl, show 0 + 1 + j = j + 1 by omega, sense_Of.l0]
    unfold sense_Of.b0
    rw [if_neg (by omega)]
    dsimp only [List.find?_nil]
    cases sense_Of_0.f K (⟨8, (⟨#[]⟩ : ByteArray), 0, 0, ([] : List T_api_Reg), 0, (⟨0, (⟨#[]⟩ : ByteArray)⟩ : T_api_Hold), 0⟩ : T_api_Out) with
    | none => rfl
    | some t => rfl
  | succ m ih =>
    intro j h
    have e1 : IntKind.wrap .i64 ((11 : Int) - ((m + 1 : Nat) : Int) + 1) = (11 : Int) - m := by rw [wi] <;> omega
    have e2 : (11 : Int) - ((m + 1 : Nat) : Int) = ((11 - (m + 1) : Nat) : Int) := by omega
    have hl : 11 - (m + 1) < G_sense_rows.length := by rw [srows_length]; omega
    have d1 : G_sense_rows.drop (11 - (m + 1)) = G_sense_rows[11 - (m + 1)] :: G_sense_rows.drop (11 - m) := by
      rw [List.drop_eq_getElem_cons hl]; congr 2; omega
    rw [d1, List.find?_cons, show m + 1 + 1 + j = (m + 1 + j) + 1 by omega, sense_Of.l0]
    unfold sense_Of.b0
    rw [if_pos (by omega), asrt_pos (by omega), e1, e2, rdL_nth _ _ _ hl, outcome_is, Option.bind_some]
    generalize G_sense_rows[11 - (m + 1)] = q
    by_cases hq : hitS c w q = true
    · rw [hq, if_pos (show decide _ = true from hq)]
      unfold sense_row_sense.f tellS
      by_cases h3 : q.f0 = 3
      · simp only [Option.bind_some, h3, if_true]
      · simp only [Option.bind_some, h3, if_false]
    · rw [Bool.not_eq_true] at hq
      rw [hq, if_neg (show ¬ decide _ = true from by rw [show decide _ = hitS c w q from rfl, hq]; decide)]
      exact ih j (by omega)

/-- What an outcome is called by. -/
def ofS (c a w : Int) : Int × T_api_Sense :=
  if c = 1 then (0, ⟨0, 0, 0, -1⟩) else if c = 2 then (24, ⟨0, 0, 0, -1⟩) else if c = 3 ∧ 0 ≤ a ∧ a < 4294967296 then (2, ⟨14, 29, 0, a⟩)
  else if c = 4 then (2, ⟨5, 33, 0, -1⟩) else if c = 5 then (2, ⟨5, 36, 0, -1⟩) else if c = 6 then (2, ⟨5, 37, 0, -1⟩)
  else if c = 7 ∧ w = 1 then (2, ⟨6, 41, 0, -1⟩) else if c = 7 ∧ w = 2 then (2, ⟨6, 42, 5, -1⟩) else if c = 7 ∧ w = 3 then (2, ⟨6, 42, 4, -1⟩) else if c = 7 ∧ w = 4 then (2, ⟨6, 42, 3, -1⟩)
  else (2, ⟨3, 12, 0, -1⟩)

theorem of0_is (K : Nat) : sense_Of_0.f (K + 12) (⟨8, (⟨#[]⟩ : ByteArray), 0, 0, ([] : List T_api_Reg), 0, (⟨0, (⟨#[]⟩ : ByteArray)⟩ : T_api_Hold), 0⟩ : T_api_Out) = some (2, ⟨3, 12, 0, -1⟩) := by
  unfold sense_Of_0.f sense_Of_0.j0
  rw [if_neg (by decide)]
  have := of0_loop (K + 12) 8 0 0 (⟨#[]⟩ : ByteArray) ([] : List T_api_Reg) 0 0 (⟨#[]⟩ : ByteArray) 0 11 K (Nat.le_refl _) _ rfl
  rw [show 11 + 1 + K = K + 12 by omega] at this
  exact this
theorem j0_is (c a w : Int) (s : ByteArray) (l : List T_api_Reg) (x5 x6 : Int) (s2 : ByteArray) (x7 : Int) (K : Nat) (h : c = 3 → 0 ≤ a ∧ a < 4294967296) : sense_Of.j0 (K + 12) c s a w l x5 x6 s2 x7 = some (ofS c a w) := by
  unfold sense_Of.j0
  have := of_loop (K + 12) c a w s l x5 x6 s2 x7 11 K (Nat.le_refl _)
  rw [show 11 + 1 + K = K + 12 by omega, show (11 : Int) - (11 : Nat) = 0 from rfl] at this
  rw [this, of0_is]
  unfold ofS
  simp only [Nat.sub_self, List.drop_zero, G_sense_rows, List.find?_cons, List.find?_nil, hitS]
  by_cases c1 : c = 1
  · subst c1; rfl
  by_cases c2 : c = 2
  · subst c2; rfl
  by_cases c3 : c = 3
  · subst c3
    rw [if_neg (by omega), if_neg (by omega), if_pos ⟨rfl, h rfl⟩]; rfl
  by_cases c4 : c = 4
  · subst c4; rfl
  by_cases c5 : c = 5
  · subst c5; rfl
  by_cases c6 : c = 6
  · subst c6; rfl
  by_cases c8 : c = 8
  · subst c8; rfl
  by_cases c7 : c = 7
  · subst c7
    by_cases w1 : w = 1
    · subst w1; rfl
    by_cases w2 : w = 2
    · subst w2; rfl
    by_cases w3 : w = 3
    · subst w3; rfl
    by_cases w4 : w = 4
    · subst w4; rfl
    have n1w : ¬ (1 : Int) = w := fun h => w1 h.symm
    have n2w : ¬ (2 : Int) = w := fun h => w2 h.symm
    have n3w : ¬ (3 : Int) = w := fun h => w3 h.symm
    have n4w : ¬ (4 : Int) = w := fun h => w4 h.symm
    simp [n1w, n2w, n3w, n4w, w1, w2, w3, w4]
  · have n1c : ¬ (1 : Int) = c := fun h => c1 h.symm
    have n2c : ¬ (2 : Int) = c := fun h => c2 h.symm
    have n3c : ¬ (3 : Int) = c := fun h => c3 h.symm
    have n4c : ¬ (4 : Int) = c := fun h => c4 h.symm
    have n5c : ¬ (5 : Int) = c := fun h => c5 h.symm
    have n6c : ¬ (6 : Int) = c := fun h => c6 h.symm
    have n7c : ¬ (7 : Int) = c := fun h => c7 h.symm
    have n8c : ¬ (8 : Int) = c := fun h => c8 h.symm
    simp [n1c, n2c, n3c, n4c, n5c, n6c, n7c, n8c, c1, c2, c3, c4, c5, c6, c7]
theorem sense_Of.is (o : T_api_Out) (K : Nat) : sense_Of.f (K + 12) o = some (ofS o.f0 o.f2 o.f3) := by
  unfold sense_Of.f
  have h8 : ∀ a w : Int, ¬ (0 ≤ a ∧ a < 4294967296) → ofS 3 a w = ofS 8 0 0 := by
    intro a w h
    unfold ofS
    rw [if_neg (by omega), if_neg (by omega), if_neg (by omega)]
    simp
  by_cases h3 : o.f0 = 3
  · rw [if_pos h3]
    by_cases h0 : o.f2 < 0
    · rw [if_pos h0, j0_is _ _ _ _ _ _ _ _ _ _ (by intro h; cases h), h3, h8 _ _ (by omega)]
    · rw [if_neg h0]
      by_cases h1 : o.f2 ≥ 4294967296
      · rw [if_pos h1, j0_is _ _ _ _ _ _ _ _ _ _ (by intro h; cases h), h3, h8 _ _ (by omega)]
      · rw [if_neg h1, j0_is _ _ _ _ _ _ _ _ _ _ (by omega)]
  · rw [if_neg h3, j0_is _ _ _ _ _ _ _ _ _ _ (by intro h; exact absurd h h3)]

/-- The outcome of what is told. -/
def sayS (r : T_sense_row) (st : Int) (x : T_api_Sense) : Bool := decide (st = r.f2 ∧ x.f0 = r.f3 ∧ x.f1 = r.f4 ∧ x.f2 = r.f5 ∧ (if r.f0 = 3 then 0 ≤ x.f3 ∧ x.f3 < 4294967296 else x.f3 = -1))
theorem code_loop (K : Nat) (st : Int) (x : T_api_Sense) : ∀ (m j : Nat), m ≤ 11 → ∀ at_ : Int,
    sense_Code.l0 K st x (m + 1 + j) at_ ((11 : Int) - m) = some (match (G_sense_rows.drop (11 - m)).find? (fun r => sayS r st x) with
      | some r => (r.f0, if r.f0 = 3 then x.f3 else 0, r.f1, true)
      | none => (0, 0, 0, false)) := by
  intro m
  induction m with
  | zero =>
    intro j h at_
    rw [show G_sense_rows.drop (11 - 0) = [] from rfl, show 0 + 1 + j = j + 1 by omega, sense_Code.l0]
    unfold sense_Code.b0
    rw [if_neg (by omega)]
    rfl
  | succ m ih =>
    intro j h at_
    have e1 : IntKind.wrap .i64 ((11 : Int) - ((m + 1 : Nat) : Int) + 1) = (11 : Int) - m := by rw [wi] <;> omega
    have e2 : (11 : Int) - ((m + 1 : Nat) : Int) = ((11 - (m + 1) : Nat) : Int) := by omega
    have hl : 11 - (m + 1) < G_sense_rows.length := by rw [srows_length]; omega
    have d1 : G_sense_rows.drop (11 - (m + 1)) = G_sense_rows[11 - (m + 1)] :: G_sense_rows.drop (11 - m) := by
      rw [List.drop_eq_getElem_cons hl]; congr 2; omega
    rw [d1, List.find?_cons, show m + 1 + 1 + j = (m + 1 + j) + 1 by omega, sense_Code.l0]
    unfold sense_Code.b0
    rw [if_pos (by omega), asrt_pos (by omega), e1, e2, rdL_nth _ _ _ hl]
    generalize G_sense_rows[11 - (m + 1)] = q
    have ih' := ih j (by omega)
    unfold sense_row_sense.f
    rw [Option.bind_some]
    simp only [ih']
    have eb : ∀ y : Int, ((x.f0 == q.f3 && (x.f1 == q.f4 && (x.f2 == q.f5 && (x.f3 == y && true)))) = true) ↔ (x.f0 = q.f3 ∧ x.f1 = q.f4 ∧ x.f2 = q.f5 ∧ x.f3 = y) := by
      intro y; simp
    simp only [eb]
    by_cases hs : sayS q st x = true
    · rw [hs]
      unfold sayS at hs
      have hs := of_decide_eq_true hs
      obtain ⟨s1, s2, s3, s4, s5⟩ := hs
      by_cases h3 : q.f0 = 3
      · rw [if_pos h3] at s5
        rw [if_pos h3, if_pos s5.1, if_pos s5.2, if_pos s1, if_pos (by simp only [s2, s3, s4, and_self]), if_neg (by omega)]
        simp only [h3, if_true]
      · rw [if_neg h3] at s5
        rw [if_neg h3, if_pos s1, if_pos ⟨s2, s3, s4, s5⟩]
        simp only [h3, if_false]
    · rw [Bool.not_eq_true] at hs
      rw [hs]
      unfold sayS at hs
      have hs := of_decide_eq_false hs
      by_cases h3 : q.f0 = 3
      · rw [if_pos h3] at hs ⊢
        by_cases h0 : x.f3 ≥ 0
        · rw [if_pos h0]
          by_cases h1 : x.f3 < 4294967296
          · rw [if_pos h1]
            by_cases h2 : st = q.f2
            · rw [if_pos h2, if_neg (fun g => hs ⟨h2, g.1, g.2.1, g.2.2.1, h0, h1⟩)]
            · rw [if_neg h2]
          · rw [if_neg h1]
            by_cases h2 : st = q.f2
            · rw [if_pos h2, if_neg (fun g => by have := g.2.2.2; omega)]
            · rw [if_neg h2]
        · rw [if_neg h0]
          by_cases h2 : st = q.f2
          · rw [if_pos h2]
            by_cases h4 : x.f3 = -1
            · rw [if_pos h4, ite_self]
            · rw [if_neg (fun g => h4 g.2.2.2)]
          · rw [if_neg h2]
      · rw [if_neg h3] at hs ⊢
        by_cases h2 : st = q.f2
        · rw [if_pos h2, if_neg (fun g => hs ⟨h2, g⟩)]
        · rw [if_neg h2]
def codeS (st : Int) (x : T_api_Sense) : Int × Int × Int × Bool :=
  if st = 0 ∧ x.f0 = 0 ∧ x.f1 = 0 ∧ x.f2 = 0 ∧ x.f3 = -1 then (1, 0, 0, true) else if st = 24 ∧ x.f0 = 0 ∧ x.f1 = 0 ∧ x.f2 = 0 ∧ x.f3 = -1 then (2, 0, 0, true)
  else if st = 2 ∧ x.f0 = 14 ∧ x.f1 = 29 ∧ x.f2 = 0 ∧ 0 ≤ x.f3 ∧ x.f3 < 4294967296 then (3, x.f3, 0, true)
  else if st = 2 ∧ x.f0 = 5 ∧ x.f1 = 33 ∧ x.f2 = 0 ∧ x.f3 = -1 then (4, 0, 0, true) else if st = 2 ∧ x.f0 = 5 ∧ x.f1 = 36 ∧ x.f2 = 0 ∧ x.f3 = -1 then (5, 0, 0, true) else if st = 2 ∧ x.f0 = 5 ∧ x.f1 = 37 ∧ x.f2 = 0 ∧ x.f3 = -1 then (6, 0, 0, true)
  else if st = 2 ∧ x.f0 = 3 ∧ x.f1 = 12 ∧ x.f2 = 0 ∧ x.f3 = -1 then (8, 0, 0, true) else if st = 2 ∧ x.f0 = 6 ∧ x.f1 = 41 ∧ x.f2 = 0 ∧ x.f3 = -1 then (7, 0, 1, true) else if st = 2 ∧ x.f0 = 6 ∧ x.f1 = 42 ∧ x.f2 = 5 ∧ x.f3 = -1 then (7, 0, 2, true)
  else if st = 2 ∧ x.f0 = 6 ∧ x.f1 = 42 ∧ x.f2 = 4 ∧ x.f3 = -1 then (7, 0, 3, true) else if st = 2 ∧ x.f0 = 6 ∧ x.f1 = 42 ∧ x.f2 = 3 ∧ x.f3 = -1 then (7, 0, 4, true) else (0, 0, 0, false)
theorem find_cons_if {α : Type} (p : α → Bool) (a : α) (l : List α) : (a :: l).find? p = if p a = true then some a else l.find? p := by
  rw [List.find?_cons]
  cases p a <;> rfl
theorem sense_Code.is (st : Int) (x : T_api_Sense) (K : Nat) : sense_Code.f (K + 12) st x = some (codeS st x) := by
  unfold sense_Code.f
  have := code_loop (K + 12) st x 11 K (Nat.le_refl _) 0
  rw [show 11 + 1 + K = K + 12 by omega, show (11 : Int) - (11 : Nat) = 0 from rfl] at this
  rw [this]
  congr 1
  obtain ⟨k, a, q, p⟩ := x
  unfold codeS
  simp only [Nat.sub_self, List.drop_zero, G_sense_rows, find_cons_if, List.find?_nil, sayS, decide_eq_true_eq]
  simp (config := { decide := true }) only [if_true, if_false]
  by_cases h0 : st = 0 ∧ k = 0 ∧ a = 0 ∧ q = 0 ∧ p = -1
  · rw [if_pos h0, if_pos h0]; rfl
  rw [if_neg h0, if_neg h0]
  by_cases h1 : st = 24 ∧ k = 0 ∧ a = 0 ∧ q = 0 ∧ p = -1
  · rw [if_pos h1, if_pos h1]; rfl
  rw [if_neg h1, if_neg h1]
  by_cases h2 : st = 2 ∧ k = 14 ∧ a = 29 ∧ q = 0 ∧ 0 ≤ p ∧ p < 4294967296
  · rw [if_pos h2, if_pos h2]; rfl
  rw [if_neg h2, if_neg h2]
  by_cases h3 : st = 2 ∧ k = 5 ∧ a = 33 ∧ q = 0 ∧ p = -1
  · rw [if_pos h3, if_pos h3]; rfl
  rw [if_neg h3, if_neg h3]
  by_cases h4 : st = 2 ∧ k = 5 ∧ a = 36 ∧ q = 0 ∧ p = -1
  · rw [if_pos h4, if_pos h4]; rfl
  rw [if_neg h4, if_neg h4]
  by_cases h5 : st = 2 ∧ k = 5 ∧ a = 37 ∧ q = 0 ∧ p = -1
  · rw [if_pos h5, if_pos h5]; rfl
  rw [if_neg h5, if_neg h5]
  by_cases h6 : st = 2 ∧ k = 3 ∧ a = 12 ∧ q = 0 ∧ p = -1
  · rw [if_pos h6, if_pos h6]; rfl
  rw [if_neg h6, if_neg h6]
  by_cases h7 : st = 2 ∧ k = 6 ∧ a = 41 ∧ q = 0 ∧ p = -1
  · rw [if_pos h7, if_pos h7]; rfl
  rw [if_neg h7, if_neg h7]
  by_cases h8 : st = 2 ∧ k = 6 ∧ a = 42 ∧ q = 5 ∧ p = -1
  · rw [if_pos h8, if_pos h8]; rfl
  rw [if_neg h8, if_neg h8]
  by_cases h9 : st = 2 ∧ k = 6 ∧ a = 42 ∧ q = 4 ∧ p = -1
  · rw [if_pos h9, if_pos h9]; rfl
  rw [if_neg h9, if_neg h9]
  by_cases h10 : st = 2 ∧ k = 6 ∧ a = 42 ∧ q = 3 ∧ p = -1
  · rw [if_pos h10, if_pos h10]; rfl
  rw [if_neg h10, if_neg h10]
end Go.Proofs.YthjjbkgifelooaaDoor.F
