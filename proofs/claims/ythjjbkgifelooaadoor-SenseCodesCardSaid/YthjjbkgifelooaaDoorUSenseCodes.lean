/- The plain law of headgatelaw16.SenseCodes: whatever the input, it is true. No condition. -/
import Derived.Test.YthjjbkgifelooaaDoorUSenseBytes0
import Derived.Test.YthjjbkgifelooaaDoorUSenseSame
import Derived.Test.YthjjbkgifelooaaDoorF8
namespace Go.Proofs.YthjjbkgifelooaaDoor.F
open Go Go.RowKit Go.Proofs.YthjjbkgifelooaaDoor.X
set_option linter.unusedVariables false
set_option linter.unusedSimpArgs false
/-- An outcome, as it can be told. -/
def canS (c a w : Int) : Int × Int × Int :=
  if c = 1 then (1, 0, 0) else if c = 2 then (2, 0, 0) else if c = 3 ∧ 0 ≤ a ∧ a < 4294967296 then (3, a, 0) else if c = 4 then (4, 0, 0) else if c = 5 then (5, 0, 0) else if c = 6 then (6, 0, 0)
  else if c = 7 ∧ w = 1 then (7, 0, 1) else if c = 7 ∧ w = 2 then (7, 0, 2) else if c = 7 ∧ w = 3 then (7, 0, 3) else if c = 7 ∧ w = 4 then (7, 0, 4) else (8, 0, 0)
theorem can_cases (c a w : Int) : (c = 1 ∧ canS c a w = (1, 0, 0) ∧ ofS c a w = ofS 1 0 0) ∨ (c = 2 ∧ canS c a w = (2, 0, 0) ∧ ofS c a w = ofS 2 0 0) ∨ (c = 3 ∧ 0 ≤ a ∧ a < 4294967296 ∧ canS c a w = (3, a, 0) ∧ ofS c a w = (2, ⟨14, 29, 0, a⟩)) ∨ (c = 4 ∧ canS c a w = (4, 0, 0) ∧ ofS c a w = ofS 4 0 0) ∨ (c = 5 ∧ canS c a w = (5, 0, 0) ∧ ofS c a w = ofS 5 0 0) ∨ (c = 6 ∧ canS c a w = (6, 0, 0) ∧ ofS c a w = ofS 6 0 0)
    ∨ (c = 7 ∧ w = 1 ∧ canS c a w = (7, 0, 1) ∧ ofS c a w = ofS 7 0 1) ∨ (c = 7 ∧ w = 2 ∧ canS c a w = (7, 0, 2) ∧ ofS c a w = ofS 7 0 2) ∨ (c = 7 ∧ w = 3 ∧ canS c a w = (7, 0, 3) ∧ ofS c a w = ofS 7 0 3) ∨ (c = 7 ∧ w = 4 ∧ canS c a w = (7, 0, 4) ∧ ofS c a w = ofS 7 0 4) ∨ (canS c a w = (8, 0, 0) ∧ ofS c a w = ofS 8 0 0) := by
  by_cases c1 : c = 1
  · subst c1; exact Or.inl ⟨rfl, rfl, rfl⟩
  refine Or.inr ?_
  by_cases c2 : c = 2
  · subst c2; exact Or.inl ⟨rfl, rfl, rfl⟩
  refine Or.inr ?_
  by_cases c3 : c = 3 ∧ 0 ≤ a ∧ a < 4294967296
  · refine Or.inl ⟨c3.1, c3.2.1, c3.2.2, ?_, ?_⟩
    · unfold canS; rw [if_neg c1, if_neg c2, if_pos c3]
    · unfold ofS; rw [if_neg c1, if_neg c2, if_pos c3]
  refine Or.inr ?_
  by_cases c4 : c = 4
  · subst c4; exact Or.inl ⟨rfl, rfl, rfl⟩
  refine Or.inr ?_
  by_cases c5 : c = 5
  · subst c5; exact Or.inl ⟨rfl, rfl, rfl⟩
  refine Or.inr ?_
  by_cases c6 : c = 6
  · subst c6; exact Or.inl ⟨rfl, rfl, rfl⟩
  refine Or.inr ?_
  by_cases w1 : c = 7 ∧ w = 1
  · obtain ⟨rfl, rfl⟩ := w1; exact Or.inl ⟨rfl, rfl, rfl, rfl⟩
  refine Or.inr ?_
  by_cases w2 : c = 7 ∧ w = 2
  · obtain ⟨rfl, rfl⟩ := w2; exact Or.inl ⟨rfl, rfl, rfl, rfl⟩
  refine Or.inr ?_
  by_cases w3 : c = 7 ∧ w = 3
  · obtain ⟨rfl, rfl⟩ := w3; exact Or.inl ⟨rfl, rfl, rfl, rfl⟩
  refine Or.inr ?_
  by_cases w4 : c = 7 ∧ w = 4
  · obtain ⟨rfl, rfl⟩ := w4; exact Or.inl ⟨rfl, rfl, rfl, rfl⟩
  refine Or.inr ⟨?_, ?_⟩
  · unfold canS; rw [if_neg c1, if_neg c2, if_neg c3, if_neg c4, if_neg c5, if_neg c6, if_neg w1, if_neg w2, if_neg w3, if_neg w4]
  · rw [show ofS 8 0 0 = (2, ⟨3, 12, 0, -1⟩) from rfl]
    unfold ofS; rw [if_neg c1, if_neg c2, if_neg c3, if_neg c4, if_neg c5, if_neg c6, if_neg w1, if_neg w2, if_neg w3, if_neg w4]
theorem code_of (c a w : Int) : codeS (ofS c a w).1 (ofS c a w).2 = ((canS c a w).1, (canS c a w).2.1, (canS c a w).2.2, true) := by
  rcases can_cases c a w with h | h | h | h | h | h | h | h | h | h | h
  case inr.inr.inl =>
    obtain ⟨_, h1, h2, e, f⟩ := h
    rw [e, f]
    unfold codeS
    rw [if_neg (fun h => absurd (show (2 : Int) = 0 from h.1) (by decide)), if_neg (fun h => absurd (show (2 : Int) = 24 from h.1) (by decide)), if_pos ⟨rfl, rfl, rfl, rfl, h1, h2⟩]
  all_goals first
    | (obtain ⟨_, _, e, f⟩ := h; rw [e, f]; rfl)
    | (obtain ⟨_, e, f⟩ := h; rw [e, f]; rfl)
    | (obtain ⟨e, f⟩ := h; rw [e, f]; rfl)
theorem of_can (c a w : Int) : ofS (canS c a w).1 (canS c a w).2.1 (canS c a w).2.2 = ofS c a w := by
  rcases can_cases c a w with h | h | h | h | h | h | h | h | h | h | h
  case inr.inr.inl =>
    obtain ⟨_, h1, h2, e, f⟩ := h
    rw [e, f]
    unfold ofS
    rw [if_neg (show ¬ (3 : Int) = 1 by decide), if_neg (show ¬ (3 : Int) = 2 by decide), if_pos ⟨rfl, h1, h2⟩]
  all_goals first
    | (obtain ⟨_, _, e, f⟩ := h; rw [e, f])
    | (obtain ⟨_, e, f⟩ := h; rw [e, f])
    | (obtain ⟨e, f⟩ := h; rw [e, f])
theorem can_own (c a w : Int) : ((canS c a w).1 = c ∨ (canS c a w).1 = 8) ∧ ((canS c a w).1 = 3 → (canS c a w).2.1 = a) ∧ ((canS c a w).1 = 7 → (canS c a w).2.2 = w) := by
  rcases can_cases c a w with h | h | h | h | h | h | h | h | h | h | h
  case inr.inr.inl =>
    obtain ⟨h0, h1, h2, e, f⟩ := h
    rw [e]
    exact ⟨Or.inl h0.symm, fun _ => rfl, fun q => absurd q (by simp)⟩
  all_goals first
    | (obtain ⟨h0, h1, e, f⟩ := h; rw [e]; exact ⟨Or.inl h0.symm, fun q => absurd q (by simp), fun _ => h1.symm⟩)
    | (obtain ⟨h0, e, f⟩ := h; rw [e]; exact ⟨Or.inl h0.symm, fun q => absurd q (by simp), fun q => absurd q (by simp)⟩)
    | (obtain ⟨e, f⟩ := h; rw [e]; exact ⟨Or.inr rfl, fun q => absurd q (by simp), fun q => absurd q (by simp)⟩)
theorem j1_16 (a1 : T_api_Out) (c a w : Int) (K : Nat) : headgatelaw16_SenseCodes.j1 (K + 12) a1 (ofS c a w) ((canS c a w).1, (canS c a w).2.1, (canS c a w).2.2, true) = some true := by
  unfold headgatelaw16_SenseCodes.j1
  have eta : ∀ x : T_api_Sense, (⟨x.f0, x.f1, x.f2, x.f3⟩ : T_api_Sense) = x := fun _ => rfl
  simp only [wakes16, sense_Of.is, Option.bind_some, sense_Code.is, eta, code_of, senses_is]
  have hi : (ofS c a w = ofS a1.f0 a1.f2 a1.f3) ↔ (canS c a w = canS a1.f0 a1.f2 a1.f3) := by
    constructor
    · intro h
      have h1 := code_of c a w
      rw [h, code_of] at h1
      simp only [Prod.mk.injEq, and_true] at h1
      refine Prod.ext h1.1.symm (Prod.ext h1.2.1.symm h1.2.2.symm)
    · intro h
      rw [← of_can c a w, h, of_can]
  rw [Prod.ext_iff, Prod.ext_iff, Prod.ext_iff] at hi
  generalize ofS c a w = u, ofS a1.f0 a1.f2 a1.f3 = v, canS c a w = p, canS a1.f0 a1.f2 a1.f3 = q at hi ⊢
  by_cases e0 : u.1 = v.1 <;> by_cases e1 : u.2 = v.2 <;> by_cases e2 : p.1 = q.1 <;> by_cases e3 : p.2.1 = q.2.1 <;> by_cases e4 : p.2.2 = q.2.2 <;> simp_all
theorem headgatelaw16_SenseCodes.pure (a0 : T_api_Out) (a1 : T_api_Out) (o0 : a0.ok) (o1 : a1.ok) : ∃ K, headgatelaw16_SenseCodes.f K a0 a1 = some true := by
  refine ⟨12, ?_⟩
  unfold headgatelaw16_SenseCodes.f
  have jj := fun c a w => j1_16 a1 c a w 0
  rw [show (12 : Nat) = 0 + 12 from rfl, sense_Of.is, Option.bind_some, sense_Code.is, Option.bind_some, code_of]
  have j0 : headgatelaw16_SenseCodes.j0 (0 + 12) a0 a1 (ofS a0.f0 a0.f2 a0.f3) ((canS a0.f0 a0.f2 a0.f3).1, (canS a0.f0 a0.f2 a0.f3).2.1, (canS a0.f0 a0.f2 a0.f3).2.2, true) = some true := by
    unfold headgatelaw16_SenseCodes.j0
    dsimp only
    rw [jj]
    obtain ⟨_, h3, h7⟩ := can_own a0.f0 a0.f2 a0.f3
    by_cases c3 : (canS a0.f0 a0.f2 a0.f3).1 = 3
    · rw [if_pos c3, if_pos (h3 c3), if_neg (by omega)]
    · rw [if_neg c3]
      by_cases c7 : (canS a0.f0 a0.f2 a0.f3).1 = 7
      · rw [if_pos c7, if_pos (h7 c7)]
      · rw [if_neg c7]
  dsimp only
  rw [if_pos rfl]
  rcases (can_own a0.f0 a0.f2 a0.f3).1 with h | h
  · rw [if_pos h]; exact j0
  · by_cases h' : (canS a0.f0 a0.f2 a0.f3).1 = a0.f0
    · rw [if_pos h']; exact j0
    · rw [if_neg h', if_pos h]; exact j0
end Go.Proofs.YthjjbkgifelooaaDoor.F
