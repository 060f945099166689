/- What a failure is called by (layer 16): the document's answer is the program's. No condition. -/
import Derived.Test.YthjjbkgifelooaaDoorUSenseSame
import Derived.Test.YthjjbkgifelooaaDoorF66
import Derived.Test.YthjjbkgifelooaaDoorF34
import Derived.Test.YthjjbkgifelooaaDoorF64
namespace Go.Proofs.YthjjbkgifelooaaDoor.F
open Go Go.RowKit Go.Proofs.YthjjbkgifelooaaDoor.X
set_option linter.unusedVariables false
set_option linter.unusedSimpArgs false

def repS (p : Int × T_api_Sense) : T_headgateref16_Reply := ⟨p.1, p.2⟩
theorem two_is (a b c d : Int) : headgateref16_two.f a b c d = some (repS (2, ⟨a, b, c, d⟩)) := rfl
theorem headgateref16_Of.is (o : T_api_Out) (K : Nat) : headgateref16_Of.f K o = some (repS (ofS o.f0 o.f2 o.f3)) := by
  unfold headgateref16_Of.f headgateref16_Of.j0 ofS
  simp only [two_is, Option.bind_some]
  generalize o.f0 = c, o.f2 = a, o.f3 = w
  by_cases c1 : c = 1
  · rw [if_pos c1, if_pos c1]; all_goals rfl
  rw [if_neg c1, if_neg c1]
  by_cases c2 : c = 2
  · rw [if_pos c2, if_pos c2]; all_goals rfl
  rw [if_neg c2, if_neg c2]
  by_cases c3 : c = 3
  · subst c3
    by_cases h0 : a ≥ 0
    · by_cases h1 : a < 4294967296
      · rw [if_pos rfl, if_pos h0, decide_eq_true h1, if_pos rfl, if_pos ⟨rfl, h0, h1⟩]; all_goals rfl
      · rw [if_pos rfl, if_pos h0, decide_eq_false h1, if_neg (by decide), if_neg (by omega)]; all_goals rfl
    · rw [if_pos rfl, if_neg h0, if_neg (by decide), if_neg (by omega)]; all_goals rfl
  rw [if_neg c3, if_neg (show ¬ (c = 3 ∧ 0 ≤ a ∧ a < 4294967296) from fun h => c3 h.1)]
  by_cases c4 : c = 4
  · rw [if_pos c4, if_pos c4]; all_goals rfl
  rw [if_neg c4, if_neg c4]
  by_cases c5 : c = 5
  · rw [if_pos c5, if_pos c5]; all_goals rfl
  rw [if_neg c5, if_neg c5]
  by_cases c6 : c = 6
  · rw [if_pos c6, if_pos c6]; all_goals rfl
  rw [if_neg c6, if_neg c6]
  by_cases c7 : c = 7
  · subst c7
    rw [if_pos rfl]
    by_cases w1 : w = 1
    · subst w1; all_goals rfl
    rw [if_neg w1, if_neg (show ¬ ((7 : Int) = 7 ∧ w = 1) from fun h => w1 h.2)]
    by_cases w2 : w = 2
    · subst w2; all_goals rfl
    rw [if_neg w2, if_neg (show ¬ ((7 : Int) = 7 ∧ w = 2) from fun h => w2 h.2)]
    by_cases w3 : w = 3
    · subst w3; all_goals rfl
    rw [if_neg w3, if_neg (show ¬ ((7 : Int) = 7 ∧ w = 3) from fun h => w3 h.2)]
    by_cases w4 : w = 4
    · subst w4; all_goals rfl
    rw [if_neg w4, if_neg (show ¬ ((7 : Int) = 7 ∧ w = 4) from fun h => w4 h.2)]; all_goals rfl
  · rw [if_neg c7, if_neg (fun h => c7 h.1), if_neg (fun h => c7 h.1), if_neg (fun h => c7 h.1), if_neg (fun h => c7 h.1)]; all_goals rfl
def outS (c a w : Int) : T_api_Out := ⟨c, ⟨#[]⟩, a, w, [], 0, ⟨0, ⟨#[]⟩⟩, 0⟩
def codeR (st : Int) (x : T_api_Sense) : T_api_Out × Bool := (outS (codeS st x).1 (codeS st x).2.1 (codeS st x).2.2.1, (codeS st x).2.2.2)
theorem try_is (K : Nat) (c a w st : Int) (x : T_api_Sense) (F : Option (T_api_Out × Bool)) :
    ((headgateref16_Of.f K (outS c a w)).bind fun t => (if t.f0 = st then ((headgatekeep_Senses.f (⟨t.f1.f0, t.f1.f1, t.f1.f2, t.f1.f3⟩ : T_api_Sense) x).bind fun u => (if u = true then (some (outS c a w, true)) else F)) else F)) =
      if st = (ofS c a w).1 ∧ x = (ofS c a w).2 then some (outS c a w, true) else F := by
  rw [headgateref16_Of.is, Option.bind_some, senses_is, Option.bind_some]
  unfold repS outS
  dsimp only
  by_cases h : (ofS c a w).1 = st
  · rw [if_pos h]
    by_cases h2 : (ofS c a w).2 = x
    · rw [if_pos (decide_eq_true h2), if_pos ⟨h.symm, h2.symm⟩]
    · rw [if_neg (by rw [decide_eq_true_eq]; exact h2), if_neg (fun g => h2 g.2.symm)]
  · rw [if_neg h, if_neg (fun g => h g.1.symm)]
theorem headgateref16_Code.is (st : Int) (x : T_api_Sense) (K : Nat) : headgateref16_Code.f K st x = some (codeR st x) := by
  unfold headgateref16_Code.f
  refine (try_is K 1 0 0 st x (headgateref16_Code.j0 K st x)).trans ?_
  have e0 := try_is K 2 0 0 st x (headgateref16_Code.j1 K st x)
  have e1 := try_is K 4 0 0 st x (headgateref16_Code.j2 K st x)
  have e2 := try_is K 5 0 0 st x (headgateref16_Code.j3 K st x)
  have e3 := try_is K 6 0 0 st x (headgateref16_Code.j4 K st x)
  have e4 := try_is K 8 0 0 st x (headgateref16_Code.j5 K st x)
  have e5 := try_is K 7 0 1 st x (headgateref16_Code.j6 K st x)
  have e6 := try_is K 7 0 2 st x (headgateref16_Code.j7 K st x)
  have e7 := try_is K 7 0 3 st x (headgateref16_Code.j8 K st x)
  have e8 := try_is K 7 0 4 st x (headgateref16_Code.j9 K st x)
  have e9 := try_is K 3 x.f3 0 st x (headgateref16_Code.j10 K)
  rw [show headgateref16_Code.j0 K st x = _ from e0, show headgateref16_Code.j1 K st x = _ from e1, show headgateref16_Code.j2 K st x = _ from e2, show headgateref16_Code.j3 K st x = _ from e3, show headgateref16_Code.j4 K st x = _ from e4, show headgateref16_Code.j5 K st x = _ from e5, show headgateref16_Code.j6 K st x = _ from e6, show headgateref16_Code.j7 K st x = _ from e7, show headgateref16_Code.j8 K st x = _ from e8, show headgateref16_Code.j9 K st x = _ from e9]
  clear e0 e1 e2 e3 e4 e5 e6 e7 e8 e9
  have o3 : ofS 3 x.f3 0 = if 0 ≤ x.f3 ∧ x.f3 < 4294967296 then (2, ⟨14, 29, 0, x.f3⟩) else (2, ⟨3, 12, 0, -1⟩) := by
    by_cases h : 0 ≤ x.f3 ∧ x.f3 < 4294967296
    · rw [if_pos h]; unfold ofS; rw [if_neg (by decide), if_neg (by decide), if_pos ⟨rfl, h⟩]
    · rw [if_neg h]; unfold ofS; rw [if_neg (by decide), if_neg (by decide), if_neg (by omega)]; all_goals rfl
  rw [o3, show ofS 1 0 0 = (0, ⟨0, 0, 0, -1⟩) from rfl, show ofS 2 0 0 = (24, ⟨0, 0, 0, -1⟩) from rfl, show ofS 4 0 0 = (2, ⟨5, 33, 0, -1⟩) from rfl, show ofS 5 0 0 = (2, ⟨5, 36, 0, -1⟩) from rfl,
    show ofS 6 0 0 = (2, ⟨5, 37, 0, -1⟩) from rfl, show ofS 8 0 0 = (2, ⟨3, 12, 0, -1⟩) from rfl, show ofS 7 0 1 = (2, ⟨6, 41, 0, -1⟩) from rfl, show ofS 7 0 2 = (2, ⟨6, 42, 5, -1⟩) from rfl, show ofS 7 0 3 = (2, ⟨6, 42, 4, -1⟩) from rfl, show ofS 7 0 4 = (2, ⟨6, 42, 3, -1⟩) from rfl]
  obtain ⟨k, a, q, p⟩ := x
  unfold codeR
  simp only [T_api_Sense.mk.injEq]
  unfold codeS
  dsimp only
  by_cases h0 : st = 0 ∧ k = 0 ∧ a = 0 ∧ q = 0 ∧ p = -1
  · obtain ⟨r1, r2, r3, r4, r5⟩ := h0; subst r1 r2 r3 r4 r5; all_goals rfl
  rw [if_neg h0, if_neg h0]
  by_cases h1 : st = 24 ∧ k = 0 ∧ a = 0 ∧ q = 0 ∧ p = -1
  · obtain ⟨r1, r2, r3, r4, r5⟩ := h1; subst r1 r2 r3 r4 r5; all_goals rfl
  rw [if_neg h1, if_neg h1]
  by_cases h2 : st = 2 ∧ k = 5 ∧ a = 33 ∧ q = 0 ∧ p = -1
  · obtain ⟨r1, r2, r3, r4, r5⟩ := h2; subst r1 r2 r3 r4 r5; all_goals rfl
  rw [if_neg h2, if_neg h2]
  by_cases h3 : st = 2 ∧ k = 5 ∧ a = 36 ∧ q = 0 ∧ p = -1
  · obtain ⟨r1, r2, r3, r4, r5⟩ := h3; subst r1 r2 r3 r4 r5; all_goals rfl
  rw [if_neg h3, if_neg h3]
  by_cases h4 : st = 2 ∧ k = 5 ∧ a = 37 ∧ q = 0 ∧ p = -1
  · obtain ⟨r1, r2, r3, r4, r5⟩ := h4; subst r1 r2 r3 r4 r5; all_goals rfl
  rw [if_neg h4, if_neg h4]
  by_cases h5 : st = 2 ∧ k = 3 ∧ a = 12 ∧ q = 0 ∧ p = -1
  · obtain ⟨r1, r2, r3, r4, r5⟩ := h5; subst r1 r2 r3 r4 r5; all_goals rfl
  rw [if_neg h5, if_neg h5]
  by_cases h6 : st = 2 ∧ k = 6 ∧ a = 41 ∧ q = 0 ∧ p = -1
  · obtain ⟨r1, r2, r3, r4, r5⟩ := h6; subst r1 r2 r3 r4 r5; all_goals rfl
  rw [if_neg h6, if_neg h6]
  by_cases h7 : st = 2 ∧ k = 6 ∧ a = 42 ∧ q = 5 ∧ p = -1
  · obtain ⟨r1, r2, r3, r4, r5⟩ := h7; subst r1 r2 r3 r4 r5; all_goals rfl
  rw [if_neg h7, if_neg h7]
  by_cases h8 : st = 2 ∧ k = 6 ∧ a = 42 ∧ q = 4 ∧ p = -1
  · obtain ⟨r1, r2, r3, r4, r5⟩ := h8; subst r1 r2 r3 r4 r5; all_goals rfl
  rw [if_neg h8, if_neg h8]
  by_cases h9 : st = 2 ∧ k = 6 ∧ a = 42 ∧ q = 3 ∧ p = -1
  · obtain ⟨r1, r2, r3, r4, r5⟩ := h9; subst r1 r2 r3 r4 r5; all_goals rfl
  rw [if_neg h9, if_neg h9]
  by_cases h : 0 ≤ p ∧ p < 4294967296
  · rw [if_pos h]
    simp only [T_api_Sense.mk.injEq, and_true]
    by_cases g : st = 2 ∧ k = 14 ∧ a = 29 ∧ q = 0
    · rw [if_pos g, if_pos ⟨g.1, g.2.1, g.2.2.1, g.2.2.2, h⟩]; all_goals rfl
    · rw [if_neg g, if_neg (fun f => g ⟨f.1, f.2.1, f.2.2.1, f.2.2.2.1⟩)]; all_goals rfl
  · rw [if_neg h]
    simp only [T_api_Sense.mk.injEq]
    rw [if_neg h5, if_neg (fun f => h f.2.2.2.2)]; all_goals rfl
end Go.Proofs.YthjjbkgifelooaaDoor.F
