/- The plain law of headgate/headgatelaw13.UnitsApart. No condition. -/
import Derived.Test.YtdcojinnjpihaaaF9
import Derived.Test.YtdcojinnjpihaaaUUnitsMap
namespace Go.Proofs.Ytdcojinnjpihaaa.F
open Go Go.RowKit Go.Proofs.Ytdcojinnjpihaaa.X
set_option linter.unusedVariables false
set_option linter.unusedSimpArgs false

theorem wakes_run (K : Nat) (hK : 66 ≤ K) : headgatelaw13_wakes.f K = some true := by
  unfold headgatelaw13_wakes.f
  rw [show units_New.f = some (none : UMap) from rfl]
  simp only [Option.bind_some]
  have hn : isName (⟨#[97]⟩ : ByteArray) = true := by decide
  have hw2 : mayWait 0 (⟨#[97]⟩ : ByteArray) 2 = true := by simp [mayWait, hn]
  have hw3 : mayWait 0 (⟨#[97]⟩ : ByteArray) 3 = true := by simp [mayWait, hn]
  obtain ⟨m1, a1, b1, _, c1⟩ := add_run K hK none uok_none 0 (⟨#[97]⟩ : ByteArray) 2
  have f1 : fresh (uget none ((0 : Int), (⟨#[97]⟩ : ByteArray))) 2 = true := rfl
  rw [hw2, f1] at a1 c1
  obtain ⟨s1, g1⟩ := c1 rfl
  have u1 : uget m1 ((0 : Int), (⟨#[97]⟩ : ByteArray)) = [2] := by rw [g1, if_pos rfl]; rfl
  rw [a1]
  simp only [Option.bind_some, Bool.and_self, if_true]
  obtain ⟨m2, a2, b2, _, c2⟩ := add_run K hK m1 b1 0 (⟨#[97]⟩ : ByteArray) 3
  have f2 : fresh (uget m1 ((0 : Int), (⟨#[97]⟩ : ByteArray))) 3 = true := by rw [u1]; decide
  rw [hw3, f2] at a2 c2
  obtain ⟨s2, g2⟩ := c2 rfl
  have u2 : uget m2 ((0 : Int), (⟨#[97]⟩ : ByteArray)) = [2, 3] := by rw [g2, if_pos rfl, u1]; rfl
  rw [a2]
  simp only [Option.bind_some, Bool.and_self, if_true]
  obtain ⟨m3, a3, b3, d3, _⟩ := add_run K hK m2 b2 0 (⟨#[97]⟩ : ByteArray) 3
  have f3 : fresh (uget m2 ((0 : Int), (⟨#[97]⟩ : ByteArray))) 3 = false := by rw [u2]; decide
  rw [f3, Bool.and_false] at a3 d3
  rw [d3 rfl] at a3
  rw [a3]
  simp only [Option.bind_some]
  obtain ⟨m4, a4, b4, c4⟩ := take_run m2 b2 0 (⟨#[97]⟩ : ByteArray)
  rw [u2] at a4 c4
  have u4 : uget m4 ((0 : Int), (⟨#[97]⟩ : ByteArray)) = [3] := by rw [c4, if_pos rfl]; rfl
  obtain ⟨m5, a5, b5, c5⟩ := take_run m4 b4 0 (⟨#[97]⟩ : ByteArray)
  rw [u4] at a5 c5
  have u5 : uget m5 ((0 : Int), (⟨#[97]⟩ : ByteArray)) = [] := by rw [c5, if_pos rfl]; rfl
  obtain ⟨m6, a6, b6, c6⟩ := take_run m5 b5 0 (⟨#[97]⟩ : ByteArray)
  rw [u5] at a6
  rw [a4]
  simp only [Option.bind_some]
  rw [a5]
  simp only [Option.bind_some]
  rw [a6]
  rfl

section
variable (K : Nat) (a0 : T_headgatelaw13_Step) (a1 : List T_headgatelaw13_Step)
theorem apart_end (hK : 66 ≤ K) (m : UMap) (hm : UOk m) (hu : uget m (a0.f1, a0.f2) = [a0.f3]) : headgatelaw13_UnitsApart.j1 K a0 m = some true := by
  unfold headgatelaw13_UnitsApart.j1
  obtain ⟨m', h1, h2, h3⟩ := take_run m hm a0.f1 a0.f2
  rw [hu] at h1 h3
  rw [h1]
  have : uget m' (a0.f1, a0.f2) = [] := by rw [h3, if_pos rfl]; rfl
  simp only [Option.bind_some, List.isEmpty_cons, Bool.not_false, if_true, List.headD_cons, wait_run, this, List.length_nil, wakes_run K hK]
  rfl

theorem apart_loop (hK : 66 ≤ K) : ∀ (k i : Nat) (m : UMap), UOk m → uget m (a0.f1, a0.f2) = [a0.f3] → i ≤ 60 → 60 < k + i → headgatelaw13_UnitsApart.l0 K a0 a1 k (i : Int) m = some true
  | 0, i, m, hm, hu, h1, h2 => by omega
  | k + 1, i, m, hm, hu, h1, h2 => by
    show headgatelaw13_UnitsApart.b0 K a0 a1 (headgatelaw13_UnitsApart.l0 K a0 a1 k) (i : Int) m = _
    unfold headgatelaw13_UnitsApart.b0
    by_cases hl : (i : Int) < (a1.length : Int)
    · rw [if_pos hl]
      by_cases hi : (i : Int) < 60
      · rw [if_pos hi, asrt_pos (by omega)]
        have hi' : i < 60 := by omega
        have rec_ : ∀ m', UOk m' → uget m' (a0.f1, a0.f2) = [a0.f3] → headgatelaw13_UnitsApart.l0 K a0 a1 k (IntKind.wrap .i64 ((i : Int) + 1)) m' = some true := by
          intro m' hm' hu'
          rw [wi (by omega) (by omega), show (i : Int) + 1 = ((i + 1 : Nat) : Int) by omega]
          exact apart_loop hK k (i + 1) m' hm' hu' (by omega) (by omega)
        generalize rdL T_headgatelaw13_Step.z a1 (i : Int) = x
        have add_ : ¬ (x.f1 = a0.f1 ∧ x.f2 = a0.f2) → ((units_Units_Add.f K m x.f1 x.f2 x.f3).bind fun t => headgatelaw13_UnitsApart.l0 K a0 a1 k (IntKind.wrap .i64 ((i : Int) + 1)) t.2) = some true := by
          intro hne
          obtain ⟨m', e1, e2, e3, e4⟩ := add_run K hK m hm x.f1 x.f2 x.f3
          rw [e1]
          refine rec_ m' e2 ?_
          cases hb : (mayWait x.f1 x.f2 x.f3 && fresh (uget m (x.f1, x.f2)) x.f3) with
          | false => rw [e3 hb]; exact hu
          | true =>
            rw [(e4 hb).2, if_neg (by simp only [Prod.mk.injEq]; exact fun h => hne ⟨h.1.symm, h.2.symm⟩)]
            exact hu
        have take_ : ¬ (x.f1 = a0.f1 ∧ x.f2 = a0.f2) → ((units_Units_Take.f m x.f1 x.f2).bind fun t => headgatelaw13_UnitsApart.l0 K a0 a1 k (IntKind.wrap .i64 ((i : Int) + 1)) t.2.2) = some true := by
          intro hne
          obtain ⟨m', e1, e2, e3⟩ := take_run m hm x.f1 x.f2
          rw [e1]
          refine rec_ m' e2 ?_
          rw [e3, if_neg (by simp only [Prod.mk.injEq]; exact fun h => hne ⟨h.1.symm, h.2.symm⟩)]
          exact hu
        have forget_ : ¬ x.f2 = a0.f2 → ((units_Units_Forget.f K m x.f2).bind fun t => headgatelaw13_UnitsApart.l0 K a0 a1 k (IntKind.wrap .i64 ((i : Int) + 1)) t) = some true := by
          intro hne
          obtain ⟨m', e1, e2, e3⟩ := forget_run K hK m hm x.f2
          rw [e1]
          refine rec_ m' e2 ?_
          rw [e3, if_neg (fun h => hne h.1.symm)]
          exact hu
        by_cases g1 : (x.f2.size : Int) > 1000
        · rw [if_pos g1]; exact rec_ m hm hu
        rw [if_neg g1]
        by_cases g2 : x.f2 = a0.f2
        · rw [if_pos g2]
          by_cases g3 : x.f1 = a0.f1
          · rw [if_pos g3]; exact rec_ m hm hu
          rw [if_neg g3]
          by_cases g4 : x.f0 = 2
          · rw [if_pos g4]; exact rec_ m hm hu
          rw [if_neg g4]
          by_cases g5 : x.f0 = 0
          · rw [if_pos g5]; exact add_ (fun h => g3 h.1)
          rw [if_neg g5]
          by_cases g6 : x.f0 = 1
          · rw [if_pos g6]; exact take_ (fun h => g3 h.1)
          rw [if_neg g6]; exact rec_ m hm hu
        · rw [if_neg g2]
          by_cases g5 : x.f0 = 0
          · rw [if_pos g5]; exact add_ (fun h => g2 h.2)
          rw [if_neg g5]
          by_cases g6 : x.f0 = 1
          · rw [if_pos g6]; exact take_ (fun h => g2 h.2)
          rw [if_neg g6]
          by_cases g7 : x.f0 = 2
          · rw [if_pos g7]; exact forget_ g2
          rw [if_neg g7]; exact rec_ m hm hu
      · rw [if_neg hi]; exact apart_end K a0 hK m hm hu
    · rw [if_neg hl]; exact apart_end K a0 hK m hm hu

theorem headgatelaw13_UnitsApart.pure (a0 : T_headgatelaw13_Step) (a1 : List T_headgatelaw13_Step) (o0 : a0.ok) (o1 : a1.length * 40 ≤ 140737488351232 ∧ ∀ y ∈ a1, y.ok) : ∃ K, headgatelaw13_UnitsApart.f K a0 a1 = some true := by
  refine ⟨100, ?_⟩
  have hK : 66 ≤ 100 := by omega
  unfold headgatelaw13_UnitsApart.f
  rw [show units_New.f = some (none : UMap) from rfl]
  simp only [Option.bind_some]
  have hj : ∀ m, headgatelaw13_UnitsApart.j0 100 a0 a1 true m = some true := by
    intro m
    unfold headgatelaw13_UnitsApart.j0
    rw [if_pos rfl, wakes_run 100 hK]
    rfl
  by_cases h1 : (a0.f2.size : Int) > 1000
  · rw [if_pos h1]; exact hj _
  rw [if_neg h1]
  obtain ⟨m', e1, e2, e3, e4⟩ := add_run 100 hK none uok_none a0.f1 a0.f2 a0.f3
  rw [e1]
  simp only [Option.bind_some]
  cases hb : (mayWait a0.f1 a0.f2 a0.f3 && fresh (uget none (a0.f1, a0.f2)) a0.f3) with
  | false => exact hj _
  | true =>
    unfold headgatelaw13_UnitsApart.j0
    rw [if_neg (by simp)]
    exact apart_loop 100 a0 a1 hK 100 0 m' e2 (by rw [(e4 hb).2, if_pos rfl]; rfl) (by omega) (by omega)
end
end Go.Proofs.Ytdcojinnjpihaaa.F
