/- Who is registered, and who holds: the program's and the document's answers are the same. No condition. -/
import Derived.Test.YthjjbkgifelooaaDoorUKeep
import Derived.Test.YthjjbkgifelooaaDoorF48
import Derived.Test.YthjjbkgifelooaaDoorF48
import Derived.Test.YthjjbkgifelooaaDoorF48
import Derived.Test.YthjjbkgifelooaaDoorF12
import Derived.Test.YthjjbkgifelooaaDoorF52
namespace Go.Proofs.YthjjbkgifelooaaDoor.F
open Go Go.RowKit Go.Proofs.YthjjbkgifelooaaDoor.X
set_option linter.unusedVariables false
set_option linter.unusedSimpArgs false

theorem access_Type.val (t : Int) : access_Type.f t = some (decide (1 ≤ t ∧ t ≤ 6)) := by
  unfold access_Type.f
  by_cases h : t ≥ 1 <;> by_cases h' : t ≤ 6 <;> simp [h, h'] <;> omega

def isReg (l : List T_api_Reg) (h : ByteArray) : Bool := l.any fun r => decide (r.f0 = h)
theorem isReg_iff (l : List T_api_Reg) (h : ByteArray) : isReg l h = true ↔ ∃ r ∈ l, r.f0 = h := by simp [isReg]

theorem registered_loop (t : T_api_Table) (h : ByteArray) (hl : t.f0.length ≤ 1000000) : ∀ (m K j : Nat), m ≤ t.f0.length →
    access_registered.l0 K t h (m + 1 + j) ((t.f0.length : Int) - m) = some (isReg (t.f0.drop (t.f0.length - m)) h) := by
  intro m
  induction m with
  | zero =>
    intro K j hm
    rw [show 0 + 1 + j = j + 1 by omega, access_registered.l0]
    unfold access_registered.b0
    rw [if_neg (by omega), Nat.sub_zero, List.drop_eq_nil_of_le (Nat.le_refl _)]
    rfl
  | succ m ih =>
    intro K j hm
    have e1 : IntKind.wrap .i64 ((t.f0.length : Int) - ((m + 1 : Nat) : Int) + 1) = (t.f0.length : Int) - m := by rw [wi] <;> omega
    have e2 : (t.f0.length : Int) - ((m + 1 : Nat) : Int) = ((t.f0.length - (m + 1) : Nat) : Int) := by omega
    have d1 : t.f0.drop (t.f0.length - (m + 1)) = t.f0[t.f0.length - (m + 1)] :: t.f0.drop (t.f0.length - m) := by
      rw [List.drop_eq_getElem_cons (by omega)]; congr 2; omega
    rw [show m + 1 + 1 + j = (m + 1 + j) + 1 by omega, access_registered.l0]
    unfold access_registered.b0
    rw [if_pos (by omega), asrt_pos (by omega), e1, ih K j (by omega), e2, rdL_eq _ _ _ (by omega), d1]
    unfold isReg
    rw [List.any_cons]
    by_cases q : (t.f0[t.f0.length - (m + 1)]).f0 = h
    · rw [if_pos q, decide_eq_true q]; rfl
    · rw [if_neg q, decide_eq_false q]; rfl
theorem access_registered.is (t : T_api_Table) (h : ByteArray) (K : Nat) (hK : t.f0.length < K) (hl : t.f0.length ≤ 1000000) : access_registered.f K t h = some (isReg t.f0 h) := by
  unfold access_registered.f
  have := registered_loop t h hl t.f0.length K (K - t.f0.length - 1) (Nat.le_refl _)
  rw [show t.f0.length + 1 + (K - t.f0.length - 1) = K by omega] at this
  simpa using this

theorem refregistered_loop (t : T_api_Table) (h : ByteArray) (hl : t.f0.length ≤ 1000000) : ∀ (m K j : Nat), m ≤ t.f0.length →
    headgateref10_Registered.l0 K t h (m + 1 + j) ((t.f0.length : Int) - m) = some (isReg (t.f0.drop (t.f0.length - m)) h) := by
  intro m
  induction m with
  | zero =>
    intro K j hm
    rw [show 0 + 1 + j = j + 1 by omega, headgateref10_Registered.l0]
    unfold headgateref10_Registered.b0
    rw [if_neg (by omega), Nat.sub_zero, List.drop_eq_nil_of_le (Nat.le_refl _)]
    rfl
  | succ m ih =>
    intro K j hm
    have e1 : IntKind.wrap .i64 ((t.f0.length : Int) - ((m + 1 : Nat) : Int) + 1) = (t.f0.length : Int) - m := by rw [wi] <;> omega
    have e2 : (t.f0.length : Int) - ((m + 1 : Nat) : Int) = ((t.f0.length - (m + 1) : Nat) : Int) := by omega
    have d1 : t.f0.drop (t.f0.length - (m + 1)) = t.f0[t.f0.length - (m + 1)] :: t.f0.drop (t.f0.length - m) := by
      rw [List.drop_eq_getElem_cons (by omega)]; congr 2; omega
    rw [show m + 1 + 1 + j = (m + 1 + j) + 1 by omega, headgateref10_Registered.l0]
    unfold headgateref10_Registered.b0
    rw [if_pos (by omega), asrt_pos (by omega), e1, ih K j (by omega), e2, rdL_eq _ _ _ (by omega), d1]
    unfold isReg
    rw [List.any_cons]
    by_cases q : (t.f0[t.f0.length - (m + 1)]).f0 = h
    · rw [if_pos q, decide_eq_true q]; rfl
    · rw [if_neg q, decide_eq_false q]; rfl
theorem headgateref10_Registered.is (t : T_api_Table) (h : ByteArray) (K : Nat) (hK : t.f0.length < K) (hl : t.f0.length ≤ 1000000) : headgateref10_Registered.f K t h = some (isReg t.f0 h) := by
  unfold headgateref10_Registered.f
  have := refregistered_loop t h hl t.f0.length K (K - t.f0.length - 1) (Nat.le_refl _)
  rw [show t.f0.length + 1 + (K - t.f0.length - 1) = K by omega] at this
  simpa using this

def holdsB (t : T_api_Table) (h : ByteArray) : Bool :=
  if 1 ≤ t.f1.f0 ∧ t.f1.f0 ≤ 4 then decide (h = t.f1.f1) else if t.f1.f0 = 5 ∨ t.f1.f0 = 6 then isReg t.f0 h else false

theorem text_same (x y : ByteArray) : (x.toList == y.toList) = decide (x = y) := by
  by_cases h : x = y
  · rw [str_eq_t h, decide_eq_true h]
  · rw [str_eq_f h, decide_eq_false h]

theorem access_Holds.is (t : T_api_Table) (h : ByteArray) (K : Nat) (hK : t.f0.length < K) (hl : t.f0.length ≤ 1000000) : access_Holds.f K t h = some (holdsB t h) := by
  unfold access_Holds.f holdsB
  have hr := access_registered.is t h K hK hl
  obtain ⟨f0, ⟨ty, ho⟩, f2, f3⟩ := t
  simp only at hr ⊢
  rw [access_Type.val, Option.bind_some]
  by_cases h16 : 1 ≤ ty ∧ ty ≤ 6
  · rw [if_pos (by simpa using h16), asrt_pos (by omega), asrt_pos (by omega), hr]
    rcases (by omega : ty = 1 ∨ ty = 2 ∨ ty = 3 ∨ ty = 4 ∨ ty = 5 ∨ ty = 6) with rfl | rfl | rfl | rfl | rfl | rfl
    · rw [if_pos (show band .i64 (rdL (0 : Int) G_access_lets 1) 8 = 0 from rfl), text_same, if_pos (by omega)]
    · rw [if_pos (show band .i64 (rdL (0 : Int) G_access_lets 2) 8 = 0 from rfl), text_same, if_pos (by omega)]
    · rw [if_pos (show band .i64 (rdL (0 : Int) G_access_lets 3) 8 = 0 from rfl), text_same, if_pos (by omega)]
    · rw [if_pos (show band .i64 (rdL (0 : Int) G_access_lets 4) 8 = 0 from rfl), text_same, if_pos (by omega)]
    · rw [if_neg (show ¬ band .i64 (rdL (0 : Int) G_access_lets 5) 8 = 0 by decide), if_neg (by omega), if_pos (by omega)]; rfl
    · rw [if_neg (show ¬ band .i64 (rdL (0 : Int) G_access_lets 6) 8 = 0 by decide), if_neg (by omega), if_pos (by omega)]; rfl
  · rw [if_neg (by simpa using h16), if_neg (by omega), if_neg (by omega)]

theorem headgateref10_Holds.is (t : T_api_Table) (h : ByteArray) (K : Nat) (hK : t.f0.length < K) (hl : t.f0.length ≤ 1000000) : headgateref10_Holds.f K t h = some (holdsB t h) := by
  unfold headgateref10_Holds.f headgateref10_Holds.j0 headgateref10_Holds.j1 holdsB
  have hr := headgateref10_Registered.is t h K hK hl
  obtain ⟨f0, ⟨ty, ho⟩, f2, f3⟩ := t
  simp only at hr ⊢
  rw [hr]
  simp only [text_same, Option.bind_some]
  have e : decide (ho = h) = decide (h = ho) := by
    by_cases q : h = ho
    · rw [decide_eq_true q, decide_eq_true q.symm]
    · rw [decide_eq_false q, decide_eq_false (fun z => q z.symm)]
  rw [e]
  by_cases h1 : ty = 1
  · subst h1; simp
  by_cases h2 : ty = 2
  · subst h2; simp
  by_cases h3 : ty = 3
  · subst h3; simp
  by_cases h4 : ty = 4
  · subst h4; simp
  by_cases h5 : ty = 5
  · subst h5; simp
  by_cases h6 : ty = 6
  · subst h6; simp
  rw [if_neg h1, if_neg h2, if_neg h3, if_neg h5]
  have a4 : (ty == 4) = false := by simp [h4]
  have a6 : (ty == 6) = false := by simp [h6]
  rw [a4, a6, if_neg (by simp), if_neg (by simp), if_neg (by omega), if_neg (by omega)]

end Go.Proofs.YthjjbkgifelooaaDoor.F
