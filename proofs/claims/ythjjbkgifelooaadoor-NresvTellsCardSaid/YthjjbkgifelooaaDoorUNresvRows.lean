/- Rows of a report, and who is first among those that hold. No condition. -/
import Derived.Test.YthjjbkgifelooaaDoorUNresvReport
namespace Go.Proofs.YthjjbkgifelooaaDoor.F
open Go Go.RowKit Go.Proofs.YthjjbkgifelooaaDoor.X
set_option linter.unusedVariables false
set_option linter.unusedSimpArgs false

def firstAt (b : Nat → Int) : Nat → Int
  | 0 => -1
  | n + 1 => if firstAt b n < 0 ∧ 0 < b n then (n : Int) else firstAt b n
def cntB (b : Nat → Int) : Nat → Int
  | 0 => 0
  | n + 1 => cntB b n + mn (b n) 2
def nzB (b : Nat → Int) : Nat → Int
  | 0 => 0
  | n + 1 => if b n = 0 then nzB b n else nzB b n + 1
theorem mn2 {x : Int} (h : 0 ≤ x) : (x = 0 ∧ mn x 2 = 0) ∨ (x = 1 ∧ mn x 2 = 1) ∨ (2 ≤ x ∧ mn x 2 = 2) := by unfold mn; split <;> omega

theorem first_cases (b : Nat → Int) (hb : ∀ j, 0 ≤ b j) : ∀ n, (firstAt b n = -1 ∧ (∀ j, j < n → b j = 0) ∧ cntB b n = 0 ∧ nzB b n = 0) ∨ (∃ f : Nat, f < n ∧ firstAt b n = f ∧ 0 < b f ∧ (∀ j, j < f → b j = 0) ∧ 1 ≤ cntB b n)
  | 0 => Or.inl ⟨rfl, fun j h => by omega, rfl, rfl⟩
  | n + 1 => by
    have hn := mn2 (hb n)
    rcases first_cases b hb n with ⟨h1, h2, h3, h5⟩ | ⟨f, h0, h1, h2, h3, h4⟩
    · by_cases h : 0 < b n
      · right
        refine ⟨n, by omega, ?_, h, h2, ?_⟩
        · unfold firstAt; rw [if_pos ⟨by omega, h⟩]
        · unfold cntB; omega
      · left
        have h0 := hb n
        have hz : b n = 0 := by omega
        refine ⟨?_, fun j hj => ?_, ?_, ?_⟩
        · unfold firstAt; rw [if_neg (by omega)]; exact h1
        · by_cases e : j = n
          · subst e; exact hz
          · exact h2 j (by omega)
        · unfold cntB; omega
        · unfold nzB; rw [if_pos hz]; exact h5
    · right
      refine ⟨f, by omega, ?_, h2, h3, ?_⟩
      · unfold firstAt; rw [if_neg (by omega)]; exact h1
      · unfold cntB; omega

theorem cnt_zero (b : Nat → Int) (hb : ∀ j, 0 ≤ b j) (n : Nat) : cntB b n ≤ 0 ↔ ∀ j, j < n → b j = 0 := by
  rcases first_cases b hb n with ⟨h1, h2, h3, _⟩ | ⟨f, h0, h1, h2, h3, h4⟩
  · exact ⟨fun _ => h2, fun _ => by omega⟩
  · constructor
    · intro h; omega
    · intro h; have := h f h0; omega

theorem cnt_one (b : Nat → Int) (hb : ∀ j, 0 ≤ b j) : ∀ n, ((∀ j, j < n → b j ≤ 1) ∧ cntB b n ≤ 1) ↔ ∀ j, j < n → b j = if firstAt b n = (j : Int) then 1 else 0
  | 0 => ⟨fun _ j h => by omega, fun _ => ⟨fun j h => by omega, by simp [cntB]⟩⟩
  | n + 1 => by
    have hn := mn2 (hb n)
    have h00 := hb n
    have ih := cnt_one b hb n
    rcases first_cases b hb n with ⟨h1, h2, h3, _⟩ | ⟨f, h0, h1, h2, h3, h4⟩
    · by_cases h : 0 < b n
      · have hf : firstAt b (n + 1) = n := by unfold firstAt; rw [if_pos ⟨by omega, h⟩]
        rw [hf]
        unfold cntB
        constructor
        · rintro ⟨q1, q2⟩ j hj
          by_cases e : j = n
          · subst e; rw [if_pos rfl]; have := q1 j hj; omega
          · rw [if_neg (by omega)]; exact h2 j (by omega)
        · intro q
          have qn := q n (by omega)
          rw [if_pos rfl] at qn
          refine ⟨fun j hj => ?_, by omega⟩
          by_cases e : j = n
          · subst e; omega
          · have := h2 j (by omega); omega
      · have hf : firstAt b (n + 1) = -1 := by unfold firstAt; rw [if_neg (by omega)]; exact h1
        rw [hf]
        unfold cntB
        constructor
        · rintro ⟨q1, q2⟩ j hj
          rw [if_neg (by omega)]
          by_cases e : j = n
          · subst e; omega
          · exact h2 j (by omega)
        · intro q
          refine ⟨fun j hj => ?_, by omega⟩
          have := q j hj
          rw [if_neg (by omega)] at this
          omega
    · have hf : firstAt b (n + 1) = firstAt b n := by
        conv => lhs; unfold firstAt
        rw [if_neg (by omega)]
      rw [hf]
      rw [h1] at ih ⊢
      unfold cntB
      constructor
      · rintro ⟨q1, q2⟩ j hj
        by_cases e : j = n
        · subst e; rw [if_neg (by omega)]; omega
        · exact ih.1 ⟨fun i hi => q1 i (by omega), by omega⟩ j (by omega)
      · intro q
        have qn := q n (by omega)
        rw [if_neg (by omega)] at qn
        obtain ⟨r1, r2⟩ := ih.2 fun j hj => q j (by omega)
        refine ⟨fun j hj => ?_, by omega⟩
        by_cases e : j = n
        · subst e; omega
        · exact r1 j (by omega)

theorem cnt_le (b : Nat → Int) (hb : ∀ j, 0 ≤ b j) : ∀ n, (∀ j, j < n → b j ≤ 1) → cntB b n ≤ n
  | 0, _ => by simp [cntB]
  | n + 1, h => by
    have hn := mn2 (hb n)
    have := cnt_le b hb n fun j hj => h j (by omega)
    have := h n (by omega)
    unfold cntB; omega
theorem cnt_all (b : Nat → Int) (hb : ∀ j, 0 ≤ b j) : ∀ n, (∀ j, j < n → b j ≤ 1) → (cntB b n = n ↔ ∀ j, j < n → b j = 1)
  | 0, _ => ⟨fun _ j h => by omega, fun _ => rfl⟩
  | n + 1, h => by
    have hn := mn2 (hb n)
    have ih := cnt_all b hb n fun j hj => h j (by omega)
    have hle := cnt_le b hb n fun j hj => h j (by omega)
    have h1 := h n (by omega)
    unfold cntB
    constructor
    · intro q j hj
      by_cases e : j = n
      · subst e; omega
      · exact ih.1 (by omega) j (by omega)
    · intro q
      have qn := q n (by omega)
      have := ih.2 fun j hj => q j (by omega)
      omega

def regsOf (k : Nat → Int) : Nat → List T_api_Reg
  | 0 => []
  | n + 1 => regsOf k n ++ [⟨⟨#[]⟩, k n⟩]
theorem regsOf_length (k : Nat → Int) : ∀ n, (regsOf k n).length = n
  | 0 => rfl
  | n + 1 => by rw [regsOf, List.length_append, regsOf_length k n]; rfl
theorem regsOf_get (k : Nat → Int) : ∀ n j, j < n → (regsOf k n).getD j T_api_Reg.z = ⟨⟨#[]⟩, k j⟩
  | 0, j, h => by omega
  | n + 1, j, h => by
    rw [regsOf, List.getD_eq_getElem?_getD]
    by_cases e : j < n
    · rw [List.getElem?_append_left (by rw [regsOf_length]; exact e), ← List.getD_eq_getElem?_getD, regsOf_get k n j e]
    · have : j = n := by omega
      subst this
      rw [List.getElem?_append_right (by rw [regsOf_length]; omega), regsOf_length, Nat.sub_self]; rfl

theorem rowsL_congr (h h' k k' : Nat → Int) : ∀ n, (∀ j, j < n → h j = h' j ∧ k j = k' j) → rowsL h k n = rowsL h' k' n
  | 0, _ => rfl
  | n + 1, e => by rw [rowsL, rowsL, rowsL_congr h h' k k' n fun j hj => e j (by omega), (e n (by omega)).1, (e n (by omega)).2]
theorem rowsL_get (h k : Nat → Int) (c : Nat) (hc : c < 24) : ∀ n j, j < n → (rowsL h k n)[24 * j + c]? = (entL ((j : Int) + 1) (h j) (k j))[c]?
  | 0, j, hj => by omega
  | n + 1, j, hj => by
    rw [rowsL]
    by_cases e : j < n
    · rw [List.getElem?_append_left (by rw [rowsL_length]; omega), rowsL_get h k c hc n j e]
    · have : j = n := by omega
      subst this
      rw [List.getElem?_append_right (by rw [rowsL_length]; omega), rowsL_length, show 24 * j + c - 24 * j = c by omega]
theorem entL_get2 (p h k : Int) : (entL p h k)[2]? = some h := rfl
theorem inB_ltB' (v : Int) (n : Nat) : inB (ltB v n) := inB_ltB v n
theorem hdrL_in (g ty n ap : Int) (ht : 0 ≤ ty ∧ ty ≤ 255) (ha : 0 ≤ ap ∧ ap ≤ 255) : inB (hdrL g ty n ap) := by
  unfold hdrL
  refine inB_append (inB_append (inB_append (inB_append (inB_ltB _ _) (inB_cons ht inB_nil)) (inB_ltB _ _)) (inB_cons (by omega) (inB_cons (by omega) (inB_cons ha inB_nil)))) (inB_zero _)
theorem entL_in (p h k : Int) (hh : 0 ≤ h ∧ h ≤ 255) : inB (entL p h k) :=
  inB_append (inB_append (inB_append (inB_ltB _ _) (inB_cons hh inB_nil)) (inB_zero _)) (inB_ltB _ _)
theorem rowsL_in (h k : Nat → Int) (hh : ∀ j, 0 ≤ h j ∧ h j ≤ 255) : ∀ n, inB (rowsL h k n)
  | 0 => inB_nil
  | n + 1 => inB_append (rowsL_in h k hh n) (entL_in _ _ _ (hh n))

/-- What stands in a report's text. -/
theorem row_bit (g ty n' ap : Int) (h k : Nat → Int) (n j : Nat) (hj : j < n) (hin : inB (hdrL g ty n' ap ++ rowsL h k n)) : bt (strOfNums (hdrL g ty n' ap ++ rowsL h k n)) (26 + 24 * (j : Int)) = h j := by
  rw [bt_of _ hin, List.getD_eq_getElem?_getD, List.getElem?_append_right (by rw [hdrL_length]; omega), hdrL_length, show (26 + 24 * (j : Int)).toNat - 24 = 24 * j + 2 by omega, rowsL_get h k 2 (by omega) n j hj, entL_get2]; rfl

end Go.Proofs.YthjjbkgifelooaaDoor.F
