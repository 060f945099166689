/- DRAFT, not built: the document's Change of layer 27. -/
import Derived.Test.YthjjbkgifelooaaDoorUNresv
import Derived.Test.YthjjbkgifelooaaDoorF25
namespace Go.Proofs.YthjjbkgifelooaaDoor.F
open Go Go.RowKit Go.Proofs.YthjjbkgifelooaaDoor.X
set_option linter.unusedVariables false
set_option linter.unusedSimpArgs false

theorem headgateref27_Change.is (op w : Int) (h0 : 0 ≤ w) (h1 : w ≤ 4294967295) (s : ByteArray) (K : Nat) : headgateref27_Change.f (K + 70) op w s = some (nchg op w s) := by
  obtain ⟨r03, r88, r30, r4, r31, r35, r16⟩ := rb w h0 h1 K
  have hlow : 0 ≤ w % 8 ∧ w % 8 ≤ 7 := by omega
  have hap : 0 ≤ w / 1073741824 ∧ w / 1073741824 ≤ 3 := by omega
  unfold headgateref27_Change.f nchg
  by_cases h13 : op = 13
  · subst h13
    rw [show headgateref27_Size.f 13 = some 16 from rfl, Option.bind_some, if_neg (by omega : ¬ (16 : Int) = 0), Option.bind_some]
    by_cases hs : s.size = 16
    · have L0 : headgateref01_Little.f (K + 70) s 0 8 = some (le s 0 8, true) := (headgateref01_Little.is s 0 8 (K + 61) (by omega) (by omega) (by omega)).trans (by rw [if_pos (by omega)])
      have L8 : headgateref01_Little.f (K + 70) s 8 8 = some (le s 8 8, true) := (headgateref01_Little.is s 8 8 (K + 61) (by omega) (by omega) (by omega)).trans (by rw [if_pos (by omega)])
      have hsz : (s.size : Int) = 16 := by omega
      rw [if_pos hsz, L0, Option.bind_some, L8, Option.bind_some, r03, Option.bind_some, r88, Option.bind_some, if_pos rfl, r30, Option.bind_some, r4, Option.bind_some, if_pos (⟨rfl, hs⟩ : (13 : Int) = 13 ∧ s.size = 16)]
      unfold headgateref27_Change.j0 headgateref27_Change.j1
      rw [r31]
      simp only [Option.bind_some]
      have ew : IntKind.wrap .i64 (w / 1073741824 - 1) = w / 1073741824 - 1 := by rw [wi] <;> omega
      rw [ew]
      generalize w / 1073741824 = ap at hap
      generalize w % 8 = low at hlow
      generalize w / 16 % 67108864 = mid
      generalize w / 8 % 2 = ig
      generalize le s 8 8 = o
      unfold nReg
      rcases (by omega : ap = 0 ∨ ap = 1 ∨ ap = 2 ∨ ap = 3) with rfl | rfl | rfl | rfl <;> by_cases hl1 : low = 1 <;> by_cases hl2 : low ≤ 2 <;> by_cases ho : o = 0 <;> by_cases hm : mid = 0 <;> simp_all [zcN] <;> (try omega)
    · rw [if_neg (by omega : ¬ (s.size : Int) = 16), if_neg (by omega), if_neg (by omega), if_neg (by omega), if_neg (by omega), if_neg (by omega)]; rfl
  have hrest : restOf w = w / 8 % 32 + w / 65536 % 65536 := rfl
  have q1 : 0 ≤ w / 8 % 32 := by omega
  have q2 : 0 ≤ w / 65536 % 65536 := by omega
  have q3 : 0 ≤ w / 256 % 256 := by omega
  by_cases h17 : op = 17
  · subst h17
    rw [show headgateref27_Size.f 17 = some 16 from rfl, Option.bind_some, if_neg (by omega : ¬ (16 : Int) = 0), Option.bind_some]
    by_cases hs : s.size = 16
    · have L0 : headgateref01_Little.f (K + 70) s 0 8 = some (le s 0 8, true) := (headgateref01_Little.is s 0 8 (K + 61) (by omega) (by omega) (by omega)).trans (by rw [if_pos (by omega)])
      have L8 : headgateref01_Little.f (K + 70) s 8 8 = some (le s 8 8, true) := (headgateref01_Little.is s 8 8 (K + 61) (by omega) (by omega) (by omega)).trans (by rw [if_pos (by omega)])
      have hsz : (s.size : Int) = 16 := by omega
      rw [if_pos hsz, L0, Option.bind_some, L8, Option.bind_some, r03, Option.bind_some, r88, Option.bind_some, if_neg (by omega : ¬ (17 : Int) = 13), r35, Option.bind_some, r16, Option.bind_some]
      unfold headgateref27_Change.j2 headgateref27_Change.j3
      simp only [headgateref10_Type.is, Option.bind_some]
      rw [hrest]
      generalize w / 8 % 32 = a at q1
      generalize w / 65536 % 65536 = b at q2
      generalize w / 256 % 256 = typ at q3
      generalize w % 8 = low at hlow
      unfold nTyp
      have hab : a + b = 0 ↔ a = 0 ∧ b = 0 := by omega
      simp only [hab]
      by_cases ha : a = 0 <;> by_cases hb : b = 0 <;> by_cases hl0 : low = 0 <;> by_cases hl1 : low = 1 <;> by_cases ht : 1 ≤ typ ∧ typ ≤ 6 <;> by_cases hl2 : low > 1 <;> simp_all [zcN] <;> (try omega) <;> (try (split <;> rfl))
    · rw [if_neg (by omega : ¬ (s.size : Int) = 16), if_neg (by omega), if_neg (by omega), if_neg (by omega), if_neg (by omega), if_neg (by omega)]; rfl
  by_cases h21 : op = 21
  · subst h21
    rw [show headgateref27_Size.f 21 = some 8 from rfl, Option.bind_some, if_neg (by omega : ¬ (8 : Int) = 0), Option.bind_some]
    by_cases hs : s.size = 8
    · have L0 : headgateref01_Little.f (K + 70) s 0 8 = some (le s 0 8, true) := (headgateref01_Little.is s 0 8 (K + 61) (by omega) (by omega) (by omega)).trans (by rw [if_pos (by omega)])
      have L8 : headgateref01_Little.f (K + 70) s 8 8 = some (0, false) := (headgateref01_Little.is s 8 8 (K + 61) (by omega) (by omega) (by omega)).trans (by rw [if_neg (by omega)])
      have hsz : (s.size : Int) = 8 := by omega
      rw [if_pos hsz, L0, Option.bind_some, L8, Option.bind_some, r03, Option.bind_some, r88, Option.bind_some, if_neg (by omega : ¬ (21 : Int) = 13), r35, Option.bind_some, r16, Option.bind_some]
      unfold headgateref27_Change.j2 headgateref27_Change.j3
      simp only [headgateref10_Type.is, Option.bind_some]
      rw [hrest]
      generalize w / 8 % 32 = a at q1
      generalize w / 65536 % 65536 = b at q2
      generalize w / 256 % 256 = typ at q3
      generalize w % 8 = low at hlow
      unfold nTyp nClr
      have hab : a + b = 0 ↔ a = 0 ∧ b = 0 := by omega
      have habt : a + b + typ = 0 ↔ (a = 0 ∧ b = 0) ∧ typ = 0 := by omega
      simp only [hab, habt]
      by_cases ha : a = 0 <;> by_cases hb : b = 0 <;> by_cases hl0 : low = 0 <;> by_cases hl1 : low = 1 <;> by_cases ht : 1 ≤ typ ∧ typ ≤ 6 <;> by_cases hl2 : low > 1 <;> by_cases ht0 : typ = 0 <;> simp_all [zcN] <;> (try omega) <;> (try (split <;> rfl))
    · rw [if_neg (by omega : ¬ (s.size : Int) = 8), if_neg (by omega), if_neg (by omega), if_neg (by omega), if_neg (by omega), if_neg (by omega)]; rfl
  rw [show headgateref27_Size.f op = some 0 from by unfold headgateref27_Size.f; rw [if_neg h13, if_neg h17, if_neg h21], Option.bind_some, if_pos rfl, if_neg (by omega), if_neg (by omega), if_neg (by omega), if_neg (by omega), if_neg (by omega)]; rfl

end Go.Proofs.YthjjbkgifelooaaDoor.F
