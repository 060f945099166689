/- The sense of bytes (layer 16): the program's. No condition. -/
import Derived.Test.YthjjbkgifelooaaDoorUSenseBytes0
import Derived.Test.YthjjbkgifelooaaDoorF39
namespace Go.Proofs.YthjjbkgifelooaaDoor.F
open Go Go.RowKit Go.Proofs.YthjjbkgifelooaaDoor.X
set_option linter.unusedVariables false
set_option linter.unusedSimpArgs false

def senS (s : ByteArray) (p : Int) : T_api_Sense := ⟨bt s 2, bt s 12, bt s 13, p⟩
def parS (s : ByteArray) (p : Int) : T_api_Sense × Int := if (bytesS (senS s p)).2 = 0 ∧ (bytesS (senS s p)).1 = s then (senS s p, 0) else (⟨0, 0, 0, 0⟩, 160)
def parseS (s : ByteArray) : T_api_Sense × Int := if (s.size : Int) = 18 then parS s (if bt s 0 = 112 then -1 else be s 3 4) else (⟨0, 0, 0, 0⟩, 160)
theorem btw (s : ByteArray) (i : Int) : IntKind.wrap .i64 (bt s i) = bt s i := by have := bt_lo s i; have := bt_hi s i; exact wi (by omega) (by omega)
theorem be_bound (s : ByteArray) (p : Int) : 0 ≤ be s p 4 ∧ be s p 4 < 4294967296 := by
  simp only [be]
  have := bt_lo s p; have := bt_hi s p
  have := bt_lo s (p + 1); have := bt_hi s (p + 1)
  have := bt_lo s (p + 2); have := bt_hi s (p + 2)
  have := bt_lo s (p + 3); have := bt_hi s (p + 3)
  have e0 : p + ((0 : Nat) : Int) = p := by omega
  have e1 : p + ((1 : Nat) : Int) = p + 1 := by omega
  have e2 : p + ((2 : Nat) : Int) = p + 2 := by omega
  have e3 : p + ((3 : Nat) : Int) = p + 3 := by omega
  rw [e0, e1, e2, e3]
  omega
theorem sense_Parse.is (s : ByteArray) (K : Nat) : sense_Parse.f (K + 9) s = some (parseS s) := by
  unfold sense_Parse.f parseS
  have j0 : ∀ p : Int, sense_Parse.j0 (K + 9) s p = some (parS s p) := by
    intro p
    unfold sense_Parse.j0 parS
    rw [btw, btw, btw, sense_Bytes.is, Option.bind_some]
    show (if (bytesS (senS s p)).2 = 0 then _ else _) = _
    by_cases h : (bytesS (senS s p)).2 = 0
    · rw [if_pos h]
      by_cases h2 : (bytesS (senS s p)).1 = s
      · rw [show (bytesS (⟨bt s 2, bt s 12, bt s 13, p⟩ : T_api_Sense)).1 = (bytesS (senS s p)).1 from rfl, if_pos h2, if_pos ⟨h, h2⟩]; rfl
      · rw [show (bytesS (⟨bt s 2, bt s 12, bt s 13, p⟩ : T_api_Sense)).1 = (bytesS (senS s p)).1 from rfl, if_neg h2, if_neg (fun g => h2 g.2)]
    · rw [if_neg h, if_neg (fun g => h g.1)]
  by_cases h : (s.size : Int) = 18
  · rw [if_pos h, if_pos h, show (4 : Int) = ((4 : Nat) : Int) from rfl, fields_Big.is s 3 4 K (by omega) (by omega) (by omega), Option.bind_some, if_pos (show 0 ≤ (3 : Int) ∧ (3 : Int) + ((4 : Nat) : Int) ≤ (s.size : Int) by omega), asrt_pos (by omega), asrt_pos (by omega), asrt_pos (by omega), asrt_pos (by omega)]
    have hb := be_bound s 3
    by_cases h0 : bt s 0 = 112
    · rw [if_pos h0, if_pos h0, j0]
    · rw [if_neg h0, if_neg h0, j0, wi (by omega) (by omega)]
  · rw [if_neg h, if_neg h]
theorem parS_cases (s : ByteArray) (p : Int) : parS s p = (⟨0, 0, 0, 0⟩, 160) ∨ (goodS (senS s p) ∧ bytesS (senS s p) = (s, 0) ∧ parS s p = (senS s p, 0)) := by
  unfold parS
  by_cases h : (bytesS (senS s p)).2 = 0 ∧ (bytesS (senS s p)).1 = s
  · rw [if_pos h]
    refine Or.inr ⟨?_, Prod.ext h.2 h.1, rfl⟩
    apply Classical.byContradiction
    intro hg
    have := h.1
    unfold bytesS at this
    rw [if_neg hg] at this
    exact absurd this (by decide)
  · rw [if_neg h]; exact Or.inl rfl
theorem first_of (x : T_api_Sense) (s : ByteArray) (h : bytesS x = (s, 0)) : (x.f3 = -1 ∧ bt s 0 = 112) ∨ (0 ≤ x.f3 ∧ bt s 0 = 240) := by
  unfold bytesS at h
  by_cases hg : goodS x
  · rw [if_pos hg] at h
    by_cases h1 : x.f3 = -1
    · rw [if_pos h1] at h
      rw [← (Prod.mk.inj h).1, bt_of _ (layS_in _ _ _ hg (by omega))]
      exact Or.inl ⟨h1, rfl⟩
    · rw [if_neg h1] at h
      rw [← (Prod.mk.inj h).1, bt_of _ (layS_in _ _ _ hg (by omega))]
      exact Or.inr ⟨by have := hg.2.2.2; omega, rfl⟩
  · rw [if_neg hg] at h
    exact absurd (Prod.mk.inj h).2 (by decide)
end Go.Proofs.YthjjbkgifelooaaDoor.F
