/- names.letters: which bytes may stand in a name; by a plain run. No condition. -/
import Derived.Test.YtdcojinnjpihaaaXRunRow
import Derived.Test.YtdcojinnjpihaaaXSeg
import Derived.Test.YtdcojinnjpihaaaProg
namespace Go.Proofs.Ytdcojinnjpihaaa.X
open Go Go.RowKit
set_option linter.unusedVariables false
set_option linter.unusedSimpArgs false

def LETTERS : List Bool := (List.range 256).map fun i => (Nat.ble 97 i && Nat.ble i 122) || (Nat.ble 48 i && Nat.ble i 57) || Nat.beq i 45 || Nat.beq i 46 || Nat.beq i 58

theorem letters_calls (w : World) : Calls Try.prog 28 #[] w fun e W' => ∃ b fr, e = .returned (.pointer (some ⟨b, 0, none⟩)) ∧ Wd w W' [(b, .cells (encs encB LETTERS).toArray 62 fr)] [] := by
  have h : toldRow (runF Try.prog 0 nolib 100000 28 [] (heap0 0)) (encs encB LETTERS) 62 = true := by kernel_rfl
  refine (calls_of_row (by kernel_rfl) (by kernel_rfl) (nolib_ok _ _) (by kernel_rfl) rfl h w).mono ?_
  rintro e W' ⟨b, fr, rfl, h1, h2, h3⟩
  refine ⟨b, fr, rfl, Wd.iff.mpr ⟨h3, fun p hp => ?_, fun q hq => (by cases hq), List.pairwise_singleton _ _, List.Pairwise.nil, fun p _ q hq => (by cases hq)⟩⟩
  rw [List.mem_singleton.mp hp]
  exact ⟨h1, h2⟩
end Go.Proofs.Ytdcojinnjpihaaa.X
