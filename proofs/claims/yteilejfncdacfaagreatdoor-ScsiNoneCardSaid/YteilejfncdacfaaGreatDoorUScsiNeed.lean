/- What every block takes and gives: the program and the document say the same. No condition. -/
import Derived.Test.YteilejfncdacfaaGreatDoorUCdbRefN
import Derived.Test.YteilejfncdacfaaGreatDoorF42
namespace Go.Proofs.YteilejfncdacfaaGreatDoor.F
open Go Go.RowKit Go.Proofs.YteilejfncdacfaaGreatDoor.X
open Classical
set_option linter.unusedVariables false
set_option linter.unusedSimpArgs false

/-- What a parsed block takes and gives. -/
noncomputable def needB (s : ByteArray) : Int × Int :=
  let a := (cparse s).1; let b := bt s 0
  if (cparse s).2 = 0 then
    if b = 18 ∨ b = 94 ∨ b = 160 then (0, a.f5) else if b = 37 then (0, 8) else if b = 40 ∨ b = 136 then (0, IntKind.wrap .i64 (512 * a.f2)) else if b = 42 ∨ b = 138 then (IntKind.wrap .i64 (512 * a.f2), 0) else
    if b = 137 then (IntKind.wrap .i64 (1024 * a.f2), 0) else if b = 66 ∨ b = 95 then (a.f5, 0) else (0, 0)
  else (0, 0)

/-- A block that parses has its first byte, and the operation tells it. -/
theorem cparse_op (s : ByteArray) (h : (cparse s).2 = 0) : 0 < s.size ∧ isOp (bt s 0) ∧ ((cparse s).1.f0 = bt s 0 ∧ ¬ bt s 0 = 94 ∧ ¬ bt s 0 = 95 ∨ (bt s 0 = 94 ∧ 24064 ≤ (cparse s).1.f0 ∧ (cparse s).1.f0 ≤ 24095 ∧ ((cparse s).1.f0 = 24064 ∨ (cparse s).1.f0 = 24065)) ∨ (bt s 0 = 95 ∧ 24320 ≤ (cparse s).1.f0 ∧ (cparse s).1.f0 ≤ 24351)) := by
  unfold cparse at h ⊢
  by_cases hb : s.size = 0 ∨ lenC (bt s 0) = 0 ∨ ¬ (s.size : Int) = lenC (bt s 0) ∨ ¬ bt s (lenC (bt s 0) - 1) = 0
  · rw [if_pos hb] at h; exact absurd h (by decide)
  rw [if_neg hb] at h ⊢
  have h1 := bt_lo s 1
  have hop : isOp (bt s 0) := by
    refine Classical.byContradiction fun hn => hb (.inr (.inl (lenC_none _ hn)))
  refine ⟨by omega, hop, ?_⟩
  unfold isOp at hop
  generalize bt s 0 = b at *
  have m32 : 0 ≤ bt s 1 % 32 ∧ bt s 1 % 32 < 32 := by omega
  unfold pbody at h ⊢
  generalize bt s 1 % 32 = q at *
  rcases hop with rfl | rfl | rfl | rfl | rfl | rfl | rfl | rfl | rfl | rfl | rfl | rfl | rfl | rfl
  all_goals simp only [reduceCtorEq, Int.reduceEq, or_self, or_true, true_or, or_false, false_or, false_and, true_and, and_false, and_true, if_true, if_false, not_false_eq_true, not_true_eq_false, decide_false, true_and, ge_iff_le] at h ⊢
  all_goals first
    | omega
    | (split at h
       · exact absurd h (by decide)
       · rename_i c; rw [if_neg c]; try dsimp only
         all_goals omega)
    | (split at h
       · exact absurd h (by decide)
       · rename_i c; rw [if_neg c]; split at h
         · rename_i c2; rw [if_pos c2]; split at h
           · exact absurd h (by decide)
           · rename_i c3; rw [if_neg c3]; try dsimp only
             all_goals omega
         · rename_i c2; rw [if_neg c2]; try dsimp only
           all_goals omega)

theorem scsi_Need.is (s : ByteArray) (hs : (s.size : Int) ≤ 100000) (K : Nat) : scsi_Need.f (K + 70) s = some (needB s) := by
  unfold scsi_Need.f needB
  rw [cdb_Parse.is s hs K, Option.bind_some]
  by_cases h : (cparse s).2 = 0
  rotate_left
  · rw [if_neg h]; simp only [h, if_false]
  obtain ⟨h0, _, _⟩ := cparse_op s h
  rw [if_pos h, asrt_pos (by omega)]
  simp only [h, if_true]
  unfold scsi_Need.j0 scsi_Need.j1 scsi_Need.j2
  generalize bt s 0 = b
  by_cases e18 : b = 18
  · subst e18; simp
  by_cases e94 : b = 94
  · subst e94; simp
  by_cases e160 : b = 160
  · subst e160; simp
  by_cases e37 : b = 37
  · subst e37; simp
  by_cases e40 : b = 40
  · subst e40; simp
  by_cases e136 : b = 136
  · subst e136; simp
  by_cases e42 : b = 42
  · subst e42; simp
  by_cases e138 : b = 138
  · subst e138; simp
  by_cases e137 : b = 137
  · subst e137; simp
  by_cases e66 : b = 66
  · subst e66; simp
  by_cases e95 : b = 95
  · subst e95; simp
  simp [e18, e94, e160, e37, e40, e136, e42, e138, e137, e66, e95]

end Go.Proofs.YteilejfncdacfaaGreatDoor.F
