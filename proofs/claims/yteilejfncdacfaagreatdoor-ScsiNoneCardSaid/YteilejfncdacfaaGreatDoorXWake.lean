/- The small input of law 19 is answered: by a plain run. No condition. -/
import Derived.Test.YteilejfncdacfaaGreatDoorXLib
namespace Go.Proofs.YteilejfncdacfaaGreatDoor.F
open Go Go.RowKit Go.Proofs.YteilejfncdacfaaGreatDoor.X
set_option linter.unusedVariables false
set_option linter.unusedSimpArgs false

noncomputable def tabsW : List Tab := [(0, 270, encs (encIK .i64) G_access_lets), (1, 285, encs T_sense_row.enc G_sense_rows), (2, 314, encs T_cdb_form.enc G_cdb_forms), (3, 270, encs (encIK .i64) G_cdb_numbers), (4, 427, crcTab)]
noncomputable def sizeW (g : Nat) : Nat := ((Tryz.prog.info? (match g with | 0 => 270 | 1 => 285 | 2 => 314 | 3 => 270 | _ => 427)).map (·.size)).getD 0
set_option maxRecDepth 1000000 in
theorem wakes_run : told (runF Tryz.prog 6 (libOf lib1) 100000 11 [] (heapL 6 tabsW)) true = true := by kernel_rfl
theorem wakes_calls (w : World) (h0 : CA w 0 0 (encs (encIK .i64) G_access_lets).toArray) (h1 : CA w 1 0 (encs T_sense_row.enc G_sense_rows).toArray) (h2 : CA w 2 0 (encs T_cdb_form.enc G_cdb_forms).toArray) (h3 : CA w 3 0 (encs (encIK .i64) G_cdb_numbers).toArray) (h4 : CA w 4 0 (encs (encIK .u32) G_crc_steps).toArray) :
    Calls Tryz.prog 11 #[] w fun e W' => e = .returned (.bool true) ∧ Below w.heap.size w W' :=
  calls_of_runL sizeW noNum mixed lib1_ok (by kernel_rfl) rfl (by kernel_rfl) wakes_run w (by
    intro p hp m u hu
    simp only [tabsW, List.mem_cons, List.not_mem_nil, or_false] at hp
    have key : ∀ (g : Nat) (c : List Value), CA w g 0 c.toArray → c[m]? = some u → w.cell? ⟨g, m, none⟩ = some u := fun g c h hc => by
      have := h m u (by simpa using hc)
      rwa [Nat.zero_add] at this
    rcases hp with rfl | rfl | rfl | rfl | rfl
    · exact key _ _ h0 hu
    · exact key _ _ h1 hu
    · exact key _ _ h2 hu
    · exact key _ _ h3 hu
    · exact key _ _ h4 hu)
end Go.Proofs.YteilejfncdacfaaGreatDoor.F
