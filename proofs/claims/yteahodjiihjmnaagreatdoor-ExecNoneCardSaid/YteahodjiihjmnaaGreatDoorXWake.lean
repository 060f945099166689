/- The small input of law 14 is answered: by a plain run. No condition. -/
import Derived.Test.YteahodjiihjmnaaGreatDoorXLib
namespace Go.Proofs.YteahodjiihjmnaaGreatDoor.F
open Go Go.RowKit Go.Proofs.YteahodjiihjmnaaGreatDoor.X
set_option linter.unusedVariables false
set_option linter.unusedSimpArgs false

noncomputable def tabsW : List Tab := [(0, 200, encs (encIK .i64) G_access_lets), (2, 372, crcTab)]
noncomputable def sizeW (g : Nat) : Nat := ((Tryz.prog.info? (match g with | 0 => 200 | _ => 372)).map (·.size)).getD 0
set_option maxRecDepth 1000000 in
theorem wakes_run : told (runF Tryz.prog 5 (libOf lib1) 100000 13 [] (heapL 5 tabsW)) true = true := by kernel_rfl
theorem wakes_calls (w : World) (h0 : CA w 0 0 (encs (encIK .i64) G_access_lets).toArray) (h4 : CA w 2 0 (encs (encIK .u32) G_crc_steps).toArray) :
    Calls Tryz.prog 13 #[] w fun e W' => e = .returned (.bool true) ∧ Below w.heap.size w W' :=
  calls_of_runL sizeW noNum mixed lib1_ok (by kernel_rfl) rfl (by kernel_rfl) wakes_run w (by
    intro p hp m u hu
    simp only [tabsW, List.mem_cons, List.not_mem_nil, or_false] at hp
    have key : ∀ (g : Nat) (c : List Value), CA w g 0 c.toArray → c[m]? = some u → w.cell? ⟨g, m, none⟩ = some u := fun g c h hc => by
      have := h m u (by simpa using hc)
      rwa [Nat.zero_add] at this
    rcases hp with rfl | rfl
    · exact key _ _ h0 hu
    · exact key _ _ h4 hu)
end Go.Proofs.YteahodjiihjmnaaGreatDoor.F
