/- headgate/headgatelaw19.wakes: plain functions, and that the calls come to what they say. No condition. -/
import Derived.Test.YteilejfncdacfaaGreatDoorFT
import Derived.Test.YteilejfncdacfaaGreatDoorXWake
namespace Go.Proofs.YteilejfncdacfaaGreatDoor.F
open Go Go.RowKit Go.Proofs.YteilejfncdacfaaGreatDoor.X
set_option linter.unusedVariables false
set_option linter.unusedSimpArgs false
/-! ### headgate/headgatelaw19.wakes: function 11, by a plain run -/
def headgatelaw19_wakes.f : Option Bool := some true
theorem headgatelaw19_wakes.calls (r : Bool) (w : World) (hG0 : CA w 0 0 (encs (encIK .i64) G_access_lets).toArray) (hG1 : CA w 1 0 (encs T_sense_row.enc G_sense_rows).toArray) (hG2 : CA w 2 0 (encs T_cdb_form.enc G_cdb_forms).toArray) (hG3 : CA w 3 0 (encs (encIK .i64) G_cdb_numbers).toArray) (hG4 : CA w 4 0 (encs (encIK .u32) G_crc_steps).toArray) (h : headgatelaw19_wakes.f = some r) :
    Calls Tryz.prog 11 #[] w (fun e W' => e = .returned (.bool r) ∧ Wd w W' [] []) := by
  obtain rfl := Option.some.inj h
  exact (wakes_calls w hG0 hG1 hG2 hG3 hG4).mono fun e W' ⟨he, hb⟩ => ⟨he, (Wd.refl w).call hb⟩
end Go.Proofs.YteilejfncdacfaaGreatDoor.F
