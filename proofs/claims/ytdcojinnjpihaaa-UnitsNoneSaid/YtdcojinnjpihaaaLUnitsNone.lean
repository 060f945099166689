/- headgate/headgatelaw13.UnitsNone returns true for every input, and what it is handed reads as before: by a plain run. No condition. -/
import Derived.Test.YtdcojinnjpihaaaRows
import Derived.Test.YtdcojinnjpihaaaXRow
import Derived.Test.YtdcojinnjpihaaaXPure
import Derived.Test.YtdcojinnjpihaaaXAbsTop
namespace Go.Proofs.Ytdcojinnjpihaaa.F
open Go Go.RowKit Go.ChangeShapes Go.WideShapes Go.ChangeAt Go.Proofs.Ytdcojinnjpihaaa.X
set_option linter.unusedVariables false
set_option linter.unusedSimpArgs false
theorem headgatelaw13_UnitsNone.run (a0 : Int) (a1 : ByteArray) : told (runF Try.prog 0 nolib 100000 6 [.int .i64 a0, .string a1] (heap0 0)) true = true := by kernel_rfl
theorem headgatelaw13_UnitsNone.op0 (W : World) : XTold Try.prog W 3 (fun cs => ∃ (a0 : Int), cs = [.int .i64 a0]) := by
  refine XTold.mono (XTold.int Try.underlying3) ?_
  rintro cs ⟨n1, rfl, w1⟩
  exact ⟨n1, rfl⟩
theorem headgatelaw13_UnitsNone.op1 (W : World) : XTold Try.prog W 9 (fun cs => ∃ (a1 : ByteArray), cs = [.string a1]) := by
  refine XTold.mono (XTold.str Try.underlying9) ?_
  rintro cs ⟨n1, rfl, w1⟩
  exact ⟨n1, rfl⟩
theorem headgatelaw13_UnitsNone.own : ownKnob Try.prog.godebug = none := by kernel_rfl
theorem headgatelaw13_UnitsNone.laidOut : laidOutB Try.prog = true := by kernel_rfl
theorem headgatelaw13_UnitsNone.calls (a0 : Int) (a1 : ByteArray) (W : World) : Calls Try.prog 6 #[.int .i64 a0, .string a1] W fun e W' => e = .returned (.bool true) ∧ Below W.heap.size W W' :=
  calls_of_run (by kernel_rfl) (by kernel_rfl) (nolib_ok _ _) (by kernel_rfl) rfl (headgatelaw13_UnitsNone.run a0 a1) W
set_option maxRecDepth 100000 in
theorem headgatelaw13_UnitsNone.lifted (os : Os) (started : os.Started) (H : Type) (enc : TypeId × Value → H) :
    ReturnsInHanded {} Try.checked os 6 .any (Rows.unitsNoneSpec.pre6 enc Try.prog Try.f6 Rows.unitsNoneRow.domain false) (Rows.unitsNoneSpec.post enc Try.prog Try.f6 false true false false) := by
  refine returnsInHanded_of_change_sized (C := Try.checked) headgatelaw13_UnitsNone.own started (by kernel_rfl) Try.func6
    (ChangeSpec.witness6 (enc := enc) (C := Try.checked) false ⟨#[], #[.int .i64 0, .string ByteArray.empty], []⟩ 8 (by kernel_rfl) (by kernel_rfl) (by kernel_rfl) (by kernel_rfl)) ?_
  intro W base args ds gs before hval0 hW hcnd hsz0 _
  have hsz : (DataW.weightsEach Try.prog (Try.f6.params.toList ++ Rows.unitsNoneSpec.plain.varTypes Try.prog) (ds ++ gs)).all (· ≤ reachBytes) = true := hsz0
  have hval : ∀ (j : Nat) t v, Try.f6.params[j]? = some t → args[j]? = some v → Value.okWide Try.prog W .any base t v := hval0
  have hW' := hW
  obtain ⟨p, q, hA0, hV, rfl, hfz, hnd⟩ := hW
  have hA : DataW.TrodAll enc Try.prog W 0 (fun _ => true) true Try.f6.params.toList args.toList ds p := hA0
  rw [Try.params6] at hA hval hsz
  obtain ⟨v0, vs0, d0, ds0, p0, q0, hargs, rfl, rfl, h0, r0⟩ := trodAll_cons hA
  obtain ⟨v1, vs1, d1, ds1, p1, q1, rfl, rfl, rfl, h1, r1⟩ := trodAll_cons r0
  obtain ⟨rfl, rfl, rfl⟩ := trodAll_nil r1
  obtain rfl : args = #[v0, v1] := by cases args; simp_all
  obtain ⟨rfl, rfl⟩ := trodVars_none hV
  have k0 := h0
  obtain ⟨a0, hc0⟩ := (headgatelaw13_UnitsNone.op0 W).arg h0 hsz (j := 0) rfl rfl
  obtain rfl := okWide_one (by kernel_rfl) (hval 0 3 v0 rfl rfl) hc0
  have k1 := h1
  obtain ⟨a1, hc1⟩ := (headgatelaw13_UnitsNone.op1 W).arg h1 hsz (j := 1) rfl rfl
  obtain rfl := okWide_one (by kernel_rfl) (hval 1 9 v1 rfl rfl) hc1
  clear hA0 hval0 hsz0 hsz
  refine (headgatelaw13_UnitsNone.calls a0 a1 W).mono fun e W' ⟨he, bel⟩ => ?_
  subst he
  exact ⟨_, rfl, _, _, _, [], _, [], hW', trodAll_mk1 (shut_bool Try.underlying4 _), (trodAll_cons_mk (Below.trod headgatelaw13_UnitsNone.laidOut (by kernel_rfl) (of_decide_eq_true (by kernel_rfl)) k0 bel (trod_blocks k0)) (trodAll_cons_mk (Below.trod headgatelaw13_UnitsNone.laidOut (by kernel_rfl) (of_decide_eq_true (by kernel_rfl)) k1 bel (trod_blocks k1)) trodAll_mk0)), rfl, bel.frame _, fun h => by cases h⟩
end Go.Proofs.Ytdcojinnjpihaaa.F
namespace Go.Proofs.Ytdcojinnjpihaaa
open Go Go.RowKit Go.ChangeShapes Go.WideShapes Go.ChangeAt Go.Proofs.Ytdcojinnjpihaaa.X Go.Proofs.Ytdcojinnjpihaaa.F
theorem unitsNone_holds : Rows.UnitsNoneSaid :=
  OpenClaim.holds_of_wide 6 Try.f6 rfl rfl rfl rfl rfl rfl rfl ⟨rfl, rfl, rfl, rfl, rfl⟩ rfl rfl rfl rfl rfl (by kernel_rfl) Try.func6 (by kernel_rfl)
    (of_decide_eq_true (by kernel_rfl)) (by unfold Func.isWrapper; first | (rw [if_pos (by decide +kernel)]; kernel_rfl) | (rw [if_neg (by decide +kernel)]; exact ⟨rfl, rfl⟩))
    (fun os started H enc _ => headgatelaw13_UnitsNone.lifted os started H enc)
end Go.Proofs.Ytdcojinnjpihaaa
