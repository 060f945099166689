/- headgate/headgatelaw13.UnitsApart returns true for every input, and what it is handed reads as before. No condition. -/
import Derived.Test.YtdcojinnjpihaaaRows
import Derived.Test.YtdcojinnjpihaaaXRow
import Derived.Test.YtdcojinnjpihaaaF9
import Derived.Test.YtdcojinnjpihaaaUUnitsApart
namespace Go.Proofs.Ytdcojinnjpihaaa.F
open Go Go.RowKit Go.ChangeShapes Go.WideShapes Go.ChangeAt Go.Proofs.Ytdcojinnjpihaaa.X
set_option linter.unusedVariables false
set_option linter.unusedSimpArgs false
theorem headgatelaw13_UnitsApart.op0 (W : World) : XTold Try.prog W 23 (fun cs => ∃ (a0 : T_headgatelaw13_Step), cs = [.int .i64 a0.f0, .int .i64 a0.f1, .string a0.f2, .int .i64 a0.f3] ∧ (a0.ok)) := by
  refine XTold.mono (XTold.struct (Rs := [_, _, _, _]) Try.underlying23 ⟨(XTold.int Try.underlying3), (XTold.int Try.underlying3), (XTold.str Try.underlying9), (XTold.int Try.underlying3), trivial⟩ (by kernel_rfl)) ?_
  rintro cs ⟨_, _, rfl, ⟨n2, rfl, w2⟩, ⟨_, _, rfl, ⟨n3, rfl, w3⟩, ⟨_, _, rfl, ⟨n4, rfl, w4⟩, ⟨_, _, rfl, ⟨n5, rfl, w5⟩, rfl⟩⟩⟩⟩
  exact ⟨(⟨n2, n3, n4, n5⟩ : T_headgatelaw13_Step), rfl, ⟨bounds_i64 w2, bounds_i64 w3, w4, bounds_i64 w5⟩⟩
theorem headgatelaw13_UnitsApart.op1 (W : World) : XTold Try.prog W 24 (fun cs => ∃ (a1 : List T_headgatelaw13_Step) (A1_0 : Option Addr) (c1_0 : Nat), cs = [.slice A1_0 a1.length c1_0] ∧ (Spot (.slice A1_0 a1.length c1_0) → Rd 4 W (.slice A1_0 a1.length c1_0) a1.length (encs T_headgatelaw13_Step.enc a1)) ∧ (a1.length * 40 ≤ 140737488351232 ∧ ∀ y ∈ a1, y.ok)) := by
  refine XTold.mono (XTold.slice (sz := 4) Try.underlying24 (by kernel_rfl) (XTold.struct (Rs := [_, _, _, _]) Try.underlying23 ⟨(XTold.int Try.underlying3), (XTold.int Try.underlying3), (XTold.str Try.underlying9), (XTold.int Try.underlying3), trivial⟩ (by kernel_rfl))) ?_
  rintro cs ⟨A1, c1, rows1, rfl, hR1, hr1, hb1, hc1⟩
  obtain ⟨xs1, rfl, hx1⟩ := rows_of (f := T_headgatelaw13_Step.enc) (q := fun y => y.ok) (fun row hm => by obtain ⟨_, _, rfl, ⟨n102, rfl, w102⟩, ⟨_, _, rfl, ⟨n103, rfl, w103⟩, ⟨_, _, rfl, ⟨n104, rfl, w104⟩, ⟨_, _, rfl, ⟨n105, rfl, w105⟩, rfl⟩⟩⟩⟩ := hr1 row hm; exact ⟨(⟨n102, n103, n104, n105⟩ : T_headgatelaw13_Step), rfl, ⟨bounds_i64 w102, bounds_i64 w103, w104, bounds_i64 w105⟩⟩)
  simp only [List.length_map] at hR1 hb1 hc1 ⊢
  rw [(by kernel_rfl : Try.prog.bytesOf 23 = 40)] at hb1
  exact ⟨xs1, A1, c1, rfl, fun h => by have := hR1 h; rwa [← List.flatMap_def] at this, ⟨hb1, hx1⟩⟩
theorem headgatelaw13_UnitsApart.own : ownKnob Try.prog.godebug = none := by kernel_rfl
theorem headgatelaw13_UnitsApart.laidOut : laidOutB Try.prog = true := by kernel_rfl
set_option maxRecDepth 100000 in
theorem headgatelaw13_UnitsApart.lifted (os : Os) (started : os.Started) (H : Type) (enc : TypeId × Value → H) :
    ReturnsInHanded {} Try.checked os 3 .any (Rows.unitsApartSpec.pre6 enc Try.prog Try.f3 Rows.unitsApartRow.domain false) (Rows.unitsApartSpec.post enc Try.prog Try.f3 false true false false) := by
  refine returnsInHanded_of_change_sized (C := Try.checked) headgatelaw13_UnitsApart.own started (by kernel_rfl) Try.func3
    (ChangeSpec.witness6 (enc := enc) (C := Try.checked) false ⟨#[], #[.agg #[.int .i64 0, .int .i64 0, .string ByteArray.empty, .int .i64 0], .slice none 0 0], []⟩ 8 (by kernel_rfl) (by kernel_rfl) (by kernel_rfl) (by kernel_rfl)) ?_
  intro W base args ds gs before hval0 hW hcnd hsz0 _
  have hsz : (DataW.weightsEach Try.prog (Try.f3.params.toList ++ Rows.unitsApartSpec.plain.varTypes Try.prog) (ds ++ gs)).all (· ≤ reachBytes) = true := hsz0
  have hval : ∀ (j : Nat) t v, Try.f3.params[j]? = some t → args[j]? = some v → Value.okWide Try.prog W .any base t v := hval0
  have hW' := hW
  obtain ⟨p, q, hA0, hV, rfl, hfz, hnd⟩ := hW
  have hA : DataW.TrodAll enc Try.prog W 0 (fun _ => true) true Try.f3.params.toList args.toList ds p := hA0
  rw [Try.params3] at hA hval hsz
  obtain ⟨v0, vs0, d0, ds0, p0, q0, hargs, rfl, rfl, h0, r0⟩ := trodAll_cons hA
  obtain ⟨v1, vs1, d1, ds1, p1, q1, rfl, rfl, rfl, h1, r1⟩ := trodAll_cons r0
  obtain ⟨rfl, rfl, rfl⟩ := trodAll_nil r1
  obtain rfl : args = #[v0, v1] := by cases args; simp_all
  obtain ⟨rfl, rfl⟩ := trodVars_none hV
  have k0 := h0
  obtain ⟨a0, hc0, o0⟩ := (headgatelaw13_UnitsApart.op0 W).arg h0 hsz (j := 0) rfl rfl
  obtain rfl := okWide_agg (by kernel_rfl) (hval 0 23 v0 rfl rfl) hc0
  have k1 := h1
  obtain ⟨a1, A1_0, c1_0, hc1, hs1_0, o1⟩ := (headgatelaw13_UnitsApart.op1 W).arg h1 hsz (j := 1) rfl rfl
  have sp1 := okWide_spot (hval 1 24 v1 rfl rfl)
  rw [hc1] at sp1
  have hr1_0 := hs1_0 (sp1 _ (by simp))
  obtain rfl := okWide_one (by kernel_rfl) (hval 1 24 v1 rfl rfl) hc1
  clear hA0 hval0 hsz0 hsz
  obtain ⟨K, hK⟩ := headgatelaw13_UnitsApart.pure a0 a1 o0 o1
  refine (headgatelaw13_UnitsApart.calls K a0 a1 A1_0 c1_0 true W hr1_0 hK).mono fun e W' ⟨he, HW⟩ => ?_
  have bel := HW.below
  subst he
  exact ⟨_, rfl, _, _, _, [], _, [], hW', trodAll_mk1 (shut_bool Try.underlying4 _), (trodAll_cons_mk (Below.trod headgatelaw13_UnitsApart.laidOut (by kernel_rfl) (of_decide_eq_true (by kernel_rfl)) k0 bel (trod_blocks k0)) (trodAll_cons_mk (Below.trod headgatelaw13_UnitsApart.laidOut (by kernel_rfl) (of_decide_eq_true (by kernel_rfl)) k1 bel (trod_blocks k1)) trodAll_mk0)), rfl, bel.frame _, fun h => by cases h⟩
end Go.Proofs.Ytdcojinnjpihaaa.F
namespace Go.Proofs.Ytdcojinnjpihaaa
open Go Go.RowKit Go.ChangeShapes Go.WideShapes Go.ChangeAt Go.Proofs.Ytdcojinnjpihaaa.X Go.Proofs.Ytdcojinnjpihaaa.F
theorem unitsApart_holds : Rows.UnitsApartSaid :=
  OpenClaim.holds_of_wide 3 Try.f3 rfl rfl rfl rfl rfl rfl rfl ⟨rfl, rfl, rfl, rfl, rfl⟩ rfl rfl rfl rfl rfl (by kernel_rfl) Try.func3 (by kernel_rfl)
    (of_decide_eq_true (by kernel_rfl)) (by unfold Func.isWrapper; first | (rw [if_pos (by decide +kernel)]; kernel_rfl) | (rw [if_neg (by decide +kernel)]; exact ⟨rfl, rfl⟩))
    (fun os started H enc _ => headgatelaw13_UnitsApart.lifted os started H enc)
end Go.Proofs.Ytdcojinnjpihaaa
