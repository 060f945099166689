/- headgate/headgatelaw17.InquiryLists returns true for every input, and what it is handed reads as before. No condition. -/
import Derived.Test.YtccmdlbdpapigaaRows
import Derived.Test.YtccmdlbdpapigaaXRow
import Derived.Test.YtccmdlbdpapigaaF12
import Derived.Test.YtccmdlbdpapigaaUInquiryLists
namespace Go.Proofs.Ytccmdlbdpapigaa.F
open Go Go.RowKit Go.ChangeShapes Go.WideShapes Go.ChangeAt Go.Proofs.Ytccmdlbdpapigaa.X
set_option linter.unusedVariables false
set_option linter.unusedSimpArgs false
theorem headgatelaw17_InquiryLists.op0 (W : World) : XTold Try.prog W 3 (fun cs => ∃ (a0 : Int), cs = [.int .i64 a0] ∧ ((-9223372036854775808) ≤ a0 ∧ a0 ≤ 9223372036854775807)) := by
  refine XTold.mono (XTold.int Try.underlying3) ?_
  rintro cs ⟨n1, rfl, w1⟩
  exact ⟨n1, rfl, bounds_i64 w1⟩
theorem headgatelaw17_InquiryLists.op1 (W : World) : XTold Try.prog W 3 (fun cs => ∃ (a1 : Int), cs = [.int .i64 a1] ∧ ((-9223372036854775808) ≤ a1 ∧ a1 ≤ 9223372036854775807)) := by
  refine XTold.mono (XTold.int Try.underlying3) ?_
  rintro cs ⟨n1, rfl, w1⟩
  exact ⟨n1, rfl, bounds_i64 w1⟩
theorem headgatelaw17_InquiryLists.own : ownKnob Try.prog.godebug = none := by kernel_rfl
theorem headgatelaw17_InquiryLists.laidOut : laidOutB Try.prog = true := by kernel_rfl
set_option maxRecDepth 100000 in
theorem headgatelaw17_InquiryLists.lifted (os : Os) (started : os.Started) (H : Type) (enc : TypeId × Value → H) :
    ReturnsInHanded {} Try.checked os 4 .any (Rows.inquiryListsSpec.pre6 enc Try.prog Try.f4 Rows.inquiryListsRow.domain false) (Rows.inquiryListsSpec.post enc Try.prog Try.f4 false true false false) := by
  refine returnsInHanded_of_change_sized (C := Try.checked) headgatelaw17_InquiryLists.own started (by kernel_rfl) Try.func4
    (ChangeSpec.witness6 (enc := enc) (C := Try.checked) false ⟨#[], #[.int .i64 0, .int .i64 0], []⟩ 8 (by kernel_rfl) (by kernel_rfl) (by kernel_rfl) (by kernel_rfl)) ?_
  intro W base args ds gs before hval0 hW hcnd hsz0 _
  have hsz : (DataW.weightsEach Try.prog (Try.f4.params.toList ++ Rows.inquiryListsSpec.plain.varTypes Try.prog) (ds ++ gs)).all (· ≤ reachBytes) = true := hsz0
  have hval : ∀ (j : Nat) t v, Try.f4.params[j]? = some t → args[j]? = some v → Value.okWide Try.prog W .any base t v := hval0
  have hW' := hW
  obtain ⟨p, q, hA0, hV, rfl, hfz, hnd⟩ := hW
  have hA : DataW.TrodAll enc Try.prog W 0 (fun _ => true) true Try.f4.params.toList args.toList ds p := hA0
  rw [Try.params4] at hA hval hsz
  obtain ⟨v0, vs0, d0, ds0, p0, q0, hargs, rfl, rfl, h0, r0⟩ := trodAll_cons hA
  obtain ⟨v1, vs1, d1, ds1, p1, q1, rfl, rfl, rfl, h1, r1⟩ := trodAll_cons r0
  obtain ⟨rfl, rfl, rfl⟩ := trodAll_nil r1
  obtain rfl : args = #[v0, v1] := by cases args; simp_all
  obtain ⟨rfl, rfl⟩ := trodVars_none hV
  have k0 := h0
  obtain ⟨a0, hc0, o0⟩ := (headgatelaw17_InquiryLists.op0 W).arg h0 hsz (j := 0) rfl rfl
  obtain rfl := okWide_one (by kernel_rfl) (hval 0 3 v0 rfl rfl) hc0
  have k1 := h1
  obtain ⟨a1, hc1, o1⟩ := (headgatelaw17_InquiryLists.op1 W).arg h1 hsz (j := 1) rfl rfl
  obtain rfl := okWide_one (by kernel_rfl) (hval 1 3 v1 rfl rfl) hc1
  clear hA0 hval0 hsz0 hsz
  obtain ⟨K, hK⟩ := headgatelaw17_InquiryLists.pure a0 a1 o0 o1
  refine (headgatelaw17_InquiryLists.calls K a0 a1  true W  hK).mono fun e W' ⟨he, HW⟩ => ?_
  have bel := HW.below
  subst he
  exact ⟨_, rfl, _, _, _, [], _, [], hW', trodAll_mk1 (shut_bool Try.underlying4 _), (trodAll_cons_mk (Below.trod headgatelaw17_InquiryLists.laidOut (by kernel_rfl) (of_decide_eq_true (by kernel_rfl)) k0 bel (trod_blocks k0)) (trodAll_cons_mk (Below.trod headgatelaw17_InquiryLists.laidOut (by kernel_rfl) (of_decide_eq_true (by kernel_rfl)) k1 bel (trod_blocks k1)) trodAll_mk0)), rfl, bel.frame _, fun h => by cases h⟩
end Go.Proofs.Ytccmdlbdpapigaa.F
namespace Go.Proofs.Ytccmdlbdpapigaa
open Go Go.RowKit Go.ChangeShapes Go.WideShapes Go.ChangeAt Go.Proofs.Ytccmdlbdpapigaa.X Go.Proofs.Ytccmdlbdpapigaa.F
theorem inquiryLists_holds : Rows.InquiryListsSaid :=
  OpenClaim.holds_of_wide 4 Try.f4 rfl rfl rfl rfl rfl rfl rfl ⟨rfl, rfl, rfl, rfl, rfl⟩ rfl rfl rfl rfl rfl (by kernel_rfl) Try.func4 (by kernel_rfl)
    (of_decide_eq_true (by kernel_rfl)) (by unfold Func.isWrapper; first | (rw [if_pos (by decide +kernel)]; kernel_rfl) | (rw [if_neg (by decide +kernel)]; exact ⟨rfl, rfl⟩))
    (fun os started H enc _ => headgatelaw17_InquiryLists.lifted os started H enc)
end Go.Proofs.Ytccmdlbdpapigaa
