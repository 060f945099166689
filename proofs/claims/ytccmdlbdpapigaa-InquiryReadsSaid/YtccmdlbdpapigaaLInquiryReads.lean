/- headgate/headgatelaw17.InquiryReads returns true for every input, and what it is handed reads as before. No condition. -/
import Derived.Test.YtccmdlbdpapigaaRows
import Derived.Test.YtccmdlbdpapigaaXRow
import Derived.Test.YtccmdlbdpapigaaF5
import Derived.Test.YtccmdlbdpapigaaUInquiryReads
namespace Go.Proofs.Ytccmdlbdpapigaa.F
open Go Go.RowKit Go.ChangeShapes Go.WideShapes Go.ChangeAt Go.Proofs.Ytccmdlbdpapigaa.X
set_option linter.unusedVariables false
set_option linter.unusedSimpArgs false
theorem headgatelaw17_InquiryReads.op0 (W : World) : XTold Try.prog W 23 (fun cs => ∃ (a0 : T_api_Unit), cs = [.int .i64 a0.f0, .string a0.f1] ∧ (a0.ok)) := by
  refine XTold.mono (XTold.struct (Rs := [_, _]) Try.underlying23 ⟨(XTold.int Try.underlying3), (XTold.str Try.underlying9), trivial⟩ (by kernel_rfl)) ?_
  rintro cs ⟨_, _, rfl, ⟨n2, rfl, w2⟩, ⟨_, _, rfl, ⟨n3, rfl, w3⟩, rfl⟩⟩
  exact ⟨(⟨n2, n3⟩ : T_api_Unit), rfl, ⟨bounds_i64 w2, w3⟩⟩
theorem headgatelaw17_InquiryReads.op1 (W : World) : XTold Try.prog W 5 (fun cs => ∃ (a1 : Int), cs = [.int .u8 a1] ∧ (0 ≤ a1 ∧ a1 ≤ 255)) := by
  refine XTold.mono (XTold.int Try.underlying5) ?_
  rintro cs ⟨n1, rfl, w1⟩
  exact ⟨n1, rfl, bounds_u8 w1⟩
theorem headgatelaw17_InquiryReads.own : ownKnob Try.prog.godebug = none := by kernel_rfl
theorem headgatelaw17_InquiryReads.laidOut : laidOutB Try.prog = true := by kernel_rfl
set_option maxRecDepth 100000 in
theorem headgatelaw17_InquiryReads.lifted (os : Os) (started : os.Started) (H : Type) (enc : TypeId × Value → H) :
    ReturnsInHanded {} Try.checked os 5 .any (Rows.inquiryReadsSpec.pre6 enc Try.prog Try.f5 Rows.inquiryReadsRow.domain false) (Rows.inquiryReadsSpec.post enc Try.prog Try.f5 false true false false) := by
  refine returnsInHanded_of_change_sized (C := Try.checked) headgatelaw17_InquiryReads.own started (by kernel_rfl) Try.func5
    (ChangeSpec.witness6 (enc := enc) (C := Try.checked) false ⟨#[], #[.agg #[.int .i64 0, .string ByteArray.empty], .int .u8 0], []⟩ 8 (by kernel_rfl) (by kernel_rfl) (by kernel_rfl) (by kernel_rfl)) ?_
  intro W base args ds gs before hval0 hW hcnd hsz0 _
  have hsz : (DataW.weightsEach Try.prog (Try.f5.params.toList ++ Rows.inquiryReadsSpec.plain.varTypes Try.prog) (ds ++ gs)).all (· ≤ reachBytes) = true := hsz0
  have hval : ∀ (j : Nat) t v, Try.f5.params[j]? = some t → args[j]? = some v → Value.okWide Try.prog W .any base t v := hval0
  have hW' := hW
  obtain ⟨p, q, hA0, hV, rfl, hfz, hnd⟩ := hW
  have hA : DataW.TrodAll enc Try.prog W 0 (fun _ => true) true Try.f5.params.toList args.toList ds p := hA0
  rw [Try.params5] at hA hval hsz
  obtain ⟨v0, vs0, d0, ds0, p0, q0, hargs, rfl, rfl, h0, r0⟩ := trodAll_cons hA
  obtain ⟨v1, vs1, d1, ds1, p1, q1, rfl, rfl, rfl, h1, r1⟩ := trodAll_cons r0
  obtain ⟨rfl, rfl, rfl⟩ := trodAll_nil r1
  obtain rfl : args = #[v0, v1] := by cases args; simp_all
  obtain ⟨rfl, rfl⟩ := trodVars_none hV
  have k0 := h0
  obtain ⟨a0, hc0, o0⟩ := (headgatelaw17_InquiryReads.op0 W).arg h0 hsz (j := 0) rfl rfl
  obtain rfl := okWide_agg (by kernel_rfl) (hval 0 23 v0 rfl rfl) hc0
  have k1 := h1
  obtain ⟨a1, hc1, o1⟩ := (headgatelaw17_InquiryReads.op1 W).arg h1 hsz (j := 1) rfl rfl
  obtain rfl := okWide_one (by kernel_rfl) (hval 1 5 v1 rfl rfl) hc1
  clear hA0 hval0 hsz0 hsz
  obtain ⟨K, hK⟩ := headgatelaw17_InquiryReads.pure a0 a1 o0 o1
  refine (headgatelaw17_InquiryReads.calls K a0 a1  true W  hK).mono fun e W' ⟨he, HW⟩ => ?_
  have bel := HW.below
  subst he
  exact ⟨_, rfl, _, _, _, [], _, [], hW', trodAll_mk1 (shut_bool Try.underlying4 _), (trodAll_cons_mk (Below.trod headgatelaw17_InquiryReads.laidOut (by kernel_rfl) (of_decide_eq_true (by kernel_rfl)) k0 bel (trod_blocks k0)) (trodAll_cons_mk (Below.trod headgatelaw17_InquiryReads.laidOut (by kernel_rfl) (of_decide_eq_true (by kernel_rfl)) k1 bel (trod_blocks k1)) trodAll_mk0)), rfl, bel.frame _, fun h => by cases h⟩
end Go.Proofs.Ytccmdlbdpapigaa.F
namespace Go.Proofs.Ytccmdlbdpapigaa
open Go Go.RowKit Go.ChangeShapes Go.WideShapes Go.ChangeAt Go.Proofs.Ytccmdlbdpapigaa.X Go.Proofs.Ytccmdlbdpapigaa.F
theorem inquiryReads_holds : Rows.InquiryReadsSaid :=
  OpenClaim.holds_of_wide 5 Try.f5 rfl rfl rfl rfl rfl rfl rfl ⟨rfl, rfl, rfl, rfl, rfl⟩ rfl rfl rfl rfl rfl (by kernel_rfl) Try.func5 (by kernel_rfl)
    (of_decide_eq_true (by kernel_rfl)) (by unfold Func.isWrapper; first | (rw [if_pos (by decide +kernel)]; kernel_rfl) | (rw [if_neg (by decide +kernel)]; exact ⟨rfl, rfl⟩))
    (fun os started H enc _ => headgatelaw17_InquiryReads.lifted os started H enc)
end Go.Proofs.Ytccmdlbdpapigaa
