/- headgate/headgatelaw17.InquiryBack returns true for every input, and what it is handed reads as before. No condition. -/
import Derived.Test.YtccmdlbdpapigaaRows
import Derived.Test.YtccmdlbdpapigaaXRow
import Derived.Test.YtccmdlbdpapigaaF7
import Derived.Test.YtccmdlbdpapigaaUInquiryBack
namespace Go.Proofs.Ytccmdlbdpapigaa.F
open Go Go.RowKit Go.ChangeShapes Go.WideShapes Go.ChangeAt Go.Proofs.Ytccmdlbdpapigaa.X
set_option linter.unusedVariables false
set_option linter.unusedSimpArgs false
theorem headgatelaw17_InquiryBack.op0 (W : World) : XTold Try.prog W 34 (fun cs => ∃ (a0 : List T_api_Range) (A0_0 : Option Addr) (c0_0 : Nat), cs = [.slice A0_0 a0.length c0_0] ∧ (Spot (.slice A0_0 a0.length c0_0) → Rd 2 W (.slice A0_0 a0.length c0_0) a0.length (encs T_api_Range.enc a0)) ∧ (a0.length * 16 ≤ 140737488351232 ∧ ∀ y ∈ a0, y.ok)) := by
  refine XTold.mono (XTold.slice (sz := 2) Try.underlying34 (by kernel_rfl) (XTold.struct (Rs := [_, _]) Try.underlying53 ⟨(XTold.int Try.underlying3), (XTold.int Try.underlying3), trivial⟩ (by kernel_rfl))) ?_
  rintro cs ⟨A1, c1, rows1, rfl, hR1, hr1, hb1, hc1⟩
  obtain ⟨xs1, rfl, hx1⟩ := rows_of (f := T_api_Range.enc) (q := fun y => y.ok) (fun row hm => by obtain ⟨_, _, rfl, ⟨n102, rfl, w102⟩, ⟨_, _, rfl, ⟨n103, rfl, w103⟩, rfl⟩⟩ := hr1 row hm; exact ⟨(⟨n102, n103⟩ : T_api_Range), rfl, ⟨bounds_i64 w102, bounds_i64 w103⟩⟩)
  simp only [List.length_map] at hR1 hb1 hc1 ⊢
  rw [(by kernel_rfl : Try.prog.bytesOf 53 = 16)] at hb1
  exact ⟨xs1, A1, c1, rfl, fun h => by have := hR1 h; rwa [← List.flatMap_def] at this, ⟨hb1, hx1⟩⟩
theorem headgatelaw17_InquiryBack.op1 (W : World) : XTold Try.prog W 9 (fun cs => ∃ (a1 : ByteArray), cs = [.string a1] ∧ (a1.size ≤ 140737488351232)) := by
  refine XTold.mono (XTold.str Try.underlying9) ?_
  rintro cs ⟨n1, rfl, w1⟩
  exact ⟨n1, rfl, w1⟩
theorem headgatelaw17_InquiryBack.own : ownKnob Try.prog.godebug = none := by kernel_rfl
theorem headgatelaw17_InquiryBack.laidOut : laidOutB Try.prog = true := by kernel_rfl
set_option maxRecDepth 100000 in
theorem headgatelaw17_InquiryBack.lifted (os : Os) (started : os.Started) (H : Type) (enc : TypeId × Value → H) :
    ReturnsInHanded {} Try.checked os 7 .any (Rows.inquiryBackSpec.pre6 enc Try.prog Try.f7 Rows.inquiryBackRow.domain false) (Rows.inquiryBackSpec.post enc Try.prog Try.f7 false true false false) := by
  refine returnsInHanded_of_change_sized (C := Try.checked) headgatelaw17_InquiryBack.own started (by kernel_rfl) Try.func7
    (ChangeSpec.witness6 (enc := enc) (C := Try.checked) false ⟨#[], #[.slice none 0 0, .string ByteArray.empty], []⟩ 8 (by kernel_rfl) (by kernel_rfl) (by kernel_rfl) (by kernel_rfl)) ?_
  intro W base args ds gs before hval0 hW hcnd hsz0 _
  have hsz : (DataW.weightsEach Try.prog (Try.f7.params.toList ++ Rows.inquiryBackSpec.plain.varTypes Try.prog) (ds ++ gs)).all (· ≤ reachBytes) = true := hsz0
  have hval : ∀ (j : Nat) t v, Try.f7.params[j]? = some t → args[j]? = some v → Value.okWide Try.prog W .any base t v := hval0
  have hW' := hW
  obtain ⟨p, q, hA0, hV, rfl, hfz, hnd⟩ := hW
  have hA : DataW.TrodAll enc Try.prog W 0 (fun _ => true) true Try.f7.params.toList args.toList ds p := hA0
  rw [Try.params7] at hA hval hsz
  obtain ⟨v0, vs0, d0, ds0, p0, q0, hargs, rfl, rfl, h0, r0⟩ := trodAll_cons hA
  obtain ⟨v1, vs1, d1, ds1, p1, q1, rfl, rfl, rfl, h1, r1⟩ := trodAll_cons r0
  obtain ⟨rfl, rfl, rfl⟩ := trodAll_nil r1
  obtain rfl : args = #[v0, v1] := by cases args; simp_all
  obtain ⟨rfl, rfl⟩ := trodVars_none hV
  have k0 := h0
  obtain ⟨a0, A0_0, c0_0, hc0, hs0_0, o0⟩ := (headgatelaw17_InquiryBack.op0 W).arg h0 hsz (j := 0) rfl rfl
  have sp0 := okWide_spot (hval 0 34 v0 rfl rfl)
  rw [hc0] at sp0
  have hr0_0 := hs0_0 (sp0 _ (by simp))
  obtain rfl := okWide_one (by kernel_rfl) (hval 0 34 v0 rfl rfl) hc0
  have k1 := h1
  obtain ⟨a1, hc1, o1⟩ := (headgatelaw17_InquiryBack.op1 W).arg h1 hsz (j := 1) rfl rfl
  obtain rfl := okWide_one (by kernel_rfl) (hval 1 9 v1 rfl rfl) hc1
  clear hA0 hval0 hsz0 hsz
  obtain ⟨K, hK⟩ := headgatelaw17_InquiryBack.pure a0 a1 o0 o1
  refine (headgatelaw17_InquiryBack.calls K a0 a1 A0_0 c0_0 true W hr0_0 hK).mono fun e W' ⟨he, HW⟩ => ?_
  have bel := HW.below
  subst he
  exact ⟨_, rfl, _, _, _, [], _, [], hW', trodAll_mk1 (shut_bool Try.underlying4 _), (trodAll_cons_mk (Below.trod headgatelaw17_InquiryBack.laidOut (by kernel_rfl) (of_decide_eq_true (by kernel_rfl)) k0 bel (trod_blocks k0)) (trodAll_cons_mk (Below.trod headgatelaw17_InquiryBack.laidOut (by kernel_rfl) (of_decide_eq_true (by kernel_rfl)) k1 bel (trod_blocks k1)) trodAll_mk0)), rfl, bel.frame _, fun h => by cases h⟩
end Go.Proofs.Ytccmdlbdpapigaa.F
namespace Go.Proofs.Ytccmdlbdpapigaa
open Go Go.RowKit Go.ChangeShapes Go.WideShapes Go.ChangeAt Go.Proofs.Ytccmdlbdpapigaa.X Go.Proofs.Ytccmdlbdpapigaa.F
theorem inquiryBack_holds : Rows.InquiryBackSaid :=
  OpenClaim.holds_of_wide 7 Try.f7 rfl rfl rfl rfl rfl rfl rfl ⟨rfl, rfl, rfl, rfl, rfl⟩ rfl rfl rfl rfl rfl (by kernel_rfl) Try.func7 (by kernel_rfl)
    (of_decide_eq_true (by kernel_rfl)) (by unfold Func.isWrapper; first | (rw [if_pos (by decide +kernel)]; kernel_rfl) | (rw [if_neg (by decide +kernel)]; exact ⟨rfl, rfl⟩))
    (fun os started H enc _ => headgatelaw17_InquiryBack.lifted os started H enc)
end Go.Proofs.Ytccmdlbdpapigaa
