/- headgate/headgatelaw18.ProutBack returns true for every input, and what it is handed reads as before. No condition. -/
import Derived.Test.YtceagilmillgfaaRows
import Derived.Test.YtceagilmillgfaaXRow
import Derived.Test.YtceagilmillgfaaF4
import Derived.Test.YtceagilmillgfaaUProutBack
namespace Go.Proofs.Ytceagilmillgfaa.F
open Go Go.RowKit Go.ChangeShapes Go.WideShapes Go.ChangeAt Go.Proofs.Ytceagilmillgfaa.X
set_option linter.unusedVariables false
set_option linter.unusedSimpArgs false
theorem headgatelaw18_ProutBack.op0 (W : World) : XTold Try.prog W 26 (fun cs => ∃ (a0 : T_api_Cmd) (A0_0 : Option Addr) (c0_0 : Nat), cs = [.int .i64 a0.f0, .int .i64 a0.f1, .string a0.f2, .int .i64 a0.f3, .int .i64 a0.f4, .string a0.f5, .bool a0.f6, .slice A0_0 a0.f7.length c0_0, .int .u64 a0.f8, .int .u64 a0.f9, .int .u64 a0.f10, .int .i64 a0.f11, .bool a0.f12, .int .i64 a0.f13] ∧ (Spot (.slice A0_0 a0.f7.length c0_0) → Rd 2 W (.slice A0_0 a0.f7.length c0_0) a0.f7.length (encs T_api_Range.enc a0.f7)) ∧ (a0.ok)) := by
  refine XTold.mono (XTold.struct (Rs := [_, _, _, _, _, _, _, _, _, _, _, _, _, _]) Try.underlying26 ⟨(XTold.int Try.underlying3), (XTold.int Try.underlying3), (XTold.str Try.underlying9), (XTold.int Try.underlying3), (XTold.int Try.underlying3), (XTold.str Try.underlying9), (XTold.bool Try.underlying4), (XTold.slice (sz := 2) Try.underlying23 (by kernel_rfl) (XTold.struct (Rs := [_, _]) Try.underlying61 ⟨(XTold.int Try.underlying3), (XTold.int Try.underlying3), trivial⟩ (by kernel_rfl))), (XTold.int Try.underlying24), (XTold.int Try.underlying24), (XTold.int Try.underlying24), (XTold.int Try.underlying3), (XTold.bool Try.underlying4), (XTold.int Try.underlying3), trivial⟩ (by kernel_rfl)) ?_
  rintro cs ⟨_, _, rfl, ⟨n2, rfl, w2⟩, ⟨_, _, rfl, ⟨n3, rfl, w3⟩, ⟨_, _, rfl, ⟨n4, rfl, w4⟩, ⟨_, _, rfl, ⟨n5, rfl, w5⟩, ⟨_, _, rfl, ⟨n6, rfl, w6⟩, ⟨_, _, rfl, ⟨n7, rfl, w7⟩, ⟨_, _, rfl, ⟨n8, rfl⟩, ⟨_, _, rfl, ⟨A9, c9, rows9, rfl, hR9, hr9, hb9, hc9⟩, ⟨_, _, rfl, ⟨n10, rfl, w10⟩, ⟨_, _, rfl, ⟨n11, rfl, w11⟩, ⟨_, _, rfl, ⟨n12, rfl, w12⟩, ⟨_, _, rfl, ⟨n13, rfl, w13⟩, ⟨_, _, rfl, ⟨n14, rfl⟩, ⟨_, _, rfl, ⟨n15, rfl, w15⟩, rfl⟩⟩⟩⟩⟩⟩⟩⟩⟩⟩⟩⟩⟩⟩
  obtain ⟨xs9, rfl, hx9⟩ := rows_of (f := T_api_Range.enc) (q := fun y => y.ok) (fun row hm => by obtain ⟨_, _, rfl, ⟨n902, rfl, w902⟩, ⟨_, _, rfl, ⟨n903, rfl, w903⟩, rfl⟩⟩ := hr9 row hm; exact ⟨(⟨n902, n903⟩ : T_api_Range), rfl, ⟨bounds_i64 w902, bounds_i64 w903⟩⟩)
  simp only [List.length_map] at hR9 hb9 hc9 ⊢
  rw [(by kernel_rfl : Try.prog.bytesOf 61 = 16)] at hb9
  exact ⟨(⟨n2, n3, n4, n5, n6, n7, n8, xs9, n10, n11, n12, n13, n14, n15⟩ : T_api_Cmd), A9, c9, rfl, fun h => by have := hR9 h; rwa [← List.flatMap_def] at this, ⟨bounds_i64 w2, bounds_i64 w3, w4, bounds_i64 w5, bounds_i64 w6, w7, trivial, ⟨hb9, hx9⟩, bounds_u64 w10, bounds_u64 w11, bounds_u64 w12, bounds_i64 w13, trivial, bounds_i64 w15⟩⟩
theorem headgatelaw18_ProutBack.op1 (W : World) : XTold Try.prog W 22 (fun cs => ∃ (a1 : T_arr2_3), cs = [.int .i64 a1.f0, .int .i64 a1.f1] ∧ (a1.ok)) := by
  refine XTold.mono (XTold.array Try.underlying22 (XTold.int Try.underlying3) (by kernel_rfl)) ?_
  rintro cs ⟨_, _, rfl, ⟨n2, rfl, w2⟩, ⟨_, _, rfl, ⟨n3, rfl, w3⟩, rfl⟩⟩
  exact ⟨(⟨n2, n3⟩ : T_arr2_3), rfl, ⟨bounds_i64 w2, bounds_i64 w3⟩⟩
theorem headgatelaw18_ProutBack.op2 (W : World) : XTold Try.prog W 9 (fun cs => ∃ (a2 : ByteArray), cs = [.string a2] ∧ (a2.size ≤ 140737488351232)) := by
  refine XTold.mono (XTold.str Try.underlying9) ?_
  rintro cs ⟨n1, rfl, w1⟩
  exact ⟨n1, rfl, w1⟩
theorem headgatelaw18_ProutBack.own : ownKnob Try.prog.godebug = none := by kernel_rfl
theorem headgatelaw18_ProutBack.laidOut : laidOutB Try.prog = true := by kernel_rfl
set_option maxRecDepth 100000 in
theorem headgatelaw18_ProutBack.lifted (os : Os) (started : os.Started) (H : Type) (enc : TypeId × Value → H) :
    ReturnsInHanded {} Try.checked os 4 .any (Rows.proutBackSpec.pre6 enc Try.prog Try.f4 Rows.proutBackRow.domain false) (Rows.proutBackSpec.post enc Try.prog Try.f4 false true false false) := by
  refine returnsInHanded_of_change_sized (C := Try.checked) headgatelaw18_ProutBack.own started (by kernel_rfl) Try.func4
    (ChangeSpec.witness6 (enc := enc) (C := Try.checked) false ⟨#[], #[.agg #[.int .i64 0, .int .i64 0, .string ByteArray.empty, .int .i64 0, .int .i64 0, .string ByteArray.empty, .bool false, .slice none 0 0, .int .u64 0, .int .u64 0, .int .u64 0, .int .i64 0, .bool false, .int .i64 0], .agg #[.int .i64 0, .int .i64 0], .string ByteArray.empty], []⟩ 8 (by kernel_rfl) (by kernel_rfl) (by kernel_rfl) (by kernel_rfl)) ?_
  intro W base args ds gs before hval0 hW hcnd hsz0 _
  have hsz : (DataW.weightsEach Try.prog (Try.f4.params.toList ++ Rows.proutBackSpec.plain.varTypes Try.prog) (ds ++ gs)).all (· ≤ reachBytes) = true := hsz0
  have hval : ∀ (j : Nat) t v, Try.f4.params[j]? = some t → args[j]? = some v → Value.okWide Try.prog W .any base t v := hval0
  have hW' := hW
  obtain ⟨p, q, hA0, hV, rfl, hfz, hnd⟩ := hW
  have hA : DataW.TrodAll enc Try.prog W 0 (fun _ => true) true Try.f4.params.toList args.toList ds p := hA0
  rw [Try.params4] at hA hval hsz
  obtain ⟨v0, vs0, d0, ds0, p0, q0, hargs, rfl, rfl, h0, r0⟩ := trodAll_cons hA
  obtain ⟨v1, vs1, d1, ds1, p1, q1, rfl, rfl, rfl, h1, r1⟩ := trodAll_cons r0
  obtain ⟨v2, vs2, d2, ds2, p2, q2, rfl, rfl, rfl, h2, r2⟩ := trodAll_cons r1
  obtain ⟨rfl, rfl, rfl⟩ := trodAll_nil r2
  obtain rfl : args = #[v0, v1, v2] := by cases args; simp_all
  obtain ⟨rfl, rfl⟩ := trodVars_none hV
  have k0 := h0
  obtain ⟨a0, A0_0, c0_0, hc0, hs0_0, o0⟩ := (headgatelaw18_ProutBack.op0 W).arg h0 hsz (j := 0) rfl rfl
  have sp0 := okWide_spot (hval 0 26 v0 rfl rfl)
  rw [hc0] at sp0
  have hr0_0 := hs0_0 (sp0 _ (by simp))
  obtain rfl := okWide_agg (by kernel_rfl) (hval 0 26 v0 rfl rfl) hc0
  have k1 := h1
  obtain ⟨a1, hc1, o1⟩ := (headgatelaw18_ProutBack.op1 W).arg h1 hsz (j := 1) rfl rfl
  obtain rfl := okWide_agg (by kernel_rfl) (hval 1 22 v1 rfl rfl) hc1
  have k2 := h2
  obtain ⟨a2, hc2, o2⟩ := (headgatelaw18_ProutBack.op2 W).arg h2 hsz (j := 2) rfl rfl
  obtain rfl := okWide_one (by kernel_rfl) (hval 2 9 v2 rfl rfl) hc2
  clear hA0 hval0 hsz0 hsz
  obtain ⟨K, hK⟩ := headgatelaw18_ProutBack.pure a0 a1 a2 o0 o1 o2
  refine (headgatelaw18_ProutBack.calls K a0 a1 a2 A0_0 c0_0 true W hr0_0 hK).mono fun e W' ⟨he, HW⟩ => ?_
  have bel := HW.below
  subst he
  exact ⟨_, rfl, _, _, _, [], _, [], hW', trodAll_mk1 (shut_bool Try.underlying4 _), (trodAll_cons_mk (Below.trod headgatelaw18_ProutBack.laidOut (by kernel_rfl) (of_decide_eq_true (by kernel_rfl)) k0 bel (trod_blocks k0)) (trodAll_cons_mk (Below.trod headgatelaw18_ProutBack.laidOut (by kernel_rfl) (of_decide_eq_true (by kernel_rfl)) k1 bel (trod_blocks k1)) (trodAll_cons_mk (Below.trod headgatelaw18_ProutBack.laidOut (by kernel_rfl) (of_decide_eq_true (by kernel_rfl)) k2 bel (trod_blocks k2)) trodAll_mk0))), rfl, bel.frame _, fun h => by cases h⟩
end Go.Proofs.Ytceagilmillgfaa.F
namespace Go.Proofs.Ytceagilmillgfaa
open Go Go.RowKit Go.ChangeShapes Go.WideShapes Go.ChangeAt Go.Proofs.Ytceagilmillgfaa.X Go.Proofs.Ytceagilmillgfaa.F
theorem proutBack_holds : Rows.ProutBackSaid :=
  OpenClaim.holds_of_wide 4 Try.f4 rfl rfl rfl rfl rfl rfl rfl ⟨rfl, rfl, rfl, rfl, rfl⟩ rfl rfl rfl rfl rfl (by kernel_rfl) Try.func4 (by kernel_rfl)
    (of_decide_eq_true (by kernel_rfl)) (by unfold Func.isWrapper; first | (rw [if_pos (by decide +kernel)]; kernel_rfl) | (rw [if_neg (by decide +kernel)]; exact ⟨rfl, rfl⟩))
    (fun os started H enc _ => headgatelaw18_ProutBack.lifted os started H enc)
end Go.Proofs.Ytceagilmillgfaa
