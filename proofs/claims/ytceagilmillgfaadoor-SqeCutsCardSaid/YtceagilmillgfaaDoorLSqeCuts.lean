/- headgate/headgatelaw25.SqeCuts returns true for every input, and what it is handed reads as before. No condition. -/
import Derived.Test.YtceagilmillgfaaDoorCards
import Derived.Test.YtceagilmillgfaaDoorTie
import Derived.Test.YtceagilmillgfaaDoorXLaid
import Derived.Test.YtceagilmillgfaaDoorXRow
import Derived.Test.YtceagilmillgfaaDoorF7
import Derived.Test.YtceagilmillgfaaDoorUSqeCuts
namespace Go.Proofs.YtceagilmillgfaaDoor.F
open Go Go.RowKit Go.ChangeShapes Go.WideShapes Go.ChangeAt Go.Proofs.YtceagilmillgfaaDoor.X
set_option linter.unusedVariables false
set_option linter.unusedSimpArgs false
theorem headgatelaw25_SqeCuts.op0 (W : World) : XTold Tryd.prog W 25 (fun cs => ∃ (a0 : T_api_Sqe), cs = [.int .i64 a0.f0, .int .i64 a0.f1, .int .i64 a0.f2, .int .u32 a0.f3, .int .i64 a0.f4, .int .u32 a0.f5.f0, .int .u32 a0.f5.f1, .int .u32 a0.f5.f2, .int .u32 a0.f5.f3, .int .u32 a0.f5.f4, .int .u32 a0.f5.f5] ∧ (a0.ok)) := by
  refine XTold.mono (XTold.struct (Rs := [_, _, _, _, _, _]) Tryd.underlying25 ⟨(XTold.int Tryd.underlying3), (XTold.int Tryd.underlying3), (XTold.int Tryd.underlying3), (XTold.int Tryd.underlying22), (XTold.int Tryd.underlying3), (XTold.array Tryd.underlying23 (XTold.int Tryd.underlying22) (by kernel_rfl)), trivial⟩ (by kernel_rfl)) ?_
  rintro cs ⟨_, _, rfl, ⟨n2, rfl, w2⟩, ⟨_, _, rfl, ⟨n3, rfl, w3⟩, ⟨_, _, rfl, ⟨n4, rfl, w4⟩, ⟨_, _, rfl, ⟨n5, rfl, w5⟩, ⟨_, _, rfl, ⟨n6, rfl, w6⟩, ⟨_, _, rfl, ⟨_, _, rfl, ⟨n8, rfl, w8⟩, ⟨_, _, rfl, ⟨n9, rfl, w9⟩, ⟨_, _, rfl, ⟨n10, rfl, w10⟩, ⟨_, _, rfl, ⟨n11, rfl, w11⟩, ⟨_, _, rfl, ⟨n12, rfl, w12⟩, ⟨_, _, rfl, ⟨n13, rfl, w13⟩, rfl⟩⟩⟩⟩⟩⟩, rfl⟩⟩⟩⟩⟩⟩
  exact ⟨(⟨n2, n3, n4, n5, n6, (⟨n8, n9, n10, n11, n12, n13⟩ : T_arr6_22)⟩ : T_api_Sqe), rfl, ⟨bounds_i64 w2, bounds_i64 w3, bounds_i64 w4, bounds_u32 w5, bounds_i64 w6, ⟨bounds_u32 w8, bounds_u32 w9, bounds_u32 w10, bounds_u32 w11, bounds_u32 w12, bounds_u32 w13⟩⟩⟩
theorem headgatelaw25_SqeCuts.op1 (W : World) : XTold Tryd.prog W 27 (fun cs => ∃ (a1 : T_api_Cqe), cs = [.int .u32 a1.f0, .int .u32 a1.f1, .int .i64 a1.f2, .int .i64 a1.f3, .int .i64 a1.f4, .int .i64 a1.f5] ∧ (a1.ok)) := by
  refine XTold.mono (XTold.struct (Rs := [_, _, _, _, _, _]) Tryd.underlying27 ⟨(XTold.int Tryd.underlying22), (XTold.int Tryd.underlying22), (XTold.int Tryd.underlying3), (XTold.int Tryd.underlying3), (XTold.int Tryd.underlying3), (XTold.int Tryd.underlying3), trivial⟩ (by kernel_rfl)) ?_
  rintro cs ⟨_, _, rfl, ⟨n2, rfl, w2⟩, ⟨_, _, rfl, ⟨n3, rfl, w3⟩, ⟨_, _, rfl, ⟨n4, rfl, w4⟩, ⟨_, _, rfl, ⟨n5, rfl, w5⟩, ⟨_, _, rfl, ⟨n6, rfl, w6⟩, ⟨_, _, rfl, ⟨n7, rfl, w7⟩, rfl⟩⟩⟩⟩⟩⟩
  exact ⟨(⟨n2, n3, n4, n5, n6, n7⟩ : T_api_Cqe), rfl, ⟨bounds_u32 w2, bounds_u32 w3, bounds_i64 w4, bounds_i64 w5, bounds_i64 w6, bounds_i64 w7⟩⟩
theorem headgatelaw25_SqeCuts.op2 (W : World) : XTold Tryd.prog W 3 (fun cs => ∃ (a2 : Int), cs = [.int .i64 a2] ∧ ((-9223372036854775808) ≤ a2 ∧ a2 ≤ 9223372036854775807)) := by
  refine XTold.mono (XTold.int Tryd.underlying3) ?_
  rintro cs ⟨n1, rfl, w1⟩
  exact ⟨n1, rfl, bounds_i64 w1⟩
theorem headgatelaw25_SqeCuts.own : ownKnob Tryd.prog.godebug = none := by kernel_rfl
theorem headgatelaw25_SqeCuts.laidOut : laidOutB Tryd.prog = true := by kernel_rfl
theorem headgatelaw25_SqeCuts.flat2 : XFlat Tryd.prog 120 := (XFlat.array Tryd.underlying120 (XFlat.struct Tryd.underlying118 ⟨(XFlat.int Tryd.underlying3), (XFlat.int Tryd.underlying3), (XFlat.int Tryd.underlying45), trivial⟩ (by kernel_rfl)) (by kernel_rfl))
theorem headgatelaw25_SqeCuts.laid2 {W : World} (h : laidMet Tryd.prog Rows.sqeCutsRow.laid W) : CA W 2 0 (encs T_sqe_field.enc G_sqe_fieldsOf).toArray :=
  laid_ca h (name := "headgate/sqe.fieldsOf") (d := Rows.laid_headgate_sqe_fieldsOf) rfl (by kernel_rfl) (by kernel_rfl) headgatelaw25_SqeCuts.flat2 (by kernel_rfl)
theorem headgatelaw25_SqeCuts.flat1 : XFlat Tryd.prog 119 := (XFlat.array Tryd.underlying119 (XFlat.struct Tryd.underlying118 ⟨(XFlat.int Tryd.underlying3), (XFlat.int Tryd.underlying3), (XFlat.int Tryd.underlying45), trivial⟩ (by kernel_rfl)) (by kernel_rfl))
theorem headgatelaw25_SqeCuts.laid1 {W : World} (h : laidMet Tryd.prog Rows.sqeCutsRow.laid W) : CA W 1 0 (encs T_sqe_field.enc G_sqe_endsOf).toArray :=
  laid_ca h (name := "headgate/sqe.endsOf") (d := Rows.laid_headgate_sqe_endsOf) rfl (by kernel_rfl) (by kernel_rfl) headgatelaw25_SqeCuts.flat1 (by kernel_rfl)
noncomputable def headgatelaw25_SqeCuts.laidWorld (os : Os) : World :=
  { World.holding Tryd.prog os ⟨#[], #[], []⟩ with heap := (((World.holding Tryd.prog os ⟨#[], #[], []⟩).heap).modify 2 (putT (encs T_sqe_field.enc G_sqe_fieldsOf).toArray)).modify 1 (putT (encs T_sqe_field.enc G_sqe_endsOf).toArray) }
theorem headgatelaw25_SqeCuts.laid_met (os : Os) : laidMet Tryd.prog Rows.sqeCutsRow.laid ((headgatelaw25_SqeCuts.laidWorld os).forCall (fun _ _ => 0) ⟨#[], #[Value.agg #[.int .i64 0, .int .i64 0, .int .i64 0, .int .u32 0, .int .i64 0, .int .u32 0, .int .u32 0, .int .u32 0, .int .u32 0, .int .u32 0, .int .u32 0], Value.agg #[.int .u32 0, .int .u32 0, .int .i64 0, .int .i64 0, .int .i64 0, .int .i64 0], Value.int .i64 0], []⟩).memory :=
  laidMet_of_run' 8 (by kernel_rfl) (by kernel_rfl)
theorem headgatelaw25_SqeCuts.reads (os : Os) {H : Type} (enc : TypeId × Value → H) : ∃ places, DataW.whole enc Tryd.prog ((headgatelaw25_SqeCuts.laidWorld os).forCall (fun _ _ => 0) ⟨#[], #[Value.agg #[.int .i64 0, .int .i64 0, .int .i64 0, .int .u32 0, .int .i64 0, .int .u32 0, .int .u32 0, .int .u32 0, .int .u32 0, .int .u32 0, .int .u32 0], Value.agg #[.int .u32 0, .int .u32 0, .int .i64 0, .int .i64 0, .int .i64 0, .int .i64 0], Value.int .i64 0], []⟩).memory Tryd.f7.params.toList Rows.sqeCutsSpec.vars false (#[Value.agg #[.int .i64 0, .int .i64 0, .int .i64 0, .int .u32 0, .int .i64 0, .int .u32 0, .int .u32 0, .int .u32 0, .int .u32 0, .int .u32 0, .int .u32 0], Value.agg #[.int .u32 0, .int .u32 0, .int .i64 0, .int .i64 0, .int .i64 0, .int .i64 0], Value.int .i64 0] : Array Value).toList 8 = some ([.agg [.lit (.int .i64 0), .lit (.int .i64 0), .lit (.int .i64 0), .lit (.int .u32 0), .lit (.int .i64 0), .agg [.lit (.int .u32 0), .lit (.int .u32 0), .lit (.int .u32 0), .lit (.int .u32 0), .lit (.int .u32 0), .lit (.int .u32 0)]], .agg [.lit (.int .u32 0), .lit (.int .u32 0), .lit (.int .i64 0), .lit (.int .i64 0), .lit (.int .i64 0), .lit (.int .i64 0)], .lit (.int .i64 0)], [], places) :=
  ⟨[], by kernel_rfl⟩
set_option maxRecDepth 100000 in
theorem headgatelaw25_SqeCuts.lifted (os : Os) (started : os.Started) (H : Type) (enc : TypeId × Value → H) (F : Stop.Interp) :
    ReturnsInHanded {} Tryd.checked os 7 .any ((OpenSpec.ofChange Rows.sqeCutsSpec).preRow enc Tryd.prog Tryd.f7 Rows.sqeCutsRow.domain false Rows.sqeCutsRow.laid) (((OpenSpec.ofChange Rows.sqeCutsSpec).at F).post enc Tryd.prog Tryd.f7 false true false false) := by
  obtain ⟨places, hx⟩ := headgatelaw25_SqeCuts.reads os enc
  refine returnsInHanded_of_row (C := Tryd.checked) (s := OpenSpec.ofChange Rows.sqeCutsSpec) headgatelaw25_SqeCuts.own started (by kernel_rfl) Tryd.func7
    (witness_row_at (enc := enc) (C := Tryd.checked) false (headgatelaw25_SqeCuts.laidWorld os) #[Value.agg #[.int .i64 0, .int .i64 0, .int .i64 0, .int .u32 0, .int .i64 0, .int .u32 0, .int .u32 0, .int .u32 0, .int .u32 0, .int .u32 0, .int .u32 0], Value.agg #[.int .u32 0, .int .u32 0, .int .i64 0, .int .i64 0, .int .i64 0, .int .i64 0], Value.int .i64 0] rfl (by kernel_rfl) (by kernel_rfl) (by kernel_rfl)
      (OpenSpec.preRow_of_cond 8 hx (by kernel_rfl) (fun k hk => by cases hk) (by kernel_rfl) (headgatelaw25_SqeCuts.laid_met os))) ?_
  intro W base args ds gs before hval0 hW hcnd _ hsz0 hL _ _
  have hsz : (DataW.weightsEach Tryd.prog (Tryd.f7.params.toList ++ Rows.sqeCutsSpec.plain.varTypes Tryd.prog) (ds ++ gs)).all (· ≤ reachBytes) = true := hsz0
  have hLl : laidMet Tryd.prog Rows.sqeCutsRow.laid W := hL
  have hval : ∀ (j : Nat) t v, Tryd.f7.params[j]? = some t → args[j]? = some v → Value.okWide Tryd.prog W .any base t v := hval0
  have hW' := hW
  obtain ⟨p, q, hA0, hV, rfl, hfz, hnd⟩ := hW
  have hA : DataW.TrodAll enc Tryd.prog W 0 (fun _ => true) true Tryd.f7.params.toList args.toList ds p := hA0
  rw [Tryd.params7] at hA hval hsz
  obtain ⟨v0, vs0, d0, ds0, p0, q0, hargs, rfl, rfl, h0, r0⟩ := trodAll_cons hA
  obtain ⟨v1, vs1, d1, ds1, p1, q1, rfl, rfl, rfl, h1, r1⟩ := trodAll_cons r0
  obtain ⟨v2, vs2, d2, ds2, p2, q2, rfl, rfl, rfl, h2, r2⟩ := trodAll_cons r1
  obtain ⟨rfl, rfl, rfl⟩ := trodAll_nil r2
  obtain rfl : args = #[v0, v1, v2] := by cases args; simp_all
  obtain ⟨rfl, rfl⟩ := trodVars_none hV
  have k0 := h0
  obtain ⟨a0, hc0, o0⟩ := (headgatelaw25_SqeCuts.op0 W).arg h0 hsz (j := 0) rfl rfl
  obtain rfl := okWide_agg (by kernel_rfl) (hval 0 25 v0 rfl rfl) hc0
  have k1 := h1
  obtain ⟨a1, hc1, o1⟩ := (headgatelaw25_SqeCuts.op1 W).arg h1 hsz (j := 1) rfl rfl
  obtain rfl := okWide_agg (by kernel_rfl) (hval 1 27 v1 rfl rfl) hc1
  have k2 := h2
  obtain ⟨a2, hc2, o2⟩ := (headgatelaw25_SqeCuts.op2 W).arg h2 hsz (j := 2) rfl rfl
  obtain rfl := okWide_one (by kernel_rfl) (hval 2 3 v2 rfl rfl) hc2
  clear hA0 hval0 hsz0 hsz
  obtain ⟨K, hK⟩ := headgatelaw25_SqeCuts.pure a0 a1 a2 o0 o1 o2
  refine (headgatelaw25_SqeCuts.calls K a0 a1 a2  true W (headgatelaw25_SqeCuts.laid1 hLl) (headgatelaw25_SqeCuts.laid2 hLl)  hK).mono fun e W' ⟨he, HW⟩ => ?_
  have bel := HW.below
  subst he
  exact ⟨_, rfl, _, _, _, [], _, [], hW', trodAll_mk1 (shut_bool Tryd.underlying4 _), (trodAll_cons_mk (Below.trod headgatelaw25_SqeCuts.laidOut (by kernel_rfl) (of_decide_eq_true (by kernel_rfl)) k0 bel (trod_blocks k0)) (trodAll_cons_mk (Below.trod headgatelaw25_SqeCuts.laidOut (by kernel_rfl) (of_decide_eq_true (by kernel_rfl)) k1 bel (trod_blocks k1)) (trodAll_cons_mk (Below.trod headgatelaw25_SqeCuts.laidOut (by kernel_rfl) (of_decide_eq_true (by kernel_rfl)) k2 bel (trod_blocks k2)) trodAll_mk0))), rfl, bel.frame _, fun h => by cases h⟩
end Go.Proofs.YtceagilmillgfaaDoor.F
namespace Go.Proofs.YtceagilmillgfaaDoor
open Go Go.RowKit Go.ChangeShapes Go.WideShapes Go.ChangeAt Go.Proofs.YtceagilmillgfaaDoor.X Go.Proofs.YtceagilmillgfaaDoor.F
theorem sqeCuts_said : Rows.SqeCutsSaid :=
  OpenClaim.holds_of_cond 7 Tryd.f7 rfl rfl rfl rfl rfl rfl rfl ⟨rfl, rfl, rfl, rfl, rfl⟩ rfl rfl rfl rfl rfl (by kernel_rfl) Tryd.func7 (by kernel_rfl)
    (of_decide_eq_true (by kernel_rfl)) (by unfold Func.isWrapper; first | (rw [if_pos (by decide +kernel)]; kernel_rfl) | (rw [if_neg (by decide +kernel)]; exact ⟨rfl, rfl⟩))
    (fun os started H enc _ F => by rw [OpenClaim.pre_eq_preRow]; exact headgatelaw25_SqeCuts.lifted os started H enc F)
theorem sqeCuts_plain (f : FuncId) (fn : Func) (hf : Tryd.pinned.checked.prog.funcNamed "headgate/headgatelaw25.SqeCuts" = some f) (hfn : Tryd.pinned.checked.prog.funcs[f]? = some fn) :
    false = Tryd.pinned.checked.prog.looks [] ∧ ∀ (j : Nat) t, fn.params[j]? = some t → Tryd.pinned.checked.prog.wantsStandIn t = false := by
  obtain rfl : f = 7 := Option.some.inj ((show Tryd.prog.funcNamed "headgate/headgatelaw25.SqeCuts" = some 7 by kernel_rfl).symm.trans hf) |>.symm
  obtain rfl : fn = Tryd.f7 := (Option.some.inj (Tryd.func7.symm.trans hfn)).symm
  refine ⟨by kernel_rfl, fun j t ht => ?_⟩
  rw [Tryd.params7] at ht
  have hm := Array.mem_of_getElem? ht
  simp only [List.mem_toArray, List.mem_cons, List.not_mem_nil, or_false] at hm
  rcases hm with rfl | rfl | rfl
  · exact (show Tryd.prog.wantsStandIn 25 = false by kernel_rfl)
  · exact (show Tryd.prog.wantsStandIn 27 = false by kernel_rfl)
  · exact (show Tryd.prog.wantsStandIn 3 = false by kernel_rfl)
/-- The card. -/
theorem sqeCuts_card : Rows.SqeCutsCardSaid :=
  Claim7.holds_tied_plain_at .later [] _ _ _ _ sqeCuts_said (fun _ h => by cases h) (by kernel_rfl) (fun _ h => by cases h) sqeCuts_row_tie rfl ⟨rfl, rfl⟩ (by kernel_rfl) rfl sqeCuts_plain (by kernel_rfl)
end Go.Proofs.YtceagilmillgfaaDoor
