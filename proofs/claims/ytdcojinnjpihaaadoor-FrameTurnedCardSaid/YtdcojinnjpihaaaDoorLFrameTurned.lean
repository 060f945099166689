/- headgate/headgatelaw05.FrameTurned returns true for every input, and what it is handed reads as before. No condition. -/
import Derived.Test.YtdcojinnjpihaaaDoorCards
import Derived.Test.YtdcojinnjpihaaaDoorTie
import Derived.Test.YtdcojinnjpihaaaDoorXLaid
import Derived.Test.YtdcojinnjpihaaaDoorXRow
import Derived.Test.YtdcojinnjpihaaaDoorF5
import Derived.Test.YtdcojinnjpihaaaDoorUFrameTurned
namespace Go.Proofs.YtdcojinnjpihaaaDoor.F
open Go Go.RowKit Go.ChangeShapes Go.WideShapes Go.ChangeAt Go.Proofs.YtdcojinnjpihaaaDoor.X
set_option linter.unusedVariables false
set_option linter.unusedSimpArgs false
theorem headgatelaw05_FrameTurned.op0 (W : World) : XTold Tryd.prog W 22 (fun cs => ∃ (a0 : Int), cs = [.int .u64 a0] ∧ (0 ≤ a0 ∧ a0 ≤ 18446744073709551615)) := by
  refine XTold.mono (XTold.int Tryd.underlying22) ?_
  rintro cs ⟨n1, rfl, w1⟩
  exact ⟨n1, rfl, bounds_u64 w1⟩
theorem headgatelaw05_FrameTurned.op1 (W : World) : XTold Tryd.prog W 9 (fun cs => ∃ (a1 : ByteArray), cs = [.string a1] ∧ (a1.size ≤ 140737488351232)) := by
  refine XTold.mono (XTold.str Tryd.underlying9) ?_
  rintro cs ⟨n1, rfl, w1⟩
  exact ⟨n1, rfl, w1⟩
theorem headgatelaw05_FrameTurned.op2 (W : World) : XTold Tryd.prog W 38 (fun cs => ∃ (a2 : T_arr2_3), cs = [.int .i64 a2.f0, .int .i64 a2.f1] ∧ (a2.ok)) := by
  refine XTold.mono (XTold.array Tryd.underlying38 (XTold.int Tryd.underlying3) (by kernel_rfl)) ?_
  rintro cs ⟨_, _, rfl, ⟨n2, rfl, w2⟩, ⟨_, _, rfl, ⟨n3, rfl, w3⟩, rfl⟩⟩
  exact ⟨(⟨n2, n3⟩ : T_arr2_3), rfl, ⟨bounds_i64 w2, bounds_i64 w3⟩⟩
theorem headgatelaw05_FrameTurned.own : ownKnob Tryd.prog.godebug = none := by kernel_rfl
theorem headgatelaw05_FrameTurned.laidOut : laidOutB Tryd.prog = true := by kernel_rfl
theorem headgatelaw05_FrameTurned.flat0 : XFlat Tryd.prog 95 := (XFlat.array Tryd.underlying95 (XFlat.int Tryd.underlying75) (by kernel_rfl))
theorem headgatelaw05_FrameTurned.laid0 {W : World} (h : laidMet Tryd.prog Rows.frameTurnedRow.laid W) : CA W 0 0 (encs (encIK .u32) G_crc_steps).toArray :=
  laid_ca h (name := "headgate/crc.steps") (d := Rows.laid_headgate_crc_steps) rfl (by kernel_rfl) (by kernel_rfl) headgatelaw05_FrameTurned.flat0 (by kernel_rfl)
noncomputable def headgatelaw05_FrameTurned.laidWorld (os : Os) : World :=
  { World.holding Tryd.prog os ⟨#[], #[], []⟩ with heap := ((((World.holding Tryd.prog os ⟨#[], #[], []⟩).heap).modify 0 (putT (encs (encIK .u32) G_crc_steps).toArray)).modify 2 (putT (encs T_utf8_acceptRange.enc G_utf8_acceptRanges).toArray)).modify 1 (putT (encs (encIK .u8) G_utf8_first).toArray) }
theorem headgatelaw05_FrameTurned.laid_met (os : Os) : laidMet Tryd.prog Rows.frameTurnedRow.laid ((headgatelaw05_FrameTurned.laidWorld os).forCall (fun _ _ => 0) ⟨#[], #[Value.int .u64 0, Value.string ByteArray.empty, Value.agg #[.int .i64 0, .int .i64 0]], []⟩).memory :=
  laidMet_of_run' 8 (by kernel_rfl) (by kernel_rfl)
theorem headgatelaw05_FrameTurned.reads (os : Os) {H : Type} (enc : TypeId × Value → H) : ∃ places, DataW.whole enc Tryd.prog ((headgatelaw05_FrameTurned.laidWorld os).forCall (fun _ _ => 0) ⟨#[], #[Value.int .u64 0, Value.string ByteArray.empty, Value.agg #[.int .i64 0, .int .i64 0]], []⟩).memory Tryd.f5.params.toList Rows.frameTurnedSpec.vars false (#[Value.int .u64 0, Value.string ByteArray.empty, Value.agg #[.int .i64 0, .int .i64 0]] : Array Value).toList 8 = some ([.lit (.int .u64 0), .lit (.string []), .agg [.lit (.int .i64 0), .lit (.int .i64 0)]], [], places) :=
  ⟨[], by kernel_rfl⟩
set_option maxRecDepth 100000 in
theorem headgatelaw05_FrameTurned.lifted (os : Os) (started : os.Started) (H : Type) (enc : TypeId × Value → H) (F : Stop.Interp) :
    ReturnsInHanded {} Tryd.checked os 5 .any ((OpenSpec.ofChange Rows.frameTurnedSpec).preRow enc Tryd.prog Tryd.f5 Rows.frameTurnedRow.domain false Rows.frameTurnedRow.laid) (((OpenSpec.ofChange Rows.frameTurnedSpec).at F).post enc Tryd.prog Tryd.f5 false true false false) := by
  obtain ⟨places, hx⟩ := headgatelaw05_FrameTurned.reads os enc
  refine returnsInHanded_of_row (C := Tryd.checked) (s := OpenSpec.ofChange Rows.frameTurnedSpec) headgatelaw05_FrameTurned.own started (by kernel_rfl) Tryd.func5
    (witness_row_at (enc := enc) (C := Tryd.checked) false (headgatelaw05_FrameTurned.laidWorld os) #[Value.int .u64 0, Value.string ByteArray.empty, Value.agg #[.int .i64 0, .int .i64 0]] rfl (by kernel_rfl) (by kernel_rfl) (by kernel_rfl)
      (OpenSpec.preRow_of_cond 8 hx (by kernel_rfl) (fun k hk => by cases hk) (by kernel_rfl) (headgatelaw05_FrameTurned.laid_met os))) ?_
  intro W base args ds gs before hval0 hW hcnd _ hsz0 hL _ _
  have hsz : (DataW.weightsEach Tryd.prog (Tryd.f5.params.toList ++ Rows.frameTurnedSpec.plain.varTypes Tryd.prog) (ds ++ gs)).all (· ≤ reachBytes) = true := hsz0
  have hLl : laidMet Tryd.prog Rows.frameTurnedRow.laid W := hL
  have hval : ∀ (j : Nat) t v, Tryd.f5.params[j]? = some t → args[j]? = some v → Value.okWide Tryd.prog W .any base t v := hval0
  have hW' := hW
  obtain ⟨p, q, hA0, hV, rfl, hfz, hnd⟩ := hW
  have hA : DataW.TrodAll enc Tryd.prog W 0 (fun _ => true) true Tryd.f5.params.toList args.toList ds p := hA0
  rw [Tryd.params5] at hA hval hsz
  obtain ⟨v0, vs0, d0, ds0, p0, q0, hargs, rfl, rfl, h0, r0⟩ := trodAll_cons hA
  obtain ⟨v1, vs1, d1, ds1, p1, q1, rfl, rfl, rfl, h1, r1⟩ := trodAll_cons r0
  obtain ⟨v2, vs2, d2, ds2, p2, q2, rfl, rfl, rfl, h2, r2⟩ := trodAll_cons r1
  obtain ⟨rfl, rfl, rfl⟩ := trodAll_nil r2
  obtain rfl : args = #[v0, v1, v2] := by cases args; simp_all
  obtain ⟨rfl, rfl⟩ := trodVars_none hV
  have k0 := h0
  obtain ⟨a0, hc0, o0⟩ := (headgatelaw05_FrameTurned.op0 W).arg h0 hsz (j := 0) rfl rfl
  obtain rfl := okWide_one (by kernel_rfl) (hval 0 22 v0 rfl rfl) hc0
  have k1 := h1
  obtain ⟨a1, hc1, o1⟩ := (headgatelaw05_FrameTurned.op1 W).arg h1 hsz (j := 1) rfl rfl
  obtain rfl := okWide_one (by kernel_rfl) (hval 1 9 v1 rfl rfl) hc1
  have k2 := h2
  obtain ⟨a2, hc2, o2⟩ := (headgatelaw05_FrameTurned.op2 W).arg h2 hsz (j := 2) rfl rfl
  obtain rfl := okWide_agg (by kernel_rfl) (hval 2 38 v2 rfl rfl) hc2
  clear hA0 hval0 hsz0 hsz
  obtain ⟨K, hK⟩ := headgatelaw05_FrameTurned.pure a0 a1 a2 o0 o1 o2
  refine (headgatelaw05_FrameTurned.calls K a0 a1 a2  true W (headgatelaw05_FrameTurned.laid0 hLl)  hK).mono fun e W' ⟨he, HW⟩ => ?_
  have bel := HW.below
  subst he
  exact ⟨_, rfl, _, _, _, [], _, [], hW', trodAll_mk1 (shut_bool Tryd.underlying4 _), (trodAll_cons_mk (Below.trod headgatelaw05_FrameTurned.laidOut (by kernel_rfl) (of_decide_eq_true (by kernel_rfl)) k0 bel (trod_blocks k0)) (trodAll_cons_mk (Below.trod headgatelaw05_FrameTurned.laidOut (by kernel_rfl) (of_decide_eq_true (by kernel_rfl)) k1 bel (trod_blocks k1)) (trodAll_cons_mk (Below.trod headgatelaw05_FrameTurned.laidOut (by kernel_rfl) (of_decide_eq_true (by kernel_rfl)) k2 bel (trod_blocks k2)) trodAll_mk0))), rfl, bel.frame _, fun h => by cases h⟩
end Go.Proofs.YtdcojinnjpihaaaDoor.F
namespace Go.Proofs.YtdcojinnjpihaaaDoor
open Go Go.RowKit Go.ChangeShapes Go.WideShapes Go.ChangeAt Go.Proofs.YtdcojinnjpihaaaDoor.X Go.Proofs.YtdcojinnjpihaaaDoor.F
theorem frameTurned_said : Rows.FrameTurnedSaid :=
  OpenClaim.holds_of_cond 5 Tryd.f5 rfl rfl rfl rfl rfl rfl rfl ⟨rfl, rfl, rfl, rfl, rfl⟩ rfl rfl rfl rfl rfl (by kernel_rfl) Tryd.func5 (by kernel_rfl)
    (of_decide_eq_true (by kernel_rfl)) (by unfold Func.isWrapper; first | (rw [if_pos (by decide +kernel)]; kernel_rfl) | (rw [if_neg (by decide +kernel)]; exact ⟨rfl, rfl⟩))
    (fun os started H enc _ F => by rw [OpenClaim.pre_eq_preRow]; exact headgatelaw05_FrameTurned.lifted os started H enc F)
theorem frameTurned_plain (f : FuncId) (fn : Func) (hf : Tryd.pinned.checked.prog.funcNamed "headgate/headgatelaw05.FrameTurned" = some f) (hfn : Tryd.pinned.checked.prog.funcs[f]? = some fn) :
    true = Tryd.pinned.checked.prog.looks [] ∧ ∀ (j : Nat) t, fn.params[j]? = some t → Tryd.pinned.checked.prog.wantsStandIn t = false := by
  obtain rfl : f = 5 := Option.some.inj ((show Tryd.prog.funcNamed "headgate/headgatelaw05.FrameTurned" = some 5 by kernel_rfl).symm.trans hf) |>.symm
  obtain rfl : fn = Tryd.f5 := (Option.some.inj (Tryd.func5.symm.trans hfn)).symm
  refine ⟨by kernel_rfl, fun j t ht => ?_⟩
  rw [Tryd.params5] at ht
  have hm := Array.mem_of_getElem? ht
  simp only [List.mem_toArray, List.mem_cons, List.not_mem_nil, or_false] at hm
  rcases hm with rfl | rfl | rfl
  · exact (show Tryd.prog.wantsStandIn 22 = false by kernel_rfl)
  · exact (show Tryd.prog.wantsStandIn 9 = false by kernel_rfl)
  · exact (show Tryd.prog.wantsStandIn 38 = false by kernel_rfl)
/-- The card. -/
theorem frameTurned_card : Rows.FrameTurnedCardSaid :=
  Claim7.holds_tied_plain_at .later [] _ _ _ _ frameTurned_said (fun _ h => by cases h) (by kernel_rfl) (fun _ h => by cases h) frameTurned_row_tie rfl ⟨rfl, rfl⟩ (by kernel_rfl) rfl frameTurned_plain (by kernel_rfl)
end Go.Proofs.YtdcojinnjpihaaaDoor
