/- headgate/headgatelaw05.FrameGets returns true for every input, and what it is handed reads as before. No condition. -/
import Derived.Test.YtdcojinnjpihaaaDoorCards
import Derived.Test.YtdcojinnjpihaaaDoorTie
import Derived.Test.YtdcojinnjpihaaaDoorXLaid
import Derived.Test.YtdcojinnjpihaaaDoorXRow
import Derived.Test.YtdcojinnjpihaaaDoorF42
import Derived.Test.YtdcojinnjpihaaaDoorUFrameGets
namespace Go.Proofs.YtdcojinnjpihaaaDoor.F
open Go Go.RowKit Go.ChangeShapes Go.WideShapes Go.ChangeAt Go.Proofs.YtdcojinnjpihaaaDoor.X
set_option linter.unusedVariables false
set_option linter.unusedSimpArgs false
theorem headgatelaw05_FrameGets.op0 (W : World) : XTold Tryd.prog W 9 (fun cs => ∃ (a0 : ByteArray), cs = [.string a0] ∧ (a0.size ≤ 140737488351232)) := by
  refine XTold.mono (XTold.str Tryd.underlying9) ?_
  rintro cs ⟨n1, rfl, w1⟩
  exact ⟨n1, rfl, w1⟩
theorem headgatelaw05_FrameGets.own : ownKnob Tryd.prog.godebug = none := by kernel_rfl
theorem headgatelaw05_FrameGets.laidOut : laidOutB Tryd.prog = true := by kernel_rfl
theorem headgatelaw05_FrameGets.flat0 : XFlat Tryd.prog 95 := (XFlat.array Tryd.underlying95 (XFlat.int Tryd.underlying75) (by kernel_rfl))
theorem headgatelaw05_FrameGets.laid0 {W : World} (h : laidMet Tryd.prog Rows.frameGetsRow.laid W) : CA W 0 0 (encs (encIK .u32) G_crc_steps).toArray :=
  laid_ca h (name := "headgate/crc.steps") (d := Rows.laid_headgate_crc_steps) rfl (by kernel_rfl) (by kernel_rfl) headgatelaw05_FrameGets.flat0 (by kernel_rfl)
noncomputable def headgatelaw05_FrameGets.laidWorld (os : Os) : World :=
  { World.holding Tryd.prog os ⟨#[], #[], []⟩ with heap := ((((World.holding Tryd.prog os ⟨#[], #[], []⟩).heap).modify 0 (putT (encs (encIK .u32) G_crc_steps).toArray)).modify 2 (putT (encs T_utf8_acceptRange.enc G_utf8_acceptRanges).toArray)).modify 1 (putT (encs (encIK .u8) G_utf8_first).toArray) }
theorem headgatelaw05_FrameGets.laid_met (os : Os) : laidMet Tryd.prog Rows.frameGetsRow.laid ((headgatelaw05_FrameGets.laidWorld os).forCall (fun _ _ => 0) ⟨#[], #[Value.string ByteArray.empty], []⟩).memory :=
  laidMet_of_run' 8 (by kernel_rfl) (by kernel_rfl)
theorem headgatelaw05_FrameGets.reads (os : Os) {H : Type} (enc : TypeId × Value → H) : ∃ places, DataW.whole enc Tryd.prog ((headgatelaw05_FrameGets.laidWorld os).forCall (fun _ _ => 0) ⟨#[], #[Value.string ByteArray.empty], []⟩).memory Tryd.f4.params.toList Rows.frameGetsSpec.vars false (#[Value.string ByteArray.empty] : Array Value).toList 8 = some ([.lit (.string [])], [], places) :=
  ⟨[], by kernel_rfl⟩
set_option maxRecDepth 100000 in
theorem headgatelaw05_FrameGets.lifted (os : Os) (started : os.Started) (H : Type) (enc : TypeId × Value → H) (F : Stop.Interp) :
    ReturnsInHanded {} Tryd.checked os 4 .any ((OpenSpec.ofChange Rows.frameGetsSpec).preRow enc Tryd.prog Tryd.f4 Rows.frameGetsRow.domain false Rows.frameGetsRow.laid) (((OpenSpec.ofChange Rows.frameGetsSpec).at F).post enc Tryd.prog Tryd.f4 false true false false) := by
  obtain ⟨places, hx⟩ := headgatelaw05_FrameGets.reads os enc
  refine returnsInHanded_of_row (C := Tryd.checked) (s := OpenSpec.ofChange Rows.frameGetsSpec) headgatelaw05_FrameGets.own started (by kernel_rfl) Tryd.func4
    (witness_row_at (enc := enc) (C := Tryd.checked) false (headgatelaw05_FrameGets.laidWorld os) #[Value.string ByteArray.empty] rfl (by kernel_rfl) (by kernel_rfl) (by kernel_rfl)
      (OpenSpec.preRow_of_cond 8 hx (by kernel_rfl) (fun k hk => by cases hk) (by kernel_rfl) (headgatelaw05_FrameGets.laid_met os))) ?_
  intro W base args ds gs before hval0 hW hcnd _ hsz0 hL _ _
  have hsz : (DataW.weightsEach Tryd.prog (Tryd.f4.params.toList ++ Rows.frameGetsSpec.plain.varTypes Tryd.prog) (ds ++ gs)).all (· ≤ reachBytes) = true := hsz0
  have hLl : laidMet Tryd.prog Rows.frameGetsRow.laid W := hL
  have hval : ∀ (j : Nat) t v, Tryd.f4.params[j]? = some t → args[j]? = some v → Value.okWide Tryd.prog W .any base t v := hval0
  have hW' := hW
  obtain ⟨p, q, hA0, hV, rfl, hfz, hnd⟩ := hW
  have hA : DataW.TrodAll enc Tryd.prog W 0 (fun _ => true) true Tryd.f4.params.toList args.toList ds p := hA0
  rw [Tryd.params4] at hA hval hsz
  obtain ⟨v0, vs0, d0, ds0, p0, q0, hargs, rfl, rfl, h0, r0⟩ := trodAll_cons hA
  obtain ⟨rfl, rfl, rfl⟩ := trodAll_nil r0
  obtain rfl : args = #[v0] := by cases args; simp_all
  obtain ⟨rfl, rfl⟩ := trodVars_none hV
  have k0 := h0
  obtain ⟨a0, hc0, o0⟩ := (headgatelaw05_FrameGets.op0 W).arg h0 hsz (j := 0) rfl rfl
  obtain rfl := okWide_one (by kernel_rfl) (hval 0 9 v0 rfl rfl) hc0
  clear hA0 hval0 hsz0 hsz
  obtain ⟨K, hK⟩ := headgatelaw05_FrameGets.pure a0 o0
  refine (headgatelaw05_FrameGets.calls K a0  true W (headgatelaw05_FrameGets.laid0 hLl)  hK).mono fun e W' ⟨he, HW⟩ => ?_
  have bel := HW.below
  subst he
  exact ⟨_, rfl, _, _, _, [], _, [], hW', trodAll_mk1 (shut_bool Tryd.underlying4 _), (trodAll_cons_mk (Below.trod headgatelaw05_FrameGets.laidOut (by kernel_rfl) (of_decide_eq_true (by kernel_rfl)) k0 bel (trod_blocks k0)) trodAll_mk0), rfl, bel.frame _, fun h => by cases h⟩
end Go.Proofs.YtdcojinnjpihaaaDoor.F
namespace Go.Proofs.YtdcojinnjpihaaaDoor
open Go Go.RowKit Go.ChangeShapes Go.WideShapes Go.ChangeAt Go.Proofs.YtdcojinnjpihaaaDoor.X Go.Proofs.YtdcojinnjpihaaaDoor.F
theorem frameGets_said : Rows.FrameGetsSaid :=
  OpenClaim.holds_of_cond 4 Tryd.f4 rfl rfl rfl rfl rfl rfl rfl ⟨rfl, rfl, rfl, rfl, rfl⟩ rfl rfl rfl rfl rfl (by kernel_rfl) Tryd.func4 (by kernel_rfl)
    (of_decide_eq_true (by kernel_rfl)) (by unfold Func.isWrapper; first | (rw [if_pos (by decide +kernel)]; kernel_rfl) | (rw [if_neg (by decide +kernel)]; exact ⟨rfl, rfl⟩))
    (fun os started H enc _ F => by rw [OpenClaim.pre_eq_preRow]; exact headgatelaw05_FrameGets.lifted os started H enc F)
theorem frameGets_plain (f : FuncId) (fn : Func) (hf : Tryd.pinned.checked.prog.funcNamed "headgate/headgatelaw05.FrameGets" = some f) (hfn : Tryd.pinned.checked.prog.funcs[f]? = some fn) :
    true = Tryd.pinned.checked.prog.looks [] ∧ ∀ (j : Nat) t, fn.params[j]? = some t → Tryd.pinned.checked.prog.wantsStandIn t = false := by
  obtain rfl : f = 4 := Option.some.inj ((show Tryd.prog.funcNamed "headgate/headgatelaw05.FrameGets" = some 4 by kernel_rfl).symm.trans hf) |>.symm
  obtain rfl : fn = Tryd.f4 := (Option.some.inj (Tryd.func4.symm.trans hfn)).symm
  refine ⟨by kernel_rfl, fun j t ht => ?_⟩
  rw [Tryd.params4] at ht
  have hm := Array.mem_of_getElem? ht
  simp only [List.mem_toArray, List.mem_cons, List.not_mem_nil, or_false] at hm
  rcases hm with rfl
  · exact (show Tryd.prog.wantsStandIn 9 = false by kernel_rfl)
/-- The card. -/
theorem frameGets_card : Rows.FrameGetsCardSaid :=
  Claim7.holds_tied_plain_at .later [] _ _ _ _ frameGets_said (fun _ h => by cases h) (by kernel_rfl) (fun _ h => by cases h) frameGets_row_tie rfl ⟨rfl, rfl⟩ (by kernel_rfl) rfl frameGets_plain (by kernel_rfl)
end Go.Proofs.YtdcojinnjpihaaaDoor
