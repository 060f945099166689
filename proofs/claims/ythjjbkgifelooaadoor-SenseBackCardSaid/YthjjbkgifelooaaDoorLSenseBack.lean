/- headgate/headgatelaw16.SenseBack returns true for every input, and what it is handed reads as before. No condition. -/
import Derived.Test.YthjjbkgifelooaaDoorCards
import Derived.Test.YthjjbkgifelooaaDoorTie
import Derived.Test.YthjjbkgifelooaaDoorXLaid
import Derived.Test.YthjjbkgifelooaaDoorXRow
import Derived.Test.YthjjbkgifelooaaDoorF10
import Derived.Test.YthjjbkgifelooaaDoorUSenseBack
namespace Go.Proofs.YthjjbkgifelooaaDoor.F
open Go Go.RowKit Go.ChangeShapes Go.WideShapes Go.ChangeAt Go.Proofs.YthjjbkgifelooaaDoor.X
set_option linter.unusedVariables false
set_option linter.unusedSimpArgs false
theorem headgatelaw16_SenseBack.op0 (W : World) : XTold Tryd.prog W 66 (fun cs => ∃ (a0 : T_api_Sense), cs = [.int .i64 a0.f0, .int .i64 a0.f1, .int .i64 a0.f2, .int .i64 a0.f3] ∧ (a0.ok)) := by
  refine XTold.mono (XTold.struct (Rs := [_, _, _, _]) Tryd.underlying66 ⟨(XTold.int Tryd.underlying3), (XTold.int Tryd.underlying3), (XTold.int Tryd.underlying3), (XTold.int Tryd.underlying3), trivial⟩ (by kernel_rfl)) ?_
  rintro cs ⟨_, _, rfl, ⟨n2, rfl, w2⟩, ⟨_, _, rfl, ⟨n3, rfl, w3⟩, ⟨_, _, rfl, ⟨n4, rfl, w4⟩, ⟨_, _, rfl, ⟨n5, rfl, w5⟩, rfl⟩⟩⟩⟩
  exact ⟨(⟨n2, n3, n4, n5⟩ : T_api_Sense), rfl, ⟨bounds_i64 w2, bounds_i64 w3, bounds_i64 w4, bounds_i64 w5⟩⟩
theorem headgatelaw16_SenseBack.op1 (W : World) : XTold Tryd.prog W 9 (fun cs => ∃ (a1 : ByteArray), cs = [.string a1] ∧ (a1.size ≤ 140737488351232)) := by
  refine XTold.mono (XTold.str Tryd.underlying9) ?_
  rintro cs ⟨n1, rfl, w1⟩
  exact ⟨n1, rfl, w1⟩
theorem headgatelaw16_SenseBack.own : ownKnob Tryd.prog.godebug = none := by kernel_rfl
theorem headgatelaw16_SenseBack.laidOut : laidOutB Tryd.prog = true := by kernel_rfl
theorem headgatelaw16_SenseBack.flat3 : XFlat Tryd.prog 114 := (XFlat.array Tryd.underlying114 (XFlat.struct Tryd.underlying113 ⟨(XFlat.int Tryd.underlying3), (XFlat.int Tryd.underlying3), (XFlat.int Tryd.underlying3), (XFlat.int Tryd.underlying3), (XFlat.int Tryd.underlying3), (XFlat.int Tryd.underlying3), trivial⟩ (by kernel_rfl)) (by kernel_rfl))
theorem headgatelaw16_SenseBack.laid3 {W : World} (h : laidMet Tryd.prog Rows.senseBackRow.laid W) : CA W 3 0 (encs T_sense_row.enc G_sense_rows).toArray :=
  laid_ca h (name := "headgate/sense.rows") (d := Rows.laid_headgate_sense_rows) rfl (by kernel_rfl) (by kernel_rfl) headgatelaw16_SenseBack.flat3 (by kernel_rfl)
noncomputable def headgatelaw16_SenseBack.laidWorld (os : Os) : World :=
  { World.holding Tryd.prog os ⟨#[], #[], []⟩ with heap := ((World.holding Tryd.prog os ⟨#[], #[], []⟩).heap).modify 3 (putT (encs T_sense_row.enc G_sense_rows).toArray) }
theorem headgatelaw16_SenseBack.laid_met (os : Os) : laidMet Tryd.prog Rows.senseBackRow.laid ((headgatelaw16_SenseBack.laidWorld os).forCall (fun _ _ => 0) ⟨#[], #[Value.agg #[.int .i64 0, .int .i64 0, .int .i64 0, .int .i64 0], Value.string ByteArray.empty], []⟩).memory :=
  laidMet_of_run' 8 (by kernel_rfl) (by kernel_rfl)
theorem headgatelaw16_SenseBack.reads (os : Os) {H : Type} (enc : TypeId × Value → H) : ∃ places, DataW.whole enc Tryd.prog ((headgatelaw16_SenseBack.laidWorld os).forCall (fun _ _ => 0) ⟨#[], #[Value.agg #[.int .i64 0, .int .i64 0, .int .i64 0, .int .i64 0], Value.string ByteArray.empty], []⟩).memory Tryd.f10.params.toList Rows.senseBackSpec.vars false (#[Value.agg #[.int .i64 0, .int .i64 0, .int .i64 0, .int .i64 0], Value.string ByteArray.empty] : Array Value).toList 8 = some ([.agg [.lit (.int .i64 0), .lit (.int .i64 0), .lit (.int .i64 0), .lit (.int .i64 0)], .lit (.string [])], [], places) :=
  ⟨[], by kernel_rfl⟩
set_option maxRecDepth 100000 in
theorem headgatelaw16_SenseBack.lifted (os : Os) (started : os.Started) (H : Type) (enc : TypeId × Value → H) (F : Stop.Interp) :
    ReturnsInHanded {} Tryd.checked os 10 .any ((OpenSpec.ofChange Rows.senseBackSpec).preRow enc Tryd.prog Tryd.f10 Rows.senseBackRow.domain false Rows.senseBackRow.laid) (((OpenSpec.ofChange Rows.senseBackSpec).at F).post enc Tryd.prog Tryd.f10 false true false false) := by
  obtain ⟨places, hx⟩ := headgatelaw16_SenseBack.reads os enc
  refine returnsInHanded_of_row (C := Tryd.checked) (s := OpenSpec.ofChange Rows.senseBackSpec) headgatelaw16_SenseBack.own started (by kernel_rfl) Tryd.func10
    (witness_row_at (enc := enc) (C := Tryd.checked) false (headgatelaw16_SenseBack.laidWorld os) #[Value.agg #[.int .i64 0, .int .i64 0, .int .i64 0, .int .i64 0], Value.string ByteArray.empty] rfl (by kernel_rfl) (by kernel_rfl) (by kernel_rfl)
      (OpenSpec.preRow_of_cond 8 hx (by kernel_rfl) (fun k hk => by cases hk) (by kernel_rfl) (headgatelaw16_SenseBack.laid_met os))) ?_
  intro W base args ds gs before hval0 hW hcnd _ hsz0 hL _ _
  have hsz : (DataW.weightsEach Tryd.prog (Tryd.f10.params.toList ++ Rows.senseBackSpec.plain.varTypes Tryd.prog) (ds ++ gs)).all (· ≤ reachBytes) = true := hsz0
  have hLl : laidMet Tryd.prog Rows.senseBackRow.laid W := hL
  have hval : ∀ (j : Nat) t v, Tryd.f10.params[j]? = some t → args[j]? = some v → Value.okWide Tryd.prog W .any base t v := hval0
  have hW' := hW
  obtain ⟨p, q, hA0, hV, rfl, hfz, hnd⟩ := hW
  have hA : DataW.TrodAll enc Tryd.prog W 0 (fun _ => true) true Tryd.f10.params.toList args.toList ds p := hA0
  rw [Tryd.params10] at hA hval hsz
  obtain ⟨v0, vs0, d0, ds0, p0, q0, hargs, rfl, rfl, h0, r0⟩ := trodAll_cons hA
  obtain ⟨v1, vs1, d1, ds1, p1, q1, rfl, rfl, rfl, h1, r1⟩ := trodAll_cons r0
  obtain ⟨rfl, rfl, rfl⟩ := trodAll_nil r1
  obtain rfl : args = #[v0, v1] := by cases args; simp_all
  obtain ⟨rfl, rfl⟩ := trodVars_none hV
  have k0 := h0
  obtain ⟨a0, hc0, o0⟩ := (headgatelaw16_SenseBack.op0 W).arg h0 hsz (j := 0) rfl rfl
  obtain rfl := okWide_agg (by kernel_rfl) (hval 0 66 v0 rfl rfl) hc0
  have k1 := h1
  obtain ⟨a1, hc1, o1⟩ := (headgatelaw16_SenseBack.op1 W).arg h1 hsz (j := 1) rfl rfl
  obtain rfl := okWide_one (by kernel_rfl) (hval 1 9 v1 rfl rfl) hc1
  clear hA0 hval0 hsz0 hsz
  obtain ⟨K, hK⟩ := headgatelaw16_SenseBack.pure a0 a1 o0 o1
  refine (headgatelaw16_SenseBack.calls K a0 a1  true W (headgatelaw16_SenseBack.laid3 hLl)  hK).mono fun e W' ⟨he, HW⟩ => ?_
  have bel := HW.below
  subst he
  exact ⟨_, rfl, _, _, _, [], _, [], hW', trodAll_mk1 (shut_bool Tryd.underlying4 _), (trodAll_cons_mk (Below.trod headgatelaw16_SenseBack.laidOut (by kernel_rfl) (of_decide_eq_true (by kernel_rfl)) k0 bel (trod_blocks k0)) (trodAll_cons_mk (Below.trod headgatelaw16_SenseBack.laidOut (by kernel_rfl) (of_decide_eq_true (by kernel_rfl)) k1 bel (trod_blocks k1)) trodAll_mk0)), rfl, bel.frame _, fun h => by cases h⟩
end Go.Proofs.YthjjbkgifelooaaDoor.F
namespace Go.Proofs.YthjjbkgifelooaaDoor
open Go Go.RowKit Go.ChangeShapes Go.WideShapes Go.ChangeAt Go.Proofs.YthjjbkgifelooaaDoor.X Go.Proofs.YthjjbkgifelooaaDoor.F
theorem senseBack_said : Rows.SenseBackSaid :=
  OpenClaim.holds_of_cond 10 Tryd.f10 rfl rfl rfl rfl rfl rfl rfl ⟨rfl, rfl, rfl, rfl, rfl⟩ rfl rfl rfl rfl rfl (by kernel_rfl) Tryd.func10 (by kernel_rfl)
    (of_decide_eq_true (by kernel_rfl)) (by unfold Func.isWrapper; first | (rw [if_pos (by decide +kernel)]; kernel_rfl) | (rw [if_neg (by decide +kernel)]; exact ⟨rfl, rfl⟩))
    (fun os started H enc _ F => by rw [OpenClaim.pre_eq_preRow]; exact headgatelaw16_SenseBack.lifted os started H enc F)
theorem senseBack_plain (f : FuncId) (fn : Func) (hf : Tryd.pinned.checked.prog.funcNamed "headgate/headgatelaw16.SenseBack" = some f) (hfn : Tryd.pinned.checked.prog.funcs[f]? = some fn) :
    false = Tryd.pinned.checked.prog.looks [] ∧ ∀ (j : Nat) t, fn.params[j]? = some t → Tryd.pinned.checked.prog.wantsStandIn t = false := by
  obtain rfl : f = 10 := Option.some.inj ((show Tryd.prog.funcNamed "headgate/headgatelaw16.SenseBack" = some 10 by kernel_rfl).symm.trans hf) |>.symm
  obtain rfl : fn = Tryd.f10 := (Option.some.inj (Tryd.func10.symm.trans hfn)).symm
  refine ⟨by kernel_rfl, fun j t ht => ?_⟩
  rw [Tryd.params10] at ht
  have hm := Array.mem_of_getElem? ht
  simp only [List.mem_toArray, List.mem_cons, List.not_mem_nil, or_false] at hm
  rcases hm with rfl | rfl
  · exact (show Tryd.prog.wantsStandIn 66 = false by kernel_rfl)
  · exact (show Tryd.prog.wantsStandIn 9 = false by kernel_rfl)
/-- The card. -/
theorem senseBack_card : Rows.SenseBackCardSaid :=
  Claim7.holds_tied_plain_at .later [] _ _ _ _ senseBack_said (fun _ h => by cases h) (by kernel_rfl) (fun _ h => by cases h) senseBack_row_tie rfl ⟨rfl, rfl⟩ (by kernel_rfl) rfl senseBack_plain (by kernel_rfl)
end Go.Proofs.YthjjbkgifelooaaDoor
