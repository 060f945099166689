/- headgate/headgatelaw05.FrameBack returns true for every input, and what it is handed reads as before. No condition. -/
import Derived.Test.YtdcojinnjpihaaaDoorCards
import Derived.Test.YtdcojinnjpihaaaDoorTie
import Derived.Test.YtdcojinnjpihaaaDoorXLaid
import Derived.Test.YtdcojinnjpihaaaDoorXRow
import Derived.Test.YtdcojinnjpihaaaDoorF8
import Derived.Test.YtdcojinnjpihaaaDoorUFrameBack
namespace Go.Proofs.YtdcojinnjpihaaaDoor.F
open Go Go.RowKit Go.ChangeShapes Go.WideShapes Go.ChangeAt Go.Proofs.YtdcojinnjpihaaaDoor.X
set_option linter.unusedVariables false
set_option linter.unusedSimpArgs false
theorem headgatelaw05_FrameBack.op0 (W : World) : XTold Tryd.prog W 22 (fun cs => ∃ (a0 : Int), cs = [.int .u64 a0] ∧ (0 ≤ a0 ∧ a0 ≤ 18446744073709551615)) := by
  refine XTold.mono (XTold.int Tryd.underlying22) ?_
  rintro cs ⟨n1, rfl, w1⟩
  exact ⟨n1, rfl, bounds_u64 w1⟩
theorem headgatelaw05_FrameBack.op1 (W : World) : XTold Tryd.prog W 55 (fun cs => ∃ (a1 : T_arr2_9), cs = [.string a1.f0, .string a1.f1] ∧ (a1.ok)) := by
  refine XTold.mono (XTold.array Tryd.underlying55 (XTold.str Tryd.underlying9) (by kernel_rfl)) ?_
  rintro cs ⟨_, _, rfl, ⟨n2, rfl, w2⟩, ⟨_, _, rfl, ⟨n3, rfl, w3⟩, rfl⟩⟩
  exact ⟨(⟨n2, n3⟩ : T_arr2_9), rfl, ⟨w2, w3⟩⟩
theorem headgatelaw05_FrameBack.op2 (W : World) : XTold Tryd.prog W 44 (fun cs => ∃ (a2 : List T_api_Write) (A2_0 : Option Addr) (c2_0 : Nat), cs = [.slice A2_0 a2.length c2_0] ∧ (Spot (.slice A2_0 a2.length c2_0) → Rd 2 W (.slice A2_0 a2.length c2_0) a2.length (encs T_api_Write.enc a2)) ∧ (a2.length * 24 ≤ 140737488351232 ∧ ∀ y ∈ a2, y.ok)) := by
  refine XTold.mono (XTold.slice (sz := 2) Tryd.underlying44 (by kernel_rfl) (XTold.struct (Rs := [_, _]) Tryd.underlying46 ⟨(XTold.int Tryd.underlying3), (XTold.str Tryd.underlying9), trivial⟩ (by kernel_rfl))) ?_
  rintro cs ⟨A1, c1, rows1, rfl, hR1, hr1, hb1, hc1⟩
  obtain ⟨xs1, rfl, hx1⟩ := rows_of (f := T_api_Write.enc) (q := fun y => y.ok) (fun row hm => by obtain ⟨_, _, rfl, ⟨n102, rfl, w102⟩, ⟨_, _, rfl, ⟨n103, rfl, w103⟩, rfl⟩⟩ := hr1 row hm; exact ⟨(⟨n102, n103⟩ : T_api_Write), rfl, ⟨bounds_i64 w102, w103⟩⟩)
  simp only [List.length_map] at hR1 hb1 hc1 ⊢
  rw [(by kernel_rfl : Tryd.prog.bytesOf 46 = 24)] at hb1
  exact ⟨xs1, A1, c1, rfl, fun h => by have := hR1 h; rwa [← List.flatMap_def] at this, ⟨hb1, hx1⟩⟩
theorem headgatelaw05_FrameBack.own : ownKnob Tryd.prog.godebug = none := by kernel_rfl
theorem headgatelaw05_FrameBack.laidOut : laidOutB Tryd.prog = true := by kernel_rfl
theorem headgatelaw05_FrameBack.flat0 : XFlat Tryd.prog 95 := (XFlat.array Tryd.underlying95 (XFlat.int Tryd.underlying75) (by kernel_rfl))
theorem headgatelaw05_FrameBack.laid0 {W : World} (h : laidMet Tryd.prog Rows.frameBackRow.laid W) : CA W 0 0 (encs (encIK .u32) G_crc_steps).toArray :=
  laid_ca h (name := "headgate/crc.steps") (d := Rows.laid_headgate_crc_steps) rfl (by kernel_rfl) (by kernel_rfl) headgatelaw05_FrameBack.flat0 (by kernel_rfl)
noncomputable def headgatelaw05_FrameBack.laidWorld (os : Os) : World :=
  { World.holding Tryd.prog os ⟨#[], #[], []⟩ with heap := ((((World.holding Tryd.prog os ⟨#[], #[], []⟩).heap).modify 0 (putT (encs (encIK .u32) G_crc_steps).toArray)).modify 2 (putT (encs T_utf8_acceptRange.enc G_utf8_acceptRanges).toArray)).modify 1 (putT (encs (encIK .u8) G_utf8_first).toArray) }
theorem headgatelaw05_FrameBack.laid_met (os : Os) : laidMet Tryd.prog Rows.frameBackRow.laid ((headgatelaw05_FrameBack.laidWorld os).forCall (fun _ _ => 0) ⟨#[], #[Value.int .u64 0, Value.agg #[.string ByteArray.empty, .string ByteArray.empty], Value.slice none 0 0], []⟩).memory :=
  laidMet_of_run' 8 (by kernel_rfl) (by kernel_rfl)
theorem headgatelaw05_FrameBack.reads (os : Os) {H : Type} (enc : TypeId × Value → H) : ∃ places, DataW.whole enc Tryd.prog ((headgatelaw05_FrameBack.laidWorld os).forCall (fun _ _ => 0) ⟨#[], #[Value.int .u64 0, Value.agg #[.string ByteArray.empty, .string ByteArray.empty], Value.slice none 0 0], []⟩).memory Tryd.f8.params.toList Rows.frameBackSpec.vars false (#[Value.int .u64 0, Value.agg #[.string ByteArray.empty, .string ByteArray.empty], Value.slice none 0 0] : Array Value).toList 8 = some ([.lit (.int .u64 0), .agg [.lit (.string []), .lit (.string [])], .nil], [], places) :=
  ⟨[], by kernel_rfl⟩
set_option maxRecDepth 100000 in
theorem headgatelaw05_FrameBack.lifted (os : Os) (started : os.Started) (H : Type) (enc : TypeId × Value → H) (F : Stop.Interp) :
    ReturnsInHanded {} Tryd.checked os 8 .any ((OpenSpec.ofChange Rows.frameBackSpec).preRow enc Tryd.prog Tryd.f8 Rows.frameBackRow.domain false Rows.frameBackRow.laid) (((OpenSpec.ofChange Rows.frameBackSpec).at F).post enc Tryd.prog Tryd.f8 false true false false) := by
  obtain ⟨places, hx⟩ := headgatelaw05_FrameBack.reads os enc
  refine returnsInHanded_of_row (C := Tryd.checked) (s := OpenSpec.ofChange Rows.frameBackSpec) headgatelaw05_FrameBack.own started (by kernel_rfl) Tryd.func8
    (witness_row_at (enc := enc) (C := Tryd.checked) false (headgatelaw05_FrameBack.laidWorld os) #[Value.int .u64 0, Value.agg #[.string ByteArray.empty, .string ByteArray.empty], Value.slice none 0 0] rfl (by kernel_rfl) (by kernel_rfl) (by kernel_rfl)
      (OpenSpec.preRow_of_cond 8 hx (by kernel_rfl) (fun k hk => by cases hk) (by kernel_rfl) (headgatelaw05_FrameBack.laid_met os))) ?_
  intro W base args ds gs before hval0 hW hcnd _ hsz0 hL _ _
  have hsz : (DataW.weightsEach Tryd.prog (Tryd.f8.params.toList ++ Rows.frameBackSpec.plain.varTypes Tryd.prog) (ds ++ gs)).all (· ≤ reachBytes) = true := hsz0
  have hLl : laidMet Tryd.prog Rows.frameBackRow.laid W := hL
  have hval : ∀ (j : Nat) t v, Tryd.f8.params[j]? = some t → args[j]? = some v → Value.okWide Tryd.prog W .any base t v := hval0
  have hW' := hW
  obtain ⟨p, q, hA0, hV, rfl, hfz, hnd⟩ := hW
  have hA : DataW.TrodAll enc Tryd.prog W 0 (fun _ => true) true Tryd.f8.params.toList args.toList ds p := hA0
  rw [Tryd.params8] at hA hval hsz
  obtain ⟨v0, vs0, d0, ds0, p0, q0, hargs, rfl, rfl, h0, r0⟩ := trodAll_cons hA
  obtain ⟨v1, vs1, d1, ds1, p1, q1, rfl, rfl, rfl, h1, r1⟩ := trodAll_cons r0
  obtain ⟨v2, vs2, d2, ds2, p2, q2, rfl, rfl, rfl, h2, r2⟩ := trodAll_cons r1
  obtain ⟨rfl, rfl, rfl⟩ := trodAll_nil r2
  obtain rfl : args = #[v0, v1, v2] := by cases args; simp_all
  obtain ⟨rfl, rfl⟩ := trodVars_none hV
  have k0 := h0
  obtain ⟨a0, hc0, o0⟩ := (headgatelaw05_FrameBack.op0 W).arg h0 hsz (j := 0) rfl rfl
  obtain rfl := okWide_one (by kernel_rfl) (hval 0 22 v0 rfl rfl) hc0
  have k1 := h1
  obtain ⟨a1, hc1, o1⟩ := (headgatelaw05_FrameBack.op1 W).arg h1 hsz (j := 1) rfl rfl
  obtain rfl := okWide_agg (by kernel_rfl) (hval 1 55 v1 rfl rfl) hc1
  have k2 := h2
  obtain ⟨a2, A2_0, c2_0, hc2, hs2_0, o2⟩ := (headgatelaw05_FrameBack.op2 W).arg h2 hsz (j := 2) rfl rfl
  have sp2 := okWide_spot (hval 2 44 v2 rfl rfl)
  rw [hc2] at sp2
  have hr2_0 := hs2_0 (sp2 _ (by simp))
  obtain rfl := okWide_one (by kernel_rfl) (hval 2 44 v2 rfl rfl) hc2
  clear hA0 hval0 hsz0 hsz
  obtain ⟨K, hK⟩ := headgatelaw05_FrameBack.pure a0 a1 a2 o0 o1 o2
  refine (headgatelaw05_FrameBack.calls K a0 a1 a2 A2_0 c2_0 true W (headgatelaw05_FrameBack.laid0 hLl) hr2_0 hK).mono fun e W' ⟨he, HW⟩ => ?_
  have bel := HW.below
  subst he
  exact ⟨_, rfl, _, _, _, [], _, [], hW', trodAll_mk1 (shut_bool Tryd.underlying4 _), (trodAll_cons_mk (Below.trod headgatelaw05_FrameBack.laidOut (by kernel_rfl) (of_decide_eq_true (by kernel_rfl)) k0 bel (trod_blocks k0)) (trodAll_cons_mk (Below.trod headgatelaw05_FrameBack.laidOut (by kernel_rfl) (of_decide_eq_true (by kernel_rfl)) k1 bel (trod_blocks k1)) (trodAll_cons_mk (Below.trod headgatelaw05_FrameBack.laidOut (by kernel_rfl) (of_decide_eq_true (by kernel_rfl)) k2 bel (trod_blocks k2)) trodAll_mk0))), rfl, bel.frame _, fun h => by cases h⟩
end Go.Proofs.YtdcojinnjpihaaaDoor.F
namespace Go.Proofs.YtdcojinnjpihaaaDoor
open Go Go.RowKit Go.ChangeShapes Go.WideShapes Go.ChangeAt Go.Proofs.YtdcojinnjpihaaaDoor.X Go.Proofs.YtdcojinnjpihaaaDoor.F
theorem frameBack_said : Rows.FrameBackSaid :=
  OpenClaim.holds_of_cond 8 Tryd.f8 rfl rfl rfl rfl rfl rfl rfl ⟨rfl, rfl, rfl, rfl, rfl⟩ rfl rfl rfl rfl rfl (by kernel_rfl) Tryd.func8 (by kernel_rfl)
    (of_decide_eq_true (by kernel_rfl)) (by unfold Func.isWrapper; first | (rw [if_pos (by decide +kernel)]; kernel_rfl) | (rw [if_neg (by decide +kernel)]; exact ⟨rfl, rfl⟩))
    (fun os started H enc _ F => by rw [OpenClaim.pre_eq_preRow]; exact headgatelaw05_FrameBack.lifted os started H enc F)
theorem frameBack_plain (f : FuncId) (fn : Func) (hf : Tryd.pinned.checked.prog.funcNamed "headgate/headgatelaw05.FrameBack" = some f) (hfn : Tryd.pinned.checked.prog.funcs[f]? = some fn) :
    true = Tryd.pinned.checked.prog.looks [] ∧ ∀ (j : Nat) t, fn.params[j]? = some t → Tryd.pinned.checked.prog.wantsStandIn t = false := by
  obtain rfl : f = 8 := Option.some.inj ((show Tryd.prog.funcNamed "headgate/headgatelaw05.FrameBack" = some 8 by kernel_rfl).symm.trans hf) |>.symm
  obtain rfl : fn = Tryd.f8 := (Option.some.inj (Tryd.func8.symm.trans hfn)).symm
  refine ⟨by kernel_rfl, fun j t ht => ?_⟩
  rw [Tryd.params8] at ht
  have hm := Array.mem_of_getElem? ht
  simp only [List.mem_toArray, List.mem_cons, List.not_mem_nil, or_false] at hm
  rcases hm with rfl | rfl | rfl
  · exact (show Tryd.prog.wantsStandIn 22 = false by kernel_rfl)
  · exact (show Tryd.prog.wantsStandIn 55 = false by kernel_rfl)
  · exact (show Tryd.prog.wantsStandIn 44 = false by kernel_rfl)
/-- The card. -/
theorem frameBack_card : Rows.FrameBackCardSaid :=
  Claim7.holds_tied_plain_at .later [] _ _ _ _ frameBack_said (fun _ h => by cases h) (by kernel_rfl) (fun _ h => by cases h) frameBack_row_tie rfl ⟨rfl, rfl⟩ (by kernel_rfl) rfl frameBack_plain (by kernel_rfl)
end Go.Proofs.YtdcojinnjpihaaaDoor
