/- headgate/headgatelaw05.FrameStacks returns true for every input, and what it is handed reads as before. No condition. -/
import Derived.Test.YtdcojinnjpihaaaDoorCards
import Derived.Test.YtdcojinnjpihaaaDoorTie
import Derived.Test.YtdcojinnjpihaaaDoorXLaid
import Derived.Test.YtdcojinnjpihaaaDoorXRow
import Derived.Test.YtdcojinnjpihaaaDoorF6
import Derived.Test.YtdcojinnjpihaaaDoorUFrameStacks
namespace Go.Proofs.YtdcojinnjpihaaaDoor.F
open Go Go.RowKit Go.ChangeShapes Go.WideShapes Go.ChangeAt Go.Proofs.YtdcojinnjpihaaaDoor.X
set_option linter.unusedVariables false
set_option linter.unusedSimpArgs false
theorem headgatelaw05_FrameStacks.op0 (W : World) : XTold Tryd.prog W 42 (fun cs => ∃ (a0 : List ByteArray) (A0_0 : Option Addr) (c0_0 : Nat), cs = [.slice A0_0 a0.length c0_0] ∧ (Spot (.slice A0_0 a0.length c0_0) → Rd 1 W (.slice A0_0 a0.length c0_0) a0.length (encs encS a0)) ∧ (a0.length * 16 ≤ 140737488351232 ∧ ∀ y ∈ a0, y.size ≤ 140737488351232)) := by
  refine XTold.mono (XTold.slice (sz := 1) Tryd.underlying42 (by kernel_rfl) (XTold.str Tryd.underlying9)) ?_
  rintro cs ⟨A1, c1, rows1, rfl, hR1, hr1, hb1, hc1⟩
  obtain ⟨xs1, rfl, hx1⟩ := rows_of (f := encS) (q := fun y => y.size ≤ 140737488351232) (fun row hm => by obtain ⟨n101, rfl, w101⟩ := hr1 row hm; exact ⟨n101, rfl, w101⟩)
  simp only [List.length_map] at hR1 hb1 hc1 ⊢
  rw [(by kernel_rfl : Tryd.prog.bytesOf 9 = 16)] at hb1
  exact ⟨xs1, A1, c1, rfl, fun h => by have := hR1 h; rwa [← List.flatMap_def] at this, ⟨hb1, hx1⟩⟩
theorem headgatelaw05_FrameStacks.op1 (W : World) : XTold Tryd.prog W 22 (fun cs => ∃ (a1 : Int), cs = [.int .u64 a1] ∧ (0 ≤ a1 ∧ a1 ≤ 18446744073709551615)) := by
  refine XTold.mono (XTold.int Tryd.underlying22) ?_
  rintro cs ⟨n1, rfl, w1⟩
  exact ⟨n1, rfl, bounds_u64 w1⟩
theorem headgatelaw05_FrameStacks.own : ownKnob Tryd.prog.godebug = none := by kernel_rfl
theorem headgatelaw05_FrameStacks.laidOut : laidOutB Tryd.prog = true := by kernel_rfl
theorem headgatelaw05_FrameStacks.flat0 : XFlat Tryd.prog 95 := (XFlat.array Tryd.underlying95 (XFlat.int Tryd.underlying75) (by kernel_rfl))
theorem headgatelaw05_FrameStacks.laid0 {W : World} (h : laidMet Tryd.prog Rows.frameStacksRow.laid W) : CA W 0 0 (encs (encIK .u32) G_crc_steps).toArray :=
  laid_ca h (name := "headgate/crc.steps") (d := Rows.laid_headgate_crc_steps) rfl (by kernel_rfl) (by kernel_rfl) headgatelaw05_FrameStacks.flat0 (by kernel_rfl)
noncomputable def headgatelaw05_FrameStacks.laidWorld (os : Os) : World :=
  { World.holding Tryd.prog os ⟨#[], #[], []⟩ with heap := ((((World.holding Tryd.prog os ⟨#[], #[], []⟩).heap).modify 0 (putT (encs (encIK .u32) G_crc_steps).toArray)).modify 2 (putT (encs T_utf8_acceptRange.enc G_utf8_acceptRanges).toArray)).modify 1 (putT (encs (encIK .u8) G_utf8_first).toArray) }
theorem headgatelaw05_FrameStacks.laid_met (os : Os) : laidMet Tryd.prog Rows.frameStacksRow.laid ((headgatelaw05_FrameStacks.laidWorld os).forCall (fun _ _ => 0) ⟨#[], #[Value.slice none 0 0, Value.int .u64 0], []⟩).memory :=
  laidMet_of_run' 8 (by kernel_rfl) (by kernel_rfl)
theorem headgatelaw05_FrameStacks.reads (os : Os) {H : Type} (enc : TypeId × Value → H) : ∃ places, DataW.whole enc Tryd.prog ((headgatelaw05_FrameStacks.laidWorld os).forCall (fun _ _ => 0) ⟨#[], #[Value.slice none 0 0, Value.int .u64 0], []⟩).memory Tryd.f6.params.toList Rows.frameStacksSpec.vars false (#[Value.slice none 0 0, Value.int .u64 0] : Array Value).toList 8 = some ([.nil, .lit (.int .u64 0)], [], places) :=
  ⟨[], by kernel_rfl⟩
set_option maxRecDepth 100000 in
theorem headgatelaw05_FrameStacks.lifted (os : Os) (started : os.Started) (H : Type) (enc : TypeId × Value → H) (F : Stop.Interp) :
    ReturnsInHanded {} Tryd.checked os 6 .any ((OpenSpec.ofChange Rows.frameStacksSpec).preRow enc Tryd.prog Tryd.f6 Rows.frameStacksRow.domain false Rows.frameStacksRow.laid) (((OpenSpec.ofChange Rows.frameStacksSpec).at F).post enc Tryd.prog Tryd.f6 false true false false) := by
  obtain ⟨places, hx⟩ := headgatelaw05_FrameStacks.reads os enc
  refine returnsInHanded_of_row (C := Tryd.checked) (s := OpenSpec.ofChange Rows.frameStacksSpec) headgatelaw05_FrameStacks.own started (by kernel_rfl) Tryd.func6
    (witness_row_at (enc := enc) (C := Tryd.checked) false (headgatelaw05_FrameStacks.laidWorld os) #[Value.slice none 0 0, Value.int .u64 0] rfl (by kernel_rfl) (by kernel_rfl) (by kernel_rfl)
      (OpenSpec.preRow_of_cond 8 hx (by kernel_rfl) (fun k hk => by cases hk) (by kernel_rfl) (headgatelaw05_FrameStacks.laid_met os))) ?_
  intro W base args ds gs before hval0 hW hcnd _ hsz0 hL _ _
  have hsz : (DataW.weightsEach Tryd.prog (Tryd.f6.params.toList ++ Rows.frameStacksSpec.plain.varTypes Tryd.prog) (ds ++ gs)).all (· ≤ reachBytes) = true := hsz0
  have hLl : laidMet Tryd.prog Rows.frameStacksRow.laid W := hL
  have hval : ∀ (j : Nat) t v, Tryd.f6.params[j]? = some t → args[j]? = some v → Value.okWide Tryd.prog W .any base t v := hval0
  have hW' := hW
  obtain ⟨p, q, hA0, hV, rfl, hfz, hnd⟩ := hW
  have hA : DataW.TrodAll enc Tryd.prog W 0 (fun _ => true) true Tryd.f6.params.toList args.toList ds p := hA0
  rw [Tryd.params6] at hA hval hsz
  obtain ⟨v0, vs0, d0, ds0, p0, q0, hargs, rfl, rfl, h0, r0⟩ := trodAll_cons hA
  obtain ⟨v1, vs1, d1, ds1, p1, q1, rfl, rfl, rfl, h1, r1⟩ := trodAll_cons r0
  obtain ⟨rfl, rfl, rfl⟩ := trodAll_nil r1
  obtain rfl : args = #[v0, v1] := by cases args; simp_all
  obtain ⟨rfl, rfl⟩ := trodVars_none hV
  have k0 := h0
  obtain ⟨a0, A0_0, c0_0, hc0, hs0_0, o0⟩ := (headgatelaw05_FrameStacks.op0 W).arg h0 hsz (j := 0) rfl rfl
  have sp0 := okWide_spot (hval 0 42 v0 rfl rfl)
  rw [hc0] at sp0
  have hr0_0 := hs0_0 (sp0 _ (by simp))
  obtain rfl := okWide_one (by kernel_rfl) (hval 0 42 v0 rfl rfl) hc0
  have k1 := h1
  obtain ⟨a1, hc1, o1⟩ := (headgatelaw05_FrameStacks.op1 W).arg h1 hsz (j := 1) rfl rfl
  obtain rfl := okWide_one (by kernel_rfl) (hval 1 22 v1 rfl rfl) hc1
  clear hA0 hval0 hsz0 hsz
  obtain ⟨K, hK⟩ := headgatelaw05_FrameStacks.pure a0 a1 o0 o1
  refine (headgatelaw05_FrameStacks.calls K a0 a1 A0_0 c0_0 true W (headgatelaw05_FrameStacks.laid0 hLl) hr0_0 hK).mono fun e W' ⟨he, HW⟩ => ?_
  have bel := HW.below
  subst he
  exact ⟨_, rfl, _, _, _, [], _, [], hW', trodAll_mk1 (shut_bool Tryd.underlying4 _), (trodAll_cons_mk (Below.trod headgatelaw05_FrameStacks.laidOut (by kernel_rfl) (of_decide_eq_true (by kernel_rfl)) k0 bel (trod_blocks k0)) (trodAll_cons_mk (Below.trod headgatelaw05_FrameStacks.laidOut (by kernel_rfl) (of_decide_eq_true (by kernel_rfl)) k1 bel (trod_blocks k1)) trodAll_mk0)), rfl, bel.frame _, fun h => by cases h⟩
end Go.Proofs.YtdcojinnjpihaaaDoor.F
namespace Go.Proofs.YtdcojinnjpihaaaDoor
open Go Go.RowKit Go.ChangeShapes Go.WideShapes Go.ChangeAt Go.Proofs.YtdcojinnjpihaaaDoor.X Go.Proofs.YtdcojinnjpihaaaDoor.F
theorem frameStacks_said : Rows.FrameStacksSaid :=
  OpenClaim.holds_of_cond 6 Tryd.f6 rfl rfl rfl rfl rfl rfl rfl ⟨rfl, rfl, rfl, rfl, rfl⟩ rfl rfl rfl rfl rfl (by kernel_rfl) Tryd.func6 (by kernel_rfl)
    (of_decide_eq_true (by kernel_rfl)) (by unfold Func.isWrapper; first | (rw [if_pos (by decide +kernel)]; kernel_rfl) | (rw [if_neg (by decide +kernel)]; exact ⟨rfl, rfl⟩))
    (fun os started H enc _ F => by rw [OpenClaim.pre_eq_preRow]; exact headgatelaw05_FrameStacks.lifted os started H enc F)
theorem frameStacks_plain (f : FuncId) (fn : Func) (hf : Tryd.pinned.checked.prog.funcNamed "headgate/headgatelaw05.FrameStacks" = some f) (hfn : Tryd.pinned.checked.prog.funcs[f]? = some fn) :
    true = Tryd.pinned.checked.prog.looks [] ∧ ∀ (j : Nat) t, fn.params[j]? = some t → Tryd.pinned.checked.prog.wantsStandIn t = false := by
  obtain rfl : f = 6 := Option.some.inj ((show Tryd.prog.funcNamed "headgate/headgatelaw05.FrameStacks" = some 6 by kernel_rfl).symm.trans hf) |>.symm
  obtain rfl : fn = Tryd.f6 := (Option.some.inj (Tryd.func6.symm.trans hfn)).symm
  refine ⟨by kernel_rfl, fun j t ht => ?_⟩
  rw [Tryd.params6] at ht
  have hm := Array.mem_of_getElem? ht
  simp only [List.mem_toArray, List.mem_cons, List.not_mem_nil, or_false] at hm
  rcases hm with rfl | rfl
  · exact (show Tryd.prog.wantsStandIn 42 = false by kernel_rfl)
  · exact (show Tryd.prog.wantsStandIn 22 = false by kernel_rfl)
/-- The card. -/
theorem frameStacks_card : Rows.FrameStacksCardSaid :=
  Claim7.holds_tied_plain_at .later [] _ _ _ _ frameStacks_said (fun _ h => by cases h) (by kernel_rfl) (fun _ h => by cases h) frameStacks_row_tie rfl ⟨rfl, rfl⟩ (by kernel_rfl) rfl frameStacks_plain (by kernel_rfl)
end Go.Proofs.YtdcojinnjpihaaaDoor
