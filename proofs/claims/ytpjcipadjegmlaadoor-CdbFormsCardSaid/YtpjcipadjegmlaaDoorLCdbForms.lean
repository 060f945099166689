/- headgate/headgatelaw15.CdbForms returns true for every input, and what it is handed reads as before. No condition. -/
import Derived.Test.YtpjcipadjegmlaaDoorCards
import Derived.Test.YtpjcipadjegmlaaDoorTie
import Derived.Test.YtpjcipadjegmlaaDoorXLaid
import Derived.Test.YtpjcipadjegmlaaDoorXRow
import Derived.Test.YtpjcipadjegmlaaDoorF8
import Derived.Test.YtpjcipadjegmlaaDoorUCdbForms
namespace Go.Proofs.YtpjcipadjegmlaaDoor.F
open Go Go.RowKit Go.ChangeShapes Go.WideShapes Go.ChangeAt Go.Proofs.YtpjcipadjegmlaaDoor.X
set_option linter.unusedVariables false
set_option linter.unusedSimpArgs false
theorem headgatelaw15_CdbForms.op0 (W : World) : XTold Tryd.prog W 25 (fun cs => ∃ (a0 : Int), cs = [.int .u32 a0] ∧ (0 ≤ a0 ∧ a0 ≤ 4294967295)) := by
  refine XTold.mono (XTold.int Tryd.underlying25) ?_
  rintro cs ⟨n1, rfl, w1⟩
  exact ⟨n1, rfl, bounds_u32 w1⟩
theorem headgatelaw15_CdbForms.op1 (W : World) : XTold Tryd.prog W 25 (fun cs => ∃ (a1 : Int), cs = [.int .u32 a1] ∧ (0 ≤ a1 ∧ a1 ≤ 4294967295)) := by
  refine XTold.mono (XTold.int Tryd.underlying25) ?_
  rintro cs ⟨n1, rfl, w1⟩
  exact ⟨n1, rfl, bounds_u32 w1⟩
theorem headgatelaw15_CdbForms.op2 (W : World) : XTold Tryd.prog W 4 (fun cs => ∃ (a2 : Bool), cs = [.bool a2] ∧ (True)) := by
  refine XTold.mono (XTold.bool Tryd.underlying4) ?_
  rintro cs ⟨n1, rfl⟩
  exact ⟨n1, rfl, trivial⟩
theorem headgatelaw15_CdbForms.own : ownKnob Tryd.prog.godebug = none := by kernel_rfl
theorem headgatelaw15_CdbForms.laidOut : laidOutB Tryd.prog = true := by kernel_rfl
theorem headgatelaw15_CdbForms.flat1 : XFlat Tryd.prog 91 := (XFlat.array Tryd.underlying91 (XFlat.struct Tryd.underlying75 ⟨(XFlat.int Tryd.underlying3), (XFlat.int Tryd.underlying3), (XFlat.struct Tryd.underlying73 ⟨(XFlat.int Tryd.underlying3), (XFlat.int Tryd.underlying3), trivial⟩ (by kernel_rfl)), (XFlat.struct Tryd.underlying73 ⟨(XFlat.int Tryd.underlying3), (XFlat.int Tryd.underlying3), trivial⟩ (by kernel_rfl)), (XFlat.struct Tryd.underlying73 ⟨(XFlat.int Tryd.underlying3), (XFlat.int Tryd.underlying3), trivial⟩ (by kernel_rfl)), trivial⟩ (by kernel_rfl)) (by kernel_rfl))
theorem headgatelaw15_CdbForms.laid1 {W : World} (h : laidMet Tryd.prog Rows.cdbFormsRow.laid W) : CA W 1 0 (encs T_cdb_form.enc G_cdb_forms).toArray :=
  laid_ca h (name := "headgate/cdb.forms") (d := Rows.laid_headgate_cdb_forms) rfl (by kernel_rfl) (by kernel_rfl) headgatelaw15_CdbForms.flat1 (by kernel_rfl)
theorem headgatelaw15_CdbForms.flat0 : XFlat Tryd.prog 69 := (XFlat.array Tryd.underlying69 (XFlat.int Tryd.underlying3) (by kernel_rfl))
theorem headgatelaw15_CdbForms.laid0 {W : World} (h : laidMet Tryd.prog Rows.cdbFormsRow.laid W) : CA W 0 0 (encs (encI .i64) G_cdb_numbers).toArray :=
  laid_ca h (name := "headgate/cdb.numbers") (d := Rows.laid_headgate_cdb_numbers) rfl (by kernel_rfl) (by kernel_rfl) headgatelaw15_CdbForms.flat0 (by kernel_rfl)
noncomputable def headgatelaw15_CdbForms.laidWorld (os : Os) : World :=
  { World.holding Tryd.prog os ⟨#[], #[], []⟩ with heap := (((World.holding Tryd.prog os ⟨#[], #[], []⟩).heap).modify 1 (putT (encs T_cdb_form.enc G_cdb_forms).toArray)).modify 0 (putT (encs (encI .i64) G_cdb_numbers).toArray) }
theorem headgatelaw15_CdbForms.laid_met (os : Os) : laidMet Tryd.prog Rows.cdbFormsRow.laid ((headgatelaw15_CdbForms.laidWorld os).forCall (fun _ _ => 0) ⟨#[], #[Value.int .u32 0, Value.int .u32 0, Value.bool false], []⟩).memory :=
  laidMet_of_run' 8 (by kernel_rfl) (by kernel_rfl)
theorem headgatelaw15_CdbForms.reads (os : Os) {H : Type} (enc : TypeId × Value → H) : ∃ places, DataW.whole enc Tryd.prog ((headgatelaw15_CdbForms.laidWorld os).forCall (fun _ _ => 0) ⟨#[], #[Value.int .u32 0, Value.int .u32 0, Value.bool false], []⟩).memory Tryd.f8.params.toList Rows.cdbFormsSpec.vars false (#[Value.int .u32 0, Value.int .u32 0, Value.bool false] : Array Value).toList 8 = some ([.lit (.int .u32 0), .lit (.int .u32 0), .lit (.bool false)], [], places) :=
  ⟨[], by kernel_rfl⟩
set_option maxRecDepth 100000 in
theorem headgatelaw15_CdbForms.lifted (os : Os) (started : os.Started) (H : Type) (enc : TypeId × Value → H) (F : Stop.Interp) :
    ReturnsInHanded {} Tryd.checked os 8 .any ((OpenSpec.ofChange Rows.cdbFormsSpec).preRow enc Tryd.prog Tryd.f8 Rows.cdbFormsRow.domain false Rows.cdbFormsRow.laid) (((OpenSpec.ofChange Rows.cdbFormsSpec).at F).post enc Tryd.prog Tryd.f8 false true false false) := by
  obtain ⟨places, hx⟩ := headgatelaw15_CdbForms.reads os enc
  refine returnsInHanded_of_row (C := Tryd.checked) (s := OpenSpec.ofChange Rows.cdbFormsSpec) headgatelaw15_CdbForms.own started (by kernel_rfl) Tryd.func8
    (witness_row_at (enc := enc) (C := Tryd.checked) false (headgatelaw15_CdbForms.laidWorld os) #[Value.int .u32 0, Value.int .u32 0, Value.bool false] rfl (by kernel_rfl) (by kernel_rfl) (by kernel_rfl)
      (OpenSpec.preRow_of_cond 8 hx (by kernel_rfl) (fun k hk => by cases hk) (by kernel_rfl) (headgatelaw15_CdbForms.laid_met os))) ?_
  intro W base args ds gs before hval0 hW hcnd _ hsz0 hL _ _
  have hsz : (DataW.weightsEach Tryd.prog (Tryd.f8.params.toList ++ Rows.cdbFormsSpec.plain.varTypes Tryd.prog) (ds ++ gs)).all (· ≤ reachBytes) = true := hsz0
  have hLl : laidMet Tryd.prog Rows.cdbFormsRow.laid W := hL
  have hval : ∀ (j : Nat) t v, Tryd.f8.params[j]? = some t → args[j]? = some v → Value.okWide Tryd.prog W .any base t v := hval0
  have hW' := hW
  obtain ⟨p, q, hA0, hV, rfl, hfz, hnd⟩ := hW
  have hA : DataW.TrodAll enc Tryd.prog W 0 (fun _ => true) true Tryd.f8.params.toList args.toList ds p := hA0
  rw [Tryd.params8] at hA hval hsz
  obtain ⟨v0, vs0, d0, ds0, p0, q0, hargs, rfl, rfl, h0, r0⟩ := trodAll_cons hA
  obtain ⟨v1, vs1, d1, ds1, p1, q1, rfl, rfl, rfl, h1, r1⟩ := trodAll_cons r0
  obtain ⟨v2, vs2, d2, ds2, p2, q2, rfl, rfl, rfl, h2, r2⟩ := trodAll_cons r1
  obtain ⟨rfl, rfl, rfl⟩ := trodAll_nil r2
  obtain rfl : args = #[v0, v1, v2] := by cases args; simp_all
  obtain ⟨rfl, rfl⟩ := trodVars_none hV
  have k0 := h0
  obtain ⟨a0, hc0, o0⟩ := (headgatelaw15_CdbForms.op0 W).arg h0 hsz (j := 0) rfl rfl
  obtain rfl := okWide_one (by kernel_rfl) (hval 0 25 v0 rfl rfl) hc0
  have k1 := h1
  obtain ⟨a1, hc1, o1⟩ := (headgatelaw15_CdbForms.op1 W).arg h1 hsz (j := 1) rfl rfl
  obtain rfl := okWide_one (by kernel_rfl) (hval 1 25 v1 rfl rfl) hc1
  have k2 := h2
  obtain ⟨a2, hc2, o2⟩ := (headgatelaw15_CdbForms.op2 W).arg h2 hsz (j := 2) rfl rfl
  obtain rfl := okWide_one (by kernel_rfl) (hval 2 4 v2 rfl rfl) hc2
  clear hA0 hval0 hsz0 hsz
  obtain ⟨K, hK⟩ := headgatelaw15_CdbForms.pure a0 a1 a2 o0 o1 o2
  refine (headgatelaw15_CdbForms.calls K a0 a1 a2  true W (headgatelaw15_CdbForms.laid0 hLl) (headgatelaw15_CdbForms.laid1 hLl)  hK).mono fun e W' ⟨he, HW⟩ => ?_
  have bel := HW.below
  subst he
  exact ⟨_, rfl, _, _, _, [], _, [], hW', trodAll_mk1 (shut_bool Tryd.underlying4 _), (trodAll_cons_mk (Below.trod headgatelaw15_CdbForms.laidOut (by kernel_rfl) (of_decide_eq_true (by kernel_rfl)) k0 bel (trod_blocks k0)) (trodAll_cons_mk (Below.trod headgatelaw15_CdbForms.laidOut (by kernel_rfl) (of_decide_eq_true (by kernel_rfl)) k1 bel (trod_blocks k1)) (trodAll_cons_mk (Below.trod headgatelaw15_CdbForms.laidOut (by kernel_rfl) (of_decide_eq_true (by kernel_rfl)) k2 bel (trod_blocks k2)) trodAll_mk0))), rfl, bel.frame _, fun h => by cases h⟩
end Go.Proofs.YtpjcipadjegmlaaDoor.F
namespace Go.Proofs.YtpjcipadjegmlaaDoor
open Go Go.RowKit Go.ChangeShapes Go.WideShapes Go.ChangeAt Go.Proofs.YtpjcipadjegmlaaDoor.X Go.Proofs.YtpjcipadjegmlaaDoor.F
theorem cdbForms_said : Rows.CdbFormsSaid :=
  OpenClaim.holds_of_cond 8 Tryd.f8 rfl rfl rfl rfl rfl rfl rfl ⟨rfl, rfl, rfl, rfl, rfl⟩ rfl rfl rfl rfl rfl (by kernel_rfl) Tryd.func8 (by kernel_rfl)
    (of_decide_eq_true (by kernel_rfl)) (by unfold Func.isWrapper; first | (rw [if_pos (by decide +kernel)]; kernel_rfl) | (rw [if_neg (by decide +kernel)]; exact ⟨rfl, rfl⟩))
    (fun os started H enc _ F => by rw [OpenClaim.pre_eq_preRow]; exact headgatelaw15_CdbForms.lifted os started H enc F)
theorem cdbForms_plain (f : FuncId) (fn : Func) (hf : Tryd.pinned.checked.prog.funcNamed "headgate/headgatelaw15.CdbForms" = some f) (hfn : Tryd.pinned.checked.prog.funcs[f]? = some fn) :
    false = Tryd.pinned.checked.prog.looks [] ∧ ∀ (j : Nat) t, fn.params[j]? = some t → Tryd.pinned.checked.prog.wantsStandIn t = false := by
  obtain rfl : f = 8 := Option.some.inj ((show Tryd.prog.funcNamed "headgate/headgatelaw15.CdbForms" = some 8 by kernel_rfl).symm.trans hf) |>.symm
  obtain rfl : fn = Tryd.f8 := (Option.some.inj (Tryd.func8.symm.trans hfn)).symm
  refine ⟨by kernel_rfl, fun j t ht => ?_⟩
  rw [Tryd.params8] at ht
  have hm := Array.mem_of_getElem? ht
  simp only [List.mem_toArray, List.mem_cons, List.not_mem_nil, or_false] at hm
  rcases hm with rfl | rfl | rfl
  · exact (show Tryd.prog.wantsStandIn 25 = false by kernel_rfl)
  · exact (show Tryd.prog.wantsStandIn 25 = false by kernel_rfl)
  · exact (show Tryd.prog.wantsStandIn 4 = false by kernel_rfl)
/-- The card. -/
theorem cdbForms_card : Rows.CdbFormsCardSaid :=
  Claim7.holds_tied_plain_at .later [] _ _ _ _ cdbForms_said (fun _ h => by cases h) (by kernel_rfl) (fun _ h => by cases h) cdbForms_row_tie rfl ⟨rfl, rfl⟩ (by kernel_rfl) rfl cdbForms_plain (by kernel_rfl)
end Go.Proofs.YtpjcipadjegmlaaDoor
