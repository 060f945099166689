/- headgate/headgatelaw15.CdbShort returns true for every input, and what it is handed reads as before. No condition. -/
import Derived.Test.YtpjcipadjegmlaaDoorCards
import Derived.Test.YtpjcipadjegmlaaDoorTie
import Derived.Test.YtpjcipadjegmlaaDoorXLaid
import Derived.Test.YtpjcipadjegmlaaDoorXRow
import Derived.Test.YtpjcipadjegmlaaDoorF7
import Derived.Test.YtpjcipadjegmlaaDoorUCdbShort
namespace Go.Proofs.YtpjcipadjegmlaaDoor.F
open Go Go.RowKit Go.ChangeShapes Go.WideShapes Go.ChangeAt Go.Proofs.YtpjcipadjegmlaaDoor.X
set_option linter.unusedVariables false
set_option linter.unusedSimpArgs false
theorem headgatelaw15_CdbShort.op0 (W : World) : XTold Tryd.prog W 39 (fun cs => ∃ (a0 : T_cdb_Ask), cs = [.int .i64 a0.f0, .int .i64 a0.f1, .int .i64 a0.f2, .bool a0.f3, .int .i64 a0.f4, .int .i64 a0.f5, .int .i64 a0.f6] ∧ (a0.ok)) := by
  refine XTold.mono (XTold.struct (Rs := [_, _, _, _, _, _, _]) Tryd.underlying39 ⟨(XTold.int Tryd.underlying3), (XTold.int Tryd.underlying3), (XTold.int Tryd.underlying3), (XTold.bool Tryd.underlying4), (XTold.int Tryd.underlying3), (XTold.int Tryd.underlying3), (XTold.int Tryd.underlying3), trivial⟩ (by kernel_rfl)) ?_
  rintro cs ⟨_, _, rfl, ⟨n2, rfl, w2⟩, ⟨_, _, rfl, ⟨n3, rfl, w3⟩, ⟨_, _, rfl, ⟨n4, rfl, w4⟩, ⟨_, _, rfl, ⟨n5, rfl⟩, ⟨_, _, rfl, ⟨n6, rfl, w6⟩, ⟨_, _, rfl, ⟨n7, rfl, w7⟩, ⟨_, _, rfl, ⟨n8, rfl, w8⟩, rfl⟩⟩⟩⟩⟩⟩⟩
  exact ⟨(⟨n2, n3, n4, n5, n6, n7, n8⟩ : T_cdb_Ask), rfl, ⟨bounds_i64 w2, bounds_i64 w3, bounds_i64 w4, trivial, bounds_i64 w6, bounds_i64 w7, bounds_i64 w8⟩⟩
theorem headgatelaw15_CdbShort.op1 (W : World) : XTold Tryd.prog W 3 (fun cs => ∃ (a1 : Int), cs = [.int .i64 a1] ∧ ((-9223372036854775808) ≤ a1 ∧ a1 ≤ 9223372036854775807)) := by
  refine XTold.mono (XTold.int Tryd.underlying3) ?_
  rintro cs ⟨n1, rfl, w1⟩
  exact ⟨n1, rfl, bounds_i64 w1⟩
theorem headgatelaw15_CdbShort.op2 (W : World) : XTold Tryd.prog W 5 (fun cs => ∃ (a2 : Int), cs = [.int .u8 a2] ∧ (0 ≤ a2 ∧ a2 ≤ 255)) := by
  refine XTold.mono (XTold.int Tryd.underlying5) ?_
  rintro cs ⟨n1, rfl, w1⟩
  exact ⟨n1, rfl, bounds_u8 w1⟩
theorem headgatelaw15_CdbShort.own : ownKnob Tryd.prog.godebug = none := by kernel_rfl
theorem headgatelaw15_CdbShort.laidOut : laidOutB Tryd.prog = true := by kernel_rfl
theorem headgatelaw15_CdbShort.flat1 : XFlat Tryd.prog 91 := (XFlat.array Tryd.underlying91 (XFlat.struct Tryd.underlying75 ⟨(XFlat.int Tryd.underlying3), (XFlat.int Tryd.underlying3), (XFlat.struct Tryd.underlying73 ⟨(XFlat.int Tryd.underlying3), (XFlat.int Tryd.underlying3), trivial⟩ (by kernel_rfl)), (XFlat.struct Tryd.underlying73 ⟨(XFlat.int Tryd.underlying3), (XFlat.int Tryd.underlying3), trivial⟩ (by kernel_rfl)), (XFlat.struct Tryd.underlying73 ⟨(XFlat.int Tryd.underlying3), (XFlat.int Tryd.underlying3), trivial⟩ (by kernel_rfl)), trivial⟩ (by kernel_rfl)) (by kernel_rfl))
theorem headgatelaw15_CdbShort.laid1 {W : World} (h : laidMet Tryd.prog Rows.cdbShortRow.laid W) : CA W 1 0 (encs T_cdb_form.enc G_cdb_forms).toArray :=
  laid_ca h (name := "headgate/cdb.forms") (d := Rows.laid_headgate_cdb_forms) rfl (by kernel_rfl) (by kernel_rfl) headgatelaw15_CdbShort.flat1 (by kernel_rfl)
theorem headgatelaw15_CdbShort.flat0 : XFlat Tryd.prog 69 := (XFlat.array Tryd.underlying69 (XFlat.int Tryd.underlying3) (by kernel_rfl))
theorem headgatelaw15_CdbShort.laid0 {W : World} (h : laidMet Tryd.prog Rows.cdbShortRow.laid W) : CA W 0 0 (encs (encI .i64) G_cdb_numbers).toArray :=
  laid_ca h (name := "headgate/cdb.numbers") (d := Rows.laid_headgate_cdb_numbers) rfl (by kernel_rfl) (by kernel_rfl) headgatelaw15_CdbShort.flat0 (by kernel_rfl)
noncomputable def headgatelaw15_CdbShort.laidWorld (os : Os) : World :=
  { World.holding Tryd.prog os ⟨#[], #[], []⟩ with heap := (((World.holding Tryd.prog os ⟨#[], #[], []⟩).heap).modify 1 (putT (encs T_cdb_form.enc G_cdb_forms).toArray)).modify 0 (putT (encs (encI .i64) G_cdb_numbers).toArray) }
theorem headgatelaw15_CdbShort.laid_met (os : Os) : laidMet Tryd.prog Rows.cdbShortRow.laid ((headgatelaw15_CdbShort.laidWorld os).forCall (fun _ _ => 0) ⟨#[], #[Value.agg #[.int .i64 0, .int .i64 0, .int .i64 0, .bool false, .int .i64 0, .int .i64 0, .int .i64 0], Value.int .i64 0, Value.int .u8 0], []⟩).memory :=
  laidMet_of_run' 8 (by kernel_rfl) (by kernel_rfl)
theorem headgatelaw15_CdbShort.reads (os : Os) {H : Type} (enc : TypeId × Value → H) : ∃ places, DataW.whole enc Tryd.prog ((headgatelaw15_CdbShort.laidWorld os).forCall (fun _ _ => 0) ⟨#[], #[Value.agg #[.int .i64 0, .int .i64 0, .int .i64 0, .bool false, .int .i64 0, .int .i64 0, .int .i64 0], Value.int .i64 0, Value.int .u8 0], []⟩).memory Tryd.f7.params.toList Rows.cdbShortSpec.vars false (#[Value.agg #[.int .i64 0, .int .i64 0, .int .i64 0, .bool false, .int .i64 0, .int .i64 0, .int .i64 0], Value.int .i64 0, Value.int .u8 0] : Array Value).toList 8 = some ([.agg [.lit (.int .i64 0), .lit (.int .i64 0), .lit (.int .i64 0), .lit (.bool false), .lit (.int .i64 0), .lit (.int .i64 0), .lit (.int .i64 0)], .lit (.int .i64 0), .lit (.int .u8 0)], [], places) :=
  ⟨[], by kernel_rfl⟩
set_option maxRecDepth 100000 in
theorem headgatelaw15_CdbShort.lifted (os : Os) (started : os.Started) (H : Type) (enc : TypeId × Value → H) (F : Stop.Interp) :
    ReturnsInHanded {} Tryd.checked os 7 .any ((OpenSpec.ofChange Rows.cdbShortSpec).preRow enc Tryd.prog Tryd.f7 Rows.cdbShortRow.domain false Rows.cdbShortRow.laid) (((OpenSpec.ofChange Rows.cdbShortSpec).at F).post enc Tryd.prog Tryd.f7 false true false false) := by
  obtain ⟨places, hx⟩ := headgatelaw15_CdbShort.reads os enc
  refine returnsInHanded_of_row (C := Tryd.checked) (s := OpenSpec.ofChange Rows.cdbShortSpec) headgatelaw15_CdbShort.own started (by kernel_rfl) Tryd.func7
    (witness_row_at (enc := enc) (C := Tryd.checked) false (headgatelaw15_CdbShort.laidWorld os) #[Value.agg #[.int .i64 0, .int .i64 0, .int .i64 0, .bool false, .int .i64 0, .int .i64 0, .int .i64 0], Value.int .i64 0, Value.int .u8 0] rfl (by kernel_rfl) (by kernel_rfl) (by kernel_rfl)
      (OpenSpec.preRow_of_cond 8 hx (by kernel_rfl) (fun k hk => by cases hk) (by kernel_rfl) (headgatelaw15_CdbShort.laid_met os))) ?_
  intro W base args ds gs before hval0 hW hcnd _ hsz0 hL _ _
  have hsz : (DataW.weightsEach Tryd.prog (Tryd.f7.params.toList ++ Rows.cdbShortSpec.plain.varTypes Tryd.prog) (ds ++ gs)).all (· ≤ reachBytes) = true := hsz0
  have hLl : laidMet Tryd.prog Rows.cdbShortRow.laid W := hL
  have hval : ∀ (j : Nat) t v, Tryd.f7.params[j]? = some t → args[j]? = some v → Value.okWide Tryd.prog W .any base t v := hval0
  have hW' := hW
  obtain ⟨p, q, hA0, hV, rfl, hfz, hnd⟩ := hW
  have hA : DataW.TrodAll enc Tryd.prog W 0 (fun _ => true) true Tryd.f7.params.toList args.toList ds p := hA0
  rw [Tryd.params7] at hA hval hsz
  obtain ⟨v0, vs0, d0, ds0, p0, q0, hargs, rfl, rfl, h0, r0⟩ := trodAll_cons hA
  obtain ⟨v1, vs1, d1, ds1, p1, q1, rfl, rfl, rfl, h1, r1⟩ := trodAll_cons r0
  obtain ⟨v2, vs2, d2, ds2, p2, q2, rfl, rfl, rfl, h2, r2⟩ := trodAll_cons r1
  obtain ⟨rfl, rfl, rfl⟩ := trodAll_nil r2
  obtain rfl : args = #[v0, v1, v2] := by cases args; simp_all
  obtain ⟨rfl, rfl⟩ := trodVars_none hV
  have k0 := h0
  obtain ⟨a0, hc0, o0⟩ := (headgatelaw15_CdbShort.op0 W).arg h0 hsz (j := 0) rfl rfl
  obtain rfl := okWide_agg (by kernel_rfl) (hval 0 39 v0 rfl rfl) hc0
  have k1 := h1
  obtain ⟨a1, hc1, o1⟩ := (headgatelaw15_CdbShort.op1 W).arg h1 hsz (j := 1) rfl rfl
  obtain rfl := okWide_one (by kernel_rfl) (hval 1 3 v1 rfl rfl) hc1
  have k2 := h2
  obtain ⟨a2, hc2, o2⟩ := (headgatelaw15_CdbShort.op2 W).arg h2 hsz (j := 2) rfl rfl
  obtain rfl := okWide_one (by kernel_rfl) (hval 2 5 v2 rfl rfl) hc2
  clear hA0 hval0 hsz0 hsz
  obtain ⟨K, hK⟩ := headgatelaw15_CdbShort.pure a0 a1 a2 o0 o1 o2
  refine (headgatelaw15_CdbShort.calls K a0 a1 a2  true W (headgatelaw15_CdbShort.laid0 hLl) (headgatelaw15_CdbShort.laid1 hLl)  hK).mono fun e W' ⟨he, HW⟩ => ?_
  have bel := HW.below
  subst he
  exact ⟨_, rfl, _, _, _, [], _, [], hW', trodAll_mk1 (shut_bool Tryd.underlying4 _), (trodAll_cons_mk (Below.trod headgatelaw15_CdbShort.laidOut (by kernel_rfl) (of_decide_eq_true (by kernel_rfl)) k0 bel (trod_blocks k0)) (trodAll_cons_mk (Below.trod headgatelaw15_CdbShort.laidOut (by kernel_rfl) (of_decide_eq_true (by kernel_rfl)) k1 bel (trod_blocks k1)) (trodAll_cons_mk (Below.trod headgatelaw15_CdbShort.laidOut (by kernel_rfl) (of_decide_eq_true (by kernel_rfl)) k2 bel (trod_blocks k2)) trodAll_mk0))), rfl, bel.frame _, fun h => by cases h⟩
end Go.Proofs.YtpjcipadjegmlaaDoor.F
namespace Go.Proofs.YtpjcipadjegmlaaDoor
open Go Go.RowKit Go.ChangeShapes Go.WideShapes Go.ChangeAt Go.Proofs.YtpjcipadjegmlaaDoor.X Go.Proofs.YtpjcipadjegmlaaDoor.F
theorem cdbShort_said : Rows.CdbShortSaid :=
  OpenClaim.holds_of_cond 7 Tryd.f7 rfl rfl rfl rfl rfl rfl rfl ⟨rfl, rfl, rfl, rfl, rfl⟩ rfl rfl rfl rfl rfl (by kernel_rfl) Tryd.func7 (by kernel_rfl)
    (of_decide_eq_true (by kernel_rfl)) (by unfold Func.isWrapper; first | (rw [if_pos (by decide +kernel)]; kernel_rfl) | (rw [if_neg (by decide +kernel)]; exact ⟨rfl, rfl⟩))
    (fun os started H enc _ F => by rw [OpenClaim.pre_eq_preRow]; exact headgatelaw15_CdbShort.lifted os started H enc F)
theorem cdbShort_plain (f : FuncId) (fn : Func) (hf : Tryd.pinned.checked.prog.funcNamed "headgate/headgatelaw15.CdbShort" = some f) (hfn : Tryd.pinned.checked.prog.funcs[f]? = some fn) :
    false = Tryd.pinned.checked.prog.looks [] ∧ ∀ (j : Nat) t, fn.params[j]? = some t → Tryd.pinned.checked.prog.wantsStandIn t = false := by
  obtain rfl : f = 7 := Option.some.inj ((show Tryd.prog.funcNamed "headgate/headgatelaw15.CdbShort" = some 7 by kernel_rfl).symm.trans hf) |>.symm
  obtain rfl : fn = Tryd.f7 := (Option.some.inj (Tryd.func7.symm.trans hfn)).symm
  refine ⟨by kernel_rfl, fun j t ht => ?_⟩
  rw [Tryd.params7] at ht
  have hm := Array.mem_of_getElem? ht
  simp only [List.mem_toArray, List.mem_cons, List.not_mem_nil, or_false] at hm
  rcases hm with rfl | rfl | rfl
  · exact (show Tryd.prog.wantsStandIn 39 = false by kernel_rfl)
  · exact (show Tryd.prog.wantsStandIn 3 = false by kernel_rfl)
  · exact (show Tryd.prog.wantsStandIn 5 = false by kernel_rfl)
/-- The card. -/
theorem cdbShort_card : Rows.CdbShortCardSaid :=
  Claim7.holds_tied_plain_at .later [] _ _ _ _ cdbShort_said (fun _ h => by cases h) (by kernel_rfl) (fun _ h => by cases h) cdbShort_row_tie rfl ⟨rfl, rfl⟩ (by kernel_rfl) rfl cdbShort_plain (by kernel_rfl)
end Go.Proofs.YtpjcipadjegmlaaDoor
