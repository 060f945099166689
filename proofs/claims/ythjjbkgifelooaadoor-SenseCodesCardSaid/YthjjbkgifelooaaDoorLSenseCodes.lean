/- headgate/headgatelaw16.SenseCodes returns true for every input, and what it is handed reads as before. No condition. -/
import Derived.Test.YthjjbkgifelooaaDoorCards
import Derived.Test.YthjjbkgifelooaaDoorTie
import Derived.Test.YthjjbkgifelooaaDoorXLaid
import Derived.Test.YthjjbkgifelooaaDoorXRow
import Derived.Test.YthjjbkgifelooaaDoorF8
import Derived.Test.YthjjbkgifelooaaDoorUSenseCodes
namespace Go.Proofs.YthjjbkgifelooaaDoor.F
open Go Go.RowKit Go.ChangeShapes Go.WideShapes Go.ChangeAt Go.Proofs.YthjjbkgifelooaaDoor.X
set_option linter.unusedVariables false
set_option linter.unusedSimpArgs false
theorem headgatelaw16_SenseCodes.op0 (W : World) : XTold Tryd.prog W 64 (fun cs => ∃ (a0 : T_api_Out) (A0_0 : Option Addr) (c0_0 : Nat), cs = [.int .i64 a0.f0, .string a0.f1, .int .i64 a0.f2, .int .i64 a0.f3, .slice A0_0 a0.f4.length c0_0, .int .u32 a0.f5, .int .i64 a0.f6.f0, .string a0.f6.f1, .int .i64 a0.f7] ∧ (Spot (.slice A0_0 a0.f4.length c0_0) → Rd 2 W (.slice A0_0 a0.f4.length c0_0) a0.f4.length (encs T_api_Reg.enc a0.f4)) ∧ (a0.ok)) := by
  refine XTold.mono (XTold.struct (Rs := [_, _, _, _, _, _, _, _]) Tryd.underlying64 ⟨(XTold.int Tryd.underlying3), (XTold.str Tryd.underlying9), (XTold.int Tryd.underlying3), (XTold.int Tryd.underlying3), (XTold.slice (sz := 2) Tryd.underlying22 (by kernel_rfl) (XTold.struct (Rs := [_, _]) Tryd.underlying44 ⟨(XTold.str Tryd.underlying9), (XTold.int Tryd.underlying42), trivial⟩ (by kernel_rfl))), (XTold.int Tryd.underlying25), (XTold.struct (Rs := [_, _]) Tryd.underlying24 ⟨(XTold.int Tryd.underlying3), (XTold.str Tryd.underlying9), trivial⟩ (by kernel_rfl)), (XTold.int Tryd.underlying3), trivial⟩ (by kernel_rfl)) ?_
  rintro cs ⟨_, _, rfl, ⟨n2, rfl, w2⟩, ⟨_, _, rfl, ⟨n3, rfl, w3⟩, ⟨_, _, rfl, ⟨n4, rfl, w4⟩, ⟨_, _, rfl, ⟨n5, rfl, w5⟩, ⟨_, _, rfl, ⟨A6, c6, rows6, rfl, hR6, hr6, hb6, hc6⟩, ⟨_, _, rfl, ⟨n7, rfl, w7⟩, ⟨_, _, rfl, ⟨_, _, rfl, ⟨n9, rfl, w9⟩, ⟨_, _, rfl, ⟨n10, rfl, w10⟩, rfl⟩⟩, ⟨_, _, rfl, ⟨n11, rfl, w11⟩, rfl⟩⟩⟩⟩⟩⟩⟩⟩
  obtain ⟨xs6, rfl, hx6⟩ := rows_of (f := T_api_Reg.enc) (q := fun y => y.ok) (fun row hm => by obtain ⟨_, _, rfl, ⟨n602, rfl, w602⟩, ⟨_, _, rfl, ⟨n603, rfl, w603⟩, rfl⟩⟩ := hr6 row hm; exact ⟨(⟨n602, n603⟩ : T_api_Reg), rfl, ⟨w602, bounds_u64 w603⟩⟩)
  simp only [List.length_map] at hR6 hb6 hc6 ⊢
  rw [(by kernel_rfl : Tryd.prog.bytesOf 44 = 24)] at hb6
  exact ⟨(⟨n2, n3, n4, n5, xs6, n7, (⟨n9, n10⟩ : T_api_Hold), n11⟩ : T_api_Out), A6, c6, rfl, fun h => by have := hR6 h; rwa [← List.flatMap_def] at this, ⟨bounds_i64 w2, w3, bounds_i64 w4, bounds_i64 w5, ⟨hb6, hx6⟩, bounds_u32 w7, ⟨bounds_i64 w9, w10⟩, bounds_i64 w11⟩⟩
theorem headgatelaw16_SenseCodes.op1 (W : World) : XTold Tryd.prog W 64 (fun cs => ∃ (a1 : T_api_Out) (A1_1 : Option Addr) (c1_1 : Nat), cs = [.int .i64 a1.f0, .string a1.f1, .int .i64 a1.f2, .int .i64 a1.f3, .slice A1_1 a1.f4.length c1_1, .int .u32 a1.f5, .int .i64 a1.f6.f0, .string a1.f6.f1, .int .i64 a1.f7] ∧ (Spot (.slice A1_1 a1.f4.length c1_1) → Rd 2 W (.slice A1_1 a1.f4.length c1_1) a1.f4.length (encs T_api_Reg.enc a1.f4)) ∧ (a1.ok)) := by
  refine XTold.mono (XTold.struct (Rs := [_, _, _, _, _, _, _, _]) Tryd.underlying64 ⟨(XTold.int Tryd.underlying3), (XTold.str Tryd.underlying9), (XTold.int Tryd.underlying3), (XTold.int Tryd.underlying3), (XTold.slice (sz := 2) Tryd.underlying22 (by kernel_rfl) (XTold.struct (Rs := [_, _]) Tryd.underlying44 ⟨(XTold.str Tryd.underlying9), (XTold.int Tryd.underlying42), trivial⟩ (by kernel_rfl))), (XTold.int Tryd.underlying25), (XTold.struct (Rs := [_, _]) Tryd.underlying24 ⟨(XTold.int Tryd.underlying3), (XTold.str Tryd.underlying9), trivial⟩ (by kernel_rfl)), (XTold.int Tryd.underlying3), trivial⟩ (by kernel_rfl)) ?_
  rintro cs ⟨_, _, rfl, ⟨n2, rfl, w2⟩, ⟨_, _, rfl, ⟨n3, rfl, w3⟩, ⟨_, _, rfl, ⟨n4, rfl, w4⟩, ⟨_, _, rfl, ⟨n5, rfl, w5⟩, ⟨_, _, rfl, ⟨A6, c6, rows6, rfl, hR6, hr6, hb6, hc6⟩, ⟨_, _, rfl, ⟨n7, rfl, w7⟩, ⟨_, _, rfl, ⟨_, _, rfl, ⟨n9, rfl, w9⟩, ⟨_, _, rfl, ⟨n10, rfl, w10⟩, rfl⟩⟩, ⟨_, _, rfl, ⟨n11, rfl, w11⟩, rfl⟩⟩⟩⟩⟩⟩⟩⟩
  obtain ⟨xs6, rfl, hx6⟩ := rows_of (f := T_api_Reg.enc) (q := fun y => y.ok) (fun row hm => by obtain ⟨_, _, rfl, ⟨n602, rfl, w602⟩, ⟨_, _, rfl, ⟨n603, rfl, w603⟩, rfl⟩⟩ := hr6 row hm; exact ⟨(⟨n602, n603⟩ : T_api_Reg), rfl, ⟨w602, bounds_u64 w603⟩⟩)
  simp only [List.length_map] at hR6 hb6 hc6 ⊢
  rw [(by kernel_rfl : Tryd.prog.bytesOf 44 = 24)] at hb6
  exact ⟨(⟨n2, n3, n4, n5, xs6, n7, (⟨n9, n10⟩ : T_api_Hold), n11⟩ : T_api_Out), A6, c6, rfl, fun h => by have := hR6 h; rwa [← List.flatMap_def] at this, ⟨bounds_i64 w2, w3, bounds_i64 w4, bounds_i64 w5, ⟨hb6, hx6⟩, bounds_u32 w7, ⟨bounds_i64 w9, w10⟩, bounds_i64 w11⟩⟩
theorem headgatelaw16_SenseCodes.own : ownKnob Tryd.prog.godebug = none := by kernel_rfl
theorem headgatelaw16_SenseCodes.laidOut : laidOutB Tryd.prog = true := by kernel_rfl
theorem headgatelaw16_SenseCodes.flat3 : XFlat Tryd.prog 114 := (XFlat.array Tryd.underlying114 (XFlat.struct Tryd.underlying113 ⟨(XFlat.int Tryd.underlying3), (XFlat.int Tryd.underlying3), (XFlat.int Tryd.underlying3), (XFlat.int Tryd.underlying3), (XFlat.int Tryd.underlying3), (XFlat.int Tryd.underlying3), trivial⟩ (by kernel_rfl)) (by kernel_rfl))
theorem headgatelaw16_SenseCodes.laid3 {W : World} (h : laidMet Tryd.prog Rows.senseCodesRow.laid W) : CA W 3 0 (encs T_sense_row.enc G_sense_rows).toArray :=
  laid_ca h (name := "headgate/sense.rows") (d := Rows.laid_headgate_sense_rows) rfl (by kernel_rfl) (by kernel_rfl) headgatelaw16_SenseCodes.flat3 (by kernel_rfl)
noncomputable def headgatelaw16_SenseCodes.laidWorld (os : Os) : World :=
  { World.holding Tryd.prog os ⟨#[], #[], []⟩ with heap := ((World.holding Tryd.prog os ⟨#[], #[], []⟩).heap).modify 3 (putT (encs T_sense_row.enc G_sense_rows).toArray) }
theorem headgatelaw16_SenseCodes.laid_met (os : Os) : laidMet Tryd.prog Rows.senseCodesRow.laid ((headgatelaw16_SenseCodes.laidWorld os).forCall (fun _ _ => 0) ⟨#[], #[Value.agg #[.int .i64 0, .string ByteArray.empty, .int .i64 0, .int .i64 0, .slice none 0 0, .int .u32 0, .int .i64 0, .string ByteArray.empty, .int .i64 0], Value.agg #[.int .i64 0, .string ByteArray.empty, .int .i64 0, .int .i64 0, .slice none 0 0, .int .u32 0, .int .i64 0, .string ByteArray.empty, .int .i64 0]], []⟩).memory :=
  laidMet_of_run' 8 (by kernel_rfl) (by kernel_rfl)
theorem headgatelaw16_SenseCodes.reads (os : Os) {H : Type} (enc : TypeId × Value → H) : ∃ places, DataW.whole enc Tryd.prog ((headgatelaw16_SenseCodes.laidWorld os).forCall (fun _ _ => 0) ⟨#[], #[Value.agg #[.int .i64 0, .string ByteArray.empty, .int .i64 0, .int .i64 0, .slice none 0 0, .int .u32 0, .int .i64 0, .string ByteArray.empty, .int .i64 0], Value.agg #[.int .i64 0, .string ByteArray.empty, .int .i64 0, .int .i64 0, .slice none 0 0, .int .u32 0, .int .i64 0, .string ByteArray.empty, .int .i64 0]], []⟩).memory Tryd.f8.params.toList Rows.senseCodesSpec.vars false (#[Value.agg #[.int .i64 0, .string ByteArray.empty, .int .i64 0, .int .i64 0, .slice none 0 0, .int .u32 0, .int .i64 0, .string ByteArray.empty, .int .i64 0], Value.agg #[.int .i64 0, .string ByteArray.empty, .int .i64 0, .int .i64 0, .slice none 0 0, .int .u32 0, .int .i64 0, .string ByteArray.empty, .int .i64 0]] : Array Value).toList 8 = some ([.agg [.lit (.int .i64 0), .lit (.string []), .lit (.int .i64 0), .lit (.int .i64 0), .nil, .lit (.int .u32 0), .agg [.lit (.int .i64 0), .lit (.string [])], .lit (.int .i64 0)], .agg [.lit (.int .i64 0), .lit (.string []), .lit (.int .i64 0), .lit (.int .i64 0), .nil, .lit (.int .u32 0), .agg [.lit (.int .i64 0), .lit (.string [])], .lit (.int .i64 0)]], [], places) :=
  ⟨[], by kernel_rfl⟩
set_option maxRecDepth 100000 in
theorem headgatelaw16_SenseCodes.lifted (os : Os) (started : os.Started) (H : Type) (enc : TypeId × Value → H) (F : Stop.Interp) :
    ReturnsInHanded {} Tryd.checked os 8 .any ((OpenSpec.ofChange Rows.senseCodesSpec).preRow enc Tryd.prog Tryd.f8 Rows.senseCodesRow.domain false Rows.senseCodesRow.laid) (((OpenSpec.ofChange Rows.senseCodesSpec).at F).post enc Tryd.prog Tryd.f8 false true false false) := by
  obtain ⟨places, hx⟩ := headgatelaw16_SenseCodes.reads os enc
  refine returnsInHanded_of_row (C := Tryd.checked) (s := OpenSpec.ofChange Rows.senseCodesSpec) headgatelaw16_SenseCodes.own started (by kernel_rfl) Tryd.func8
    (witness_row_at (enc := enc) (C := Tryd.checked) false (headgatelaw16_SenseCodes.laidWorld os) #[Value.agg #[.int .i64 0, .string ByteArray.empty, .int .i64 0, .int .i64 0, .slice none 0 0, .int .u32 0, .int .i64 0, .string ByteArray.empty, .int .i64 0], Value.agg #[.int .i64 0, .string ByteArray.empty, .int .i64 0, .int .i64 0, .slice none 0 0, .int .u32 0, .int .i64 0, .string ByteArray.empty, .int .i64 0]] rfl (by kernel_rfl) (by kernel_rfl) (by kernel_rfl)
      (OpenSpec.preRow_of_cond 8 hx (by kernel_rfl) (fun k hk => by cases hk) (by kernel_rfl) (headgatelaw16_SenseCodes.laid_met os))) ?_
  intro W base args ds gs before hval0 hW hcnd _ hsz0 hL _ _
  have hsz : (DataW.weightsEach Tryd.prog (Tryd.f8.params.toList ++ Rows.senseCodesSpec.plain.varTypes Tryd.prog) (ds ++ gs)).all (· ≤ reachBytes) = true := hsz0
  have hLl : laidMet Tryd.prog Rows.senseCodesRow.laid W := hL
  have hval : ∀ (j : Nat) t v, Tryd.f8.params[j]? = some t → args[j]? = some v → Value.okWide Tryd.prog W .any base t v := hval0
  have hW' := hW
  obtain ⟨p, q, hA0, hV, rfl, hfz, hnd⟩ := hW
  have hA : DataW.TrodAll enc Tryd.prog W 0 (fun _ => true) true Tryd.f8.params.toList args.toList ds p := hA0
  rw [Tryd.params8] at hA hval hsz
  obtain ⟨v0, vs0, d0, ds0, p0, q0, hargs, rfl, rfl, h0, r0⟩ := trodAll_cons hA
  obtain ⟨v1, vs1, d1, ds1, p1, q1, rfl, rfl, rfl, h1, r1⟩ := trodAll_cons r0
  obtain ⟨rfl, rfl, rfl⟩ := trodAll_nil r1
  obtain rfl : args = #[v0, v1] := by cases args; simp_all
  obtain ⟨rfl, rfl⟩ := trodVars_none hV
  have k0 := h0
  obtain ⟨a0, A0_0, c0_0, hc0, hs0_0, o0⟩ := (headgatelaw16_SenseCodes.op0 W).arg h0 hsz (j := 0) rfl rfl
  have sp0 := okWide_spot (hval 0 64 v0 rfl rfl)
  rw [hc0] at sp0
  have hr0_0 := hs0_0 (sp0 _ (by simp))
  obtain rfl := okWide_agg (by kernel_rfl) (hval 0 64 v0 rfl rfl) hc0
  have k1 := h1
  obtain ⟨a1, A1_1, c1_1, hc1, hs1_1, o1⟩ := (headgatelaw16_SenseCodes.op1 W).arg h1 hsz (j := 1) rfl rfl
  have sp1 := okWide_spot (hval 1 64 v1 rfl rfl)
  rw [hc1] at sp1
  have hr1_1 := hs1_1 (sp1 _ (by simp))
  obtain rfl := okWide_agg (by kernel_rfl) (hval 1 64 v1 rfl rfl) hc1
  clear hA0 hval0 hsz0 hsz
  obtain ⟨K, hK⟩ := headgatelaw16_SenseCodes.pure a0 a1 o0 o1
  refine (headgatelaw16_SenseCodes.calls K a0 a1 A0_0 c0_0 A1_1 c1_1 true W (headgatelaw16_SenseCodes.laid3 hLl) hr0_0 hr1_1 hK).mono fun e W' ⟨he, HW⟩ => ?_
  have bel := HW.below
  subst he
  exact ⟨_, rfl, _, _, _, [], _, [], hW', trodAll_mk1 (shut_bool Tryd.underlying4 _), (trodAll_cons_mk (Below.trod headgatelaw16_SenseCodes.laidOut (by kernel_rfl) (of_decide_eq_true (by kernel_rfl)) k0 bel (trod_blocks k0)) (trodAll_cons_mk (Below.trod headgatelaw16_SenseCodes.laidOut (by kernel_rfl) (of_decide_eq_true (by kernel_rfl)) k1 bel (trod_blocks k1)) trodAll_mk0)), rfl, bel.frame _, fun h => by cases h⟩
end Go.Proofs.YthjjbkgifelooaaDoor.F
namespace Go.Proofs.YthjjbkgifelooaaDoor
open Go Go.RowKit Go.ChangeShapes Go.WideShapes Go.ChangeAt Go.Proofs.YthjjbkgifelooaaDoor.X Go.Proofs.YthjjbkgifelooaaDoor.F
theorem senseCodes_said : Rows.SenseCodesSaid :=
  OpenClaim.holds_of_cond 8 Tryd.f8 rfl rfl rfl rfl rfl rfl rfl ⟨rfl, rfl, rfl, rfl, rfl⟩ rfl rfl rfl rfl rfl (by kernel_rfl) Tryd.func8 (by kernel_rfl)
    (of_decide_eq_true (by kernel_rfl)) (by unfold Func.isWrapper; first | (rw [if_pos (by decide +kernel)]; kernel_rfl) | (rw [if_neg (by decide +kernel)]; exact ⟨rfl, rfl⟩))
    (fun os started H enc _ F => by rw [OpenClaim.pre_eq_preRow]; exact headgatelaw16_SenseCodes.lifted os started H enc F)
theorem senseCodes_plain (f : FuncId) (fn : Func) (hf : Tryd.pinned.checked.prog.funcNamed "headgate/headgatelaw16.SenseCodes" = some f) (hfn : Tryd.pinned.checked.prog.funcs[f]? = some fn) :
    false = Tryd.pinned.checked.prog.looks [] ∧ ∀ (j : Nat) t, fn.params[j]? = some t → Tryd.pinned.checked.prog.wantsStandIn t = false := by
  obtain rfl : f = 8 := Option.some.inj ((show Tryd.prog.funcNamed "headgate/headgatelaw16.SenseCodes" = some 8 by kernel_rfl).symm.trans hf) |>.symm
  obtain rfl : fn = Tryd.f8 := (Option.some.inj (Tryd.func8.symm.trans hfn)).symm
  refine ⟨by kernel_rfl, fun j t ht => ?_⟩
  rw [Tryd.params8] at ht
  have hm := Array.mem_of_getElem? ht
  simp only [List.mem_toArray, List.mem_cons, List.not_mem_nil, or_false] at hm
  rcases hm with rfl | rfl
  · exact (show Tryd.prog.wantsStandIn 64 = false by kernel_rfl)
  · exact (show Tryd.prog.wantsStandIn 64 = false by kernel_rfl)
/-- The card. -/
theorem senseCodes_card : Rows.SenseCodesCardSaid :=
  Claim7.holds_tied_plain_at .later [] _ _ _ _ senseCodes_said (fun _ h => by cases h) (by kernel_rfl) (fun _ h => by cases h) senseCodes_row_tie rfl ⟨rfl, rfl⟩ (by kernel_rfl) rfl senseCodes_plain (by kernel_rfl)
end Go.Proofs.YthjjbkgifelooaaDoor
