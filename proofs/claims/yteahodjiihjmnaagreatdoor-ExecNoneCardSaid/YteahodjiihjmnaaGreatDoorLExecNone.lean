/- headgate/headgatelaw14.ExecNone returns true for every input, and what it is handed reads as before. No condition. -/
import Derived.Test.YteahodjiihjmnaaGreatDoorCards
import Derived.Test.YteahodjiihjmnaaGreatDoorTie
import Derived.Test.YteahodjiihjmnaaGreatDoorXLaid
import Derived.Test.YteahodjiihjmnaaGreatDoorXRow
import Derived.Test.YteahodjiihjmnaaGreatDoorF13
import Derived.Test.YteahodjiihjmnaaGreatDoorUExecNone
namespace Go.Proofs.YteahodjiihjmnaaGreatDoor.F
open Go Go.RowKit Go.ChangeShapes Go.WideShapes Go.ChangeAt Go.Proofs.YteahodjiihjmnaaGreatDoor.X
set_option linter.unusedVariables false
set_option linter.unusedSimpArgs false
theorem headgatelaw14_ExecNone.op0 (W : World) : XTold Tryz.prog W 33 (fun cs => ∃ (a0 : T_api_Cmd) (A0_0 : Option Addr) (c0_0 : Nat), cs = [.int .i64 a0.f0, .int .i64 a0.f1, .string a0.f2, .int .i64 a0.f3, .int .i64 a0.f4, .string a0.f5, .bool a0.f6, .slice A0_0 a0.f7.length c0_0, .int .u64 a0.f8, .int .u64 a0.f9, .int .u64 a0.f10, .int .i64 a0.f11, .bool a0.f12, .int .i64 a0.f13] ∧ (Spot (.slice A0_0 a0.f7.length c0_0) → Rd 2 W (.slice A0_0 a0.f7.length c0_0) a0.f7.length (encs T_api_Range.enc a0.f7)) ∧ (a0.ok)) := by
  refine XTold.mono (XTold.struct (Rs := [_, _, _, _, _, _, _, _, _, _, _, _, _, _]) Tryz.underlying33 ⟨(XTold.int Tryz.underlying3), (XTold.int Tryz.underlying3), (XTold.str Tryz.underlying9), (XTold.int Tryz.underlying3), (XTold.int Tryz.underlying3), (XTold.str Tryz.underlying9), (XTold.bool Tryz.underlying4), (XTold.slice (sz := 2) Tryz.underlying30 (by kernel_rfl) (XTold.struct (Rs := [_, _]) Tryz.underlying77 ⟨(XTold.int Tryz.underlying3), (XTold.int Tryz.underlying3), trivial⟩ (by kernel_rfl))), (XTold.int Tryz.underlying31), (XTold.int Tryz.underlying31), (XTold.int Tryz.underlying31), (XTold.int Tryz.underlying3), (XTold.bool Tryz.underlying4), (XTold.int Tryz.underlying3), trivial⟩ (by kernel_rfl)) ?_
  rintro cs ⟨_, _, rfl, ⟨n2, rfl, w2⟩, ⟨_, _, rfl, ⟨n3, rfl, w3⟩, ⟨_, _, rfl, ⟨n4, rfl, w4⟩, ⟨_, _, rfl, ⟨n5, rfl, w5⟩, ⟨_, _, rfl, ⟨n6, rfl, w6⟩, ⟨_, _, rfl, ⟨n7, rfl, w7⟩, ⟨_, _, rfl, ⟨n8, rfl⟩, ⟨_, _, rfl, ⟨A9, c9, rows9, rfl, hR9, hr9, hb9, hc9⟩, ⟨_, _, rfl, ⟨n10, rfl, w10⟩, ⟨_, _, rfl, ⟨n11, rfl, w11⟩, ⟨_, _, rfl, ⟨n12, rfl, w12⟩, ⟨_, _, rfl, ⟨n13, rfl, w13⟩, ⟨_, _, rfl, ⟨n14, rfl⟩, ⟨_, _, rfl, ⟨n15, rfl, w15⟩, rfl⟩⟩⟩⟩⟩⟩⟩⟩⟩⟩⟩⟩⟩⟩
  obtain ⟨xs9, rfl, hx9⟩ := rows_of (f := T_api_Range.enc) (q := fun y => y.ok) (fun row hm => by obtain ⟨_, _, rfl, ⟨n902, rfl, w902⟩, ⟨_, _, rfl, ⟨n903, rfl, w903⟩, rfl⟩⟩ := hr9 row hm; exact ⟨(⟨n902, n903⟩ : T_api_Range), rfl, ⟨bounds_i64 w902, bounds_i64 w903⟩⟩)
  simp only [List.length_map] at hR9 hb9 hc9 ⊢
  rw [(by kernel_rfl : Tryz.prog.bytesOf 77 = 16)] at hb9
  exact ⟨(⟨n2, n3, n4, n5, n6, n7, n8, xs9, n10, n11, n12, n13, n14, n15⟩ : T_api_Cmd), A9, c9, rfl, fun h => by have := hR9 h; rwa [← List.flatMap_def] at this, ⟨bounds_i64 w2, bounds_i64 w3, w4, bounds_i64 w5, bounds_i64 w6, w7, trivial, ⟨hb9, hx9⟩, bounds_u64 w10, bounds_u64 w11, bounds_u64 w12, bounds_i64 w13, trivial, bounds_i64 w15⟩⟩
theorem headgatelaw14_ExecNone.own : ownKnob Tryz.prog.godebug = none := by kernel_rfl
theorem headgatelaw14_ExecNone.laidOut : laidOutB Tryz.prog = true := by kernel_rfl
theorem headgatelaw14_ExecNone.flat0 : XFlat Tryz.prog 200 := (XFlat.array Tryz.underlying200 (XFlat.int Tryz.underlying3) (by kernel_rfl))
theorem headgatelaw14_ExecNone.laid0 {W : World} (h : laidMet Tryz.prog Rows.execNoneRow.laid W) : CA W 0 0 (encs (encIK .i64) G_access_lets).toArray :=
  laid_ca h (name := "headgate/access.lets") (d := Rows.laid_headgate_access_lets) rfl (by kernel_rfl) (by kernel_rfl) headgatelaw14_ExecNone.flat0 (by kernel_rfl)
theorem headgatelaw14_ExecNone.flat2 : XFlat Tryz.prog 372 := (XFlat.array Tryz.underlying372 (XFlat.int Tryz.underlying36) (by kernel_rfl))
theorem headgatelaw14_ExecNone.laid2 {W : World} (h : laidMet Tryz.prog Rows.execNoneRow.laid W) : CA W 2 0 (encs (encIK .u32) G_crc_steps).toArray :=
  laid_ca h (name := "headgate/crc.steps") (d := Rows.laid_headgate_crc_steps) rfl (by kernel_rfl) (by kernel_rfl) headgatelaw14_ExecNone.flat2 (by kernel_rfl)
noncomputable def headgatelaw14_ExecNone.laidWorld (os : Os) : World :=
  { World.holding Tryz.prog os ⟨#[], #[], []⟩ with heap := (((World.holding Tryz.prog os ⟨#[], #[], []⟩).heap).modify 0 (putT (encs (encIK .i64) G_access_lets).toArray)).modify 2 (putT (encs (encIK .u32) G_crc_steps).toArray) }
theorem headgatelaw14_ExecNone.laid_met (os : Os) : laidMet Tryz.prog Rows.execNoneRow.laid ((headgatelaw14_ExecNone.laidWorld os).forCall (fun _ _ => 0) ⟨#[], #[Value.agg #[.int .i64 0, .int .i64 0, .string ByteArray.empty, .int .i64 0, .int .i64 0, .string ByteArray.empty, .bool false, .slice none 0 0, .int .u64 0, .int .u64 0, .int .u64 0, .int .i64 0, .bool false, .int .i64 0]], []⟩).memory :=
  laidMet_of_run' 8 (by kernel_rfl) (by kernel_rfl)
theorem headgatelaw14_ExecNone.reads (os : Os) {H : Type} (enc : TypeId × Value → H) : ∃ places, DataW.whole enc Tryz.prog ((headgatelaw14_ExecNone.laidWorld os).forCall (fun _ _ => 0) ⟨#[], #[Value.agg #[.int .i64 0, .int .i64 0, .string ByteArray.empty, .int .i64 0, .int .i64 0, .string ByteArray.empty, .bool false, .slice none 0 0, .int .u64 0, .int .u64 0, .int .u64 0, .int .i64 0, .bool false, .int .i64 0]], []⟩).memory Tryz.f7.params.toList Rows.execNoneSpec.vars false (#[Value.agg #[.int .i64 0, .int .i64 0, .string ByteArray.empty, .int .i64 0, .int .i64 0, .string ByteArray.empty, .bool false, .slice none 0 0, .int .u64 0, .int .u64 0, .int .u64 0, .int .i64 0, .bool false, .int .i64 0]] : Array Value).toList 8 = some ([.agg [.lit (.int .i64 0), .lit (.int .i64 0), .lit (.string []), .lit (.int .i64 0), .lit (.int .i64 0), .lit (.string []), .lit (.bool false), .nil, .lit (.int .u64 0), .lit (.int .u64 0), .lit (.int .u64 0), .lit (.int .i64 0), .lit (.bool false), .lit (.int .i64 0)]], [], places) :=
  ⟨[], by kernel_rfl⟩
set_option maxRecDepth 100000 in
theorem headgatelaw14_ExecNone.lifted (os : Os) (started : os.Started) (H : Type) (enc : TypeId × Value → H) (F : Stop.Interp) :
    ReturnsInHanded {} Tryz.checked os 7 .any ((OpenSpec.ofChange Rows.execNoneSpec).preRow enc Tryz.prog Tryz.f7 Rows.execNoneRow.domain false Rows.execNoneRow.laid) (((OpenSpec.ofChange Rows.execNoneSpec).at F).post enc Tryz.prog Tryz.f7 false true false false) := by
  obtain ⟨places, hx⟩ := headgatelaw14_ExecNone.reads os enc
  refine returnsInHanded_of_row (C := Tryz.checked) (s := OpenSpec.ofChange Rows.execNoneSpec) headgatelaw14_ExecNone.own started (by kernel_rfl) Tryz.func7
    (witness_row_at (enc := enc) (C := Tryz.checked) false (headgatelaw14_ExecNone.laidWorld os) #[Value.agg #[.int .i64 0, .int .i64 0, .string ByteArray.empty, .int .i64 0, .int .i64 0, .string ByteArray.empty, .bool false, .slice none 0 0, .int .u64 0, .int .u64 0, .int .u64 0, .int .i64 0, .bool false, .int .i64 0]] rfl (by kernel_rfl) (by kernel_rfl) (by kernel_rfl)
      (OpenSpec.preRow_of_cond 8 hx (by kernel_rfl) (fun k hk => by cases hk) (by kernel_rfl) (headgatelaw14_ExecNone.laid_met os))) ?_
  intro W base args ds gs before hval0 hW hcnd _ hsz0 hL _ _
  have hsz : (DataW.weightsEach Tryz.prog (Tryz.f7.params.toList ++ Rows.execNoneSpec.plain.varTypes Tryz.prog) (ds ++ gs)).all (· ≤ reachBytes) = true := hsz0
  have hLl : laidMet Tryz.prog Rows.execNoneRow.laid W := hL
  have hval : ∀ (j : Nat) t v, Tryz.f7.params[j]? = some t → args[j]? = some v → Value.okWide Tryz.prog W .any base t v := hval0
  have hW' := hW
  obtain ⟨p, q, hA0, hV, rfl, hfz, hnd⟩ := hW
  have hA : DataW.TrodAll enc Tryz.prog W 0 (fun _ => true) true Tryz.f7.params.toList args.toList ds p := hA0
  rw [Tryz.params7] at hA hval hsz
  obtain ⟨v0, vs0, d0, ds0, p0, q0, hargs, rfl, rfl, h0, r0⟩ := trodAll_cons hA
  obtain ⟨rfl, rfl, rfl⟩ := trodAll_nil r0
  obtain rfl : args = #[v0] := by cases args; simp_all
  obtain ⟨rfl, rfl⟩ := trodVars_none hV
  have k0 := h0
  obtain ⟨a0, A0_0, c0_0, hc0, hs0_0, o0⟩ := (headgatelaw14_ExecNone.op0 W).arg h0 hsz (j := 0) rfl rfl
  have sp0 := okWide_spot (hval 0 33 v0 rfl rfl)
  rw [hc0] at sp0
  have hr0_0 := hs0_0 (sp0 _ (by simp))
  obtain rfl := okWide_agg (by kernel_rfl) (hval 0 33 v0 rfl rfl) hc0
  clear hA0 hval0 hsz0 hsz
  obtain ⟨K, hK⟩ := headgatelaw14_ExecNone.pure a0 o0
  refine (headgatelaw14_ExecNone.calls K a0 A0_0 c0_0 true W (headgatelaw14_ExecNone.laid0 hLl) (headgatelaw14_ExecNone.laid2 hLl) hr0_0 hK).mono fun e W' ⟨he, HW⟩ => ?_
  have bel := HW.below
  subst he
  exact ⟨_, rfl, _, _, _, [], _, [], hW', trodAll_mk1 (shut_bool Tryz.underlying4 _), (trodAll_cons_mk (Below.trod headgatelaw14_ExecNone.laidOut (by kernel_rfl) (of_decide_eq_true (by kernel_rfl)) k0 bel (trod_blocks k0)) trodAll_mk0), rfl, bel.frame _, fun h => by cases h⟩
end Go.Proofs.YteahodjiihjmnaaGreatDoor.F
namespace Go.Proofs.YteahodjiihjmnaaGreatDoor
open Go Go.RowKit Go.ChangeShapes Go.WideShapes Go.ChangeAt Go.Proofs.YteahodjiihjmnaaGreatDoor.X Go.Proofs.YteahodjiihjmnaaGreatDoor.F
set_option maxHeartbeats 8000000 in
theorem execNone_said : Rows.ExecNoneSaid :=
  OpenClaim.holds_of_cond 7 Tryz.f7 rfl rfl rfl rfl rfl rfl rfl ⟨rfl, rfl, rfl, rfl, rfl⟩ rfl rfl rfl rfl rfl (by kernel_rfl) Tryz.func7 (by simp only [joinedFacts, Bool.and_eq_true]; (repeat' apply And.intro) <;> (as_aux_lemma => kernel_rfl))
    (of_decide_eq_true (by kernel_rfl)) (by unfold Func.isWrapper; first | (rw [if_pos (by decide +kernel)]; kernel_rfl) | (rw [if_neg (by decide +kernel)]; exact ⟨rfl, rfl⟩))
    (fun os started H enc _ F => by rw [OpenClaim.pre_eq_preRow]; exact headgatelaw14_ExecNone.lifted os started H enc F)
theorem execNone_plain (f : FuncId) (fn : Func) (hf : Tryz.pinned.checked.prog.funcNamed "headgate/headgatelaw14.ExecNone" = some f) (hfn : Tryz.pinned.checked.prog.funcs[f]? = some fn) :
    true = Tryz.pinned.checked.prog.looks [] ∧ ∀ (j : Nat) t, fn.params[j]? = some t → Tryz.pinned.checked.prog.wantsStandIn t = false := by
  obtain rfl : f = 7 := Option.some.inj ((show Tryz.prog.funcNamed "headgate/headgatelaw14.ExecNone" = some 7 by kernel_rfl).symm.trans hf) |>.symm
  obtain rfl : fn = Tryz.f7 := (Option.some.inj (Tryz.func7.symm.trans hfn)).symm
  refine ⟨by kernel_rfl, fun j t ht => ?_⟩
  rw [Tryz.params7] at ht
  have hm := Array.mem_of_getElem? ht
  simp only [List.mem_toArray, List.mem_cons, List.not_mem_nil, or_false] at hm
  rcases hm with rfl
  · exact (show Tryz.prog.wantsStandIn 33 = false by kernel_rfl)
/-- The card. -/
theorem execNone_card : Rows.ExecNoneCardSaid :=
  Claim7.holds_tied_plain_at .later [] _ _ _ _ execNone_said (fun _ h => by cases h) (by kernel_rfl) (fun _ h => by cases h) execNone_row_tie rfl ⟨rfl, rfl⟩ (by kernel_rfl) rfl execNone_plain (by kernel_rfl)
end Go.Proofs.YteahodjiihjmnaaGreatDoor
