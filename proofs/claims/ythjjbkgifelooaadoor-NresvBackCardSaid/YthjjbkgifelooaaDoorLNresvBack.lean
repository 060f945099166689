/- headgate/headgatelaw27.NresvBack returns true for every input, and what it is handed reads as before. No condition. -/
import Derived.Test.YthjjbkgifelooaaDoorCards
import Derived.Test.YthjjbkgifelooaaDoorTie
import Derived.Test.YthjjbkgifelooaaDoorXLaid
import Derived.Test.YthjjbkgifelooaaDoorXRow
import Derived.Test.YthjjbkgifelooaaDoorF6
import Derived.Test.YthjjbkgifelooaaDoorUNresvBack
namespace Go.Proofs.YthjjbkgifelooaaDoor.F
open Go Go.RowKit Go.ChangeShapes Go.WideShapes Go.ChangeAt Go.Proofs.YthjjbkgifelooaaDoor.X
set_option linter.unusedVariables false
set_option linter.unusedSimpArgs false
theorem headgatelaw27_NresvBack.op0 (W : World) : XTold Tryd.prog W 46 (fun cs => ∃ (a0 : T_headgatelaw27_Word), cs = [.int .i64 a0.f0, .int .u32 a0.f1, .string a0.f2] ∧ (a0.ok)) := by
  refine XTold.mono (XTold.struct (Rs := [_, _, _]) Tryd.underlying46 ⟨(XTold.int Tryd.underlying3), (XTold.int Tryd.underlying25), (XTold.str Tryd.underlying9), trivial⟩ (by kernel_rfl)) ?_
  rintro cs ⟨_, _, rfl, ⟨n2, rfl, w2⟩, ⟨_, _, rfl, ⟨n3, rfl, w3⟩, ⟨_, _, rfl, ⟨n4, rfl, w4⟩, rfl⟩⟩⟩
  exact ⟨(⟨n2, n3, n4⟩ : T_headgatelaw27_Word), rfl, ⟨bounds_i64 w2, bounds_u32 w3, w4⟩⟩
theorem headgatelaw27_NresvBack.op1 (W : World) : XTold Tryd.prog W 49 (fun cs => ∃ (a1 : T_api_Cmd) (A1_0 : Option Addr) (c1_0 : Nat), cs = [.int .i64 a1.f0, .int .i64 a1.f1, .string a1.f2, .int .i64 a1.f3, .int .i64 a1.f4, .string a1.f5, .bool a1.f6, .slice A1_0 a1.f7.length c1_0, .int .u64 a1.f8, .int .u64 a1.f9, .int .u64 a1.f10, .int .i64 a1.f11, .bool a1.f12, .int .i64 a1.f13] ∧ (Spot (.slice A1_0 a1.f7.length c1_0) → Rd 2 W (.slice A1_0 a1.f7.length c1_0) a1.f7.length (encs T_api_Range.enc a1.f7)) ∧ (a1.ok)) := by
  refine XTold.mono (XTold.struct (Rs := [_, _, _, _, _, _, _, _, _, _, _, _, _, _]) Tryd.underlying49 ⟨(XTold.int Tryd.underlying3), (XTold.int Tryd.underlying3), (XTold.str Tryd.underlying9), (XTold.int Tryd.underlying3), (XTold.int Tryd.underlying3), (XTold.str Tryd.underlying9), (XTold.bool Tryd.underlying4), (XTold.slice (sz := 2) Tryd.underlying47 (by kernel_rfl) (XTold.struct (Rs := [_, _]) Tryd.underlying128 ⟨(XTold.int Tryd.underlying3), (XTold.int Tryd.underlying3), trivial⟩ (by kernel_rfl))), (XTold.int Tryd.underlying42), (XTold.int Tryd.underlying42), (XTold.int Tryd.underlying42), (XTold.int Tryd.underlying3), (XTold.bool Tryd.underlying4), (XTold.int Tryd.underlying3), trivial⟩ (by kernel_rfl)) ?_
  rintro cs ⟨_, _, rfl, ⟨n2, rfl, w2⟩, ⟨_, _, rfl, ⟨n3, rfl, w3⟩, ⟨_, _, rfl, ⟨n4, rfl, w4⟩, ⟨_, _, rfl, ⟨n5, rfl, w5⟩, ⟨_, _, rfl, ⟨n6, rfl, w6⟩, ⟨_, _, rfl, ⟨n7, rfl, w7⟩, ⟨_, _, rfl, ⟨n8, rfl⟩, ⟨_, _, rfl, ⟨A9, c9, rows9, rfl, hR9, hr9, hb9, hc9⟩, ⟨_, _, rfl, ⟨n10, rfl, w10⟩, ⟨_, _, rfl, ⟨n11, rfl, w11⟩, ⟨_, _, rfl, ⟨n12, rfl, w12⟩, ⟨_, _, rfl, ⟨n13, rfl, w13⟩, ⟨_, _, rfl, ⟨n14, rfl⟩, ⟨_, _, rfl, ⟨n15, rfl, w15⟩, rfl⟩⟩⟩⟩⟩⟩⟩⟩⟩⟩⟩⟩⟩⟩
  obtain ⟨xs9, rfl, hx9⟩ := rows_of (f := T_api_Range.enc) (q := fun y => y.ok) (fun row hm => by obtain ⟨_, _, rfl, ⟨n902, rfl, w902⟩, ⟨_, _, rfl, ⟨n903, rfl, w903⟩, rfl⟩⟩ := hr9 row hm; exact ⟨(⟨n902, n903⟩ : T_api_Range), rfl, ⟨bounds_i64 w902, bounds_i64 w903⟩⟩)
  simp only [List.length_map] at hR9 hb9 hc9 ⊢
  rw [(by kernel_rfl : Tryd.prog.bytesOf 128 = 16)] at hb9
  exact ⟨(⟨n2, n3, n4, n5, n6, n7, n8, xs9, n10, n11, n12, n13, n14, n15⟩ : T_api_Cmd), A9, c9, rfl, fun h => by have := hR9 h; rwa [← List.flatMap_def] at this, ⟨bounds_i64 w2, bounds_i64 w3, w4, bounds_i64 w5, bounds_i64 w6, w7, trivial, ⟨hb9, hx9⟩, bounds_u64 w10, bounds_u64 w11, bounds_u64 w12, bounds_i64 w13, trivial, bounds_i64 w15⟩⟩
theorem headgatelaw27_NresvBack.own : ownKnob Tryd.prog.godebug = none := by kernel_rfl
theorem headgatelaw27_NresvBack.laidOut : laidOutB Tryd.prog = true := by kernel_rfl
theorem headgatelaw27_NresvBack.flat0 : XFlat Tryd.prog 96 := (XFlat.array Tryd.underlying96 (XFlat.int Tryd.underlying3) (by kernel_rfl))
theorem headgatelaw27_NresvBack.laid0 {W : World} (h : laidMet Tryd.prog Rows.nresvBackRow.laid W) : CA W 0 0 (encs (encI .i64) G_access_lets).toArray :=
  laid_ca h (name := "headgate/access.lets") (d := Rows.laid_headgate_access_lets) rfl (by kernel_rfl) (by kernel_rfl) headgatelaw27_NresvBack.flat0 (by kernel_rfl)
theorem headgatelaw27_NresvBack.flat1 : XFlat Tryd.prog 105 := (XFlat.array Tryd.underlying105 (XFlat.struct Tryd.underlying104 ⟨(XFlat.int Tryd.underlying3), (XFlat.int Tryd.underlying3), (XFlat.int Tryd.underlying3), trivial⟩ (by kernel_rfl)) (by kernel_rfl))
theorem headgatelaw27_NresvBack.laid1 {W : World} (h : laidMet Tryd.prog Rows.nresvBackRow.laid W) : CA W 1 0 (encs T_nresv_action.enc G_nresv_actions).toArray :=
  laid_ca h (name := "headgate/nresv.actions") (d := Rows.laid_headgate_nresv_actions) rfl (by kernel_rfl) (by kernel_rfl) headgatelaw27_NresvBack.flat1 (by kernel_rfl)
theorem headgatelaw27_NresvBack.flat2 : XFlat Tryd.prog 107 := (XFlat.array Tryd.underlying107 (XFlat.int Tryd.underlying3) (by kernel_rfl))
theorem headgatelaw27_NresvBack.laid2 {W : World} (h : laidMet Tryd.prog Rows.nresvBackRow.laid W) : CA W 2 0 (encs (encI .i64) G_nresv_aptpls).toArray :=
  laid_ca h (name := "headgate/nresv.aptpls") (d := Rows.laid_headgate_nresv_aptpls) rfl (by kernel_rfl) (by kernel_rfl) headgatelaw27_NresvBack.flat2 (by kernel_rfl)
noncomputable def headgatelaw27_NresvBack.laidWorld (os : Os) : World :=
  { World.holding Tryd.prog os ⟨#[], #[], []⟩ with heap := ((((World.holding Tryd.prog os ⟨#[], #[], []⟩).heap).modify 0 (putT (encs (encI .i64) G_access_lets).toArray)).modify 1 (putT (encs T_nresv_action.enc G_nresv_actions).toArray)).modify 2 (putT (encs (encI .i64) G_nresv_aptpls).toArray) }
theorem headgatelaw27_NresvBack.laid_met (os : Os) : laidMet Tryd.prog Rows.nresvBackRow.laid ((headgatelaw27_NresvBack.laidWorld os).forCall (fun _ _ => 0) ⟨#[], #[Value.agg #[.int .i64 0, .int .u32 0, .string ByteArray.empty], Value.agg #[.int .i64 0, .int .i64 0, .string ByteArray.empty, .int .i64 0, .int .i64 0, .string ByteArray.empty, .bool false, .slice none 0 0, .int .u64 0, .int .u64 0, .int .u64 0, .int .i64 0, .bool false, .int .i64 0]], []⟩).memory :=
  laidMet_of_run' 8 (by kernel_rfl) (by kernel_rfl)
theorem headgatelaw27_NresvBack.reads (os : Os) {H : Type} (enc : TypeId × Value → H) : ∃ places, DataW.whole enc Tryd.prog ((headgatelaw27_NresvBack.laidWorld os).forCall (fun _ _ => 0) ⟨#[], #[Value.agg #[.int .i64 0, .int .u32 0, .string ByteArray.empty], Value.agg #[.int .i64 0, .int .i64 0, .string ByteArray.empty, .int .i64 0, .int .i64 0, .string ByteArray.empty, .bool false, .slice none 0 0, .int .u64 0, .int .u64 0, .int .u64 0, .int .i64 0, .bool false, .int .i64 0]], []⟩).memory Tryd.f6.params.toList Rows.nresvBackSpec.vars false (#[Value.agg #[.int .i64 0, .int .u32 0, .string ByteArray.empty], Value.agg #[.int .i64 0, .int .i64 0, .string ByteArray.empty, .int .i64 0, .int .i64 0, .string ByteArray.empty, .bool false, .slice none 0 0, .int .u64 0, .int .u64 0, .int .u64 0, .int .i64 0, .bool false, .int .i64 0]] : Array Value).toList 8 = some ([.agg [.lit (.int .i64 0), .lit (.int .u32 0), .lit (.string [])], .agg [.lit (.int .i64 0), .lit (.int .i64 0), .lit (.string []), .lit (.int .i64 0), .lit (.int .i64 0), .lit (.string []), .lit (.bool false), .nil, .lit (.int .u64 0), .lit (.int .u64 0), .lit (.int .u64 0), .lit (.int .i64 0), .lit (.bool false), .lit (.int .i64 0)]], [], places) :=
  ⟨[], by kernel_rfl⟩
set_option maxRecDepth 100000 in
theorem headgatelaw27_NresvBack.lifted (os : Os) (started : os.Started) (H : Type) (enc : TypeId × Value → H) (F : Stop.Interp) :
    ReturnsInHanded {} Tryd.checked os 6 .any ((OpenSpec.ofChange Rows.nresvBackSpec).preRow enc Tryd.prog Tryd.f6 Rows.nresvBackRow.domain false Rows.nresvBackRow.laid) (((OpenSpec.ofChange Rows.nresvBackSpec).at F).post enc Tryd.prog Tryd.f6 false true false false) := by
  obtain ⟨places, hx⟩ := headgatelaw27_NresvBack.reads os enc
  refine returnsInHanded_of_row (C := Tryd.checked) (s := OpenSpec.ofChange Rows.nresvBackSpec) headgatelaw27_NresvBack.own started (by kernel_rfl) Tryd.func6
    (witness_row_at (enc := enc) (C := Tryd.checked) false (headgatelaw27_NresvBack.laidWorld os) #[Value.agg #[.int .i64 0, .int .u32 0, .string ByteArray.empty], Value.agg #[.int .i64 0, .int .i64 0, .string ByteArray.empty, .int .i64 0, .int .i64 0, .string ByteArray.empty, .bool false, .slice none 0 0, .int .u64 0, .int .u64 0, .int .u64 0, .int .i64 0, .bool false, .int .i64 0]] rfl (by kernel_rfl) (by kernel_rfl) (by kernel_rfl)
      (OpenSpec.preRow_of_cond 8 hx (by kernel_rfl) (fun k hk => by cases hk) (by kernel_rfl) (headgatelaw27_NresvBack.laid_met os))) ?_
  intro W base args ds gs before hval0 hW hcnd _ hsz0 hL _ _
  have hsz : (DataW.weightsEach Tryd.prog (Tryd.f6.params.toList ++ Rows.nresvBackSpec.plain.varTypes Tryd.prog) (ds ++ gs)).all (· ≤ reachBytes) = true := hsz0
  have hLl : laidMet Tryd.prog Rows.nresvBackRow.laid W := hL
  have hval : ∀ (j : Nat) t v, Tryd.f6.params[j]? = some t → args[j]? = some v → Value.okWide Tryd.prog W .any base t v := hval0
  have hW' := hW
  obtain ⟨p, q, hA0, hV, rfl, hfz, hnd⟩ := hW
  have hA : DataW.TrodAll enc Tryd.prog W 0 (fun _ => true) true Tryd.f6.params.toList args.toList ds p := hA0
  rw [Tryd.params6] at hA hval hsz
  obtain ⟨v0, vs0, d0, ds0, p0, q0, hargs, rfl, rfl, h0, r0⟩ := trodAll_cons hA
  obtain ⟨v1, vs1, d1, ds1, p1, q1, rfl, rfl, rfl, h1, r1⟩ := trodAll_cons r0
  obtain ⟨rfl, rfl, rfl⟩ := trodAll_nil r1
  obtain rfl : args = #[v0, v1] := by cases args; simp_all
  obtain ⟨rfl, rfl⟩ := trodVars_none hV
  have k0 := h0
  obtain ⟨a0, hc0, o0⟩ := (headgatelaw27_NresvBack.op0 W).arg h0 hsz (j := 0) rfl rfl
  obtain rfl := okWide_agg (by kernel_rfl) (hval 0 46 v0 rfl rfl) hc0
  have k1 := h1
  obtain ⟨a1, A1_0, c1_0, hc1, hs1_0, o1⟩ := (headgatelaw27_NresvBack.op1 W).arg h1 hsz (j := 1) rfl rfl
  have sp1 := okWide_spot (hval 1 49 v1 rfl rfl)
  rw [hc1] at sp1
  have hr1_0 := hs1_0 (sp1 _ (by simp))
  obtain rfl := okWide_agg (by kernel_rfl) (hval 1 49 v1 rfl rfl) hc1
  clear hA0 hval0 hsz0 hsz
  obtain ⟨K, hK⟩ := headgatelaw27_NresvBack.pure a0 a1 o0 o1
  refine (headgatelaw27_NresvBack.calls K a0 a1 A1_0 c1_0 true W (headgatelaw27_NresvBack.laid0 hLl) (headgatelaw27_NresvBack.laid1 hLl) (headgatelaw27_NresvBack.laid2 hLl) hr1_0 hK).mono fun e W' ⟨he, HW⟩ => ?_
  have bel := HW.below
  subst he
  exact ⟨_, rfl, _, _, _, [], _, [], hW', trodAll_mk1 (shut_bool Tryd.underlying4 _), (trodAll_cons_mk (Below.trod headgatelaw27_NresvBack.laidOut (by kernel_rfl) (of_decide_eq_true (by kernel_rfl)) k0 bel (trod_blocks k0)) (trodAll_cons_mk (Below.trod headgatelaw27_NresvBack.laidOut (by kernel_rfl) (of_decide_eq_true (by kernel_rfl)) k1 bel (trod_blocks k1)) trodAll_mk0)), rfl, bel.frame _, fun h => by cases h⟩
end Go.Proofs.YthjjbkgifelooaaDoor.F
namespace Go.Proofs.YthjjbkgifelooaaDoor
open Go Go.RowKit Go.ChangeShapes Go.WideShapes Go.ChangeAt Go.Proofs.YthjjbkgifelooaaDoor.X Go.Proofs.YthjjbkgifelooaaDoor.F
theorem nresvBack_said : Rows.NresvBackSaid :=
  OpenClaim.holds_of_cond 6 Tryd.f6 rfl rfl rfl rfl rfl rfl rfl ⟨rfl, rfl, rfl, rfl, rfl⟩ rfl rfl rfl rfl rfl (by kernel_rfl) Tryd.func6 (by kernel_rfl)
    (of_decide_eq_true (by kernel_rfl)) (by unfold Func.isWrapper; first | (rw [if_pos (by decide +kernel)]; kernel_rfl) | (rw [if_neg (by decide +kernel)]; exact ⟨rfl, rfl⟩))
    (fun os started H enc _ F => by rw [OpenClaim.pre_eq_preRow]; exact headgatelaw27_NresvBack.lifted os started H enc F)
theorem nresvBack_plain (f : FuncId) (fn : Func) (hf : Tryd.pinned.checked.prog.funcNamed "headgate/headgatelaw27.NresvBack" = some f) (hfn : Tryd.pinned.checked.prog.funcs[f]? = some fn) :
    false = Tryd.pinned.checked.prog.looks [] ∧ ∀ (j : Nat) t, fn.params[j]? = some t → Tryd.pinned.checked.prog.wantsStandIn t = false := by
  obtain rfl : f = 6 := Option.some.inj ((show Tryd.prog.funcNamed "headgate/headgatelaw27.NresvBack" = some 6 by kernel_rfl).symm.trans hf) |>.symm
  obtain rfl : fn = Tryd.f6 := (Option.some.inj (Tryd.func6.symm.trans hfn)).symm
  refine ⟨by kernel_rfl, fun j t ht => ?_⟩
  rw [Tryd.params6] at ht
  have hm := Array.mem_of_getElem? ht
  simp only [List.mem_toArray, List.mem_cons, List.not_mem_nil, or_false] at hm
  rcases hm with rfl | rfl
  · exact (show Tryd.prog.wantsStandIn 46 = false by kernel_rfl)
  · exact (show Tryd.prog.wantsStandIn 49 = false by kernel_rfl)
/-- The card. -/
theorem nresvBack_card : Rows.NresvBackCardSaid :=
  Claim7.holds_tied_plain_at .later [] _ _ _ _ nresvBack_said (fun _ h => by cases h) (by kernel_rfl) (fun _ h => by cases h) nresvBack_row_tie rfl ⟨rfl, rfl⟩ (by kernel_rfl) rfl nresvBack_plain (by kernel_rfl)
end Go.Proofs.YthjjbkgifelooaaDoor
