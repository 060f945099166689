/- headgate/headgatelaw25.SqeGets returns true for every input, and what it is handed reads as before. No condition. -/
import Derived.Test.YtceagilmillgfaaDoorCards
import Derived.Test.YtceagilmillgfaaDoorTie
import Derived.Test.YtceagilmillgfaaDoorXLaid
import Derived.Test.YtceagilmillgfaaDoorXRow
import Derived.Test.YtceagilmillgfaaDoorF5
import Derived.Test.YtceagilmillgfaaDoorUSqeGets
namespace Go.Proofs.YtceagilmillgfaaDoor.F
open Go Go.RowKit Go.ChangeShapes Go.WideShapes Go.ChangeAt Go.Proofs.YtceagilmillgfaaDoor.X
set_option linter.unusedVariables false
set_option linter.unusedSimpArgs false
theorem headgatelaw25_SqeGets.op0 (W : World) : XTold Tryd.prog W 9 (fun cs => ∃ (a0 : ByteArray), cs = [.string a0] ∧ (a0.size ≤ 140737488351232)) := by
  refine XTold.mono (XTold.str Tryd.underlying9) ?_
  rintro cs ⟨n1, rfl, w1⟩
  exact ⟨n1, rfl, w1⟩
theorem headgatelaw25_SqeGets.own : ownKnob Tryd.prog.godebug = none := by kernel_rfl
theorem headgatelaw25_SqeGets.laidOut : laidOutB Tryd.prog = true := by kernel_rfl
theorem headgatelaw25_SqeGets.flat2 : XFlat Tryd.prog 120 := (XFlat.array Tryd.underlying120 (XFlat.struct Tryd.underlying118 ⟨(XFlat.int Tryd.underlying3), (XFlat.int Tryd.underlying3), (XFlat.int Tryd.underlying45), trivial⟩ (by kernel_rfl)) (by kernel_rfl))
theorem headgatelaw25_SqeGets.laid2 {W : World} (h : laidMet Tryd.prog Rows.sqeGetsRow.laid W) : CA W 2 0 (encs T_sqe_field.enc G_sqe_fieldsOf).toArray :=
  laid_ca h (name := "headgate/sqe.fieldsOf") (d := Rows.laid_headgate_sqe_fieldsOf) rfl (by kernel_rfl) (by kernel_rfl) headgatelaw25_SqeGets.flat2 (by kernel_rfl)
theorem headgatelaw25_SqeGets.flat1 : XFlat Tryd.prog 119 := (XFlat.array Tryd.underlying119 (XFlat.struct Tryd.underlying118 ⟨(XFlat.int Tryd.underlying3), (XFlat.int Tryd.underlying3), (XFlat.int Tryd.underlying45), trivial⟩ (by kernel_rfl)) (by kernel_rfl))
theorem headgatelaw25_SqeGets.laid1 {W : World} (h : laidMet Tryd.prog Rows.sqeGetsRow.laid W) : CA W 1 0 (encs T_sqe_field.enc G_sqe_endsOf).toArray :=
  laid_ca h (name := "headgate/sqe.endsOf") (d := Rows.laid_headgate_sqe_endsOf) rfl (by kernel_rfl) (by kernel_rfl) headgatelaw25_SqeGets.flat1 (by kernel_rfl)
noncomputable def headgatelaw25_SqeGets.laidWorld (os : Os) : World :=
  { World.holding Tryd.prog os ⟨#[], #[], []⟩ with heap := (((World.holding Tryd.prog os ⟨#[], #[], []⟩).heap).modify 2 (putT (encs T_sqe_field.enc G_sqe_fieldsOf).toArray)).modify 1 (putT (encs T_sqe_field.enc G_sqe_endsOf).toArray) }
theorem headgatelaw25_SqeGets.laid_met (os : Os) : laidMet Tryd.prog Rows.sqeGetsRow.laid ((headgatelaw25_SqeGets.laidWorld os).forCall (fun _ _ => 0) ⟨#[], #[Value.string ByteArray.empty], []⟩).memory :=
  laidMet_of_run' 8 (by kernel_rfl) (by kernel_rfl)
theorem headgatelaw25_SqeGets.reads (os : Os) {H : Type} (enc : TypeId × Value → H) : ∃ places, DataW.whole enc Tryd.prog ((headgatelaw25_SqeGets.laidWorld os).forCall (fun _ _ => 0) ⟨#[], #[Value.string ByteArray.empty], []⟩).memory Tryd.f5.params.toList Rows.sqeGetsSpec.vars false (#[Value.string ByteArray.empty] : Array Value).toList 8 = some ([.lit (.string [])], [], places) :=
  ⟨[], by kernel_rfl⟩
set_option maxRecDepth 100000 in
theorem headgatelaw25_SqeGets.lifted (os : Os) (started : os.Started) (H : Type) (enc : TypeId × Value → H) (F : Stop.Interp) :
    ReturnsInHanded {} Tryd.checked os 5 .any ((OpenSpec.ofChange Rows.sqeGetsSpec).preRow enc Tryd.prog Tryd.f5 Rows.sqeGetsRow.domain false Rows.sqeGetsRow.laid) (((OpenSpec.ofChange Rows.sqeGetsSpec).at F).post enc Tryd.prog Tryd.f5 false true false false) := by
  obtain ⟨places, hx⟩ := headgatelaw25_SqeGets.reads os enc
  refine returnsInHanded_of_row (C := Tryd.checked) (s := OpenSpec.ofChange Rows.sqeGetsSpec) headgatelaw25_SqeGets.own started (by kernel_rfl) Tryd.func5
    (witness_row_at (enc := enc) (C := Tryd.checked) false (headgatelaw25_SqeGets.laidWorld os) #[Value.string ByteArray.empty] rfl (by kernel_rfl) (by kernel_rfl) (by kernel_rfl)
      (OpenSpec.preRow_of_cond 8 hx (by kernel_rfl) (fun k hk => by cases hk) (by kernel_rfl) (headgatelaw25_SqeGets.laid_met os))) ?_
  intro W base args ds gs before hval0 hW hcnd _ hsz0 hL _ _
  have hsz : (DataW.weightsEach Tryd.prog (Tryd.f5.params.toList ++ Rows.sqeGetsSpec.plain.varTypes Tryd.prog) (ds ++ gs)).all (· ≤ reachBytes) = true := hsz0
  have hLl : laidMet Tryd.prog Rows.sqeGetsRow.laid W := hL
  have hval : ∀ (j : Nat) t v, Tryd.f5.params[j]? = some t → args[j]? = some v → Value.okWide Tryd.prog W .any base t v := hval0
  have hW' := hW
  obtain ⟨p, q, hA0, hV, rfl, hfz, hnd⟩ := hW
  have hA : DataW.TrodAll enc Tryd.prog W 0 (fun _ => true) true Tryd.f5.params.toList args.toList ds p := hA0
  rw [Tryd.params5] at hA hval hsz
  obtain ⟨v0, vs0, d0, ds0, p0, q0, hargs, rfl, rfl, h0, r0⟩ := trodAll_cons hA
  obtain ⟨rfl, rfl, rfl⟩ := trodAll_nil r0
  obtain rfl : args = #[v0] := by cases args; simp_all
  obtain ⟨rfl, rfl⟩ := trodVars_none hV
  have k0 := h0
  obtain ⟨a0, hc0, o0⟩ := (headgatelaw25_SqeGets.op0 W).arg h0 hsz (j := 0) rfl rfl
  obtain rfl := okWide_one (by kernel_rfl) (hval 0 9 v0 rfl rfl) hc0
  clear hA0 hval0 hsz0 hsz
  obtain ⟨K, hK⟩ := headgatelaw25_SqeGets.pure a0 o0
  refine (headgatelaw25_SqeGets.calls K a0  true W (headgatelaw25_SqeGets.laid1 hLl) (headgatelaw25_SqeGets.laid2 hLl)  hK).mono fun e W' ⟨he, HW⟩ => ?_
  have bel := HW.below
  subst he
  exact ⟨_, rfl, _, _, _, [], _, [], hW', trodAll_mk1 (shut_bool Tryd.underlying4 _), (trodAll_cons_mk (Below.trod headgatelaw25_SqeGets.laidOut (by kernel_rfl) (of_decide_eq_true (by kernel_rfl)) k0 bel (trod_blocks k0)) trodAll_mk0), rfl, bel.frame _, fun h => by cases h⟩
end Go.Proofs.YtceagilmillgfaaDoor.F
namespace Go.Proofs.YtceagilmillgfaaDoor
open Go Go.RowKit Go.ChangeShapes Go.WideShapes Go.ChangeAt Go.Proofs.YtceagilmillgfaaDoor.X Go.Proofs.YtceagilmillgfaaDoor.F
theorem sqeGets_said : Rows.SqeGetsSaid :=
  OpenClaim.holds_of_cond 5 Tryd.f5 rfl rfl rfl rfl rfl rfl rfl ⟨rfl, rfl, rfl, rfl, rfl⟩ rfl rfl rfl rfl rfl (by kernel_rfl) Tryd.func5 (by kernel_rfl)
    (of_decide_eq_true (by kernel_rfl)) (by unfold Func.isWrapper; first | (rw [if_pos (by decide +kernel)]; kernel_rfl) | (rw [if_neg (by decide +kernel)]; exact ⟨rfl, rfl⟩))
    (fun os started H enc _ F => by rw [OpenClaim.pre_eq_preRow]; exact headgatelaw25_SqeGets.lifted os started H enc F)
theorem sqeGets_plain (f : FuncId) (fn : Func) (hf : Tryd.pinned.checked.prog.funcNamed "headgate/headgatelaw25.SqeGets" = some f) (hfn : Tryd.pinned.checked.prog.funcs[f]? = some fn) :
    false = Tryd.pinned.checked.prog.looks [] ∧ ∀ (j : Nat) t, fn.params[j]? = some t → Tryd.pinned.checked.prog.wantsStandIn t = false := by
  obtain rfl : f = 5 := Option.some.inj ((show Tryd.prog.funcNamed "headgate/headgatelaw25.SqeGets" = some 5 by kernel_rfl).symm.trans hf) |>.symm
  obtain rfl : fn = Tryd.f5 := (Option.some.inj (Tryd.func5.symm.trans hfn)).symm
  refine ⟨by kernel_rfl, fun j t ht => ?_⟩
  rw [Tryd.params5] at ht
  have hm := Array.mem_of_getElem? ht
  simp only [List.mem_toArray, List.mem_cons, List.not_mem_nil, or_false] at hm
  rcases hm with rfl
  · exact (show Tryd.prog.wantsStandIn 9 = false by kernel_rfl)
/-- The card. -/
theorem sqeGets_card : Rows.SqeGetsCardSaid :=
  Claim7.holds_tied_plain_at .later [] _ _ _ _ sqeGets_said (fun _ h => by cases h) (by kernel_rfl) (fun _ h => by cases h) sqeGets_row_tie rfl ⟨rfl, rfl⟩ (by kernel_rfl) rfl sqeGets_plain (by kernel_rfl)
end Go.Proofs.YtceagilmillgfaaDoor
