/- headgate/headgatelaw19.ScsiNone returns true for every input, and what it is handed reads as before. No condition. -/
import Derived.Test.YteilejfncdacfaaGreatDoorCards
import Derived.Test.YteilejfncdacfaaGreatDoorTie
import Derived.Test.YteilejfncdacfaaGreatDoorXLaid
import Derived.Test.YteilejfncdacfaaGreatDoorXRow
import Derived.Test.YteilejfncdacfaaGreatDoorF5
import Derived.Test.YteilejfncdacfaaGreatDoorUScsiNone
namespace Go.Proofs.YteilejfncdacfaaGreatDoor.F
open Go Go.RowKit Go.ChangeShapes Go.WideShapes Go.ChangeAt Go.Proofs.YteilejfncdacfaaGreatDoor.X
set_option linter.unusedVariables false
set_option linter.unusedSimpArgs false
theorem headgatelaw19_ScsiNone.op0 (W : World) : XTold Tryz.prog W 23 (fun cs => ∃ (a0 : T_headgatelaw19_Ask), cs = [.string a0.f0, .int .i64 a0.f1, .string a0.f2, .string a0.f3] ∧ (a0.ok)) := by
  refine XTold.mono (XTold.struct (Rs := [_, _, _, _]) Tryz.underlying23 ⟨(XTold.str Tryz.underlying9), (XTold.int Tryz.underlying3), (XTold.str Tryz.underlying9), (XTold.str Tryz.underlying9), trivial⟩ (by kernel_rfl)) ?_
  rintro cs ⟨_, _, rfl, ⟨n2, rfl, w2⟩, ⟨_, _, rfl, ⟨n3, rfl, w3⟩, ⟨_, _, rfl, ⟨n4, rfl, w4⟩, ⟨_, _, rfl, ⟨n5, rfl, w5⟩, rfl⟩⟩⟩⟩
  exact ⟨(⟨n2, n3, n4, n5⟩ : T_headgatelaw19_Ask), rfl, ⟨w2, bounds_i64 w3, w4, w5⟩⟩
theorem headgatelaw19_ScsiNone.own : ownKnob Tryz.prog.godebug = none := by kernel_rfl
theorem headgatelaw19_ScsiNone.laidOut : laidOutB Tryz.prog = true := by kernel_rfl
theorem headgatelaw19_ScsiNone.flat0 : XFlat Tryz.prog 270 := (XFlat.array Tryz.underlying270 (XFlat.int Tryz.underlying3) (by kernel_rfl))
theorem headgatelaw19_ScsiNone.laid0 {W : World} (h : laidMet Tryz.prog Rows.scsiNoneRow.laid W) : CA W 0 0 (encs (encIK .i64) G_access_lets).toArray :=
  laid_ca h (name := "headgate/access.lets") (d := Rows.laid_headgate_access_lets) rfl (by kernel_rfl) (by kernel_rfl) headgatelaw19_ScsiNone.flat0 (by kernel_rfl)
theorem headgatelaw19_ScsiNone.flat2 : XFlat Tryz.prog 314 := (XFlat.array Tryz.underlying314 (XFlat.struct Tryz.underlying216 ⟨(XFlat.int Tryz.underlying3), (XFlat.int Tryz.underlying3), (XFlat.struct Tryz.underlying214 ⟨(XFlat.int Tryz.underlying3), (XFlat.int Tryz.underlying3), trivial⟩ (by kernel_rfl)), (XFlat.struct Tryz.underlying214 ⟨(XFlat.int Tryz.underlying3), (XFlat.int Tryz.underlying3), trivial⟩ (by kernel_rfl)), (XFlat.struct Tryz.underlying214 ⟨(XFlat.int Tryz.underlying3), (XFlat.int Tryz.underlying3), trivial⟩ (by kernel_rfl)), trivial⟩ (by kernel_rfl)) (by kernel_rfl))
theorem headgatelaw19_ScsiNone.laid2 {W : World} (h : laidMet Tryz.prog Rows.scsiNoneRow.laid W) : CA W 2 0 (encs T_cdb_form.enc G_cdb_forms).toArray :=
  laid_ca h (name := "headgate/cdb.forms") (d := Rows.laid_headgate_cdb_forms) rfl (by kernel_rfl) (by kernel_rfl) headgatelaw19_ScsiNone.flat2 (by kernel_rfl)
theorem headgatelaw19_ScsiNone.flat3 : XFlat Tryz.prog 270 := (XFlat.array Tryz.underlying270 (XFlat.int Tryz.underlying3) (by kernel_rfl))
theorem headgatelaw19_ScsiNone.laid3 {W : World} (h : laidMet Tryz.prog Rows.scsiNoneRow.laid W) : CA W 3 0 (encs (encIK .i64) G_cdb_numbers).toArray :=
  laid_ca h (name := "headgate/cdb.numbers") (d := Rows.laid_headgate_cdb_numbers) rfl (by kernel_rfl) (by kernel_rfl) headgatelaw19_ScsiNone.flat3 (by kernel_rfl)
theorem headgatelaw19_ScsiNone.flat4 : XFlat Tryz.prog 427 := (XFlat.array Tryz.underlying427 (XFlat.int Tryz.underlying62) (by kernel_rfl))
theorem headgatelaw19_ScsiNone.laid4 {W : World} (h : laidMet Tryz.prog Rows.scsiNoneRow.laid W) : CA W 4 0 (encs (encIK .u32) G_crc_steps).toArray :=
  laid_ca h (name := "headgate/crc.steps") (d := Rows.laid_headgate_crc_steps) rfl (by kernel_rfl) (by kernel_rfl) headgatelaw19_ScsiNone.flat4 (by kernel_rfl)
theorem headgatelaw19_ScsiNone.flat1 : XFlat Tryz.prog 285 := (XFlat.array Tryz.underlying285 (XFlat.struct Tryz.underlying284 ⟨(XFlat.int Tryz.underlying3), (XFlat.int Tryz.underlying3), (XFlat.int Tryz.underlying3), (XFlat.int Tryz.underlying3), (XFlat.int Tryz.underlying3), (XFlat.int Tryz.underlying3), trivial⟩ (by kernel_rfl)) (by kernel_rfl))
theorem headgatelaw19_ScsiNone.laid1 {W : World} (h : laidMet Tryz.prog Rows.scsiNoneRow.laid W) : CA W 1 0 (encs T_sense_row.enc G_sense_rows).toArray :=
  laid_ca h (name := "headgate/sense.rows") (d := Rows.laid_headgate_sense_rows) rfl (by kernel_rfl) (by kernel_rfl) headgatelaw19_ScsiNone.flat1 (by kernel_rfl)
noncomputable def headgatelaw19_ScsiNone.laidWorld (os : Os) : World :=
  { World.holding Tryz.prog os ⟨#[], #[], []⟩ with heap := ((((((World.holding Tryz.prog os ⟨#[], #[], []⟩).heap).modify 0 (putT (encs (encIK .i64) G_access_lets).toArray)).modify 2 (putT (encs T_cdb_form.enc G_cdb_forms).toArray)).modify 3 (putT (encs (encIK .i64) G_cdb_numbers).toArray)).modify 4 (putT (encs (encIK .u32) G_crc_steps).toArray)).modify 1 (putT (encs T_sense_row.enc G_sense_rows).toArray) }
theorem headgatelaw19_ScsiNone.laid_met (os : Os) : laidMet Tryz.prog Rows.scsiNoneRow.laid ((headgatelaw19_ScsiNone.laidWorld os).forCall (fun _ _ => 0) ⟨#[], #[Value.agg #[.string ByteArray.empty, .int .i64 0, .string ByteArray.empty, .string ByteArray.empty]], []⟩).memory :=
  laidMet_of_run' 8 (by kernel_rfl) (by kernel_rfl)
theorem headgatelaw19_ScsiNone.reads (os : Os) {H : Type} (enc : TypeId × Value → H) : ∃ places, DataW.whole enc Tryz.prog ((headgatelaw19_ScsiNone.laidWorld os).forCall (fun _ _ => 0) ⟨#[], #[Value.agg #[.string ByteArray.empty, .int .i64 0, .string ByteArray.empty, .string ByteArray.empty]], []⟩).memory Tryz.f5.params.toList Rows.scsiNoneSpec.vars false (#[Value.agg #[.string ByteArray.empty, .int .i64 0, .string ByteArray.empty, .string ByteArray.empty]] : Array Value).toList 8 = some ([.agg [.lit (.string []), .lit (.int .i64 0), .lit (.string []), .lit (.string [])]], [], places) :=
  ⟨[], by kernel_rfl⟩
set_option maxRecDepth 100000 in
theorem headgatelaw19_ScsiNone.lifted (os : Os) (started : os.Started) (H : Type) (enc : TypeId × Value → H) (F : Stop.Interp) :
    ReturnsInHanded {} Tryz.checked os 5 .any ((OpenSpec.ofChange Rows.scsiNoneSpec).preRow enc Tryz.prog Tryz.f5 Rows.scsiNoneRow.domain false Rows.scsiNoneRow.laid) (((OpenSpec.ofChange Rows.scsiNoneSpec).at F).post enc Tryz.prog Tryz.f5 false true false false) := by
  obtain ⟨places, hx⟩ := headgatelaw19_ScsiNone.reads os enc
  refine returnsInHanded_of_row (C := Tryz.checked) (s := OpenSpec.ofChange Rows.scsiNoneSpec) headgatelaw19_ScsiNone.own started (by kernel_rfl) Tryz.func5
    (witness_row_at (enc := enc) (C := Tryz.checked) false (headgatelaw19_ScsiNone.laidWorld os) #[Value.agg #[.string ByteArray.empty, .int .i64 0, .string ByteArray.empty, .string ByteArray.empty]] rfl (by kernel_rfl) (by kernel_rfl) (by kernel_rfl)
      (OpenSpec.preRow_of_cond 8 hx (by kernel_rfl) (fun k hk => by cases hk) (by kernel_rfl) (headgatelaw19_ScsiNone.laid_met os))) ?_
  intro W base args ds gs before hval0 hW hcnd _ hsz0 hL _ _
  have hsz : (DataW.weightsEach Tryz.prog (Tryz.f5.params.toList ++ Rows.scsiNoneSpec.plain.varTypes Tryz.prog) (ds ++ gs)).all (· ≤ reachBytes) = true := hsz0
  have hLl : laidMet Tryz.prog Rows.scsiNoneRow.laid W := hL
  have hval : ∀ (j : Nat) t v, Tryz.f5.params[j]? = some t → args[j]? = some v → Value.okWide Tryz.prog W .any base t v := hval0
  have hW' := hW
  obtain ⟨p, q, hA0, hV, rfl, hfz, hnd⟩ := hW
  have hA : DataW.TrodAll enc Tryz.prog W 0 (fun _ => true) true Tryz.f5.params.toList args.toList ds p := hA0
  rw [Tryz.params5] at hA hval hsz
  obtain ⟨v0, vs0, d0, ds0, p0, q0, hargs, rfl, rfl, h0, r0⟩ := trodAll_cons hA
  obtain ⟨rfl, rfl, rfl⟩ := trodAll_nil r0
  obtain rfl : args = #[v0] := by cases args; simp_all
  obtain ⟨rfl, rfl⟩ := trodVars_none hV
  have k0 := h0
  obtain ⟨a0, hc0, o0⟩ := (headgatelaw19_ScsiNone.op0 W).arg h0 hsz (j := 0) rfl rfl
  obtain rfl := okWide_agg (by kernel_rfl) (hval 0 23 v0 rfl rfl) hc0
  clear hA0 hval0 hsz0 hsz
  obtain ⟨K, hK⟩ := headgatelaw19_ScsiNone.pure a0 o0
  refine (headgatelaw19_ScsiNone.calls K a0  true W (headgatelaw19_ScsiNone.laid0 hLl) (headgatelaw19_ScsiNone.laid1 hLl) (headgatelaw19_ScsiNone.laid2 hLl) (headgatelaw19_ScsiNone.laid3 hLl) (headgatelaw19_ScsiNone.laid4 hLl)  hK).mono fun e W' ⟨he, HW⟩ => ?_
  have bel := HW.below
  subst he
  exact ⟨_, rfl, _, _, _, [], _, [], hW', trodAll_mk1 (shut_bool Tryz.underlying4 _), (trodAll_cons_mk (Below.trod headgatelaw19_ScsiNone.laidOut (by kernel_rfl) (of_decide_eq_true (by kernel_rfl)) k0 bel (trod_blocks k0)) trodAll_mk0), rfl, bel.frame _, fun h => by cases h⟩
end Go.Proofs.YteilejfncdacfaaGreatDoor.F
namespace Go.Proofs.YteilejfncdacfaaGreatDoor
open Go Go.RowKit Go.ChangeShapes Go.WideShapes Go.ChangeAt Go.Proofs.YteilejfncdacfaaGreatDoor.X Go.Proofs.YteilejfncdacfaaGreatDoor.F
set_option maxHeartbeats 8000000 in
theorem scsiNone_said : Rows.ScsiNoneSaid :=
  OpenClaim.holds_of_cond 5 Tryz.f5 rfl rfl rfl rfl rfl rfl rfl ⟨rfl, rfl, rfl, rfl, rfl⟩ rfl rfl rfl rfl rfl (by kernel_rfl) Tryz.func5 (by simp only [joinedFacts, Bool.and_eq_true]; (repeat' apply And.intro) <;> (as_aux_lemma => kernel_rfl))
    (of_decide_eq_true (by kernel_rfl)) (by unfold Func.isWrapper; first | (rw [if_pos (by decide +kernel)]; kernel_rfl) | (rw [if_neg (by decide +kernel)]; exact ⟨rfl, rfl⟩))
    (fun os started H enc _ F => by rw [OpenClaim.pre_eq_preRow]; exact headgatelaw19_ScsiNone.lifted os started H enc F)
theorem scsiNone_plain (f : FuncId) (fn : Func) (hf : Tryz.pinned.checked.prog.funcNamed "headgate/headgatelaw19.ScsiNone" = some f) (hfn : Tryz.pinned.checked.prog.funcs[f]? = some fn) :
    false = Tryz.pinned.checked.prog.looks [] ∧ ∀ (j : Nat) t, fn.params[j]? = some t → Tryz.pinned.checked.prog.wantsStandIn t = false := by
  obtain rfl : f = 5 := Option.some.inj ((show Tryz.prog.funcNamed "headgate/headgatelaw19.ScsiNone" = some 5 by kernel_rfl).symm.trans hf) |>.symm
  obtain rfl : fn = Tryz.f5 := (Option.some.inj (Tryz.func5.symm.trans hfn)).symm
  refine ⟨by kernel_rfl, fun j t ht => ?_⟩
  rw [Tryz.params5] at ht
  have hm := Array.mem_of_getElem? ht
  simp only [List.mem_toArray, List.mem_cons, List.not_mem_nil, or_false] at hm
  rcases hm with rfl
  · exact (show Tryz.prog.wantsStandIn 23 = false by kernel_rfl)
/-- The card. -/
theorem scsiNone_card : Rows.ScsiNoneCardSaid :=
  Claim7.holds_tied_plain_at .later [] _ _ _ _ scsiNone_said (fun _ h => by cases h) (by kernel_rfl) (fun _ h => by cases h) scsiNone_row_tie rfl ⟨rfl, rfl⟩ (by kernel_rfl) rfl scsiNone_plain (by kernel_rfl)
end Go.Proofs.YteilejfncdacfaaGreatDoor
