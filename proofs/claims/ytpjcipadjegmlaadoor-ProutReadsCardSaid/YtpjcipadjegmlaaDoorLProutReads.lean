/- headgate/headgatelaw18.ProutReads returns true for every input, and what it is handed reads as before. No condition. -/
import Derived.Test.YtpjcipadjegmlaaDoorCards
import Derived.Test.YtpjcipadjegmlaaDoorTie
import Derived.Test.YtpjcipadjegmlaaDoorXLaid
import Derived.Test.YtpjcipadjegmlaaDoorXRow
import Derived.Test.YtpjcipadjegmlaaDoorF3
import Derived.Test.YtpjcipadjegmlaaDoorUProutReads
namespace Go.Proofs.YtpjcipadjegmlaaDoor.F
open Go Go.RowKit Go.ChangeShapes Go.WideShapes Go.ChangeAt Go.Proofs.YtpjcipadjegmlaaDoor.X
set_option linter.unusedVariables false
set_option linter.unusedSimpArgs false
theorem headgatelaw18_ProutReads.op0 (W : World) : XTold Tryd.prog W 27 (fun cs => ∃ (a0 : T_api_Table) (A0_0 : Option Addr) (c0_0 : Nat), cs = [.slice A0_0 a0.f0.length c0_0, .int .i64 a0.f1.f0, .string a0.f1.f1, .int .u32 a0.f2, .bool a0.f3] ∧ (Spot (.slice A0_0 a0.f0.length c0_0) → Rd 2 W (.slice A0_0 a0.f0.length c0_0) a0.f0.length (encs T_api_Reg.enc a0.f0)) ∧ (a0.ok)) := by
  refine XTold.mono (XTold.struct (Rs := [_, _, _, _]) Tryd.underlying27 ⟨(XTold.slice (sz := 2) Tryd.underlying22 (by kernel_rfl) (XTold.struct (Rs := [_, _]) Tryd.underlying36 ⟨(XTold.str Tryd.underlying9), (XTold.int Tryd.underlying32), trivial⟩ (by kernel_rfl))), (XTold.struct (Rs := [_, _]) Tryd.underlying24 ⟨(XTold.int Tryd.underlying3), (XTold.str Tryd.underlying9), trivial⟩ (by kernel_rfl)), (XTold.int Tryd.underlying25), (XTold.bool Tryd.underlying4), trivial⟩ (by kernel_rfl)) ?_
  rintro cs ⟨_, _, rfl, ⟨A2, c2, rows2, rfl, hR2, hr2, hb2, hc2⟩, ⟨_, _, rfl, ⟨_, _, rfl, ⟨n4, rfl, w4⟩, ⟨_, _, rfl, ⟨n5, rfl, w5⟩, rfl⟩⟩, ⟨_, _, rfl, ⟨n6, rfl, w6⟩, ⟨_, _, rfl, ⟨n7, rfl⟩, rfl⟩⟩⟩⟩
  obtain ⟨xs2, rfl, hx2⟩ := rows_of (f := T_api_Reg.enc) (q := fun y => y.ok) (fun row hm => by obtain ⟨_, _, rfl, ⟨n202, rfl, w202⟩, ⟨_, _, rfl, ⟨n203, rfl, w203⟩, rfl⟩⟩ := hr2 row hm; exact ⟨(⟨n202, n203⟩ : T_api_Reg), rfl, ⟨w202, bounds_u64 w203⟩⟩)
  simp only [List.length_map] at hR2 hb2 hc2 ⊢
  rw [(by kernel_rfl : Tryd.prog.bytesOf 36 = 24)] at hb2
  exact ⟨(⟨xs2, (⟨n4, n5⟩ : T_api_Hold), n6, n7⟩ : T_api_Table), A2, c2, rfl, fun h => by have := hR2 h; rwa [← List.flatMap_def] at this, ⟨⟨hb2, hx2⟩, ⟨bounds_i64 w4, w5⟩, bounds_u32 w6, trivial⟩⟩
theorem headgatelaw18_ProutReads.own : ownKnob Tryd.prog.godebug = none := by kernel_rfl
theorem headgatelaw18_ProutReads.laidOut : laidOutB Tryd.prog = true := by kernel_rfl
theorem headgatelaw18_ProutReads.flat0 : XFlat Tryd.prog 69 := (XFlat.array Tryd.underlying69 (XFlat.int Tryd.underlying3) (by kernel_rfl))
theorem headgatelaw18_ProutReads.laid0 {W : World} (h : laidMet Tryd.prog Rows.proutReadsRow.laid W) : CA W 0 0 (encs (encI .i64) G_cdb_numbers).toArray :=
  laid_ca h (name := "headgate/cdb.numbers") (d := Rows.laid_headgate_cdb_numbers) rfl (by kernel_rfl) (by kernel_rfl) headgatelaw18_ProutReads.flat0 (by kernel_rfl)
noncomputable def headgatelaw18_ProutReads.laidWorld (os : Os) : World :=
  { World.holding Tryd.prog os ⟨#[], #[], []⟩ with heap := ((World.holding Tryd.prog os ⟨#[], #[], []⟩).heap).modify 0 (putT (encs (encI .i64) G_cdb_numbers).toArray) }
theorem headgatelaw18_ProutReads.laid_met (os : Os) : laidMet Tryd.prog Rows.proutReadsRow.laid ((headgatelaw18_ProutReads.laidWorld os).forCall (fun _ _ => 0) ⟨#[], #[Value.agg #[.slice none 0 0, .int .i64 0, .string ByteArray.empty, .int .u32 0, .bool false]], []⟩).memory :=
  laidMet_of_run' 8 (by kernel_rfl) (by kernel_rfl)
theorem headgatelaw18_ProutReads.reads (os : Os) {H : Type} (enc : TypeId × Value → H) : ∃ places, DataW.whole enc Tryd.prog ((headgatelaw18_ProutReads.laidWorld os).forCall (fun _ _ => 0) ⟨#[], #[Value.agg #[.slice none 0 0, .int .i64 0, .string ByteArray.empty, .int .u32 0, .bool false]], []⟩).memory Tryd.f3.params.toList Rows.proutReadsSpec.vars false (#[Value.agg #[.slice none 0 0, .int .i64 0, .string ByteArray.empty, .int .u32 0, .bool false]] : Array Value).toList 8 = some ([.agg [.nil, .agg [.lit (.int .i64 0), .lit (.string [])], .lit (.int .u32 0), .lit (.bool false)]], [], places) :=
  ⟨[], by kernel_rfl⟩
set_option maxRecDepth 100000 in
theorem headgatelaw18_ProutReads.lifted (os : Os) (started : os.Started) (H : Type) (enc : TypeId × Value → H) (F : Stop.Interp) :
    ReturnsInHanded {} Tryd.checked os 3 .any ((OpenSpec.ofChange Rows.proutReadsSpec).preRow enc Tryd.prog Tryd.f3 Rows.proutReadsRow.domain false Rows.proutReadsRow.laid) (((OpenSpec.ofChange Rows.proutReadsSpec).at F).post enc Tryd.prog Tryd.f3 false true false false) := by
  obtain ⟨places, hx⟩ := headgatelaw18_ProutReads.reads os enc
  refine returnsInHanded_of_row (C := Tryd.checked) (s := OpenSpec.ofChange Rows.proutReadsSpec) headgatelaw18_ProutReads.own started (by kernel_rfl) Tryd.func3
    (witness_row_at (enc := enc) (C := Tryd.checked) false (headgatelaw18_ProutReads.laidWorld os) #[Value.agg #[.slice none 0 0, .int .i64 0, .string ByteArray.empty, .int .u32 0, .bool false]] rfl (by kernel_rfl) (by kernel_rfl) (by kernel_rfl)
      (OpenSpec.preRow_of_cond 8 hx (by kernel_rfl) (fun k hk => by cases hk) (by kernel_rfl) (headgatelaw18_ProutReads.laid_met os))) ?_
  intro W base args ds gs before hval0 hW hcnd _ hsz0 hL _ _
  have hsz : (DataW.weightsEach Tryd.prog (Tryd.f3.params.toList ++ Rows.proutReadsSpec.plain.varTypes Tryd.prog) (ds ++ gs)).all (· ≤ reachBytes) = true := hsz0
  have hLl : laidMet Tryd.prog Rows.proutReadsRow.laid W := hL
  have hval : ∀ (j : Nat) t v, Tryd.f3.params[j]? = some t → args[j]? = some v → Value.okWide Tryd.prog W .any base t v := hval0
  have hW' := hW
  obtain ⟨p, q, hA0, hV, rfl, hfz, hnd⟩ := hW
  have hA : DataW.TrodAll enc Tryd.prog W 0 (fun _ => true) true Tryd.f3.params.toList args.toList ds p := hA0
  rw [Tryd.params3] at hA hval hsz
  obtain ⟨v0, vs0, d0, ds0, p0, q0, hargs, rfl, rfl, h0, r0⟩ := trodAll_cons hA
  obtain ⟨rfl, rfl, rfl⟩ := trodAll_nil r0
  obtain rfl : args = #[v0] := by cases args; simp_all
  obtain ⟨rfl, rfl⟩ := trodVars_none hV
  have k0 := h0
  obtain ⟨a0, A0_0, c0_0, hc0, hs0_0, o0⟩ := (headgatelaw18_ProutReads.op0 W).arg h0 hsz (j := 0) rfl rfl
  have sp0 := okWide_spot (hval 0 27 v0 rfl rfl)
  rw [hc0] at sp0
  have hr0_0 := hs0_0 (sp0 _ (by simp))
  obtain rfl := okWide_agg (by kernel_rfl) (hval 0 27 v0 rfl rfl) hc0
  clear hA0 hval0 hsz0 hsz
  obtain ⟨K, hK⟩ := headgatelaw18_ProutReads.pure a0 o0
  refine (headgatelaw18_ProutReads.calls K a0 A0_0 c0_0 true W (headgatelaw18_ProutReads.laid0 hLl) hr0_0 hK).mono fun e W' ⟨he, HW⟩ => ?_
  have bel := HW.below
  subst he
  exact ⟨_, rfl, _, _, _, [], _, [], hW', trodAll_mk1 (shut_bool Tryd.underlying4 _), (trodAll_cons_mk (Below.trod headgatelaw18_ProutReads.laidOut (by kernel_rfl) (of_decide_eq_true (by kernel_rfl)) k0 bel (trod_blocks k0)) trodAll_mk0), rfl, bel.frame _, fun h => by cases h⟩
end Go.Proofs.YtpjcipadjegmlaaDoor.F
namespace Go.Proofs.YtpjcipadjegmlaaDoor
open Go Go.RowKit Go.ChangeShapes Go.WideShapes Go.ChangeAt Go.Proofs.YtpjcipadjegmlaaDoor.X Go.Proofs.YtpjcipadjegmlaaDoor.F
theorem proutReads_said : Rows.ProutReadsSaid :=
  OpenClaim.holds_of_cond 3 Tryd.f3 rfl rfl rfl rfl rfl rfl rfl ⟨rfl, rfl, rfl, rfl, rfl⟩ rfl rfl rfl rfl rfl (by kernel_rfl) Tryd.func3 (by kernel_rfl)
    (of_decide_eq_true (by kernel_rfl)) (by unfold Func.isWrapper; first | (rw [if_pos (by decide +kernel)]; kernel_rfl) | (rw [if_neg (by decide +kernel)]; exact ⟨rfl, rfl⟩))
    (fun os started H enc _ F => by rw [OpenClaim.pre_eq_preRow]; exact headgatelaw18_ProutReads.lifted os started H enc F)
theorem proutReads_plain (f : FuncId) (fn : Func) (hf : Tryd.pinned.checked.prog.funcNamed "headgate/headgatelaw18.ProutReads" = some f) (hfn : Tryd.pinned.checked.prog.funcs[f]? = some fn) :
    false = Tryd.pinned.checked.prog.looks [] ∧ ∀ (j : Nat) t, fn.params[j]? = some t → Tryd.pinned.checked.prog.wantsStandIn t = false := by
  obtain rfl : f = 3 := Option.some.inj ((show Tryd.prog.funcNamed "headgate/headgatelaw18.ProutReads" = some 3 by kernel_rfl).symm.trans hf) |>.symm
  obtain rfl : fn = Tryd.f3 := (Option.some.inj (Tryd.func3.symm.trans hfn)).symm
  refine ⟨by kernel_rfl, fun j t ht => ?_⟩
  rw [Tryd.params3] at ht
  have hm := Array.mem_of_getElem? ht
  simp only [List.mem_toArray, List.mem_cons, List.not_mem_nil, or_false] at hm
  rcases hm with rfl
  · exact (show Tryd.prog.wantsStandIn 27 = false by kernel_rfl)
/-- The card. -/
theorem proutReads_card : Rows.ProutReadsCardSaid :=
  Claim7.holds_tied_plain_at .later [] _ _ _ _ proutReads_said (fun _ h => by cases h) (by kernel_rfl) (fun _ h => by cases h) proutReads_row_tie rfl ⟨rfl, rfl⟩ (by kernel_rfl) rfl proutReads_plain (by kernel_rfl)
end Go.Proofs.YtpjcipadjegmlaaDoor
