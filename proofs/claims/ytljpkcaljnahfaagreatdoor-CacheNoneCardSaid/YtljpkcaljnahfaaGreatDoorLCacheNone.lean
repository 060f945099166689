/- headgate/headgatelaw09.CacheNone returns true for every input, and what it is handed reads as before: by a plain run. No condition. -/
import Derived.Test.YtljpkcaljnahfaaGreatDoorCards
import Derived.Test.YtljpkcaljnahfaaGreatDoorTie
import Derived.Test.YtljpkcaljnahfaaGreatDoorXLaid
import Derived.Test.YtljpkcaljnahfaaGreatDoorXRow
import Derived.Test.YtljpkcaljnahfaaGreatDoorXLib
namespace Go.Proofs.YtljpkcaljnahfaaGreatDoor.F
open Go Go.RowKit Go.ChangeShapes Go.WideShapes Go.ChangeAt Go.Proofs.YtljpkcaljnahfaaGreatDoor.X
set_option linter.unusedVariables false
set_option linter.unusedSimpArgs false
theorem headgatelaw09_CacheNone.run (a0 a1 : Int) : told (runF Tryz.prog 4 (libOf lib1) 100000 4 [.int .i64 a0, .int .i64 a1] (heapL 4 [(1, 269, crcTab)])) true = true := by kernel_rfl
theorem headgatelaw09_CacheNone.op0 (W : World) : XTold Tryz.prog W 3 (fun cs => ∃ (a0 : Int), cs = [.int .i64 a0]) := by
  refine XTold.mono (XTold.int Tryz.underlying3) ?_
  rintro cs ⟨n1, rfl, w1⟩
  exact ⟨n1, rfl⟩
theorem headgatelaw09_CacheNone.own : ownKnob Tryz.prog.godebug = none := by kernel_rfl
theorem headgatelaw09_CacheNone.laidOut : laidOutB Tryz.prog = true := by kernel_rfl
theorem headgatelaw09_CacheNone.flat0 : XFlat Tryz.prog 269 := (XFlat.array Tryz.underlying269 (XFlat.int Tryz.underlying147) (by kernel_rfl))
theorem headgatelaw09_CacheNone.laid0 {W : World} (h : laidMet Tryz.prog Rows.cacheNoneRow.laid W) : CA W 1 0 crcTab.toArray :=
  laid_ca h (name := "headgate/crc.steps") (d := Rows.laid_headgate_crc_steps) rfl (by kernel_rfl) (by kernel_rfl) headgatelaw09_CacheNone.flat0 (by kernel_rfl)
theorem headgatelaw09_CacheNone.calls (a0 a1 : Int) (W : World) (hG : CA W 1 0 crcTab.toArray) : Calls Tryz.prog 4 #[.int .i64 a0, .int .i64 a1] W fun e W' => e = .returned (.bool true) ∧ Below W.heap.size W W' :=
  calls_of_runL (fun _ => 16) noNum mixed lib1_ok (by kernel_rfl) rfl (by kernel_rfl) (headgatelaw09_CacheNone.run a0 a1) W (by
    intro p hp m u hu
    simp only [List.mem_cons, List.not_mem_nil, or_false] at hp
    subst hp
    have := hG m u (by simpa using hu)
    rwa [Nat.zero_add] at this)
noncomputable def headgatelaw09_CacheNone.laidWorld (os : Os) : World :=
  { World.holding Tryz.prog os ⟨#[], #[], []⟩ with heap := ((World.holding Tryz.prog os ⟨#[], #[], []⟩).heap).modify 1 (putT crcTab.toArray) }
theorem headgatelaw09_CacheNone.laid_met (os : Os) : laidMet Tryz.prog Rows.cacheNoneRow.laid ((headgatelaw09_CacheNone.laidWorld os).forCall (fun _ _ => 0) ⟨#[], #[Value.int .i64 0, Value.int .i64 0], []⟩).memory :=
  laidMet_of_run' 8 (by kernel_rfl) (by kernel_rfl)
theorem headgatelaw09_CacheNone.reads (os : Os) {H : Type} (enc : TypeId × Value → H) : ∃ places, DataW.whole enc Tryz.prog ((headgatelaw09_CacheNone.laidWorld os).forCall (fun _ _ => 0) ⟨#[], #[Value.int .i64 0, Value.int .i64 0], []⟩).memory Tryz.f4.params.toList Rows.cacheNoneSpec.vars false (#[Value.int .i64 0, Value.int .i64 0] : Array Value).toList 8 = some ([.lit (.int .i64 0), .lit (.int .i64 0)], [], places) :=
  ⟨[], by kernel_rfl⟩
set_option maxRecDepth 100000 in
theorem headgatelaw09_CacheNone.lifted (os : Os) (started : os.Started) (H : Type) (enc : TypeId × Value → H) (F : Stop.Interp) :
    ReturnsInHanded {} Tryz.checked os 4 .any ((OpenSpec.ofChange Rows.cacheNoneSpec).preRow enc Tryz.prog Tryz.f4 Rows.cacheNoneRow.domain false Rows.cacheNoneRow.laid) (((OpenSpec.ofChange Rows.cacheNoneSpec).at F).post enc Tryz.prog Tryz.f4 false true false false) := by
  obtain ⟨places, hx⟩ := headgatelaw09_CacheNone.reads os enc
  refine returnsInHanded_of_row (C := Tryz.checked) (s := OpenSpec.ofChange Rows.cacheNoneSpec) headgatelaw09_CacheNone.own started (by kernel_rfl) Tryz.func4
    (witness_row_at (enc := enc) (C := Tryz.checked) false (headgatelaw09_CacheNone.laidWorld os) #[Value.int .i64 0, Value.int .i64 0] rfl (by kernel_rfl) (by kernel_rfl) (by kernel_rfl)
      (OpenSpec.preRow_of_cond 8 hx (by kernel_rfl) (fun k hk => by cases hk) (by kernel_rfl) (headgatelaw09_CacheNone.laid_met os))) ?_
  intro W base args ds gs before hval0 hW hcnd _ hsz0 hL _ _
  have hsz : (DataW.weightsEach Tryz.prog (Tryz.f4.params.toList ++ Rows.cacheNoneSpec.plain.varTypes Tryz.prog) (ds ++ gs)).all (· ≤ reachBytes) = true := hsz0
  have hLl : laidMet Tryz.prog Rows.cacheNoneRow.laid W := hL
  have hval : ∀ (j : Nat) t v, Tryz.f4.params[j]? = some t → args[j]? = some v → Value.okWide Tryz.prog W .any base t v := hval0
  have hW' := hW
  obtain ⟨p, q, hA0, hV, rfl, hfz, hnd⟩ := hW
  have hA : DataW.TrodAll enc Tryz.prog W 0 (fun _ => true) true Tryz.f4.params.toList args.toList ds p := hA0
  rw [Tryz.params4] at hA hval hsz
  obtain ⟨v0, vs0, d0, ds0, p0, q0, hargs, rfl, rfl, h0, r0⟩ := trodAll_cons hA
  obtain ⟨v1, vs1, d1, ds1, p1, q1, rfl, rfl, rfl, h1, r1⟩ := trodAll_cons r0
  obtain ⟨rfl, rfl, rfl⟩ := trodAll_nil r1
  obtain rfl : args = #[v0, v1] := by cases args; simp_all
  obtain ⟨rfl, rfl⟩ := trodVars_none hV
  have k0 := h0
  obtain ⟨a0, hc0⟩ := (headgatelaw09_CacheNone.op0 W).arg h0 hsz (j := 0) rfl rfl
  obtain rfl := okWide_one (by kernel_rfl) (hval 0 3 v0 rfl rfl) hc0
  have k1 := h1
  obtain ⟨a1, hc1⟩ := (headgatelaw09_CacheNone.op0 W).arg h1 hsz (j := 1) rfl rfl
  obtain rfl := okWide_one (by kernel_rfl) (hval 1 3 v1 rfl rfl) hc1
  clear hA0 hval0 hsz0 hsz
  refine (headgatelaw09_CacheNone.calls a0 a1 W (headgatelaw09_CacheNone.laid0 hLl)).mono fun e W' ⟨he, bel⟩ => ?_
  subst he
  exact ⟨_, rfl, _, _, _, [], _, [], hW', trodAll_mk1 (shut_bool Tryz.underlying4 _), (trodAll_cons_mk (Below.trod headgatelaw09_CacheNone.laidOut (by kernel_rfl) (of_decide_eq_true (by kernel_rfl)) k0 bel (trod_blocks k0)) (trodAll_cons_mk (Below.trod headgatelaw09_CacheNone.laidOut (by kernel_rfl) (of_decide_eq_true (by kernel_rfl)) k1 bel (trod_blocks k1)) trodAll_mk0)), rfl, bel.frame _, fun h => by cases h⟩
end Go.Proofs.YtljpkcaljnahfaaGreatDoor.F
namespace Go.Proofs.YtljpkcaljnahfaaGreatDoor
open Go Go.RowKit Go.ChangeShapes Go.WideShapes Go.ChangeAt Go.Proofs.YtljpkcaljnahfaaGreatDoor.X Go.Proofs.YtljpkcaljnahfaaGreatDoor.F
theorem cacheNone_said : Rows.CacheNoneSaid :=
  OpenClaim.holds_of_cond 4 Tryz.f4 rfl rfl rfl rfl rfl rfl rfl ⟨rfl, rfl, rfl, rfl, rfl⟩ rfl rfl rfl rfl rfl (by kernel_rfl) Tryz.func4 (by kernel_rfl)
    (of_decide_eq_true (by kernel_rfl)) (by unfold Func.isWrapper; first | (rw [if_pos (by decide +kernel)]; kernel_rfl) | (rw [if_neg (by decide +kernel)]; exact ⟨rfl, rfl⟩))
    (fun os started H enc _ F => by rw [OpenClaim.pre_eq_preRow]; exact headgatelaw09_CacheNone.lifted os started H enc F)
theorem cacheNone_plain (f : FuncId) (fn : Func) (hf : Tryz.pinned.checked.prog.funcNamed "headgate/headgatelaw09.CacheNone" = some f) (hfn : Tryz.pinned.checked.prog.funcs[f]? = some fn) :
    true = Tryz.pinned.checked.prog.looks [] ∧ ∀ (j : Nat) t, fn.params[j]? = some t → Tryz.pinned.checked.prog.wantsStandIn t = false := by
  obtain rfl : f = 4 := Option.some.inj ((show Tryz.prog.funcNamed "headgate/headgatelaw09.CacheNone" = some 4 by kernel_rfl).symm.trans hf) |>.symm
  obtain rfl : fn = Tryz.f4 := (Option.some.inj (Tryz.func4.symm.trans hfn)).symm
  refine ⟨by kernel_rfl, fun j t ht => ?_⟩
  rw [Tryz.params4] at ht
  have hm := Array.mem_of_getElem? ht
  simp only [List.mem_toArray, List.mem_cons, List.not_mem_nil, or_false] at hm
  rcases hm with rfl | rfl
  · exact (show Tryz.prog.wantsStandIn 3 = false by kernel_rfl)
  · exact (show Tryz.prog.wantsStandIn 3 = false by kernel_rfl)
/-- The card. -/
theorem cacheNone_card : Rows.CacheNoneCardSaid :=
  Claim7.holds_tied_plain_at .later [] _ _ _ _ cacheNone_said (fun _ h => by cases h) (by kernel_rfl) (fun _ h => by cases h) cacheNone_row_tie rfl ⟨rfl, rfl⟩ (by kernel_rfl) rfl cacheNone_plain (by kernel_rfl)
end Go.Proofs.YtljpkcaljnahfaaGreatDoor
