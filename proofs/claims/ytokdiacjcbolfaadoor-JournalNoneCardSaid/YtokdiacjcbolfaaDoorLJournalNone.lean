/- headgate/headgatelaw06.JournalNone returns true for every input, and what it is handed reads as before: by a plain run in parts. No condition. -/
import Derived.Test.YtokdiacjcbolfaaDoorCards
import Derived.Test.YtokdiacjcbolfaaDoorTie
import Derived.Test.YtokdiacjcbolfaaDoorXLaid
import Derived.Test.YtokdiacjcbolfaaDoorXRow
import Derived.Test.YtokdiacjcbolfaaDoorUJourC0
import Derived.Test.YtokdiacjcbolfaaDoorUJourC1
import Derived.Test.YtokdiacjcbolfaaDoorUJourC2
import Derived.Test.YtokdiacjcbolfaaDoorUJourC3
import Derived.Test.YtokdiacjcbolfaaDoorUJourC4
namespace Go.Proofs.YtokdiacjcbolfaaDoor.F
open Go Go.RowKit Go.ChangeShapes Go.WideShapes Go.ChangeAt Go.Proofs.YtokdiacjcbolfaaDoor.X
set_option linter.unusedVariables false
set_option linter.unusedSimpArgs false
theorem jour_g0 (t : ByteArray) (k : Int) (c : Nat) (h1 : 0 ≤ c) (h2 : c < 5) : jTold t k c = true := by
  have h := jour_0 t k
  simp only [Bool.and_eq_true] at h
  have : c = 0 ∨ c = 1 ∨ c = 2 ∨ c = 3 ∨ c = 4 := by omega
  rcases this with rfl | rfl | rfl | rfl | rfl
  · exact h.1.1.1.1
  · exact h.1.1.1.2
  · exact h.1.1.2
  · exact h.1.2
  · exact h.2
theorem jour_g1 (t : ByteArray) (k : Int) (c : Nat) (h1 : 5 ≤ c) (h2 : c < 10) : jTold t k c = true := by
  have h := jour_1 t k
  simp only [Bool.and_eq_true] at h
  have : c = 5 ∨ c = 6 ∨ c = 7 ∨ c = 8 ∨ c = 9 := by omega
  rcases this with rfl | rfl | rfl | rfl | rfl
  · exact h.1.1.1.1
  · exact h.1.1.1.2
  · exact h.1.1.2
  · exact h.1.2
  · exact h.2
theorem jour_g2 (t : ByteArray) (k : Int) (c : Nat) (h1 : 10 ≤ c) (h2 : c < 15) : jTold t k c = true := by
  have h := jour_2 t k
  simp only [Bool.and_eq_true] at h
  have : c = 10 ∨ c = 11 ∨ c = 12 ∨ c = 13 ∨ c = 14 := by omega
  rcases this with rfl | rfl | rfl | rfl | rfl
  · exact h.1.1.1.1
  · exact h.1.1.1.2
  · exact h.1.1.2
  · exact h.1.2
  · exact h.2
theorem jour_g3 (t : ByteArray) (k : Int) (c : Nat) (h1 : 15 ≤ c) (h2 : c < 20) : jTold t k c = true := by
  have h := jour_3 t k
  simp only [Bool.and_eq_true] at h
  have : c = 15 ∨ c = 16 ∨ c = 17 ∨ c = 18 ∨ c = 19 := by omega
  rcases this with rfl | rfl | rfl | rfl | rfl
  · exact h.1.1.1.1
  · exact h.1.1.1.2
  · exact h.1.1.2
  · exact h.1.2
  · exact h.2
theorem jour_g4 (t : ByteArray) (k : Int) (c : Nat) (h1 : 20 ≤ c) (h2 : c < 25) : jTold t k c = true := by
  have h := jour_4 t k
  simp only [Bool.and_eq_true] at h
  have : c = 20 ∨ c = 21 ∨ c = 22 ∨ c = 23 ∨ c = 24 := by omega
  rcases this with rfl | rfl | rfl | rfl | rfl
  · exact h.1.1.1.1
  · exact h.1.1.1.2
  · exact h.1.1.2
  · exact h.1.2
  · exact h.2
theorem jour_g5 (t : ByteArray) (k : Int) (c : Nat) (h1 : 25 ≤ c) (h2 : c < 30) : jTold t k c = true := by
  have h := jour_5 t k
  simp only [Bool.and_eq_true] at h
  have : c = 25 ∨ c = 26 ∨ c = 27 ∨ c = 28 ∨ c = 29 := by omega
  rcases this with rfl | rfl | rfl | rfl | rfl
  · exact h.1.1.1.1
  · exact h.1.1.1.2
  · exact h.1.1.2
  · exact h.1.2
  · exact h.2
theorem jour_g6 (t : ByteArray) (k : Int) (c : Nat) (h1 : 30 ≤ c) (h2 : c < 35) : jTold t k c = true := by
  have h := jour_6 t k
  simp only [Bool.and_eq_true] at h
  have : c = 30 ∨ c = 31 ∨ c = 32 ∨ c = 33 ∨ c = 34 := by omega
  rcases this with rfl | rfl | rfl | rfl | rfl
  · exact h.1.1.1.1
  · exact h.1.1.1.2
  · exact h.1.1.2
  · exact h.1.2
  · exact h.2
theorem jour_g7 (t : ByteArray) (k : Int) (c : Nat) (h1 : 35 ≤ c) (h2 : c < 40) : jTold t k c = true := by
  have h := jour_7 t k
  simp only [Bool.and_eq_true] at h
  have : c = 35 ∨ c = 36 ∨ c = 37 ∨ c = 38 ∨ c = 39 := by omega
  rcases this with rfl | rfl | rfl | rfl | rfl
  · exact h.1.1.1.1
  · exact h.1.1.1.2
  · exact h.1.1.2
  · exact h.1.2
  · exact h.2
theorem jour_g8 (t : ByteArray) (k : Int) (c : Nat) (h1 : 40 ≤ c) (h2 : c < 45) : jTold t k c = true := by
  have h := jour_8 t k
  simp only [Bool.and_eq_true] at h
  have : c = 40 ∨ c = 41 ∨ c = 42 ∨ c = 43 ∨ c = 44 := by omega
  rcases this with rfl | rfl | rfl | rfl | rfl
  · exact h.1.1.1.1
  · exact h.1.1.1.2
  · exact h.1.1.2
  · exact h.1.2
  · exact h.2
theorem jour_g9 (t : ByteArray) (k : Int) (c : Nat) (h1 : 45 ≤ c) (h2 : c < 50) : jTold t k c = true := by
  have h := jour_9 t k
  simp only [Bool.and_eq_true] at h
  have : c = 45 ∨ c = 46 ∨ c = 47 ∨ c = 48 ∨ c = 49 := by omega
  rcases this with rfl | rfl | rfl | rfl | rfl
  · exact h.1.1.1.1
  · exact h.1.1.1.2
  · exact h.1.1.2
  · exact h.1.2
  · exact h.2
theorem jour_g10 (t : ByteArray) (k : Int) (c : Nat) (h1 : 50 ≤ c) (h2 : c < 55) : jTold t k c = true := by
  have h := jour_10 t k
  simp only [Bool.and_eq_true] at h
  have : c = 50 ∨ c = 51 ∨ c = 52 ∨ c = 53 ∨ c = 54 := by omega
  rcases this with rfl | rfl | rfl | rfl | rfl
  · exact h.1.1.1.1
  · exact h.1.1.1.2
  · exact h.1.1.2
  · exact h.1.2
  · exact h.2
theorem jour_g11 (t : ByteArray) (k : Int) (c : Nat) (h1 : 55 ≤ c) (h2 : c < 60) : jTold t k c = true := by
  have h := jour_11 t k
  simp only [Bool.and_eq_true] at h
  have : c = 55 ∨ c = 56 ∨ c = 57 ∨ c = 58 ∨ c = 59 := by omega
  rcases this with rfl | rfl | rfl | rfl | rfl
  · exact h.1.1.1.1
  · exact h.1.1.1.2
  · exact h.1.1.2
  · exact h.1.2
  · exact h.2
theorem jour_g12 (t : ByteArray) (k : Int) (c : Nat) (h1 : 60 ≤ c) (h2 : c < 65) : jTold t k c = true := by
  have h := jour_12 t k
  simp only [Bool.and_eq_true] at h
  have : c = 60 ∨ c = 61 ∨ c = 62 ∨ c = 63 ∨ c = 64 := by omega
  rcases this with rfl | rfl | rfl | rfl | rfl
  · exact h.1.1.1.1
  · exact h.1.1.1.2
  · exact h.1.1.2
  · exact h.1.2
  · exact h.2
theorem jour_g13 (t : ByteArray) (k : Int) (c : Nat) (h1 : 65 ≤ c) (h2 : c < 70) : jTold t k c = true := by
  have h := jour_13 t k
  simp only [Bool.and_eq_true] at h
  have : c = 65 ∨ c = 66 ∨ c = 67 ∨ c = 68 ∨ c = 69 := by omega
  rcases this with rfl | rfl | rfl | rfl | rfl
  · exact h.1.1.1.1
  · exact h.1.1.1.2
  · exact h.1.1.2
  · exact h.1.2
  · exact h.2
theorem jour_g14 (t : ByteArray) (k : Int) (c : Nat) (h1 : 70 ≤ c) (h2 : c < 75) : jTold t k c = true := by
  have h := jour_14 t k
  simp only [Bool.and_eq_true] at h
  have : c = 70 ∨ c = 71 ∨ c = 72 ∨ c = 73 ∨ c = 74 := by omega
  rcases this with rfl | rfl | rfl | rfl | rfl
  · exact h.1.1.1.1
  · exact h.1.1.1.2
  · exact h.1.1.2
  · exact h.1.2
  · exact h.2
theorem jour_g15 (t : ByteArray) (k : Int) (c : Nat) (h1 : 75 ≤ c) (h2 : c < 80) : jTold t k c = true := by
  have h := jour_15 t k
  simp only [Bool.and_eq_true] at h
  have : c = 75 ∨ c = 76 ∨ c = 77 ∨ c = 78 ∨ c = 79 := by omega
  rcases this with rfl | rfl | rfl | rfl | rfl
  · exact h.1.1.1.1
  · exact h.1.1.1.2
  · exact h.1.1.2
  · exact h.1.2
  · exact h.2
theorem jour_g16 (t : ByteArray) (k : Int) (c : Nat) (h1 : 80 ≤ c) (h2 : c < 85) : jTold t k c = true := by
  have h := jour_16 t k
  simp only [Bool.and_eq_true] at h
  have : c = 80 ∨ c = 81 ∨ c = 82 ∨ c = 83 ∨ c = 84 := by omega
  rcases this with rfl | rfl | rfl | rfl | rfl
  · exact h.1.1.1.1
  · exact h.1.1.1.2
  · exact h.1.1.2
  · exact h.1.2
  · exact h.2
theorem jour_g17 (t : ByteArray) (k : Int) (c : Nat) (h1 : 85 ≤ c) (h2 : c < 90) : jTold t k c = true := by
  have h := jour_17 t k
  simp only [Bool.and_eq_true] at h
  have : c = 85 ∨ c = 86 ∨ c = 87 ∨ c = 88 ∨ c = 89 := by omega
  rcases this with rfl | rfl | rfl | rfl | rfl
  · exact h.1.1.1.1
  · exact h.1.1.1.2
  · exact h.1.1.2
  · exact h.1.2
  · exact h.2
theorem jour_g18 (t : ByteArray) (k : Int) (c : Nat) (h1 : 90 ≤ c) (h2 : c < 95) : jTold t k c = true := by
  have h := jour_18 t k
  simp only [Bool.and_eq_true] at h
  have : c = 90 ∨ c = 91 ∨ c = 92 ∨ c = 93 ∨ c = 94 := by omega
  rcases this with rfl | rfl | rfl | rfl | rfl
  · exact h.1.1.1.1
  · exact h.1.1.1.2
  · exact h.1.1.2
  · exact h.1.2
  · exact h.2
theorem jour_g19 (t : ByteArray) (k : Int) (c : Nat) (h1 : 95 ≤ c) (h2 : c < 100) : jTold t k c = true := by
  have h := jour_19 t k
  simp only [Bool.and_eq_true] at h
  have : c = 95 ∨ c = 96 ∨ c = 97 ∨ c = 98 ∨ c = 99 := by omega
  rcases this with rfl | rfl | rfl | rfl | rfl
  · exact h.1.1.1.1
  · exact h.1.1.1.2
  · exact h.1.1.2
  · exact h.1.2
  · exact h.2
theorem jour_all (t : ByteArray) (k : Int) (c : Nat) (hc : c < 100) : jTold t k c = true := by
  by_cases h0 : c < 5
  · exact jour_g0 t k c (by omega) h0
  by_cases h1 : c < 10
  · exact jour_g1 t k c (by omega) h1
  by_cases h2 : c < 15
  · exact jour_g2 t k c (by omega) h2
  by_cases h3 : c < 20
  · exact jour_g3 t k c (by omega) h3
  by_cases h4 : c < 25
  · exact jour_g4 t k c (by omega) h4
  by_cases h5 : c < 30
  · exact jour_g5 t k c (by omega) h5
  by_cases h6 : c < 35
  · exact jour_g6 t k c (by omega) h6
  by_cases h7 : c < 40
  · exact jour_g7 t k c (by omega) h7
  by_cases h8 : c < 45
  · exact jour_g8 t k c (by omega) h8
  by_cases h9 : c < 50
  · exact jour_g9 t k c (by omega) h9
  by_cases h10 : c < 55
  · exact jour_g10 t k c (by omega) h10
  by_cases h11 : c < 60
  · exact jour_g11 t k c (by omega) h11
  by_cases h12 : c < 65
  · exact jour_g12 t k c (by omega) h12
  by_cases h13 : c < 70
  · exact jour_g13 t k c (by omega) h13
  by_cases h14 : c < 75
  · exact jour_g14 t k c (by omega) h14
  by_cases h15 : c < 80
  · exact jour_g15 t k c (by omega) h15
  by_cases h16 : c < 85
  · exact jour_g16 t k c (by omega) h16
  by_cases h17 : c < 90
  · exact jour_g17 t k c (by omega) h17
  by_cases h18 : c < 95
  · exact jour_g18 t k c (by omega) h18
  exact jour_g19 t k c (by omega) hc
theorem jour_call (t : ByteArray) (k : Int) : ∃ H', CallOk Tryd.prog 4 4 [.string t, .int .i64 k] jH (.bool true) H' := by
  have ok : ∀ {c : Code} {fr fr' : List Value} {ex : Ex} {H' : Heap}, jRun modV c fr = some (ex, fr', H') → CodeOk Tryd.prog 4 c fr jH ex fr' H' := fun h => codeOk_run noNum mixed lib2_ok h
  have hbody : Tryd.f4.body = some jB := by kernel_rfl
  have hres : Tryd.f4.results.toList = [.tmp 4] := by kernel_rfl
  have hfr : ([.string t, .int .i64 k] : List Value) ++ List.replicate (Tryd.f4.ntmps - ([.string t, .int .i64 k] : List Value).length) undef = jF0 t k := by kernel_rfl
  cases hlen : Nat.ble t.data.toList.length 70000 with
  | false =>
    have hC : CodeOk Tryd.prog 4 (.cond (ifB jC) (ifT jC) (ifF jC)) (jFC t k) jH .ret (jFT t k) jH := codeOk_cond (t := true) jC_op (by rw [jC_val, hlen]; rfl) (ok (jT_run t k))
    have hB : CodeOk Tryd.prog 4 jB (jF0 t k) jH .ret (jFT t k) jH := by
      rw [jB_is]
      exact codeOk_seq (ok (jA_run t k)) (codeOk_seq (ok (jB_run t k)) (codeOk_seq_out (codeOk_seq (ok (jC_run t k)) hC) (by simp)))
    exact ⟨jH, callOk_code (vs := [.bool true]) Tryd.func4 hbody (by rw [hfr]; exact hB) (.inr rfl) (by rw [hres]; exact jT_res t k)⟩
  | true =>
    obtain ⟨c, hc, hm⟩ : ∃ c : Nat, c < 100 ∧ modV k = Int.ofNat c := by
      obtain ⟨h1, h2⟩ := modV_range k
      exact ⟨(modV k).toNat, by omega, by simp; omega⟩
    obtain ⟨fr, H', hr, hv⟩ := toldR_spec (jour_all t k c hc)
    have hC : CodeOk Tryd.prog 4 (.cond (ifB jC) (ifT jC) (ifF jC)) (jFC t k) jH .normal (jFC t k) jH := codeOk_cond (t := false) jC_op (by rw [jC_val, hlen]; rfl) (ok (jS_run t k))
    have hM := jM_run t k
    rw [hm] at hM
    have hB : CodeOk Tryd.prog 4 jB (jF0 t k) jH .ret fr H' := by
      rw [jB_is]
      exact codeOk_seq (ok (jA_run t k)) (codeOk_seq (ok (jB_run t k)) (codeOk_seq (codeOk_seq (ok (jC_run t k)) hC) (codeOk_seq (ok hM) (ok hr))))
    exact ⟨H', callOk_code (vs := [.bool true]) Tryd.func4 hbody (by rw [hfr]; exact hB) (.inr rfl) (by rw [hres]; exact hv)⟩
theorem headgatelaw06_JournalNone.op1 (W : World) : XTold Tryd.prog W 3 (fun cs => ∃ (a1 : Int), cs = [.int .i64 a1]) := by
  refine XTold.mono (XTold.int Tryd.underlying3) ?_
  rintro cs ⟨n1, rfl, w1⟩
  exact ⟨n1, rfl⟩
theorem headgatelaw06_JournalNone.op0 (W : World) : XTold Tryd.prog W 9 (fun cs => ∃ (a0 : ByteArray), cs = [.string a0]) := by
  refine XTold.mono (XTold.str Tryd.underlying9) ?_
  rintro cs ⟨n1, rfl, w1⟩
  exact ⟨n1, rfl⟩
theorem headgatelaw06_JournalNone.own : ownKnob Tryd.prog.godebug = none := by kernel_rfl
theorem headgatelaw06_JournalNone.laidOut : laidOutB Tryd.prog = true := by kernel_rfl
theorem headgatelaw06_JournalNone.flat0 : XFlat Tryd.prog 127 := (XFlat.array Tryd.underlying127 (XFlat.int Tryd.underlying97) (by kernel_rfl))
theorem headgatelaw06_JournalNone.laid0 {W : World} (h : laidMet Tryd.prog Rows.journalNoneRow.laid W) : CA W 1 0 crcTab.toArray :=
  laid_ca h (name := "headgate/crc.steps") (d := Rows.laid_headgate_crc_steps) rfl (by kernel_rfl) (by kernel_rfl) headgatelaw06_JournalNone.flat0 (by kernel_rfl)
theorem headgatelaw06_JournalNone.calls (a0 : ByteArray) (a1 : Int) (W : World) (hG : CA W 1 0 crcTab.toArray) : Calls Tryd.prog 4 #[.string a0, .int .i64 a1] W fun e W' => e = .returned (.bool true) ∧ Below W.heap.size W W' := by
  obtain ⟨H', hr⟩ := jour_call a0 a1
  exact calls_of_callOkL (tabs := [(1, 127, crcTab)]) (fun _ => 16) (by kernel_rfl) rfl (by kernel_rfl) hr W (by
    intro p hp m u hu
    simp only [List.mem_cons, List.not_mem_nil, or_false] at hp
    subst hp
    have := hG m u (by simpa using hu)
    rwa [Nat.zero_add] at this)
noncomputable def headgatelaw06_JournalNone.laidWorld (os : Os) : World :=
  { World.holding Tryd.prog os ⟨#[], #[], []⟩ with heap := ((((World.holding Tryd.prog os ⟨#[], #[], []⟩).heap).modify 1 (putT crcTab.toArray)).modify 3 (putT (flatD (H := Unit) Rows.laid_unicode_utf8_acceptRanges).toArray)).modify 2 (putT (flatD Rows.laid_unicode_utf8_first).toArray) }
theorem headgatelaw06_JournalNone.laid_met (os : Os) : laidMet Tryd.prog Rows.journalNoneRow.laid ((headgatelaw06_JournalNone.laidWorld os).forCall (fun _ _ => 0) ⟨#[], #[Value.string ByteArray.empty, Value.int .i64 0], []⟩).memory :=
  laidMet_of_run' 8 (by kernel_rfl) (by kernel_rfl)
theorem headgatelaw06_JournalNone.reads (os : Os) {H : Type} (enc : TypeId × Value → H) : ∃ places, DataW.whole enc Tryd.prog ((headgatelaw06_JournalNone.laidWorld os).forCall (fun _ _ => 0) ⟨#[], #[Value.string ByteArray.empty, Value.int .i64 0], []⟩).memory Tryd.f4.params.toList Rows.journalNoneSpec.vars false (#[Value.string ByteArray.empty, Value.int .i64 0] : Array Value).toList 8 = some ([.lit (.string []), .lit (.int .i64 0)], [], places) :=
  ⟨[], by kernel_rfl⟩
set_option maxRecDepth 100000 in
theorem headgatelaw06_JournalNone.lifted (os : Os) (started : os.Started) (H : Type) (enc : TypeId × Value → H) (F : Stop.Interp) :
    ReturnsInHanded {} Tryd.checked os 4 .any ((OpenSpec.ofChange Rows.journalNoneSpec).preRow enc Tryd.prog Tryd.f4 Rows.journalNoneRow.domain false Rows.journalNoneRow.laid) (((OpenSpec.ofChange Rows.journalNoneSpec).at F).post enc Tryd.prog Tryd.f4 false true false false) := by
  obtain ⟨places, hx⟩ := headgatelaw06_JournalNone.reads os enc
  refine returnsInHanded_of_row (C := Tryd.checked) (s := OpenSpec.ofChange Rows.journalNoneSpec) headgatelaw06_JournalNone.own started (by kernel_rfl) Tryd.func4
    (witness_row_at (enc := enc) (C := Tryd.checked) false (headgatelaw06_JournalNone.laidWorld os) #[Value.string ByteArray.empty, Value.int .i64 0] rfl (by kernel_rfl) (by kernel_rfl) (by kernel_rfl)
      (OpenSpec.preRow_of_cond 8 hx (by kernel_rfl) (fun k hk => by cases hk) (by kernel_rfl) (headgatelaw06_JournalNone.laid_met os))) ?_
  intro W base args ds gs before hval0 hW hcnd _ hsz0 hL _ _
  have hsz : (DataW.weightsEach Tryd.prog (Tryd.f4.params.toList ++ Rows.journalNoneSpec.plain.varTypes Tryd.prog) (ds ++ gs)).all (· ≤ reachBytes) = true := hsz0
  have hLl : laidMet Tryd.prog Rows.journalNoneRow.laid W := hL
  have hval : ∀ (j : Nat) t v, Tryd.f4.params[j]? = some t → args[j]? = some v → Value.okWide Tryd.prog W .any base t v := hval0
  have hW' := hW
  obtain ⟨p, q, hA0, hV, rfl, hfz, hnd⟩ := hW
  have hA : DataW.TrodAll enc Tryd.prog W 0 (fun _ => true) true Tryd.f4.params.toList args.toList ds p := hA0
  rw [Tryd.params4] at hA hval hsz
  obtain ⟨v0, vs0, d0, ds0, p0, q0, hargs, rfl, rfl, h0, r0⟩ := trodAll_cons hA
  obtain ⟨v1, vs1, d1, ds1, p1, q1, rfl, rfl, rfl, h1, r1⟩ := trodAll_cons r0
  obtain ⟨rfl, rfl, rfl⟩ := trodAll_nil r1
  obtain rfl : args = #[v0, v1] := by cases args; simp_all
  obtain ⟨rfl, rfl⟩ := trodVars_none hV
  have k0 := h0
  obtain ⟨a0, hc0⟩ := (headgatelaw06_JournalNone.op0 W).arg h0 hsz (j := 0) rfl rfl
  obtain rfl := okWide_one (by kernel_rfl) (hval 0 9 v0 rfl rfl) hc0
  have k1 := h1
  obtain ⟨a1, hc1⟩ := (headgatelaw06_JournalNone.op1 W).arg h1 hsz (j := 1) rfl rfl
  obtain rfl := okWide_one (by kernel_rfl) (hval 1 3 v1 rfl rfl) hc1
  clear hA0 hval0 hsz0 hsz
  refine (headgatelaw06_JournalNone.calls a0 a1 W (headgatelaw06_JournalNone.laid0 hLl)).mono fun e W' ⟨he, bel⟩ => ?_
  subst he
  exact ⟨_, rfl, _, _, _, [], _, [], hW', trodAll_mk1 (shut_bool Tryd.underlying4 _), (trodAll_cons_mk (Below.trod headgatelaw06_JournalNone.laidOut (by kernel_rfl) (of_decide_eq_true (by kernel_rfl)) k0 bel (trod_blocks k0)) (trodAll_cons_mk (Below.trod headgatelaw06_JournalNone.laidOut (by kernel_rfl) (of_decide_eq_true (by kernel_rfl)) k1 bel (trod_blocks k1)) trodAll_mk0)), rfl, bel.frame _, fun h => by cases h⟩
end Go.Proofs.YtokdiacjcbolfaaDoor.F
namespace Go.Proofs.YtokdiacjcbolfaaDoor
open Go Go.RowKit Go.ChangeShapes Go.WideShapes Go.ChangeAt Go.Proofs.YtokdiacjcbolfaaDoor.X Go.Proofs.YtokdiacjcbolfaaDoor.F
theorem journalNone_said : Rows.JournalNoneSaid :=
  OpenClaim.holds_of_cond 4 Tryd.f4 rfl rfl rfl rfl rfl rfl rfl ⟨rfl, rfl, rfl, rfl, rfl⟩ rfl rfl rfl rfl rfl (by kernel_rfl) Tryd.func4 (by kernel_rfl)
    (of_decide_eq_true (by kernel_rfl)) (by unfold Func.isWrapper; first | (rw [if_pos (by decide +kernel)]; kernel_rfl) | (rw [if_neg (by decide +kernel)]; exact ⟨rfl, rfl⟩))
    (fun os started H enc _ F => by rw [OpenClaim.pre_eq_preRow]; exact headgatelaw06_JournalNone.lifted os started H enc F)
theorem journalNone_plain (f : FuncId) (fn : Func) (hf : Tryd.pinned.checked.prog.funcNamed "headgate/headgatelaw06.JournalNone" = some f) (hfn : Tryd.pinned.checked.prog.funcs[f]? = some fn) :
    true = Tryd.pinned.checked.prog.looks [] ∧ ∀ (j : Nat) t, fn.params[j]? = some t → Tryd.pinned.checked.prog.wantsStandIn t = false := by
  obtain rfl : f = 4 := Option.some.inj ((show Tryd.prog.funcNamed "headgate/headgatelaw06.JournalNone" = some 4 by kernel_rfl).symm.trans hf) |>.symm
  obtain rfl : fn = Tryd.f4 := (Option.some.inj (Tryd.func4.symm.trans hfn)).symm
  refine ⟨by kernel_rfl, fun j t ht => ?_⟩
  rw [Tryd.params4] at ht
  have hm := Array.mem_of_getElem? ht
  simp only [List.mem_toArray, List.mem_cons, List.not_mem_nil, or_false] at hm
  rcases hm with rfl | rfl
  · exact (show Tryd.prog.wantsStandIn 9 = false by kernel_rfl)
  · exact (show Tryd.prog.wantsStandIn 3 = false by kernel_rfl)
/-- The card. -/
theorem journalNone_card : Rows.JournalNoneCardSaid :=
  Claim7.holds_tied_plain_at .later [] _ _ _ _ journalNone_said (fun _ h => by cases h) (by kernel_rfl) (fun _ h => by cases h) journalNone_row_tie rfl ⟨rfl, rfl⟩ (by kernel_rfl) rfl journalNone_plain (by kernel_rfl)
end Go.Proofs.YtokdiacjcbolfaaDoor
