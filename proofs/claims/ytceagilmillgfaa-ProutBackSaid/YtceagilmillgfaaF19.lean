/- headgate/headgatekeep.Ranges: a plain function, and that the call comes to what it says. No condition. -/
import Derived.Test.YtceagilmillgfaaFT
namespace Go.Proofs.Ytceagilmillgfaa.F
open Go Go.RowKit Go.Proofs.Ytceagilmillgfaa.X
set_option linter.unusedVariables false
set_option linter.unusedSimpArgs false
/-! ### headgate/headgatekeep.Ranges: function 19 -/
def headgatekeep_Ranges.b0 (K : Nat) (a0 : List T_api_Range) (a1 : List T_api_Range) (again1381 : Int → Option Bool) (x1382 : Int) : Option Bool :=
  if x1382 < (a0.length : Int) then (asrt (0 ≤ x1382) (asrt (x1382 < (a1.length : Int)) (if ((rdL T_api_Range.z a0 x1382).f0) = ((rdL T_api_Range.z a1 x1382).f0) then (if ((rdL T_api_Range.z a0 x1382).f1) = ((rdL T_api_Range.z a1 x1382).f1) then (again1381 (IntKind.wrap .i64 (x1382 + 1))) else (some false)) else (some false)))) else (some true)
def headgatekeep_Ranges.l0 (K : Nat) (a0 : List T_api_Range) (a1 : List T_api_Range) : Nat → Int → Option Bool
  | 0, _ => none
  | k_ + 1, x1382 => headgatekeep_Ranges.b0 K a0 a1 (headgatekeep_Ranges.l0 K a0 a1 k_) x1382
def headgatekeep_Ranges.f (K : Nat) (a0 : List T_api_Range) (a1 : List T_api_Range) : Option Bool :=
  if (a0.length : Int) = (a1.length : Int) then (headgatekeep_Ranges.l0 K a0 a1 K 0) else (some false)
set_option maxRecDepth 100000 in
set_option maxHeartbeats 4000000 in
theorem headgatekeep_Ranges.calls (K : Nat) (a0 : List T_api_Range) (a1 : List T_api_Range) (A0_0 : Option Addr) (c0_0 : Nat) (A1_1 : Option Addr) (c1_1 : Nat) (r : Bool) (w : World) (hr0_0 : Rd 2 w (.slice A0_0 a0.length c0_0) a0.length (encs T_api_Range.enc a0)) (hr1_1 : Rd 2 w (.slice A1_1 a1.length c1_1) a1.length (encs T_api_Range.enc a1)) (h : headgatekeep_Ranges.f K a0 a1 = some r) :
    Calls Try.prog 19 #[.slice A0_0 a0.length c0_0, .slice A1_1 a1.length c1_1] w (fun e W' => e = .returned (.bool r) ∧ Wd w W' [] [] ) := by
  refine sxstart (n := 41) (l := [(0, .slice A0_0 a0.length c0_0), (1, .slice A1_1 a1.length c1_1)]) Try.func19 rfl rfl (Nat.le_of_ble_eq_true (by kernel_rfl)) (subsA_cons rfl (subsA_cons rfl (subsA_nil _))) ?_
  intro a ha
  have HW := Wd.refl w
  unfold headgatekeep_Ranges.f at h
  refine wp_seq_k (fun K1307 hK1308 => ?_)
  refine wp_region_lit ?_
  refine stepp ha 4 (.bool false) (by kernel_rfl) (by kernel_rfl) ?_; clear ha a; intro a ha
  refine endl ?_
  refine thenN (hK1308 _ _ ?_); clear hK1308
  refine wp_seq_k (fun K1309 hK1310 => ?_)
  refine wp_seq_k (fun K1311 hK1312 => ?_)
  refine wp_region_lit ?_
  refine stepp ha 6 (.slice A0_0 a0.length c0_0) (by kernel_rfl) (by kernel_rfl) ?_; clear ha a; intro a ha
  refine stepp ha 7 (.int .i64 (a0.length : Int)) (by kernel_rfl) (by kernel_rfl) ?_; clear ha a; intro a ha
  refine stepp ha 8 (.slice A1_1 a1.length c1_1) (by kernel_rfl) (by kernel_rfl) ?_; clear ha a; intro a ha
  refine stepp ha 9 (.int .i64 (a1.length : Int)) (by kernel_rfl) (by kernel_rfl) ?_; clear ha a; intro a ha
  refine stepp ha 10 (.bool ((a0.length : Int) != (a1.length : Int))) (by kernel_rfl) (by kernel_rfl) ?_; clear ha a; intro a ha
  refine endl ?_
  refine thenN (hK1312 _ _ ?_); clear hK1312
  by_cases hp1313 : (a0.length : Int) = (a1.length : Int)
  · skip
    replace h := ite_pos' h hp1313
    refine condF ha (by kernel_rfl) (by kernel_rfl) (t := ((a0.length : Int) != (a1.length : Int))) (ineq_f hp1313) ?_
    refine wp_skip ?_
    refine thenN (hK1310 _ _ ?_); clear hK1310
    refine wp_seq_k (fun K1316 hK1317 => ?_)
    refine wp_seq_k (fun K1318 hK1319 => ?_)
    refine wp_region_lit ?_
    refine stepp ha 5 (.int .i64 0) (by kernel_rfl) (by kernel_rfl) ?_; clear ha a; intro a ha
    refine endl ?_
    refine thenN (hK1319 _ _ ?_); clear hK1319
    refine wp_block ?_
    refine loopk (fun k => fun a W1383 => ∃ (x1382 : Int), headgatekeep_Ranges.l0 K a0 a1 k x1382 = some r ∧ Has 41 [(0, .slice A0_0 a0.length c0_0), (1, .slice A1_1 a1.length c1_1), (5, .int .i64 x1382)] a ∧ Wd w W1383 [] []) K ?_ ?_
    · skip
      exact ⟨0, h, ha.sub (subs_cons (by kernel_rfl) (subs_cons (by kernel_rfl) (subs_cons (by kernel_rfl) (subs_nil _)))), HW.pick [] [] (by decide) (by decide) (by kernel_rfl) (by kernel_rfl)⟩
    · skip
      intro k a W1383 hI
      obtain ⟨x1382, h, ha, HW⟩ := hI
      cases k with
      | zero => exact (none_some (show none = some r from h)).elim
      | succ k1384 =>
        replace h : headgatekeep_Ranges.b0 K a0 a1 (headgatekeep_Ranges.l0 K a0 a1 k1384) x1382 = some r := h
        obtain ⟨again1381, hag1385⟩ : ∃ g_, g_ = headgatekeep_Ranges.l0 K a0 a1 k1384 := ⟨_, rfl⟩
        rw [← hag1385] at h
        unfold headgatekeep_Ranges.b0 at h
        refine wp_seq_k (fun K1386 hK1387 => ?_)
        refine wp_seq_k (fun K1388 hK1389 => ?_)
        refine wp_region_lit ?_
        refine stepp ha 11 (.int .i64 x1382) (by kernel_rfl) (by kernel_rfl) ?_; clear ha a; intro a ha
        refine stepp ha 12 (.slice A0_0 a0.length c0_0) (by kernel_rfl) (by kernel_rfl) ?_; clear ha a; intro a ha
        refine stepp ha 13 (.int .i64 (a0.length : Int)) (by kernel_rfl) (by kernel_rfl) ?_; clear ha a; intro a ha
        refine stepp ha 14 (.bool (decide (x1382 < (a0.length : Int)))) (by kernel_rfl) (by kernel_rfl) ?_; clear ha a; intro a ha
        refine endl ?_
        refine thenN (hK1389 _ _ ?_); clear hK1389
        by_cases hp1390 : x1382 < (a0.length : Int)
        · skip
          replace h := ite_pos' h hp1390
          refine condT ha (by kernel_rfl) (by kernel_rfl) (t := decide (x1382 < (a0.length : Int))) (decide_eq_true hp1390) ?_
          refine wp_skip ?_
          refine thenN (hK1387 _ _ ?_); clear hK1387
          refine wp_seq_k (fun K1391 hK1392 => ?_)
          refine wp_block ?_
          refine wp_seq_k (fun K1393 hK1394 => ?_)
          obtain ⟨hA1395, h_⟩ := asrt_some h; clear h; have h := h_; clear h_
          obtain ⟨b1397, off1398, hA1399⟩ := Rd.addr ((HW.rd0 hr0_0)) hA1395 (show (x1382 : Int) < ((a0).length : Int) from hp1390)
          obtain ⟨hA1400, h_⟩ := asrt_some h; clear h; have h := h_; clear h_
          obtain ⟨b1402, off1403, hA1404⟩ := Rd.addr ((HW.rd0 hr1_1)) hA1395 (show (x1382 : Int) < ((a1).length : Int) from hA1400)
          by_cases hp1405 : ((rdL T_api_Range.z a0 x1382).f0) = ((rdL T_api_Range.z a1 x1382).f0)
          · skip
            replace h := ite_pos' h hp1405
            refine regionG 24 (by kernel_rfl) (by kernel_rfl) ha HW [.fix (.slice A0_0 a0.length c0_0), .fix (.int .i64 x1382), .fix (.pointer (some ⟨b1397, off1398 + (x1382 : Int).toNat * 2, none⟩)), .fix (.pointer (some ⟨b1397, off1398 + (x1382 : Int).toNat * 2, none⟩)), .fix (.int .i64 ((rdL T_api_Range.z a0 x1382).f0)), .fix (.slice A1_1 a1.length c1_1), .fix (.int .i64 x1382), .fix (.pointer (some ⟨b1402, off1403 + (x1382 : Int).toNat * 2, none⟩)), .fix (.pointer (some ⟨b1402, off1403 + (x1382 : Int).toNat * 2, none⟩)), .fix (.int .i64 ((rdL T_api_Range.z a1 x1382).f0)), .fix (.bool (((rdL T_api_Range.z a0 x1382).f0) != ((rdL T_api_Range.z a1 x1382).f0))), .fix (.bool (((rdL T_api_Range.z a0 x1382).f0) != ((rdL T_api_Range.z a1 x1382).f0))), .fix (.slice A0_0 a0.length c0_0), .fix (.int .i64 x1382), .fix (.pointer (some ⟨b1397, off1398 + (x1382 : Int).toNat * 2, none⟩)), .fix (.pointer (some ⟨b1397, off1398 + (x1382 : Int).toNat * 2 + 1, none⟩)), .fix (.int .i64 ((rdL T_api_Range.z a0 x1382).f1)), .fix (.slice A1_1 a1.length c1_1), .fix (.int .i64 x1382), .fix (.pointer (some ⟨b1402, off1403 + (x1382 : Int).toNat * 2, none⟩)), .fix (.pointer (some ⟨b1402, off1403 + (x1382 : Int).toNat * 2 + 1, none⟩)), .fix (.int .i64 ((rdL T_api_Range.z a1 x1382).f1)), .fix (.bool (((rdL T_api_Range.z a0 x1382).f1) != ((rdL T_api_Range.z a1 x1382).f1))), .fix (.bool (((rdL T_api_Range.z a0 x1382).f1) != ((rdL T_api_Range.z a1 x1382).f1)))] ?_ ?_
            · skip
              refine ⟨?_, ?_, ?_, ?_, ?_, ?_, ?_, ?_, ?_, ?_, ?_, ?_, ?_, ?_, ?_, ?_, ?_, ?_, ?_, ?_, ?_, ?_, ?_, ?_, trivial⟩
              · skip
                intro a wr hn hd HW hs; have ha := hasNil hn hd
                have ha := ha.add (seeE hs 0 (.slice A0_0 a0.length c0_0) (by kernel_rfl) (by kernel_rfl))
                refine yStep ha 17 (by kernel_rfl) ?_; intro l_ ha HK
                refine stepp ha 17 (.slice A0_0 a0.length c0_0) (by kernel_rfl) (by kernel_rfl) ?_; intro ax hax; exact HK _ _ _ hax rfl (Below.refl _ _)
              · skip
                intro a wr hn hd HW hs; have ha := hasNil hn hd
                have ha := ha.add (seeE hs 5 (.int .i64 x1382) (by kernel_rfl) (by kernel_rfl))
                refine yStep ha 18 (by kernel_rfl) ?_; intro l_ ha HK
                refine stepp ha 18 (.int .i64 x1382) (by kernel_rfl) (by kernel_rfl) ?_; intro ax hax; exact HK _ _ _ hax rfl (Below.refl _ _)
              · skip
                intro a wr hn hd HW hs; have ha := hasNil hn hd
                have ha := ha.add (seeF hs 17 0 (.slice A0_0 a0.length c0_0) (by kernel_rfl) (by kernel_rfl))
                have ha := ha.add (seeF hs 18 1 (.int .i64 x1382) (by kernel_rfl) (by kernel_rfl))
                replace ha := ha.turn 17 (u := .slice A0_0 a0.length c0_0) (v := .slice (some ⟨b1397, off1398, none⟩) a0.length c0_0) (by kernel_rfl) (by rw [hA1399])
                refine yStep ha 19 (by kernel_rfl) ?_; intro l_ ha HK
                refine stepif ha 19 (sz := 2) (len := a0.length) (b := b1397) (off := off1398) (c := c0_0) 23 61 (.tmp 17) (.tmp 18) .i64 x1382 rfl (by kernel_rfl) (by kernel_rfl) (by kernel_rfl) (by kernel_rfl) hA1395 (show (x1382 : Int) < ((a0).length : Int) from hp1390) (by kernel_rfl) ?_; intro ax hax; exact HK _ _ _ hax rfl (Below.refl _ _)
              · skip
                intro a wr hn hd HW hs; have ha := hasNil hn hd
                have ha := ha.add (seeF hs 19 2 (.pointer (some ⟨b1397, off1398 + (x1382 : Int).toNat * 2, none⟩)) (by kernel_rfl) (by kernel_rfl))
                refine yStep ha 20 (by kernel_rfl) ?_; intro l_ ha HK
                refine stepp ha 20 (.pointer (some ⟨b1397, off1398 + (x1382 : Int).toNat * 2, none⟩)) (by kernel_rfl) (by kernel_rfl) ?_; intro ax hax; exact HK _ _ _ hax rfl (Below.refl _ _)
              · skip
                intro a wr hn hd HW hs; have ha := hasNil hn hd
                have ha := ha.add (seeF hs 20 3 (.pointer (some ⟨b1397, off1398 + (x1382 : Int).toNat * 2, none⟩)) (by kernel_rfl) (by kernel_rfl))
                refine yStep ha 21 (by kernel_rfl) ?_; intro l_ ha HK
                refine stepl ha 21 (Rd.ca T_api_Range.enc T_api_Range.z (fun _ => rfl) (by have h_ := ((HW.rd0 hr0_0)); rw [hA1399] at h_; exact h_) hA1395 (show (x1382 : Int) < ((a0).length : Int) from hp1390)) 3 0 (.tmp 20) (.int .i64 ((rdL T_api_Range.z a0 x1382).f0)) rfl (by kernel_rfl) (by kernel_rfl) (by kernel_rfl) ?_; intro ax hax; exact HK _ _ _ hax rfl (Below.refl _ _)
              · skip
                intro a wr hn hd HW hs; have ha := hasNil hn hd
                have ha := ha.add (seeE hs 1 (.slice A1_1 a1.length c1_1) (by kernel_rfl) (by kernel_rfl))
                refine yStep ha 22 (by kernel_rfl) ?_; intro l_ ha HK
                refine stepp ha 22 (.slice A1_1 a1.length c1_1) (by kernel_rfl) (by kernel_rfl) ?_; intro ax hax; exact HK _ _ _ hax rfl (Below.refl _ _)
              · skip
                intro a wr hn hd HW hs; have ha := hasNil hn hd
                have ha := ha.add (seeE hs 5 (.int .i64 x1382) (by kernel_rfl) (by kernel_rfl))
                refine yStep ha 23 (by kernel_rfl) ?_; intro l_ ha HK
                refine stepp ha 23 (.int .i64 x1382) (by kernel_rfl) (by kernel_rfl) ?_; intro ax hax; exact HK _ _ _ hax rfl (Below.refl _ _)
              · skip
                intro a wr hn hd HW hs; have ha := hasNil hn hd
                have ha := ha.add (seeF hs 22 5 (.slice A1_1 a1.length c1_1) (by kernel_rfl) (by kernel_rfl))
                have ha := ha.add (seeF hs 23 6 (.int .i64 x1382) (by kernel_rfl) (by kernel_rfl))
                replace ha := ha.turn 22 (u := .slice A1_1 a1.length c1_1) (v := .slice (some ⟨b1402, off1403, none⟩) a1.length c1_1) (by kernel_rfl) (by rw [hA1404])
                refine yStep ha 24 (by kernel_rfl) ?_; intro l_ ha HK
                refine stepif ha 24 (sz := 2) (len := a1.length) (b := b1402) (off := off1403) (c := c1_1) 23 61 (.tmp 22) (.tmp 23) .i64 x1382 rfl (by kernel_rfl) (by kernel_rfl) (by kernel_rfl) (by kernel_rfl) hA1395 (show (x1382 : Int) < ((a1).length : Int) from hA1400) (by kernel_rfl) ?_; intro ax hax; exact HK _ _ _ hax rfl (Below.refl _ _)
              · skip
                intro a wr hn hd HW hs; have ha := hasNil hn hd
                have ha := ha.add (seeF hs 24 7 (.pointer (some ⟨b1402, off1403 + (x1382 : Int).toNat * 2, none⟩)) (by kernel_rfl) (by kernel_rfl))
                refine yStep ha 25 (by kernel_rfl) ?_; intro l_ ha HK
                refine stepp ha 25 (.pointer (some ⟨b1402, off1403 + (x1382 : Int).toNat * 2, none⟩)) (by kernel_rfl) (by kernel_rfl) ?_; intro ax hax; exact HK _ _ _ hax rfl (Below.refl _ _)
              · skip
                intro a wr hn hd HW hs; have ha := hasNil hn hd
                have ha := ha.add (seeF hs 25 8 (.pointer (some ⟨b1402, off1403 + (x1382 : Int).toNat * 2, none⟩)) (by kernel_rfl) (by kernel_rfl))
                refine yStep ha 26 (by kernel_rfl) ?_; intro l_ ha HK
                refine stepl ha 26 (Rd.ca T_api_Range.enc T_api_Range.z (fun _ => rfl) (by have h_ := ((HW.rd0 hr1_1)); rw [hA1404] at h_; exact h_) hA1395 (show (x1382 : Int) < ((a1).length : Int) from hA1400)) 3 0 (.tmp 25) (.int .i64 ((rdL T_api_Range.z a1 x1382).f0)) rfl (by kernel_rfl) (by kernel_rfl) (by kernel_rfl) ?_; intro ax hax; exact HK _ _ _ hax rfl (Below.refl _ _)
              · skip
                intro a wr hn hd HW hs; have ha := hasNil hn hd
                have ha := ha.add (seeF hs 21 4 (.int .i64 ((rdL T_api_Range.z a0 x1382).f0)) (by kernel_rfl) (by kernel_rfl))
                have ha := ha.add (seeF hs 26 9 (.int .i64 ((rdL T_api_Range.z a1 x1382).f0)) (by kernel_rfl) (by kernel_rfl))
                refine yStep ha 27 (by kernel_rfl) ?_; intro l_ ha HK
                refine stepp ha 27 (.bool (((rdL T_api_Range.z a0 x1382).f0) != ((rdL T_api_Range.z a1 x1382).f0))) (by kernel_rfl) (by kernel_rfl) ?_; intro ax hax; exact HK _ _ _ hax rfl (Below.refl _ _)
              · skip
                intro a wr hn hd HW hs; have ha := hasNil hn hd
                have ha := ha.add (seeF hs 27 10 (.bool (((rdL T_api_Range.z a0 x1382).f0) != ((rdL T_api_Range.z a1 x1382).f0))) (by kernel_rfl) (by kernel_rfl))
                refine yStep ha 28 (by kernel_rfl) ?_; intro l_ ha HK
                refine stepp ha 28 (.bool (((rdL T_api_Range.z a0 x1382).f0) != ((rdL T_api_Range.z a1 x1382).f0))) (by kernel_rfl) (by kernel_rfl) ?_; intro ax hax; exact HK _ _ _ hax rfl (Below.refl _ _)
              · skip
                intro a wr hn hd HW hs; have ha := hasNil hn hd
                have ha := ha.add (seeE hs 0 (.slice A0_0 a0.length c0_0) (by kernel_rfl) (by kernel_rfl))
                have ha := ha.add (seeF hs 28 11 (.bool (((rdL T_api_Range.z a0 x1382).f0) != ((rdL T_api_Range.z a1 x1382).f0))) (by kernel_rfl) (by kernel_rfl))
                have ha := ha.bool 28 (by kernel_rfl) (ineq_f hp1405)
                refine yStep ha 29 (by kernel_rfl) ?_; intro l_ ha HK
                refine stepp ha 29 (.slice A0_0 a0.length c0_0) (by kernel_rfl) (by kernel_rfl) ?_; intro ax hax; exact HK _ _ _ hax rfl (Below.refl _ _)
              · skip
                intro a wr hn hd HW hs; have ha := hasNil hn hd
                have ha := ha.add (seeE hs 5 (.int .i64 x1382) (by kernel_rfl) (by kernel_rfl))
                have ha := ha.add (seeF hs 28 11 (.bool (((rdL T_api_Range.z a0 x1382).f0) != ((rdL T_api_Range.z a1 x1382).f0))) (by kernel_rfl) (by kernel_rfl))
                have ha := ha.bool 28 (by kernel_rfl) (ineq_f hp1405)
                refine yStep ha 30 (by kernel_rfl) ?_; intro l_ ha HK
                refine stepp ha 30 (.int .i64 x1382) (by kernel_rfl) (by kernel_rfl) ?_; intro ax hax; exact HK _ _ _ hax rfl (Below.refl _ _)
              · skip
                intro a wr hn hd HW hs; have ha := hasNil hn hd
                have ha := ha.add (seeF hs 29 12 (.slice A0_0 a0.length c0_0) (by kernel_rfl) (by kernel_rfl))
                have ha := ha.add (seeF hs 30 13 (.int .i64 x1382) (by kernel_rfl) (by kernel_rfl))
                have ha := ha.add (seeF hs 28 11 (.bool (((rdL T_api_Range.z a0 x1382).f0) != ((rdL T_api_Range.z a1 x1382).f0))) (by kernel_rfl) (by kernel_rfl))
                have ha := ha.bool 28 (by kernel_rfl) (ineq_f hp1405)
                replace ha := ha.turn 29 (u := .slice A0_0 a0.length c0_0) (v := .slice (some ⟨b1397, off1398, none⟩) a0.length c0_0) (by kernel_rfl) (by rw [hA1399])
                refine yStep ha 31 (by kernel_rfl) ?_; intro l_ ha HK
                refine stepif ha 31 (sz := 2) (len := a0.length) (b := b1397) (off := off1398) (c := c0_0) 23 61 (.tmp 29) (.tmp 30) .i64 x1382 rfl (by kernel_rfl) (by kernel_rfl) (by kernel_rfl) (by kernel_rfl) hA1395 (show (x1382 : Int) < ((a0).length : Int) from hp1390) (by kernel_rfl) ?_; intro ax hax; exact HK _ _ _ hax rfl (Below.refl _ _)
              · skip
                intro a wr hn hd HW hs; have ha := hasNil hn hd
                have ha := ha.add (seeF hs 31 14 (.pointer (some ⟨b1397, off1398 + (x1382 : Int).toNat * 2, none⟩)) (by kernel_rfl) (by kernel_rfl))
                have ha := ha.add (seeF hs 28 11 (.bool (((rdL T_api_Range.z a0 x1382).f0) != ((rdL T_api_Range.z a1 x1382).f0))) (by kernel_rfl) (by kernel_rfl))
                have ha := ha.bool 28 (by kernel_rfl) (ineq_f hp1405)
                refine yStep ha 32 (by kernel_rfl) ?_; intro l_ ha HK
                refine stepp ha 32 (.pointer (some ⟨b1397, off1398 + (x1382 : Int).toNat * 2 + 1, none⟩)) (by kernel_rfl) (by kernel_rfl) ?_; intro ax hax; exact HK _ _ _ hax rfl (Below.refl _ _)
              · skip
                intro a wr hn hd HW hs; have ha := hasNil hn hd
                have ha := ha.add (seeF hs 32 15 (.pointer (some ⟨b1397, off1398 + (x1382 : Int).toNat * 2 + 1, none⟩)) (by kernel_rfl) (by kernel_rfl))
                have ha := ha.add (seeF hs 28 11 (.bool (((rdL T_api_Range.z a0 x1382).f0) != ((rdL T_api_Range.z a1 x1382).f0))) (by kernel_rfl) (by kernel_rfl))
                have ha := ha.bool 28 (by kernel_rfl) (ineq_f hp1405)
                refine yStep ha 33 (by kernel_rfl) ?_; intro l_ ha HK
                refine stepl ha 33 (Rd.ca T_api_Range.enc T_api_Range.z (fun _ => rfl) (by have h_ := ((HW.rd0 hr0_0)); rw [hA1399] at h_; exact h_) hA1395 (show (x1382 : Int) < ((a0).length : Int) from hp1390)) 3 1 (.tmp 32) (.int .i64 ((rdL T_api_Range.z a0 x1382).f1)) rfl (by kernel_rfl) (by kernel_rfl) (by kernel_rfl) ?_; intro ax hax; exact HK _ _ _ hax rfl (Below.refl _ _)
              · skip
                intro a wr hn hd HW hs; have ha := hasNil hn hd
                have ha := ha.add (seeE hs 1 (.slice A1_1 a1.length c1_1) (by kernel_rfl) (by kernel_rfl))
                have ha := ha.add (seeF hs 28 11 (.bool (((rdL T_api_Range.z a0 x1382).f0) != ((rdL T_api_Range.z a1 x1382).f0))) (by kernel_rfl) (by kernel_rfl))
                have ha := ha.bool 28 (by kernel_rfl) (ineq_f hp1405)
                refine yStep ha 34 (by kernel_rfl) ?_; intro l_ ha HK
                refine stepp ha 34 (.slice A1_1 a1.length c1_1) (by kernel_rfl) (by kernel_rfl) ?_; intro ax hax; exact HK _ _ _ hax rfl (Below.refl _ _)
              · skip
                intro a wr hn hd HW hs; have ha := hasNil hn hd
                have ha := ha.add (seeE hs 5 (.int .i64 x1382) (by kernel_rfl) (by kernel_rfl))
                have ha := ha.add (seeF hs 28 11 (.bool (((rdL T_api_Range.z a0 x1382).f0) != ((rdL T_api_Range.z a1 x1382).f0))) (by kernel_rfl) (by kernel_rfl))
                have ha := ha.bool 28 (by kernel_rfl) (ineq_f hp1405)
                refine yStep ha 35 (by kernel_rfl) ?_; intro l_ ha HK
                refine stepp ha 35 (.int .i64 x1382) (by kernel_rfl) (by kernel_rfl) ?_; intro ax hax; exact HK _ _ _ hax rfl (Below.refl _ _)
              · skip
                intro a wr hn hd HW hs; have ha := hasNil hn hd
                have ha := ha.add (seeF hs 34 17 (.slice A1_1 a1.length c1_1) (by kernel_rfl) (by kernel_rfl))
                have ha := ha.add (seeF hs 35 18 (.int .i64 x1382) (by kernel_rfl) (by kernel_rfl))
                have ha := ha.add (seeF hs 28 11 (.bool (((rdL T_api_Range.z a0 x1382).f0) != ((rdL T_api_Range.z a1 x1382).f0))) (by kernel_rfl) (by kernel_rfl))
                have ha := ha.bool 28 (by kernel_rfl) (ineq_f hp1405)
                replace ha := ha.turn 34 (u := .slice A1_1 a1.length c1_1) (v := .slice (some ⟨b1402, off1403, none⟩) a1.length c1_1) (by kernel_rfl) (by rw [hA1404])
                refine yStep ha 36 (by kernel_rfl) ?_; intro l_ ha HK
                refine stepif ha 36 (sz := 2) (len := a1.length) (b := b1402) (off := off1403) (c := c1_1) 23 61 (.tmp 34) (.tmp 35) .i64 x1382 rfl (by kernel_rfl) (by kernel_rfl) (by kernel_rfl) (by kernel_rfl) hA1395 (show (x1382 : Int) < ((a1).length : Int) from hA1400) (by kernel_rfl) ?_; intro ax hax; exact HK _ _ _ hax rfl (Below.refl _ _)
              · skip
                intro a wr hn hd HW hs; have ha := hasNil hn hd
                have ha := ha.add (seeF hs 36 19 (.pointer (some ⟨b1402, off1403 + (x1382 : Int).toNat * 2, none⟩)) (by kernel_rfl) (by kernel_rfl))
                have ha := ha.add (seeF hs 28 11 (.bool (((rdL T_api_Range.z a0 x1382).f0) != ((rdL T_api_Range.z a1 x1382).f0))) (by kernel_rfl) (by kernel_rfl))
                have ha := ha.bool 28 (by kernel_rfl) (ineq_f hp1405)
                refine yStep ha 37 (by kernel_rfl) ?_; intro l_ ha HK
                refine stepp ha 37 (.pointer (some ⟨b1402, off1403 + (x1382 : Int).toNat * 2 + 1, none⟩)) (by kernel_rfl) (by kernel_rfl) ?_; intro ax hax; exact HK _ _ _ hax rfl (Below.refl _ _)
              · skip
                intro a wr hn hd HW hs; have ha := hasNil hn hd
                have ha := ha.add (seeF hs 37 20 (.pointer (some ⟨b1402, off1403 + (x1382 : Int).toNat * 2 + 1, none⟩)) (by kernel_rfl) (by kernel_rfl))
                have ha := ha.add (seeF hs 28 11 (.bool (((rdL T_api_Range.z a0 x1382).f0) != ((rdL T_api_Range.z a1 x1382).f0))) (by kernel_rfl) (by kernel_rfl))
                have ha := ha.bool 28 (by kernel_rfl) (ineq_f hp1405)
                refine yStep ha 38 (by kernel_rfl) ?_; intro l_ ha HK
                refine stepl ha 38 (Rd.ca T_api_Range.enc T_api_Range.z (fun _ => rfl) (by have h_ := ((HW.rd0 hr1_1)); rw [hA1404] at h_; exact h_) hA1395 (show (x1382 : Int) < ((a1).length : Int) from hA1400)) 3 1 (.tmp 37) (.int .i64 ((rdL T_api_Range.z a1 x1382).f1)) rfl (by kernel_rfl) (by kernel_rfl) (by kernel_rfl) ?_; intro ax hax; exact HK _ _ _ hax rfl (Below.refl _ _)
              · skip
                intro a wr hn hd HW hs; have ha := hasNil hn hd
                have ha := ha.add (seeF hs 33 16 (.int .i64 ((rdL T_api_Range.z a0 x1382).f1)) (by kernel_rfl) (by kernel_rfl))
                have ha := ha.add (seeF hs 38 21 (.int .i64 ((rdL T_api_Range.z a1 x1382).f1)) (by kernel_rfl) (by kernel_rfl))
                have ha := ha.add (seeF hs 28 11 (.bool (((rdL T_api_Range.z a0 x1382).f0) != ((rdL T_api_Range.z a1 x1382).f0))) (by kernel_rfl) (by kernel_rfl))
                have ha := ha.bool 28 (by kernel_rfl) (ineq_f hp1405)
                refine yStep ha 39 (by kernel_rfl) ?_; intro l_ ha HK
                refine stepp ha 39 (.bool (((rdL T_api_Range.z a0 x1382).f1) != ((rdL T_api_Range.z a1 x1382).f1))) (by kernel_rfl) (by kernel_rfl) ?_; intro ax hax; exact HK _ _ _ hax rfl (Below.refl _ _)
              · skip
                intro a wr hn hd HW hs; have ha := hasNil hn hd
                have ha := ha.add (seeF hs 28 11 (.bool (((rdL T_api_Range.z a0 x1382).f0) != ((rdL T_api_Range.z a1 x1382).f0))) (by kernel_rfl) (by kernel_rfl))
                have ha := ha.bool 28 (by kernel_rfl) (ineq_f hp1405)
                have ha := ha.add (seeF hs 39 22 (.bool (((rdL T_api_Range.z a0 x1382).f1) != ((rdL T_api_Range.z a1 x1382).f1))) (by kernel_rfl) (by kernel_rfl))
                refine yStep ha 40 (by kernel_rfl) ?_; intro l_ ha HK
                refine stepp ha 40 (.bool (((rdL T_api_Range.z a0 x1382).f1) != ((rdL T_api_Range.z a1 x1382).f1))) (by kernel_rfl) (by kernel_rfl) ?_; intro ax hax; exact HK _ _ _ hax rfl (Below.refl _ _)
            · skip
              intro a W1408 ha HW he hf
              replace ha := ha.add (he 0 (.slice A0_0 a0.length c0_0) (by kernel_rfl) (by kernel_rfl))
              replace ha := ha.add (he 1 (.slice A1_1 a1.length c1_1) (by kernel_rfl) (by kernel_rfl))
              replace ha := ha.add (he 5 (.int .i64 x1382) (by kernel_rfl) (by kernel_rfl))
              replace ha := ha.add (gotF (m := 24) (j := 12) (d := 29) (v := .slice A0_0 a0.length c0_0) hf (by kernel_rfl) (by kernel_rfl) (by kernel_rfl))
              replace ha := ha.add (gotF (m := 24) (j := 13) (d := 30) (v := .int .i64 x1382) hf (by kernel_rfl) (by kernel_rfl) (by kernel_rfl))
              replace ha := ha.add (gotF (m := 24) (j := 16) (d := 33) (v := .int .i64 ((rdL T_api_Range.z a0 x1382).f1)) hf (by kernel_rfl) (by kernel_rfl) (by kernel_rfl))
              replace ha := ha.add (gotF (m := 24) (j := 17) (d := 34) (v := .slice A1_1 a1.length c1_1) hf (by kernel_rfl) (by kernel_rfl) (by kernel_rfl))
              replace ha := ha.add (gotF (m := 24) (j := 18) (d := 35) (v := .int .i64 x1382) hf (by kernel_rfl) (by kernel_rfl) (by kernel_rfl))
              replace ha := ha.add (gotF (m := 24) (j := 21) (d := 38) (v := .int .i64 ((rdL T_api_Range.z a1 x1382).f1)) hf (by kernel_rfl) (by kernel_rfl) (by kernel_rfl))
              replace ha := ha.add (gotF (m := 24) (j := 22) (d := 39) (v := .bool (((rdL T_api_Range.z a0 x1382).f1) != ((rdL T_api_Range.z a1 x1382).f1))) hf (by kernel_rfl) (by kernel_rfl) (by kernel_rfl))
              replace ha := ha.add (gotF (m := 24) (j := 23) (d := 40) (v := .bool (((rdL T_api_Range.z a0 x1382).f1) != ((rdL T_api_Range.z a1 x1382).f1))) hf (by kernel_rfl) (by kernel_rfl) (by kernel_rfl))
              clear he hf
              refine endl ?_
              refine thenN (hK1394 _ _ ?_); clear hK1394
              by_cases hp1410 : ((rdL T_api_Range.z a0 x1382).f1) = ((rdL T_api_Range.z a1 x1382).f1)
              · skip
                replace h := ite_pos' h hp1410
                refine condF ha (by kernel_rfl) (by kernel_rfl) (t := (((rdL T_api_Range.z a0 x1382).f1) != ((rdL T_api_Range.z a1 x1382).f1))) (ineq_f hp1410) ?_
                refine wp_skip ?_
                refine blkN ?_
                refine thenN (hK1392 _ _ ?_); clear hK1392
                refine wp_region_lit ?_
                refine stepp ha 15 (.int .i64 x1382) (by kernel_rfl) (by kernel_rfl) ?_; clear ha a; intro a ha
                refine stepp ha 16 (.int .i64 (IntKind.wrap .i64 (x1382 + 1))) (by kernel_rfl) (by kernel_rfl) ?_; clear ha a; intro a ha
                refine stepp ha 5 (.int .i64 (IntKind.wrap .i64 (x1382 + 1))) (by kernel_rfl) (by kernel_rfl) ?_; clear ha a; intro a ha
                refine endl ?_
                exact thenN ⟨k1384, Nat.lt_succ_self k1384, IntKind.wrap .i64 (x1382 + 1), (by rw [← hag1385]; exact h), ha.sub (subs_cons (by kernel_rfl) (subs_cons (by kernel_rfl) (subs_cons (by kernel_rfl) (subs_nil _)))), HW.pick [] [] (by decide) (by decide) (by kernel_rfl) (by kernel_rfl)⟩
              · skip
                replace h := ite_neg' h hp1410
                refine condT ha (by kernel_rfl) (by kernel_rfl) (t := (((rdL T_api_Range.z a0 x1382).f1) != ((rdL T_api_Range.z a1 x1382).f1))) (ineq_t hp1410) ?_
                refine wp_seq_k (fun K1411 hK1412 => ?_)
                refine wp_region_lit ?_
                refine stepp ha 4 (.bool false) (by kernel_rfl) (by kernel_rfl) ?_; clear ha a; intro a ha
                refine endl ?_
                refine thenN (hK1412 _ _ ?_); clear hK1412
                refine wp_ret ?_
                refine blkR ?_
                refine thenR ?_
                refine thenR ?_
                refine blkR ?_
                refine thenR ?_
                obtain rfl := Option.some.inj h
                exact finv ha _ _ rfl (.tmp (v := .bool false) (by kernel_rfl) .nil) (.bool false) rfl ⟨rfl, HW.pick [] [] (by decide) (by decide) rfl (by kernel_rfl)⟩
          · skip
            replace h := ite_neg' h hp1405
            refine regionG 24 (by kernel_rfl) (by kernel_rfl) ha HW [.fix (.slice A0_0 a0.length c0_0), .fix (.int .i64 x1382), .fix (.pointer (some ⟨b1397, off1398 + (x1382 : Int).toNat * 2, none⟩)), .fix (.pointer (some ⟨b1397, off1398 + (x1382 : Int).toNat * 2, none⟩)), .fix (.int .i64 ((rdL T_api_Range.z a0 x1382).f0)), .fix (.slice A1_1 a1.length c1_1), .fix (.int .i64 x1382), .fix (.pointer (some ⟨b1402, off1403 + (x1382 : Int).toNat * 2, none⟩)), .fix (.pointer (some ⟨b1402, off1403 + (x1382 : Int).toNat * 2, none⟩)), .fix (.int .i64 ((rdL T_api_Range.z a1 x1382).f0)), .fix (.bool (((rdL T_api_Range.z a0 x1382).f0) != ((rdL T_api_Range.z a1 x1382).f0))), .fix (.bool (((rdL T_api_Range.z a0 x1382).f0) != ((rdL T_api_Range.z a1 x1382).f0))), .fix undef, .fix undef, .fix undef, .fix undef, .fix undef, .fix undef, .fix undef, .fix undef, .fix undef, .fix undef, .fix undef, .fix (.bool true)] ?_ ?_
            · skip
              refine ⟨?_, ?_, ?_, ?_, ?_, ?_, ?_, ?_, ?_, ?_, ?_, ?_, ?_, ?_, ?_, ?_, ?_, ?_, ?_, ?_, ?_, ?_, ?_, ?_, trivial⟩
              · skip
                intro a wr hn hd HW hs; have ha := hasNil hn hd
                have ha := ha.add (seeE hs 0 (.slice A0_0 a0.length c0_0) (by kernel_rfl) (by kernel_rfl))
                refine yStep ha 17 (by kernel_rfl) ?_; intro l_ ha HK
                refine stepp ha 17 (.slice A0_0 a0.length c0_0) (by kernel_rfl) (by kernel_rfl) ?_; intro ax hax; exact HK _ _ _ hax rfl (Below.refl _ _)
              · skip
                intro a wr hn hd HW hs; have ha := hasNil hn hd
                have ha := ha.add (seeE hs 5 (.int .i64 x1382) (by kernel_rfl) (by kernel_rfl))
                refine yStep ha 18 (by kernel_rfl) ?_; intro l_ ha HK
                refine stepp ha 18 (.int .i64 x1382) (by kernel_rfl) (by kernel_rfl) ?_; intro ax hax; exact HK _ _ _ hax rfl (Below.refl _ _)
              · skip
                intro a wr hn hd HW hs; have ha := hasNil hn hd
                have ha := ha.add (seeF hs 17 0 (.slice A0_0 a0.length c0_0) (by kernel_rfl) (by kernel_rfl))
                have ha := ha.add (seeF hs 18 1 (.int .i64 x1382) (by kernel_rfl) (by kernel_rfl))
                replace ha := ha.turn 17 (u := .slice A0_0 a0.length c0_0) (v := .slice (some ⟨b1397, off1398, none⟩) a0.length c0_0) (by kernel_rfl) (by rw [hA1399])
                refine yStep ha 19 (by kernel_rfl) ?_; intro l_ ha HK
                refine stepif ha 19 (sz := 2) (len := a0.length) (b := b1397) (off := off1398) (c := c0_0) 23 61 (.tmp 17) (.tmp 18) .i64 x1382 rfl (by kernel_rfl) (by kernel_rfl) (by kernel_rfl) (by kernel_rfl) hA1395 (show (x1382 : Int) < ((a0).length : Int) from hp1390) (by kernel_rfl) ?_; intro ax hax; exact HK _ _ _ hax rfl (Below.refl _ _)
              · skip
                intro a wr hn hd HW hs; have ha := hasNil hn hd
                have ha := ha.add (seeF hs 19 2 (.pointer (some ⟨b1397, off1398 + (x1382 : Int).toNat * 2, none⟩)) (by kernel_rfl) (by kernel_rfl))
                refine yStep ha 20 (by kernel_rfl) ?_; intro l_ ha HK
                refine stepp ha 20 (.pointer (some ⟨b1397, off1398 + (x1382 : Int).toNat * 2, none⟩)) (by kernel_rfl) (by kernel_rfl) ?_; intro ax hax; exact HK _ _ _ hax rfl (Below.refl _ _)
              · skip
                intro a wr hn hd HW hs; have ha := hasNil hn hd
                have ha := ha.add (seeF hs 20 3 (.pointer (some ⟨b1397, off1398 + (x1382 : Int).toNat * 2, none⟩)) (by kernel_rfl) (by kernel_rfl))
                refine yStep ha 21 (by kernel_rfl) ?_; intro l_ ha HK
                refine stepl ha 21 (Rd.ca T_api_Range.enc T_api_Range.z (fun _ => rfl) (by have h_ := ((HW.rd0 hr0_0)); rw [hA1399] at h_; exact h_) hA1395 (show (x1382 : Int) < ((a0).length : Int) from hp1390)) 3 0 (.tmp 20) (.int .i64 ((rdL T_api_Range.z a0 x1382).f0)) rfl (by kernel_rfl) (by kernel_rfl) (by kernel_rfl) ?_; intro ax hax; exact HK _ _ _ hax rfl (Below.refl _ _)
              · skip
                intro a wr hn hd HW hs; have ha := hasNil hn hd
                have ha := ha.add (seeE hs 1 (.slice A1_1 a1.length c1_1) (by kernel_rfl) (by kernel_rfl))
                refine yStep ha 22 (by kernel_rfl) ?_; intro l_ ha HK
                refine stepp ha 22 (.slice A1_1 a1.length c1_1) (by kernel_rfl) (by kernel_rfl) ?_; intro ax hax; exact HK _ _ _ hax rfl (Below.refl _ _)
              · skip
                intro a wr hn hd HW hs; have ha := hasNil hn hd
                have ha := ha.add (seeE hs 5 (.int .i64 x1382) (by kernel_rfl) (by kernel_rfl))
                refine yStep ha 23 (by kernel_rfl) ?_; intro l_ ha HK
                refine stepp ha 23 (.int .i64 x1382) (by kernel_rfl) (by kernel_rfl) ?_; intro ax hax; exact HK _ _ _ hax rfl (Below.refl _ _)
              · skip
                intro a wr hn hd HW hs; have ha := hasNil hn hd
                have ha := ha.add (seeF hs 22 5 (.slice A1_1 a1.length c1_1) (by kernel_rfl) (by kernel_rfl))
                have ha := ha.add (seeF hs 23 6 (.int .i64 x1382) (by kernel_rfl) (by kernel_rfl))
                replace ha := ha.turn 22 (u := .slice A1_1 a1.length c1_1) (v := .slice (some ⟨b1402, off1403, none⟩) a1.length c1_1) (by kernel_rfl) (by rw [hA1404])
                refine yStep ha 24 (by kernel_rfl) ?_; intro l_ ha HK
                refine stepif ha 24 (sz := 2) (len := a1.length) (b := b1402) (off := off1403) (c := c1_1) 23 61 (.tmp 22) (.tmp 23) .i64 x1382 rfl (by kernel_rfl) (by kernel_rfl) (by kernel_rfl) (by kernel_rfl) hA1395 (show (x1382 : Int) < ((a1).length : Int) from hA1400) (by kernel_rfl) ?_; intro ax hax; exact HK _ _ _ hax rfl (Below.refl _ _)
              · skip
                intro a wr hn hd HW hs; have ha := hasNil hn hd
                have ha := ha.add (seeF hs 24 7 (.pointer (some ⟨b1402, off1403 + (x1382 : Int).toNat * 2, none⟩)) (by kernel_rfl) (by kernel_rfl))
                refine yStep ha 25 (by kernel_rfl) ?_; intro l_ ha HK
                refine stepp ha 25 (.pointer (some ⟨b1402, off1403 + (x1382 : Int).toNat * 2, none⟩)) (by kernel_rfl) (by kernel_rfl) ?_; intro ax hax; exact HK _ _ _ hax rfl (Below.refl _ _)
              · skip
                intro a wr hn hd HW hs; have ha := hasNil hn hd
                have ha := ha.add (seeF hs 25 8 (.pointer (some ⟨b1402, off1403 + (x1382 : Int).toNat * 2, none⟩)) (by kernel_rfl) (by kernel_rfl))
                refine yStep ha 26 (by kernel_rfl) ?_; intro l_ ha HK
                refine stepl ha 26 (Rd.ca T_api_Range.enc T_api_Range.z (fun _ => rfl) (by have h_ := ((HW.rd0 hr1_1)); rw [hA1404] at h_; exact h_) hA1395 (show (x1382 : Int) < ((a1).length : Int) from hA1400)) 3 0 (.tmp 25) (.int .i64 ((rdL T_api_Range.z a1 x1382).f0)) rfl (by kernel_rfl) (by kernel_rfl) (by kernel_rfl) ?_; intro ax hax; exact HK _ _ _ hax rfl (Below.refl _ _)
              · skip
                intro a wr hn hd HW hs; have ha := hasNil hn hd
                have ha := ha.add (seeF hs 21 4 (.int .i64 ((rdL T_api_Range.z a0 x1382).f0)) (by kernel_rfl) (by kernel_rfl))
                have ha := ha.add (seeF hs 26 9 (.int .i64 ((rdL T_api_Range.z a1 x1382).f0)) (by kernel_rfl) (by kernel_rfl))
                refine yStep ha 27 (by kernel_rfl) ?_; intro l_ ha HK
                refine stepp ha 27 (.bool (((rdL T_api_Range.z a0 x1382).f0) != ((rdL T_api_Range.z a1 x1382).f0))) (by kernel_rfl) (by kernel_rfl) ?_; intro ax hax; exact HK _ _ _ hax rfl (Below.refl _ _)
              · skip
                intro a wr hn hd HW hs; have ha := hasNil hn hd
                have ha := ha.add (seeF hs 27 10 (.bool (((rdL T_api_Range.z a0 x1382).f0) != ((rdL T_api_Range.z a1 x1382).f0))) (by kernel_rfl) (by kernel_rfl))
                refine yStep ha 28 (by kernel_rfl) ?_; intro l_ ha HK
                refine stepp ha 28 (.bool (((rdL T_api_Range.z a0 x1382).f0) != ((rdL T_api_Range.z a1 x1382).f0))) (by kernel_rfl) (by kernel_rfl) ?_; intro ax hax; exact HK _ _ _ hax rfl (Below.refl _ _)
              · skip
                intro a wr hn hd HW hs; have ha := hasNil hn hd
                have ha := ha.add (seeE hs 0 (.slice A0_0 a0.length c0_0) (by kernel_rfl) (by kernel_rfl))
                have ha := ha.add (seeF hs 28 11 (.bool (((rdL T_api_Range.z a0 x1382).f0) != ((rdL T_api_Range.z a1 x1382).f0))) (by kernel_rfl) (by kernel_rfl))
                have ha := ha.bool 28 (by kernel_rfl) (ineq_t hp1405)
                exact yo ha (by kernel_rfl) rfl
              · skip
                intro a wr hn hd HW hs; have ha := hasNil hn hd
                have ha := ha.add (seeE hs 5 (.int .i64 x1382) (by kernel_rfl) (by kernel_rfl))
                have ha := ha.add (seeF hs 28 11 (.bool (((rdL T_api_Range.z a0 x1382).f0) != ((rdL T_api_Range.z a1 x1382).f0))) (by kernel_rfl) (by kernel_rfl))
                have ha := ha.bool 28 (by kernel_rfl) (ineq_t hp1405)
                exact yo ha (by kernel_rfl) rfl
              · skip
                intro a wr hn hd HW hs; have ha := hasNil hn hd
                have ha := ha.add (seeF hs 29 12 (undef) (by kernel_rfl) (by kernel_rfl))
                have ha := ha.add (seeF hs 30 13 (undef) (by kernel_rfl) (by kernel_rfl))
                have ha := ha.add (seeF hs 28 11 (.bool (((rdL T_api_Range.z a0 x1382).f0) != ((rdL T_api_Range.z a1 x1382).f0))) (by kernel_rfl) (by kernel_rfl))
                have ha := ha.bool 28 (by kernel_rfl) (ineq_t hp1405)
                exact yo ha (by kernel_rfl) rfl
              · skip
                intro a wr hn hd HW hs; have ha := hasNil hn hd
                have ha := ha.add (seeF hs 31 14 (undef) (by kernel_rfl) (by kernel_rfl))
                have ha := ha.add (seeF hs 28 11 (.bool (((rdL T_api_Range.z a0 x1382).f0) != ((rdL T_api_Range.z a1 x1382).f0))) (by kernel_rfl) (by kernel_rfl))
                have ha := ha.bool 28 (by kernel_rfl) (ineq_t hp1405)
                exact yo ha (by kernel_rfl) rfl
              · skip
                intro a wr hn hd HW hs; have ha := hasNil hn hd
                have ha := ha.add (seeF hs 32 15 (undef) (by kernel_rfl) (by kernel_rfl))
                have ha := ha.add (seeF hs 28 11 (.bool (((rdL T_api_Range.z a0 x1382).f0) != ((rdL T_api_Range.z a1 x1382).f0))) (by kernel_rfl) (by kernel_rfl))
                have ha := ha.bool 28 (by kernel_rfl) (ineq_t hp1405)
                exact yo ha (by kernel_rfl) rfl
              · skip
                intro a wr hn hd HW hs; have ha := hasNil hn hd
                have ha := ha.add (seeE hs 1 (.slice A1_1 a1.length c1_1) (by kernel_rfl) (by kernel_rfl))
                have ha := ha.add (seeF hs 28 11 (.bool (((rdL T_api_Range.z a0 x1382).f0) != ((rdL T_api_Range.z a1 x1382).f0))) (by kernel_rfl) (by kernel_rfl))
                have ha := ha.bool 28 (by kernel_rfl) (ineq_t hp1405)
                exact yo ha (by kernel_rfl) rfl
              · skip
                intro a wr hn hd HW hs; have ha := hasNil hn hd
                have ha := ha.add (seeE hs 5 (.int .i64 x1382) (by kernel_rfl) (by kernel_rfl))
                have ha := ha.add (seeF hs 28 11 (.bool (((rdL T_api_Range.z a0 x1382).f0) != ((rdL T_api_Range.z a1 x1382).f0))) (by kernel_rfl) (by kernel_rfl))
                have ha := ha.bool 28 (by kernel_rfl) (ineq_t hp1405)
                exact yo ha (by kernel_rfl) rfl
              · skip
                intro a wr hn hd HW hs; have ha := hasNil hn hd
                have ha := ha.add (seeF hs 34 17 (undef) (by kernel_rfl) (by kernel_rfl))
                have ha := ha.add (seeF hs 35 18 (undef) (by kernel_rfl) (by kernel_rfl))
                have ha := ha.add (seeF hs 28 11 (.bool (((rdL T_api_Range.z a0 x1382).f0) != ((rdL T_api_Range.z a1 x1382).f0))) (by kernel_rfl) (by kernel_rfl))
                have ha := ha.bool 28 (by kernel_rfl) (ineq_t hp1405)
                exact yo ha (by kernel_rfl) rfl
              · skip
                intro a wr hn hd HW hs; have ha := hasNil hn hd
                have ha := ha.add (seeF hs 36 19 (undef) (by kernel_rfl) (by kernel_rfl))
                have ha := ha.add (seeF hs 28 11 (.bool (((rdL T_api_Range.z a0 x1382).f0) != ((rdL T_api_Range.z a1 x1382).f0))) (by kernel_rfl) (by kernel_rfl))
                have ha := ha.bool 28 (by kernel_rfl) (ineq_t hp1405)
                exact yo ha (by kernel_rfl) rfl
              · skip
                intro a wr hn hd HW hs; have ha := hasNil hn hd
                have ha := ha.add (seeF hs 37 20 (undef) (by kernel_rfl) (by kernel_rfl))
                have ha := ha.add (seeF hs 28 11 (.bool (((rdL T_api_Range.z a0 x1382).f0) != ((rdL T_api_Range.z a1 x1382).f0))) (by kernel_rfl) (by kernel_rfl))
                have ha := ha.bool 28 (by kernel_rfl) (ineq_t hp1405)
                exact yo ha (by kernel_rfl) rfl
              · skip
                intro a wr hn hd HW hs; have ha := hasNil hn hd
                have ha := ha.add (seeF hs 33 16 (undef) (by kernel_rfl) (by kernel_rfl))
                have ha := ha.add (seeF hs 38 21 (undef) (by kernel_rfl) (by kernel_rfl))
                have ha := ha.add (seeF hs 28 11 (.bool (((rdL T_api_Range.z a0 x1382).f0) != ((rdL T_api_Range.z a1 x1382).f0))) (by kernel_rfl) (by kernel_rfl))
                have ha := ha.bool 28 (by kernel_rfl) (ineq_t hp1405)
                exact yo ha (by kernel_rfl) rfl
              · skip
                intro a wr hn hd HW hs; have ha := hasNil hn hd
                have ha := ha.add (seeF hs 28 11 (.bool (((rdL T_api_Range.z a0 x1382).f0) != ((rdL T_api_Range.z a1 x1382).f0))) (by kernel_rfl) (by kernel_rfl))
                have ha := ha.bool 28 (by kernel_rfl) (ineq_t hp1405)
                have ha := ha.add (seeF hs 39 22 (undef) (by kernel_rfl) (by kernel_rfl))
                refine yStep ha 40 (by kernel_rfl) ?_; intro l_ ha HK
                refine stepp ha 40 (.bool true) (by kernel_rfl) (by kernel_rfl) ?_; intro ax hax; exact HK _ _ _ hax rfl (Below.refl _ _)
            · skip
              intro a W1409 ha HW he hf
              replace ha := ha.add (he 0 (.slice A0_0 a0.length c0_0) (by kernel_rfl) (by kernel_rfl))
              replace ha := ha.add (he 1 (.slice A1_1 a1.length c1_1) (by kernel_rfl) (by kernel_rfl))
              replace ha := ha.add (he 5 (.int .i64 x1382) (by kernel_rfl) (by kernel_rfl))
              replace ha := ha.add (gotF (m := 24) (j := 23) (d := 40) (v := .bool true) hf (by kernel_rfl) (by kernel_rfl) (by kernel_rfl))
              clear he hf
              refine endl ?_
              refine thenN (hK1394 _ _ ?_); clear hK1394
              refine condT ha (by kernel_rfl) (by kernel_rfl) (t := true) (rfl) ?_
              refine wp_seq_k (fun K1413 hK1414 => ?_)
              refine wp_region_lit ?_
              refine stepp ha 4 (.bool false) (by kernel_rfl) (by kernel_rfl) ?_; clear ha a; intro a ha
              refine endl ?_
              refine thenN (hK1414 _ _ ?_); clear hK1414
              refine wp_ret ?_
              refine blkR ?_
              refine thenR ?_
              refine thenR ?_
              refine blkR ?_
              refine thenR ?_
              obtain rfl := Option.some.inj h
              exact finv ha _ _ rfl (.tmp (v := .bool false) (by kernel_rfl) .nil) (.bool false) rfl ⟨rfl, HW.pick [] [] (by decide) (by decide) rfl (by kernel_rfl)⟩
        · skip
          replace h := ite_neg' h hp1390
          refine condF ha (by kernel_rfl) (by kernel_rfl) (t := decide (x1382 < (a0.length : Int))) (decide_eq_false hp1390) ?_
          refine wp_exit ?_
          refine thenE ?_
          refine thenE ?_
          refine inBlk ?_
          refine thenN (hK1317 _ _ ?_); clear hK1317
          refine wp_seq_k (fun K1415 hK1416 => ?_)
          refine wp_region_lit ?_
          refine stepp ha 4 (.bool true) (by kernel_rfl) (by kernel_rfl) ?_; clear ha a; intro a ha
          refine endl ?_
          refine thenN (hK1416 _ _ ?_); clear hK1416
          refine wp_ret ?_
          obtain rfl := Option.some.inj h
          exact finv ha _ _ rfl (.tmp (v := .bool true) (by kernel_rfl) .nil) (.bool true) rfl ⟨rfl, HW.pick [] [] (by decide) (by decide) rfl (by kernel_rfl)⟩
  · skip
    replace h := ite_neg' h hp1313
    refine condT ha (by kernel_rfl) (by kernel_rfl) (t := ((a0.length : Int) != (a1.length : Int))) (ineq_t hp1313) ?_
    refine wp_seq_k (fun K1314 hK1315 => ?_)
    refine wp_region_lit ?_
    refine stepp ha 4 (.bool false) (by kernel_rfl) (by kernel_rfl) ?_; clear ha a; intro a ha
    refine endl ?_
    refine thenN (hK1315 _ _ ?_); clear hK1315
    refine wp_ret ?_
    refine thenR ?_
    obtain rfl := Option.some.inj h
    exact finv ha _ _ rfl (.tmp (v := .bool false) (by kernel_rfl) .nil) (.bool false) rfl ⟨rfl, HW.pick [] [] (by decide) (by decide) rfl (by kernel_rfl)⟩
end Go.Proofs.Ytceagilmillgfaa.F
