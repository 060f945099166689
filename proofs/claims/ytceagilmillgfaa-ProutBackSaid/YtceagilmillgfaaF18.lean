/- headgate/headgateref01.PutBig: a plain function, and that the call comes to what it says. No condition. -/
import Derived.Test.YtceagilmillgfaaFT
namespace Go.Proofs.Ytceagilmillgfaa.F
open Go Go.RowKit Go.Proofs.Ytceagilmillgfaa.X
set_option linter.unusedVariables false
set_option linter.unusedSimpArgs false
/-! ### headgate/headgateref01.PutBig: function 18 -/
def headgateref01_PutBig.b0 (K : Nat) (again1501 : Int → (List Int) → Int → Option ByteArray) (x1502 : Int) (x1503 : List Int) (x1507 : Int) : Option ByteArray :=
  if x1507 ≥ 0 then (asrt (0 ≤ x1507) (asrt (x1507 < (x1503.length : Int)) (again1501 (IntKind.wrap .u64 (Int.tdiv x1502 256)) (x1503.set (x1507 : Int).toNat (IntKind.wrap .u8 (Int.tmod x1502 256))) (IntKind.wrap .i64 (x1507 - 1))))) else (some (strOfNums x1503))
def headgateref01_PutBig.l0 (K : Nat)  : Nat → Int → (List Int) → Int → Option ByteArray
  | 0, _, _, _ => none
  | k_ + 1, x1502, x1503, x1507 => headgateref01_PutBig.b0 K  (headgateref01_PutBig.l0 K  k_) x1502 x1503 x1507
def headgateref01_PutBig.f (K : Nat) (a0 : Int) (a1 : Int) : Option ByteArray :=
  if a1 < 1 then (some (⟨#[]⟩ : ByteArray)) else (if a1 > 8 then (some (⟨#[]⟩ : ByteArray)) else (asrt (0 ≤ a1) (asrt (a1 ≤ 281474976710656) (headgateref01_PutBig.l0 K  K a0 (List.replicate (a1 : Int).toNat (0 : Int)) (IntKind.wrap .i64 (a1 - 1))))))
set_option maxRecDepth 100000 in
set_option maxHeartbeats 4000000 in
theorem headgateref01_PutBig.calls (K : Nat) (a0 : Int) (a1 : Int)  (r : ByteArray) (w : World)  (h : headgateref01_PutBig.f K a0 a1 = some r) :
    Calls Try.prog 18 #[.int .u64 a0, .int .i64 a1] w (fun e W' => e = .returned (.string r) ∧ Wd w W' [] [] ) := by
  refine sxstart (n := 31) (l := [(0, .int .u64 a0), (1, .int .i64 a1)]) Try.func18 rfl rfl (Nat.le_of_ble_eq_true (by kernel_rfl)) (subsA_cons rfl (subsA_cons rfl (subsA_nil _))) ?_
  intro a ha
  have HW := Wd.refl w
  unfold headgateref01_PutBig.f at h
  refine wp_seq_k (fun K1442 hK1443 => ?_)
  refine wp_region_lit ?_
  refine stepp ha 4 (.string (⟨#[]⟩ : ByteArray)) (by kernel_rfl) (by kernel_rfl) ?_; clear ha a; intro a ha
  refine endl ?_
  refine thenN (hK1443 _ _ ?_); clear hK1443
  refine wp_seq_k (fun K1444 hK1445 => ?_)
  refine wp_seq_k (fun K1446 hK1447 => ?_)
  refine wp_region_lit ?_
  refine stepp ha 7 (.int .i64 a1) (by kernel_rfl) (by kernel_rfl) ?_; clear ha a; intro a ha
  refine stepp ha 8 (.bool (decide (a1 < 1))) (by kernel_rfl) (by kernel_rfl) ?_; clear ha a; intro a ha
  refine stepp ha 9 (.bool (decide (a1 < 1))) (by kernel_rfl) (by kernel_rfl) ?_; clear ha a; intro a ha
  by_cases hp1448 : a1 < 1
  · skip
    replace h := ite_pos' h hp1448
    replace ha := ha.bool 9 (by kernel_rfl) (decide_eq_true hp1448)
    refine stepo ha 10 (by kernel_rfl) ?_; clear ha a; intro a ha
    refine stepo ha 11 (by kernel_rfl) ?_; clear ha a; intro a ha
    refine stepp ha 12 (.bool true) (by kernel_rfl) (by kernel_rfl) ?_; clear ha a; intro a ha
    refine endl ?_
    refine thenN (hK1447 _ _ ?_); clear hK1447
    refine condT ha (by kernel_rfl) (by kernel_rfl) (t := true) (rfl) ?_
    refine wp_seq_k (fun K1449 hK1450 => ?_)
    refine wp_region_lit ?_
    refine stepp ha 4 (.string (⟨#[]⟩ : ByteArray)) (by kernel_rfl) (by kernel_rfl) ?_; clear ha a; intro a ha
    refine endl ?_
    refine thenN (hK1450 _ _ ?_); clear hK1450
    refine wp_ret ?_
    refine thenR ?_
    obtain rfl := Option.some.inj h
    exact finv ha _ _ rfl (.tmp (v := .string (⟨#[]⟩ : ByteArray)) (by kernel_rfl) .nil) (.string (⟨#[]⟩ : ByteArray)) rfl ⟨rfl, HW.pick [] [] (by decide) (by decide) rfl (by kernel_rfl)⟩
  · skip
    replace h := ite_neg' h hp1448
    replace ha := ha.bool 9 (by kernel_rfl) (decide_eq_false hp1448)
    refine stepp ha 10 (.int .i64 a1) (by kernel_rfl) (by kernel_rfl) ?_; clear ha a; intro a ha
    refine stepp ha 11 (.bool (decide (a1 > 8))) (by kernel_rfl) (by kernel_rfl) ?_; clear ha a; intro a ha
    refine stepp ha 12 (.bool (decide (a1 > 8))) (by kernel_rfl) (by kernel_rfl) ?_; clear ha a; intro a ha
    refine endl ?_
    refine thenN (hK1447 _ _ ?_); clear hK1447
    by_cases hp1451 : a1 > 8
    · skip
      replace h := ite_pos' h hp1451
      refine condT ha (by kernel_rfl) (by kernel_rfl) (t := decide (a1 > 8)) (decide_eq_true hp1451) ?_
      refine wp_seq_k (fun K1452 hK1453 => ?_)
      refine wp_region_lit ?_
      refine stepp ha 4 (.string (⟨#[]⟩ : ByteArray)) (by kernel_rfl) (by kernel_rfl) ?_; clear ha a; intro a ha
      refine endl ?_
      refine thenN (hK1453 _ _ ?_); clear hK1453
      refine wp_ret ?_
      refine thenR ?_
      obtain rfl := Option.some.inj h
      exact finv ha _ _ rfl (.tmp (v := .string (⟨#[]⟩ : ByteArray)) (by kernel_rfl) .nil) (.string (⟨#[]⟩ : ByteArray)) rfl ⟨rfl, HW.pick [] [] (by decide) (by decide) rfl (by kernel_rfl)⟩
    · skip
      replace h := ite_neg' h hp1451
      refine condF ha (by kernel_rfl) (by kernel_rfl) (t := decide (a1 > 8)) (decide_eq_false hp1451) ?_
      refine wp_skip ?_
      refine thenN (hK1445 _ _ ?_); clear hK1445
      refine wp_seq_k (fun K1454 hK1455 => ?_)
      refine wp_region_lit ?_
      refine stepp ha 13 (.int .i64 a1) (by kernel_rfl) (by kernel_rfl) ?_; clear ha a; intro a ha
      obtain ⟨hA1456, h_⟩ := asrt_some h; clear h; have h := h_; clear h_
      obtain ⟨hA1457, h_⟩ := asrt_some h; clear h; have h := h_; clear h_
      refine stepmk (encI .u8) (0 : Int) ha HW 14 55 5 (.tmp 13) (.tmp 13) .i64 .i64 a1 (.int .u8 0) 1 rfl (by kernel_rfl) (by kernel_rfl) (by kernel_rfl) (by kernel_rfl) rfl rfl hA1456 (by have := hA1457; omega) (by have := hA1457; omega) (by kernel_rfl) ?_; clear ha HW a; intro b1458 a W1459 HW ha
      refine stepp ha 5 (.slice (some ⟨b1458, 0, none⟩) (List.replicate (a1 : Int).toNat (0 : Int)).length ((a1 : Int).toNat)) (by kernel_rfl) (by kernel_rfl) ?_; clear ha a; intro a ha
      refine endl ?_
      refine thenN (hK1455 _ _ ?_); clear hK1455
      refine wp_seq_k (fun K1461 hK1462 => ?_)
      refine wp_seq_k (fun K1463 hK1464 => ?_)
      refine wp_region_lit ?_
      refine stepp ha 15 (.int .i64 a1) (by kernel_rfl) (by kernel_rfl) ?_; clear ha a; intro a ha
      refine stepp ha 16 (.int .i64 (IntKind.wrap .i64 (a1 - 1))) (by kernel_rfl) (by kernel_rfl) ?_; clear ha a; intro a ha
      refine stepp ha 6 (.int .i64 (IntKind.wrap .i64 (a1 - 1))) (by kernel_rfl) (by kernel_rfl) ?_; clear ha a; intro a ha
      refine endl ?_
      refine thenN (hK1464 _ _ ?_); clear hK1464
      refine wp_block ?_
      refine loopk (fun k => fun a W1508 => ∃ (x1502 : Int), ∃ (x1503 : List Int), ∃ A1504, ∃ c1505, ∃ (x1507 : Int), headgateref01_PutBig.l0 K  k x1502 x1503 x1507 = some r ∧ Has 31 [(0, .int .u64 x1502), (5, .slice A1504 x1503.length c1505), (6, .int .i64 x1507)] a ∧ Wd w W1508 [] [⟨5, 1, .slice A1504 x1503.length c1505, x1503.length, encs (encI .u8) x1503⟩]) K ?_ ?_
      · skip
        exact ⟨a0, List.replicate (a1 : Int).toNat (0 : Int), some ⟨b1458, 0, none⟩, (a1 : Int).toNat, IntKind.wrap .i64 (a1 - 1), h, ha.sub (subs_cons (by kernel_rfl) (subs_cons (by kernel_rfl) (subs_cons (by kernel_rfl) (subs_nil _)))), HW.pick [] [0] (by decide) (by decide) (by kernel_rfl) (by kernel_rfl)⟩
      · skip
        intro k a W1508 hI
        obtain ⟨x1502, x1503, A1504, c1505, x1507, h, ha, HW⟩ := hI
        cases k with
        | zero => exact (none_some (show none = some r from h)).elim
        | succ k1509 =>
          replace h : headgateref01_PutBig.b0 K  (headgateref01_PutBig.l0 K  k1509) x1502 x1503 x1507 = some r := h
          obtain ⟨again1501, hag1510⟩ : ∃ g_, g_ = headgateref01_PutBig.l0 K  k1509 := ⟨_, rfl⟩
          rw [← hag1510] at h
          unfold headgateref01_PutBig.b0 at h
          refine wp_seq_k (fun K1511 hK1512 => ?_)
          refine wp_seq_k (fun K1513 hK1514 => ?_)
          refine wp_region_lit ?_
          refine stepp ha 17 (.int .i64 x1507) (by kernel_rfl) (by kernel_rfl) ?_; clear ha a; intro a ha
          refine stepp ha 18 (.bool (decide (x1507 ≥ 0))) (by kernel_rfl) (by kernel_rfl) ?_; clear ha a; intro a ha
          refine endl ?_
          refine thenN (hK1514 _ _ ?_); clear hK1514
          by_cases hp1515 : x1507 ≥ 0
          · skip
            replace h := ite_pos' h hp1515
            refine condT ha (by kernel_rfl) (by kernel_rfl) (t := decide (x1507 ≥ 0)) (decide_eq_true hp1515) ?_
            refine wp_skip ?_
            refine thenN (hK1512 _ _ ?_); clear hK1512
            refine wp_seq_k (fun K1516 hK1517 => ?_)
            refine wp_block ?_
            refine wp_seq_k (fun K1518 hK1519 => ?_)
            refine wp_region_lit ?_
            refine stepp ha 21 (.slice A1504 x1503.length c1505) (by kernel_rfl) (by kernel_rfl) ?_; clear ha a; intro a ha
            refine stepp ha 22 (.int .i64 x1507) (by kernel_rfl) (by kernel_rfl) ?_; clear ha a; intro a ha
            refine stepp ha 23 (.int .u64 x1502) (by kernel_rfl) (by kernel_rfl) ?_; clear ha a; intro a ha
            refine stepp ha 24 (.int .u64 (Int.tmod x1502 256)) (by kernel_rfl) (by kernel_rfl) ?_; clear ha a; intro a ha
            refine stepp ha 25 (.int .u8 (IntKind.wrap .u8 (Int.tmod x1502 256))) (by kernel_rfl) (by kernel_rfl) ?_; clear ha a; intro a ha
            obtain ⟨hA1520, h_⟩ := asrt_some h; clear h; have h := h_; clear h_
            obtain ⟨hA1521, h_⟩ := asrt_some h; clear h; have h := h_; clear h_
            refine stepio (encI .u8) ha HW 26 0 (sz := 1) (e := 5) (v := .slice A1504 x1503.length c1505) (xs := x1503) (by kernel_rfl) 55 (.tmp 21) (.tmp 22) .i64 x1507 rfl (by kernel_rfl) (by kernel_rfl) (by kernel_rfl) (by kernel_rfl) hA1520 (show (x1507 : Int) < ((x1503).length : Int) from hA1521) (by kernel_rfl) ?_; clear ha a; intro b1522 a hb1523 ha
            refine stepos (encI .u8) (0 : Int) ha HW 0 (sz := 1) (e := 5) (fun _ => rfl) (v := .slice A1504 x1503.length c1505) (xs := x1503) (by kernel_rfl) hb1523 x1507 hA1520 (show (x1507 : Int) < ((x1503).length : Int) from hA1521) 5 0 (.tmp 26) (.tmp 25) (.int .u8 (IntKind.wrap .u8 (Int.tmod x1502 256))) (IntKind.wrap .u8 (Int.tmod x1502 256)) rfl (by kernel_rfl) (by kernel_rfl) (by kernel_rfl) (by kernel_rfl) (by kernel_rfl) (by kernel_rfl) (by kernel_rfl) (.slice A1504 (x1503.set (x1507 : Int).toNat (IntKind.wrap .u8 (Int.tmod x1502 256))).length c1505) (by rw [List.length_set]) ?_; clear ha HW a; intro a W1524 HW ha
            replace ha := ha.turn 5 (v := .slice A1504 (x1503.set (x1507 : Int).toNat (IntKind.wrap .u8 (Int.tmod x1502 256))).length c1505) (by kernel_rfl) (by rw [List.length_set])
            replace ha := ha.turn 21 (v := .slice A1504 (x1503.set (x1507 : Int).toNat (IntKind.wrap .u8 (Int.tmod x1502 256))).length c1505) (by kernel_rfl) (by rw [List.length_set])
            replace HW : Wd w W1524 [] [⟨5, 1, .slice A1504 (x1503.set (x1507 : Int).toNat (IntKind.wrap .u8 (Int.tmod x1502 256))).length c1505, (x1503.set (x1507 : Int).toNat (IntKind.wrap .u8 (Int.tmod x1502 256))).length, encs (encI .u8) (x1503.set (x1507 : Int).toNat (IntKind.wrap .u8 (Int.tmod x1502 256)))⟩] := HW
            refine endl ?_
            refine thenN (hK1519 _ _ ?_); clear hK1519
            refine wp_region_lit ?_
            refine stepp ha 27 (.int .u64 x1502) (by kernel_rfl) (by kernel_rfl) ?_; clear ha a; intro a ha
            refine stepp ha 28 (.int .u64 (IntKind.wrap .u64 (Int.tdiv x1502 256))) (by kernel_rfl) (by kernel_rfl) ?_; clear ha a; intro a ha
            refine stepp ha 0 (.int .u64 (IntKind.wrap .u64 (Int.tdiv x1502 256))) (by kernel_rfl) (by kernel_rfl) ?_; clear ha a; intro a ha
            refine endl ?_
            refine blkN ?_
            refine thenN (hK1517 _ _ ?_); clear hK1517
            refine wp_region_lit ?_
            refine stepp ha 19 (.int .i64 x1507) (by kernel_rfl) (by kernel_rfl) ?_; clear ha a; intro a ha
            refine stepp ha 20 (.int .i64 (IntKind.wrap .i64 (x1507 - 1))) (by kernel_rfl) (by kernel_rfl) ?_; clear ha a; intro a ha
            refine stepp ha 6 (.int .i64 (IntKind.wrap .i64 (x1507 - 1))) (by kernel_rfl) (by kernel_rfl) ?_; clear ha a; intro a ha
            refine endl ?_
            exact thenN ⟨k1509, Nat.lt_succ_self k1509, IntKind.wrap .u64 (Int.tdiv x1502 256), x1503.set (x1507 : Int).toNat (IntKind.wrap .u8 (Int.tmod x1502 256)), A1504, c1505, IntKind.wrap .i64 (x1507 - 1), (by rw [← hag1510]; exact h), ha.sub (subs_cons (by kernel_rfl) (subs_cons (by kernel_rfl) (subs_cons (by kernel_rfl) (subs_nil _)))), HW.pick [] [0] (by decide) (by decide) (by kernel_rfl) (by kernel_rfl)⟩
          · skip
            replace h := ite_neg' h hp1515
            refine condF ha (by kernel_rfl) (by kernel_rfl) (t := decide (x1507 ≥ 0)) (decide_eq_false hp1515) ?_
            refine wp_exit ?_
            refine thenE ?_
            refine thenE ?_
            refine inBlk ?_
            refine thenN (hK1462 _ _ ?_); clear hK1462
            refine wp_seq_k (fun K1525 hK1526 => ?_)
            refine wp_region_lit ?_
            refine stepp ha 29 (.slice A1504 x1503.length c1505) (by kernel_rfl) (by kernel_rfl) ?_; clear ha a; intro a ha
            refine stepbt ha 30 55 9 5 (.tmp 29) (v := .slice A1504 x1503.length c1505) (xs := x1503) (HW.rdo (i := 0) (q := ⟨5, 1, .slice A1504 x1503.length c1505, x1503.length, encs (encI .u8) x1503⟩) (by kernel_rfl)) rfl (by kernel_rfl) (by kernel_rfl) (by kernel_rfl) (by kernel_rfl) (by kernel_rfl) ?_; clear ha a; intro a ha
            refine stepp ha 4 (.string (strOfNums x1503)) (by kernel_rfl) (by kernel_rfl) ?_; clear ha a; intro a ha
            refine endl ?_
            refine thenN (hK1526 _ _ ?_); clear hK1526
            refine wp_ret ?_
            obtain rfl := Option.some.inj h
            exact finv ha _ _ rfl (.tmp (v := .string (strOfNums x1503)) (by kernel_rfl) .nil) (.string (strOfNums x1503)) rfl ⟨rfl, HW.pick [] [] (by decide) (by decide) rfl (by kernel_rfl)⟩
end Go.Proofs.Ytceagilmillgfaa.F
