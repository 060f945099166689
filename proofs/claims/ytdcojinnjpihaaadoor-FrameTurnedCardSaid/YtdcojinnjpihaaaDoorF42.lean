/- headgate/headgateref01.there, headgate/headgateref01.Big, headgate/headgateref05.Get, headgate/headgatelaw05.FrameGets: plain functions, and that the calls come to what they say. No condition. -/
import Derived.Test.YtdcojinnjpihaaaDoorFT
import Derived.Test.YtdcojinnjpihaaaDoorF9
import Derived.Test.YtdcojinnjpihaaaDoorF36
import Derived.Test.YtdcojinnjpihaaaDoorF45
namespace Go.Proofs.YtdcojinnjpihaaaDoor.F
open Go Go.RowKit Go.Proofs.YtdcojinnjpihaaaDoor.X
set_option linter.unusedVariables false
set_option linter.unusedSimpArgs false
/-! ### headgate/headgateref01.there: function 42 -/
def headgateref01_there.f (a0 : ByteArray) (a1 : Int) (a2 : Int) : Option Bool :=
  if a1 ≥ 0 then (if a2 ≥ 0 then (if a1 ≤ (a0.size : Int) then (some (decide (a2 ≤ (IntKind.wrap .i64 ((a0.size : Int) - a1))))) else (some false)) else (some false)) else (some false)
set_option maxRecDepth 100000 in
set_option maxHeartbeats 4000000 in
theorem headgateref01_there.calls (a0 : ByteArray) (a1 : Int) (a2 : Int)  (r : Bool) (w : World)  (h : headgateref01_there.f a0 a1 a2 = some r) :
    Calls Tryd.prog 42 #[.string a0, .int .i64 a1, .int .i64 a2] w (fun e W' => e = .returned (.bool r) ∧ Wd w W' [] [] ) := by
  refine sxstart (n := 27) (l := [(0, .string a0), (1, .int .i64 a1), (2, .int .i64 a2)]) Tryd.func42 rfl rfl (Nat.le_of_ble_eq_true KR) (subsA_cons rfl (subsA_cons rfl (subsA_cons rfl (subsA_nil _)))) ?_
  intro a ha
  have HW := Wd.refl w
  unfold headgateref01_there.f at h
  refine wp_seq_k (fun K1520 hK1521 => ?_)
  refine wp_region_lit ?_
  refine stepp ha 6 (.bool false) KR KR ?_; clear ha a; intro a ha
  refine endl ?_
  refine thenN (hK1521 _ _ ?_); clear hK1521
  refine wp_seq_k (fun K1522 hK1523 => ?_)
  refine wp_region_lit ?_
  refine stepp ha 7 (.int .i64 a1) KR KR ?_; clear ha a; intro a ha
  refine stepp ha 8 (.bool (decide (a1 ≥ 0))) KR KR ?_; clear ha a; intro a ha
  refine stepp ha 9 (.bool (decide (a1 ≥ 0))) KR KR ?_; clear ha a; intro a ha
  by_cases hp1524 : a1 ≥ 0
  · skip
    replace h := ite_pos' h hp1524
    replace ha := ha.bool 9 KR (decide_eq_true hp1524)
    refine stepp ha 10 (.int .i64 a2) KR KR ?_; clear ha a; intro a ha
    refine stepp ha 11 (.bool (decide (a2 ≥ 0))) KR KR ?_; clear ha a; intro a ha
    refine stepp ha 12 (.bool (decide (a2 ≥ 0))) KR KR ?_; clear ha a; intro a ha
    refine stepp ha 13 (.bool (decide (a2 ≥ 0))) KR KR ?_; clear ha a; intro a ha
    by_cases hp1525 : a2 ≥ 0
    · skip
      replace h := ite_pos' h hp1525
      replace ha := ha.bool 13 KR (decide_eq_true hp1525)
      refine stepp ha 14 (.int .i64 a1) KR KR ?_; clear ha a; intro a ha
      refine stepp ha 15 (.string a0) KR KR ?_; clear ha a; intro a ha
      refine stepp ha 16 (.int .i64 (a0.size : Int)) KR KR ?_; clear ha a; intro a ha
      refine stepp ha 17 (.bool (decide (a1 ≤ (a0.size : Int)))) KR KR ?_; clear ha a; intro a ha
      refine stepp ha 18 (.bool (decide (a1 ≤ (a0.size : Int)))) KR KR ?_; clear ha a; intro a ha
      refine stepp ha 19 (.bool (decide (a1 ≤ (a0.size : Int)))) KR KR ?_; clear ha a; intro a ha
      by_cases hp1526 : a1 ≤ (a0.size : Int)
      · skip
        replace h := ite_pos' h hp1526
        replace ha := ha.bool 19 KR (decide_eq_true hp1526)
        refine stepp ha 20 (.int .i64 a2) KR KR ?_; clear ha a; intro a ha
        refine stepp ha 21 (.string a0) KR KR ?_; clear ha a; intro a ha
        refine stepp ha 22 (.int .i64 (a0.size : Int)) KR KR ?_; clear ha a; intro a ha
        refine stepp ha 23 (.int .i64 a1) KR KR ?_; clear ha a; intro a ha
        refine stepp ha 24 (.int .i64 (IntKind.wrap .i64 ((a0.size : Int) - a1))) KR KR ?_; clear ha a; intro a ha
        refine stepp ha 25 (.bool (decide (a2 ≤ (IntKind.wrap .i64 ((a0.size : Int) - a1))))) KR KR ?_; clear ha a; intro a ha
        refine stepp ha 26 (.bool (decide (a2 ≤ (IntKind.wrap .i64 ((a0.size : Int) - a1))))) KR KR ?_; clear ha a; intro a ha
        refine stepp ha 6 (.bool (decide (a2 ≤ (IntKind.wrap .i64 ((a0.size : Int) - a1))))) KR KR ?_; clear ha a; intro a ha
        refine endl ?_
        refine thenN (hK1523 _ _ ?_); clear hK1523
        refine wp_ret ?_
        obtain rfl := Option.some.inj h
        exact finv ha _ _ rfl (.tmp (v := .bool (decide (a2 ≤ (IntKind.wrap .i64 ((a0.size : Int) - a1))))) KR .nil) (.bool (decide (a2 ≤ (IntKind.wrap .i64 ((a0.size : Int) - a1))))) rfl ⟨rfl, HW.pick [] [] (by decide) (by decide) rfl KR⟩
      · skip
        replace h := ite_neg' h hp1526
        replace ha := ha.bool 19 KR (decide_eq_false hp1526)
        refine stepo ha 20 KR ?_; clear ha a; intro a ha
        refine stepo ha 21 KR ?_; clear ha a; intro a ha
        refine stepo ha 22 KR ?_; clear ha a; intro a ha
        refine stepo ha 23 KR ?_; clear ha a; intro a ha
        refine stepo ha 24 KR ?_; clear ha a; intro a ha
        refine stepo ha 25 KR ?_; clear ha a; intro a ha
        refine stepp ha 26 (.bool false) KR KR ?_; clear ha a; intro a ha
        refine stepp ha 6 (.bool false) KR KR ?_; clear ha a; intro a ha
        refine endl ?_
        refine thenN (hK1523 _ _ ?_); clear hK1523
        refine wp_ret ?_
        obtain rfl := Option.some.inj h
        exact finv ha _ _ rfl (.tmp (v := .bool false) KR .nil) (.bool false) rfl ⟨rfl, HW.pick [] [] (by decide) (by decide) rfl KR⟩
    · skip
      replace h := ite_neg' h hp1525
      replace ha := ha.bool 13 KR (decide_eq_false hp1525)
      refine stepo ha 14 KR ?_; clear ha a; intro a ha
      refine stepo ha 15 KR ?_; clear ha a; intro a ha
      refine stepo ha 16 KR ?_; clear ha a; intro a ha
      refine stepo ha 17 KR ?_; clear ha a; intro a ha
      refine stepp ha 18 (.bool false) KR KR ?_; clear ha a; intro a ha
      refine stepp ha 19 (.bool false) KR KR ?_; clear ha a; intro a ha
      refine stepo ha 20 KR ?_; clear ha a; intro a ha
      refine stepo ha 21 KR ?_; clear ha a; intro a ha
      refine stepo ha 22 KR ?_; clear ha a; intro a ha
      refine stepo ha 23 KR ?_; clear ha a; intro a ha
      refine stepo ha 24 KR ?_; clear ha a; intro a ha
      refine stepo ha 25 KR ?_; clear ha a; intro a ha
      refine stepp ha 26 (.bool false) KR KR ?_; clear ha a; intro a ha
      refine stepp ha 6 (.bool false) KR KR ?_; clear ha a; intro a ha
      refine endl ?_
      refine thenN (hK1523 _ _ ?_); clear hK1523
      refine wp_ret ?_
      obtain rfl := Option.some.inj h
      exact finv ha _ _ rfl (.tmp (v := .bool false) KR .nil) (.bool false) rfl ⟨rfl, HW.pick [] [] (by decide) (by decide) rfl KR⟩
  · skip
    replace h := ite_neg' h hp1524
    replace ha := ha.bool 9 KR (decide_eq_false hp1524)
    refine stepo ha 10 KR ?_; clear ha a; intro a ha
    refine stepo ha 11 KR ?_; clear ha a; intro a ha
    refine stepp ha 12 (.bool false) KR KR ?_; clear ha a; intro a ha
    refine stepp ha 13 (.bool false) KR KR ?_; clear ha a; intro a ha
    refine stepo ha 14 KR ?_; clear ha a; intro a ha
    refine stepo ha 15 KR ?_; clear ha a; intro a ha
    refine stepo ha 16 KR ?_; clear ha a; intro a ha
    refine stepo ha 17 KR ?_; clear ha a; intro a ha
    refine stepp ha 18 (.bool false) KR KR ?_; clear ha a; intro a ha
    refine stepp ha 19 (.bool false) KR KR ?_; clear ha a; intro a ha
    refine stepo ha 20 KR ?_; clear ha a; intro a ha
    refine stepo ha 21 KR ?_; clear ha a; intro a ha
    refine stepo ha 22 KR ?_; clear ha a; intro a ha
    refine stepo ha 23 KR ?_; clear ha a; intro a ha
    refine stepo ha 24 KR ?_; clear ha a; intro a ha
    refine stepo ha 25 KR ?_; clear ha a; intro a ha
    refine stepp ha 26 (.bool false) KR KR ?_; clear ha a; intro a ha
    refine stepp ha 6 (.bool false) KR KR ?_; clear ha a; intro a ha
    refine endl ?_
    refine thenN (hK1523 _ _ ?_); clear hK1523
    refine wp_ret ?_
    obtain rfl := Option.some.inj h
    exact finv ha _ _ rfl (.tmp (v := .bool false) KR .nil) (.bool false) rfl ⟨rfl, HW.pick [] [] (by decide) (by decide) rfl KR⟩
/-! ### headgate/headgateref01.Big: function 29 -/
def headgateref01_Big.b0 (K : Nat) (a0 : ByteArray) (a1 : Int) (a2 : Int) (again1574 : Int → Int → Option (Int × Bool)) (x1575 : Int) (x1576 : Int) : Option (Int × Bool) :=
  if x1576 < a2 then (asrt (0 ≤ (IntKind.wrap .i64 (a1 + x1576))) (asrt ((IntKind.wrap .i64 (a1 + x1576)) < (a0.size : Int)) (again1574 (IntKind.wrap .u64 ((IntKind.wrap .u64 (x1575 * 256)) + (IntKind.wrap .u64 (bt a0 (IntKind.wrap .i64 (a1 + x1576)))))) (IntKind.wrap .i64 (x1576 + 1))))) else (some (x1575, true))
def headgateref01_Big.l0 (K : Nat) (a0 : ByteArray) (a1 : Int) (a2 : Int) : Nat → Int → Int → Option (Int × Bool)
  | 0, _, _ => none
  | k_ + 1, x1575, x1576 => headgateref01_Big.b0 K a0 a1 a2 (headgateref01_Big.l0 K a0 a1 a2 k_) x1575 x1576
def headgateref01_Big.f (K : Nat) (a0 : ByteArray) (a1 : Int) (a2 : Int) : Option (Int × Bool) :=
  if a2 < 1 then (some (0, false)) else (if a2 > 8 then (some (0, false)) else ((headgateref01_there.f a0 a1 a2).bind fun t1535 => (if t1535 = true then (headgateref01_Big.l0 K a0 a1 a2 K 0 0) else (some (0, false)))))
set_option maxRecDepth 100000 in
set_option maxHeartbeats 4000000 in
theorem headgateref01_Big.calls (K : Nat) (a0 : ByteArray) (a1 : Int) (a2 : Int)  (r : Int × Bool) (w : World)  (h : headgateref01_Big.f K a0 a1 a2 = some r) :
    Calls Tryd.prog 29 #[.string a0, .int .i64 a1, .int .i64 a2] w (fun e W' => e = .returned (.tuple #[.int .u64 r.1, .bool r.2]) ∧ Wd w W' [] [] ) := by
  refine sxstart (n := 38) (l := [(0, .string a0), (1, .int .i64 a1), (2, .int .i64 a2)]) Tryd.func29 rfl rfl (Nat.le_of_ble_eq_true KR) (subsA_cons rfl (subsA_cons rfl (subsA_cons rfl (subsA_nil _)))) ?_
  intro a ha
  have HW := Wd.refl w
  unfold headgateref01_Big.f at h
  refine wp_seq_k (fun K1527 hK1528 => ?_)
  refine wp_region_lit ?_
  refine stepp ha 6 (.int .u64 0) KR KR ?_; clear ha a; intro a ha
  refine stepp ha 7 (.bool false) KR KR ?_; clear ha a; intro a ha
  refine endl ?_
  refine thenN (hK1528 _ _ ?_); clear hK1528
  refine wp_seq_k (fun K1529 hK1530 => ?_)
  refine wp_seq_k (fun K1531 hK1532 => ?_)
  refine wp_region_lit ?_
  refine stepp ha 10 (.int .i64 a2) KR KR ?_; clear ha a; intro a ha
  refine stepp ha 11 (.bool (decide (a2 < 1))) KR KR ?_; clear ha a; intro a ha
  refine stepp ha 12 (.bool (decide (a2 < 1))) KR KR ?_; clear ha a; intro a ha
  by_cases hp1533 : a2 < 1
  · skip
    replace h := ite_pos' h hp1533
    replace ha := ha.bool 12 KR (decide_eq_true hp1533)
    refine stepo ha 13 KR ?_; clear ha a; intro a ha
    refine stepo ha 14 KR ?_; clear ha a; intro a ha
    refine stepp ha 15 (.bool true) KR KR ?_; clear ha a; intro a ha
    refine stepp ha 16 (.bool true) KR KR ?_; clear ha a; intro a ha
    refine stepo ha 17 KR ?_; clear ha a; intro a ha
    refine stepo ha 18 KR ?_; clear ha a; intro a ha
    refine stepo ha 19 KR ?_; clear ha a; intro a ha
    refine stepo ha 20 KR ?_; clear ha a; intro a ha
    refine stepo ha 21 KR ?_; clear ha a; intro a ha
    refine stepp ha 22 (.bool true) KR KR ?_; clear ha a; intro a ha
    refine endl ?_
    refine thenN (hK1532 _ _ ?_); clear hK1532
    refine condT ha KR KR (t := true) (rfl) ?_
    refine wp_seq_k (fun K1539 hK1540 => ?_)
    refine wp_region_lit ?_
    refine stepp ha 6 (.int .u64 0) KR KR ?_; clear ha a; intro a ha
    refine stepp ha 7 (.bool false) KR KR ?_; clear ha a; intro a ha
    refine endl ?_
    refine thenN (hK1540 _ _ ?_); clear hK1540
    refine wp_ret ?_
    refine thenR ?_
    obtain rfl := Option.some.inj h
    exact finv ha _ _ rfl (.tmp (v := .int .u64 0) KR (.tmp (v := .bool false) KR .nil)) (.tuple #[.int .u64 0, .bool false]) rfl ⟨rfl, HW.pick [] [] (by decide) (by decide) rfl KR⟩
  · skip
    replace h := ite_neg' h hp1533
    replace ha := ha.bool 12 KR (decide_eq_false hp1533)
    refine stepp ha 13 (.int .i64 a2) KR KR ?_; clear ha a; intro a ha
    refine stepp ha 14 (.bool (decide (a2 > 8))) KR KR ?_; clear ha a; intro a ha
    refine stepp ha 15 (.bool (decide (a2 > 8))) KR KR ?_; clear ha a; intro a ha
    refine stepp ha 16 (.bool (decide (a2 > 8))) KR KR ?_; clear ha a; intro a ha
    by_cases hp1534 : a2 > 8
    · skip
      replace h := ite_pos' h hp1534
      replace ha := ha.bool 16 KR (decide_eq_true hp1534)
      refine stepo ha 17 KR ?_; clear ha a; intro a ha
      refine stepo ha 18 KR ?_; clear ha a; intro a ha
      refine stepo ha 19 KR ?_; clear ha a; intro a ha
      refine stepo ha 20 KR ?_; clear ha a; intro a ha
      refine stepo ha 21 KR ?_; clear ha a; intro a ha
      refine stepp ha 22 (.bool true) KR KR ?_; clear ha a; intro a ha
      refine endl ?_
      refine thenN (hK1532 _ _ ?_); clear hK1532
      refine condT ha KR KR (t := true) (rfl) ?_
      refine wp_seq_k (fun K1541 hK1542 => ?_)
      refine wp_region_lit ?_
      refine stepp ha 6 (.int .u64 0) KR KR ?_; clear ha a; intro a ha
      refine stepp ha 7 (.bool false) KR KR ?_; clear ha a; intro a ha
      refine endl ?_
      refine thenN (hK1542 _ _ ?_); clear hK1542
      refine wp_ret ?_
      refine thenR ?_
      obtain rfl := Option.some.inj h
      exact finv ha _ _ rfl (.tmp (v := .int .u64 0) KR (.tmp (v := .bool false) KR .nil)) (.tuple #[.int .u64 0, .bool false]) rfl ⟨rfl, HW.pick [] [] (by decide) (by decide) rfl KR⟩
    · skip
      replace h := ite_neg' h hp1534
      replace ha := ha.bool 16 KR (decide_eq_false hp1534)
      refine stepp ha 17 (.string a0) KR KR ?_; clear ha a; intro a ha
      refine stepp ha 18 (.int .i64 a1) KR KR ?_; clear ha a; intro a ha
      refine stepp ha 19 (.int .i64 a2) KR KR ?_; clear ha a; intro a ha
      obtain ⟨t1535, ht1536, h_⟩ := bind_some' h; clear h; have h := h_; clear h_
      refine stepc ha 20 KR KR (headgateref01_there.calls a0 a1 a2 t1535 _ ht1536) ?_; clear ha a; rintro e W1537 ⟨rfl, HX1538⟩
      refine ⟨_, rfl, ?_⟩; intro a ha; replace HW := HW.callw HX1538; clear HX1538
      refine stepp ha 21 (.bool (!t1535)) KR KR ?_; clear ha a; intro a ha
      refine stepp ha 22 (.bool (!t1535)) KR KR ?_; clear ha a; intro a ha
      refine endl ?_
      refine thenN (hK1532 _ _ ?_); clear hK1532
      by_cases hp1543 : t1535 = true
      · skip
        replace h := ite_pos' h hp1543
        refine condF ha KR KR (t := (!t1535)) (not_f (hp1543)) ?_
        refine wp_skip ?_
        refine thenN (hK1530 _ _ ?_); clear hK1530
        refine wp_seq_k (fun K1546 hK1547 => ?_)
        refine wp_region_lit ?_
        refine stepp ha 8 (.int .u64 0) KR KR ?_; clear ha a; intro a ha
        refine endl ?_
        refine thenN (hK1547 _ _ ?_); clear hK1547
        refine wp_seq_k (fun K1548 hK1549 => ?_)
        refine wp_seq_k (fun K1550 hK1551 => ?_)
        refine wp_region_lit ?_
        refine stepp ha 9 (.int .i64 0) KR KR ?_; clear ha a; intro a ha
        refine endl ?_
        refine thenN (hK1551 _ _ ?_); clear hK1551
        refine wp_block ?_
        refine loopk (fun k => fun a W1577 => ∃ (x1575 : Int), ∃ (x1576 : Int), headgateref01_Big.l0 K a0 a1 a2 k x1575 x1576 = some r ∧ Has 38 [(0, .string a0), (1, .int .i64 a1), (2, .int .i64 a2), (8, .int .u64 x1575), (9, .int .i64 x1576)] a ∧ Wd w W1577 [] []) K ?_ ?_
        · skip
          exact ⟨0, 0, h, ha.sub (subs_cons KR (subs_cons KR (subs_cons KR (subs_cons KR (subs_cons KR (subs_nil _)))))), HW.pick [] [] (by decide) (by decide) KR KR⟩
        · skip
          intro k a W1577 hI
          obtain ⟨x1575, x1576, h, ha, HW⟩ := hI
          cases k with
          | zero => exact (none_some (show none = some r from h)).elim
          | succ k1578 =>
            replace h : headgateref01_Big.b0 K a0 a1 a2 (headgateref01_Big.l0 K a0 a1 a2 k1578) x1575 x1576 = some r := h
            obtain ⟨again1574, hag1579⟩ : ∃ g_, g_ = headgateref01_Big.l0 K a0 a1 a2 k1578 := ⟨_, rfl⟩
            rw [← hag1579] at h
            unfold headgateref01_Big.b0 at h
            refine wp_seq_k (fun K1580 hK1581 => ?_)
            refine wp_seq_k (fun K1582 hK1583 => ?_)
            refine wp_region_lit ?_
            refine stepp ha 23 (.int .i64 x1576) KR KR ?_; clear ha a; intro a ha
            refine stepp ha 24 (.int .i64 a2) KR KR ?_; clear ha a; intro a ha
            refine stepp ha 25 (.bool (decide (x1576 < a2))) KR KR ?_; clear ha a; intro a ha
            refine endl ?_
            refine thenN (hK1583 _ _ ?_); clear hK1583
            by_cases hp1584 : x1576 < a2
            · skip
              replace h := ite_pos' h hp1584
              refine condT ha KR KR (t := decide (x1576 < a2)) (decide_eq_true hp1584) ?_
              refine wp_skip ?_
              refine thenN (hK1581 _ _ ?_); clear hK1581
              refine wp_seq_k (fun K1585 hK1586 => ?_)
              refine wp_block ?_
              refine wp_region_lit ?_
              refine stepp ha 28 (.int .u64 x1575) KR KR ?_; clear ha a; intro a ha
              refine stepp ha 29 (.int .u64 (IntKind.wrap .u64 (x1575 * 256))) KR KR ?_; clear ha a; intro a ha
              refine stepp ha 30 (.string a0) KR KR ?_; clear ha a; intro a ha
              refine stepp ha 31 (.int .i64 a1) KR KR ?_; clear ha a; intro a ha
              refine stepp ha 32 (.int .i64 x1576) KR KR ?_; clear ha a; intro a ha
              refine stepp ha 33 (.int .i64 (IntKind.wrap .i64 (a1 + x1576))) KR KR ?_; clear ha a; intro a ha
              obtain ⟨hA1587, h_⟩ := asrt_some h; clear h; have h := h_; clear h_
              obtain ⟨hA1588, h_⟩ := asrt_some h; clear h; have h := h_; clear h_
              refine stepsi ha 34 9 (.tmp 30) (.tmp 33) a0 .i64 (IntKind.wrap .i64 (a1 + x1576)) rfl KR KR KR hA1587 (show (IntKind.wrap .i64 (a1 + x1576) : Int) < ((a0).size : Int) from hA1588) KR ?_; clear ha a; intro a ha
              refine stepp ha 35 (.int .u64 (IntKind.wrap .u64 (bt a0 (IntKind.wrap .i64 (a1 + x1576))))) KR KR ?_; clear ha a; intro a ha
              refine stepp ha 36 (.int .u64 (IntKind.wrap .u64 ((IntKind.wrap .u64 (x1575 * 256)) + (IntKind.wrap .u64 (bt a0 (IntKind.wrap .i64 (a1 + x1576))))))) KR KR ?_; clear ha a; intro a ha
              refine stepp ha 8 (.int .u64 (IntKind.wrap .u64 ((IntKind.wrap .u64 (x1575 * 256)) + (IntKind.wrap .u64 (bt a0 (IntKind.wrap .i64 (a1 + x1576))))))) KR KR ?_; clear ha a; intro a ha
              refine endl ?_
              refine blkN ?_
              refine thenN (hK1586 _ _ ?_); clear hK1586
              refine wp_region_lit ?_
              refine stepp ha 26 (.int .i64 x1576) KR KR ?_; clear ha a; intro a ha
              refine stepp ha 27 (.int .i64 (IntKind.wrap .i64 (x1576 + 1))) KR KR ?_; clear ha a; intro a ha
              refine stepp ha 9 (.int .i64 (IntKind.wrap .i64 (x1576 + 1))) KR KR ?_; clear ha a; intro a ha
              refine endl ?_
              exact thenN ⟨k1578, Nat.lt_succ_self k1578, IntKind.wrap .u64 ((IntKind.wrap .u64 (x1575 * 256)) + (IntKind.wrap .u64 (bt a0 (IntKind.wrap .i64 (a1 + x1576))))), IntKind.wrap .i64 (x1576 + 1), (by rw [← hag1579]; exact h), ha.sub (subs_cons KR (subs_cons KR (subs_cons KR (subs_cons KR (subs_cons KR (subs_nil _)))))), HW.pick [] [] (by decide) (by decide) KR KR⟩
            · skip
              replace h := ite_neg' h hp1584
              refine condF ha KR KR (t := decide (x1576 < a2)) (decide_eq_false hp1584) ?_
              refine wp_exit ?_
              refine thenE ?_
              refine thenE ?_
              refine inBlk ?_
              refine thenN (hK1549 _ _ ?_); clear hK1549
              refine wp_seq_k (fun K1589 hK1590 => ?_)
              refine wp_region_lit ?_
              refine stepp ha 37 (.int .u64 x1575) KR KR ?_; clear ha a; intro a ha
              refine stepp ha 6 (.int .u64 x1575) KR KR ?_; clear ha a; intro a ha
              refine stepp ha 7 (.bool true) KR KR ?_; clear ha a; intro a ha
              refine endl ?_
              refine thenN (hK1590 _ _ ?_); clear hK1590
              refine wp_ret ?_
              obtain rfl := Option.some.inj h
              exact finv ha _ _ rfl (.tmp (v := .int .u64 x1575) KR (.tmp (v := .bool true) KR .nil)) (.tuple #[.int .u64 x1575, .bool true]) rfl ⟨rfl, HW.pick [] [] (by decide) (by decide) rfl KR⟩
      · skip
        replace h := ite_neg' h hp1543
        refine condT ha KR KR (t := (!t1535)) (not_t (bool_f hp1543)) ?_
        refine wp_seq_k (fun K1544 hK1545 => ?_)
        refine wp_region_lit ?_
        refine stepp ha 6 (.int .u64 0) KR KR ?_; clear ha a; intro a ha
        refine stepp ha 7 (.bool false) KR KR ?_; clear ha a; intro a ha
        refine endl ?_
        refine thenN (hK1545 _ _ ?_); clear hK1545
        refine wp_ret ?_
        refine thenR ?_
        obtain rfl := Option.some.inj h
        exact finv ha _ _ rfl (.tmp (v := .int .u64 0) KR (.tmp (v := .bool false) KR .nil)) (.tuple #[.int .u64 0, .bool false]) rfl ⟨rfl, HW.pick [] [] (by decide) (by decide) rfl KR⟩
/-! ### headgate/headgateref05.Get: function 15 -/
def headgateref05_Get.b0 (K : Nat) (a0 : ByteArray) (t1625 : Int × Bool) (t1631 : Int × Bool) (t1673 : Int) (again1714 : Int → Option (T_headgateref05_Frame × Int)) (x1715 : Int) : Option (T_headgateref05_Frame × Int) :=
  if x1715 < (IntKind.wrap .i64 (512 * t1673)) then (asrt (0 ≤ x1715) (asrt (x1715 < (a0.size : Int)) (if (bt a0 x1715) = 0 then (again1714 (IntKind.wrap .i64 (x1715 + 1))) else (some ((⟨0, (⟨#[]⟩ : ByteArray), 0⟩ : T_headgateref05_Frame), 50))))) else (some ((⟨t1625.1, a0.extract (20 : Int).toNat (IntKind.wrap .i64 (20 + (IntKind.wrap .i64 t1631.1)) : Int).toNat, IntKind.wrap .i64 (512 * t1673)⟩ : T_headgateref05_Frame), 0))
def headgateref05_Get.l0 (K : Nat) (a0 : ByteArray) (t1625 : Int × Bool) (t1631 : Int × Bool) (t1673 : Int) : Nat → Int → Option (T_headgateref05_Frame × Int)
  | 0, _ => none
  | k_ + 1, x1715 => headgateref05_Get.b0 K a0 t1625 t1631 t1673 (headgateref05_Get.l0 K a0 t1625 t1631 t1673 k_) x1715
def headgateref05_Get.f (K : Nat) (a0 : ByteArray) : Option (T_headgateref05_Frame × Int) :=
  if (a0.size : Int) < 20 then (some ((⟨0, (⟨#[]⟩ : ByteArray), 0⟩ : T_headgateref05_Frame), 50)) else (asrt (4 ≤ (a0.size : Int)) (if (a0.extract 0 (4 : Int).toNat) = (⟨#[72, 71, 70, 82]⟩ : ByteArray) then (asrt (20 ≤ (a0.size : Int)) (asrt (16 ≤ (a0.size : Int)) ((headgateref02_Digest.f K (a0.extract 0 (16 : Int).toNat)).bind fun t1614 => (if (a0.extract (16 : Int).toNat (20 : Int).toNat) = t1614 then ((headgateref01_Big.f K a0 4 8).bind fun t1625 => ((headgateref01_Big.f K a0 12 4).bind fun t1631 => (if t1631.1 > 65536 then (some ((⟨0, (⟨#[]⟩ : ByteArray), 0⟩ : T_headgateref05_Frame), 50)) else ((headgateref05_Sectors.f (IntKind.wrap .i64 t1631.1)).bind fun t1640 => (if (a0.size : Int) < (IntKind.wrap .i64 (512 * t1640)) then (some ((⟨0, (⟨#[]⟩ : ByteArray), 0⟩ : T_headgateref05_Frame), 50)) else (asrt (0 ≤ (IntKind.wrap .i64 (20 + (IntKind.wrap .i64 t1631.1)))) (asrt ((IntKind.wrap .i64 (20 + (IntKind.wrap .i64 t1631.1))) ≤ (IntKind.wrap .i64 ((IntKind.wrap .i64 (20 + (IntKind.wrap .i64 t1631.1))) + 4))) (asrt ((IntKind.wrap .i64 ((IntKind.wrap .i64 (20 + (IntKind.wrap .i64 t1631.1))) + 4)) ≤ (a0.size : Int)) (asrt (20 ≤ (IntKind.wrap .i64 (20 + (IntKind.wrap .i64 t1631.1)))) (asrt ((IntKind.wrap .i64 (20 + (IntKind.wrap .i64 t1631.1))) ≤ (a0.size : Int)) ((headgateref02_Digest.f K (a0.extract (20 : Int).toNat (IntKind.wrap .i64 (20 + (IntKind.wrap .i64 t1631.1)) : Int).toNat)).bind fun t1662 => (if (a0.extract (IntKind.wrap .i64 (20 + (IntKind.wrap .i64 t1631.1)) : Int).toNat (IntKind.wrap .i64 ((IntKind.wrap .i64 (20 + (IntKind.wrap .i64 t1631.1))) + 4) : Int).toNat) = t1662 then ((headgateref05_Sectors.f (IntKind.wrap .i64 t1631.1)).bind fun t1673 => (headgateref05_Get.l0 K a0 t1625 t1631 t1673 K (IntKind.wrap .i64 ((IntKind.wrap .i64 (20 + (IntKind.wrap .i64 t1631.1))) + 4)))) else (some ((⟨0, (⟨#[]⟩ : ByteArray), 0⟩ : T_headgateref05_Frame), 51)))))))))))))) else (some ((⟨0, (⟨#[]⟩ : ByteArray), 0⟩ : T_headgateref05_Frame), 51)))))) else (some ((⟨0, (⟨#[]⟩ : ByteArray), 0⟩ : T_headgateref05_Frame), 50))))
set_option maxRecDepth 100000 in
set_option maxHeartbeats 4000000 in
theorem headgateref05_Get.calls (K : Nat) (a0 : ByteArray)  (r : T_headgateref05_Frame × Int) (w : World)  (h : headgateref05_Get.f K a0 = some r) :
    Calls Tryd.prog 15 #[.string a0] w (fun e W' => e = .returned (.tuple #[.agg #[.int .u64 r.1.f0, .string r.1.f1, .int .i64 r.1.f2], .int .i64 r.2]) ∧ Wd w W' [] [] ) := by
  refine sxstart (n := 85) (l := [(0, .string a0)]) Tryd.func15 rfl rfl (Nat.le_of_ble_eq_true KR) (subsA_cons rfl (subsA_nil _)) ?_
  intro a ha
  have HW := Wd.refl w
  unfold headgateref05_Get.f at h
  refine wp_seq_k (fun K1591 hK1592 => ?_)
  refine wp_region_lit ?_
  refine stepnew ha HW 2 #[.int .u64 0, .string (⟨#[]⟩ : ByteArray), .int .i64 0] 34 KR KR ?_; clear ha HW a; intro b1593 a W1594 HW ha
  refine stepp ha 3 (.int .i64 0) KR KR ?_; clear ha a; intro a ha
  refine endl ?_
  refine thenN (hK1592 _ _ ?_); clear hK1592
  refine wp_seq_k (fun K1595 hK1596 => ?_)
  refine wp_seq_k (fun K1597 hK1598 => ?_)
  refine wp_region_lit ?_
  refine stepp ha 11 (.string a0) KR KR ?_; clear ha a; intro a ha
  refine stepp ha 12 (.int .i64 (a0.size : Int)) KR KR ?_; clear ha a; intro a ha
  refine stepp ha 13 (.bool (decide ((a0.size : Int) < 20))) KR KR ?_; clear ha a; intro a ha
  refine stepp ha 14 (.bool (decide ((a0.size : Int) < 20))) KR KR ?_; clear ha a; intro a ha
  by_cases hp1599 : (a0.size : Int) < 20
  · skip
    replace h := ite_pos' h hp1599
    replace ha := ha.bool 14 KR (decide_eq_true hp1599)
    refine stepo ha 15 KR ?_; clear ha a; intro a ha
    refine stepo ha 16 KR ?_; clear ha a; intro a ha
    refine stepo ha 17 KR ?_; clear ha a; intro a ha
    refine stepp ha 18 (.bool true) KR KR ?_; clear ha a; intro a ha
    refine endl ?_
    refine thenN (hK1598 _ _ ?_); clear hK1598
    refine condT ha KR KR (t := true) (rfl) ?_
    refine wp_seq_k (fun K1601 hK1602 => ?_)
    refine wp_region_lit ?_
    refine stepp ha 19 (.agg #[.int .u64 0, .string (⟨#[]⟩ : ByteArray), .int .i64 0]) KR KR ?_; clear ha a; intro a ha
    refine stepst ha HW 0 (b := b1593) (C := #[.int .u64 0, .string (⟨#[]⟩ : ByteArray), .int .i64 0]) (T := 34) KR 34 0 (.tmp 2) (.tmp 19) (.agg #[.int .u64 0, .string (⟨#[]⟩ : ByteArray), .int .i64 0]) #[.int .u64 0, .string (⟨#[]⟩ : ByteArray), .int .i64 0] rfl KR KR KR KR KR KR KR ?_; clear ha HW a; intro a W1603 HW ha
    refine stepp ha 3 (.int .i64 50) KR KR ?_; clear ha a; intro a ha
    refine endl ?_
    refine thenN (hK1602 _ _ ?_); clear hK1602
    refine wp_ret ?_
    refine thenR ?_
    obtain rfl := Option.some.inj h
    exact finv ha _ _ rfl (.cell (ad := ⟨b1593, 0, none⟩) (v := .agg #[.int .u64 0, .string (⟨#[]⟩ : ByteArray), .int .i64 0]) KR (run_loadVar_ca0 (HW.ca (i := 0) (b := b1593) (C := #[.int .u64 0, .string (⟨#[]⟩ : ByteArray), .int .i64 0]) (T := 34) (fr := (0, 0)) KR) 34 0 (.agg #[.int .u64 0, .string (⟨#[]⟩ : ByteArray), .int .i64 0]) KR) (.tmp (v := .int .i64 50) KR .nil)) (.tuple #[.agg #[.int .u64 0, .string (⟨#[]⟩ : ByteArray), .int .i64 0], .int .i64 50]) rfl ⟨rfl, HW.pick [] [] (by decide) (by decide) rfl KR⟩
  · skip
    replace h := ite_neg' h hp1599
    replace ha := ha.bool 14 KR (decide_eq_false hp1599)
    refine stepp ha 15 (.string a0) KR KR ?_; clear ha a; intro a ha
    obtain ⟨hA1600, h_⟩ := asrt_some h; clear h; have h := h_; clear h_
    refine stepssh ha 16 9 (.tmp 15) (.const (.int .i64 4)) a0 .i64 4 rfl KR KR KR (by decide) (show (4 : Int) ≤ ((a0).size : Int) from hA1600) KR ?_; clear ha a; intro a ha
    refine stepp ha 17 (.bool (!((a0.extract 0 (4 : Int).toNat).toList == (⟨#[72, 71, 70, 82]⟩ : ByteArray).toList))) KR KR ?_; clear ha a; intro a ha
    refine stepp ha 18 (.bool (!((a0.extract 0 (4 : Int).toNat).toList == (⟨#[72, 71, 70, 82]⟩ : ByteArray).toList))) KR KR ?_; clear ha a; intro a ha
    refine endl ?_
    refine thenN (hK1598 _ _ ?_); clear hK1598
    by_cases hp1604 : (a0.extract 0 (4 : Int).toNat) = (⟨#[72, 71, 70, 82]⟩ : ByteArray)
    · skip
      replace h := ite_pos' h hp1604
      refine condF ha KR KR (t := (!((a0.extract 0 (4 : Int).toNat).toList == (⟨#[72, 71, 70, 82]⟩ : ByteArray).toList))) (str_ne_f hp1604) ?_
      refine wp_skip ?_
      refine thenN (hK1596 _ _ ?_); clear hK1596
      refine wp_seq_k (fun K1608 hK1609 => ?_)
      refine wp_seq_k (fun K1610 hK1611 => ?_)
      obtain ⟨hA1612, h_⟩ := asrt_some h; clear h; have h := h_; clear h_
      obtain ⟨hA1613, h_⟩ := asrt_some h; clear h; have h := h_; clear h_
      obtain ⟨t1614, ht1615, h_⟩ := bind_some' h; clear h; have h := h_; clear h_
      refine regionG 6 KR KR ha HW [.fix (.string a0), .fix (.string (a0.extract (16 : Int).toNat (20 : Int).toNat)), .fix (.string a0), .fix (.string (a0.extract 0 (16 : Int).toNat)), .fix (.string t1614), .fix (.bool (!((a0.extract (16 : Int).toNat (20 : Int).toNat).toList == t1614.toList)))] ?_ ?_
      · skip
        refine ⟨?_, ?_, ?_, ?_, ?_, ?_, trivial⟩
        · skip
          intro a wr hn hd HW hs; have ha := hasNil hn hd
          have ha := ha.add (seeE hs 0 (.string a0) KR KR)
          refine yStep ha 20 KR ?_; intro l_ ha HK
          refine stepp ha 20 (.string a0) KR KR ?_; intro ax hax; exact HK _ _ _ hax rfl (Below.refl _ _)
        · skip
          intro a wr hn hd HW hs; have ha := hasNil hn hd
          have ha := ha.add (seeF hs 20 0 (.string a0) KR KR)
          refine yStep ha 21 KR ?_; intro l_ ha HK
          refine stepss ha 21 9 (.tmp 20) (.const (.int .i64 16)) (.const (.int .i64 20)) a0 .i64 .i64 16 20 rfl KR KR KR KR (by decide) (by decide) (show (20 : Int) ≤ ((a0).size : Int) from hA1612) KR ?_; intro ax hax; exact HK _ _ _ hax rfl (Below.refl _ _)
        · skip
          intro a wr hn hd HW hs; have ha := hasNil hn hd
          have ha := ha.add (seeE hs 0 (.string a0) KR KR)
          refine yStep ha 22 KR ?_; intro l_ ha HK
          refine stepp ha 22 (.string a0) KR KR ?_; intro ax hax; exact HK _ _ _ hax rfl (Below.refl _ _)
        · skip
          intro a wr hn hd HW hs; have ha := hasNil hn hd
          have ha := ha.add (seeF hs 22 2 (.string a0) KR KR)
          refine yStep ha 23 KR ?_; intro l_ ha HK
          refine stepssh ha 23 9 (.tmp 22) (.const (.int .i64 16)) a0 .i64 16 rfl KR KR KR (by decide) (show (16 : Int) ≤ ((a0).size : Int) from hA1613) KR ?_; intro ax hax; exact HK _ _ _ hax rfl (Below.refl _ _)
        · skip
          intro a wr hn hd HW hs; have ha := hasNil hn hd
          have ha := ha.add (seeF hs 23 3 (.string (a0.extract 0 (16 : Int).toNat)) KR KR)
          refine yStep ha 24 KR ?_; intro l_ ha HK
          refine stepc ha 24 KR KR (headgateref02_Digest.calls K (a0.extract 0 (16 : Int).toNat) t1614 _ ht1615) ?_; rintro e W1616 ⟨rfl, HX1617⟩
          refine ⟨_, rfl, ?_⟩; intro ax hax; exact HK _ _ _ hax rfl HX1617.below
        · skip
          intro a wr hn hd HW hs; have ha := hasNil hn hd
          have ha := ha.add (seeF hs 21 1 (.string (a0.extract (16 : Int).toNat (20 : Int).toNat)) KR KR)
          have ha := ha.add (seeF hs 24 4 (.string t1614) KR KR)
          refine yStep ha 25 KR ?_; intro l_ ha HK
          refine stepp ha 25 (.bool (!((a0.extract (16 : Int).toNat (20 : Int).toNat).toList == t1614.toList))) KR KR ?_; intro ax hax; exact HK _ _ _ hax rfl (Below.refl _ _)
      · skip
        intro a W1618 ha HW he hf
        replace ha := ha.add (he 0 (.string a0) KR KR)
        replace ha := ha.add (he 2 (.pointer (some ⟨b1593, 0, none⟩)) KR KR)
        replace ha := ha.add (gotF (m := 6) (j := 5) (d := 25) (v := .bool (!((a0.extract (16 : Int).toNat (20 : Int).toNat).toList == t1614.toList))) hf KR KR KR)
        clear he hf
        refine endl ?_
        refine thenN (hK1611 _ _ ?_); clear hK1611
        by_cases hp1619 : (a0.extract (16 : Int).toNat (20 : Int).toNat) = t1614
        · skip
          replace h := ite_pos' h hp1619
          refine condF ha KR KR (t := (!((a0.extract (16 : Int).toNat (20 : Int).toNat).toList == t1614.toList))) (str_ne_f hp1619) ?_
          refine wp_skip ?_
          refine thenN (hK1609 _ _ ?_); clear hK1609
          refine wp_seq_k (fun K1623 hK1624 => ?_)
          refine wp_region_lit ?_
          refine stepp ha 28 (.string a0) KR KR ?_; clear ha a; intro a ha
          obtain ⟨t1625, ht1626, h_⟩ := bind_some' h; clear h; have h := h_; clear h_
          refine stepc ha 29 KR KR (headgateref01_Big.calls K a0 4 8 t1625 _ ht1626) ?_; clear ha a; rintro e W1627 ⟨rfl, HX1628⟩
          refine ⟨_, rfl, ?_⟩; intro a ha; replace HW := HW.callw HX1628; clear HX1628
          refine stepp ha 27 (.tuple #[.int .u64 t1625.1, .bool t1625.2]) KR KR ?_; clear ha a; intro a ha
          refine stepp ha 30 (.int .u64 t1625.1) KR KR ?_; clear ha a; intro a ha
          refine stepp ha 31 (.bool t1625.2) KR KR ?_; clear ha a; intro a ha
          refine stepp ha 4 (.int .u64 t1625.1) KR KR ?_; clear ha a; intro a ha
          refine stepp ha 5 (.bool t1625.2) KR KR ?_; clear ha a; intro a ha
          refine endl ?_
          refine thenN (hK1624 _ _ ?_); clear hK1624
          refine wp_seq_k (fun K1629 hK1630 => ?_)
          refine wp_region_lit ?_
          refine stepp ha 33 (.string a0) KR KR ?_; clear ha a; intro a ha
          obtain ⟨t1631, ht1632, h_⟩ := bind_some' h; clear h; have h := h_; clear h_
          refine stepc ha 34 KR KR (headgateref01_Big.calls K a0 12 4 t1631 _ ht1632) ?_; clear ha a; rintro e W1633 ⟨rfl, HX1634⟩
          refine ⟨_, rfl, ?_⟩; intro a ha; replace HW := HW.callw HX1634; clear HX1634
          refine stepp ha 32 (.tuple #[.int .u64 t1631.1, .bool t1631.2]) KR KR ?_; clear ha a; intro a ha
          refine stepp ha 35 (.int .u64 t1631.1) KR KR ?_; clear ha a; intro a ha
          refine stepp ha 36 (.bool t1631.2) KR KR ?_; clear ha a; intro a ha
          refine stepp ha 6 (.int .u64 t1631.1) KR KR ?_; clear ha a; intro a ha
          refine stepp ha 7 (.bool t1631.2) KR KR ?_; clear ha a; intro a ha
          refine endl ?_
          refine thenN (hK1630 _ _ ?_); clear hK1630
          refine wp_seq_k (fun K1635 hK1636 => ?_)
          refine wp_seq_k (fun K1637 hK1638 => ?_)
          refine wp_region_lit ?_
          refine stepp ha 37 (.int .u64 t1631.1) KR KR ?_; clear ha a; intro a ha
          refine stepp ha 38 (.bool (decide (t1631.1 > 65536))) KR KR ?_; clear ha a; intro a ha
          refine stepp ha 39 (.bool (decide (t1631.1 > 65536))) KR KR ?_; clear ha a; intro a ha
          by_cases hp1639 : t1631.1 > 65536
          · skip
            replace h := ite_pos' h hp1639
            replace ha := ha.bool 39 KR (decide_eq_true hp1639)
            refine stepo ha 40 KR ?_; clear ha a; intro a ha
            refine stepo ha 41 KR ?_; clear ha a; intro a ha
            refine stepo ha 42 KR ?_; clear ha a; intro a ha
            refine stepo ha 43 KR ?_; clear ha a; intro a ha
            refine stepo ha 44 KR ?_; clear ha a; intro a ha
            refine stepo ha 45 KR ?_; clear ha a; intro a ha
            refine stepo ha 46 KR ?_; clear ha a; intro a ha
            refine stepp ha 47 (.bool true) KR KR ?_; clear ha a; intro a ha
            refine endl ?_
            refine thenN (hK1638 _ _ ?_); clear hK1638
            refine condT ha KR KR (t := true) (rfl) ?_
            refine wp_seq_k (fun K1644 hK1645 => ?_)
            refine wp_region_lit ?_
            refine stepp ha 48 (.agg #[.int .u64 0, .string (⟨#[]⟩ : ByteArray), .int .i64 0]) KR KR ?_; clear ha a; intro a ha
            refine stepst ha HW 0 (b := b1593) (C := #[.int .u64 0, .string (⟨#[]⟩ : ByteArray), .int .i64 0]) (T := 34) KR 34 0 (.tmp 2) (.tmp 48) (.agg #[.int .u64 0, .string (⟨#[]⟩ : ByteArray), .int .i64 0]) #[.int .u64 0, .string (⟨#[]⟩ : ByteArray), .int .i64 0] rfl KR KR KR KR KR KR KR ?_; clear ha HW a; intro a W1646 HW ha
            refine stepp ha 3 (.int .i64 50) KR KR ?_; clear ha a; intro a ha
            refine endl ?_
            refine thenN (hK1645 _ _ ?_); clear hK1645
            refine wp_ret ?_
            refine thenR ?_
            obtain rfl := Option.some.inj h
            exact finv ha _ _ rfl (.cell (ad := ⟨b1593, 0, none⟩) (v := .agg #[.int .u64 0, .string (⟨#[]⟩ : ByteArray), .int .i64 0]) KR (run_loadVar_ca0 (HW.ca (i := 0) (b := b1593) (C := #[.int .u64 0, .string (⟨#[]⟩ : ByteArray), .int .i64 0]) (T := 34) (fr := (0, 0)) KR) 34 0 (.agg #[.int .u64 0, .string (⟨#[]⟩ : ByteArray), .int .i64 0]) KR) (.tmp (v := .int .i64 50) KR .nil)) (.tuple #[.agg #[.int .u64 0, .string (⟨#[]⟩ : ByteArray), .int .i64 0], .int .i64 50]) rfl ⟨rfl, HW.pick [] [] (by decide) (by decide) rfl KR⟩
          · skip
            replace h := ite_neg' h hp1639
            replace ha := ha.bool 39 KR (decide_eq_false hp1639)
            refine stepp ha 40 (.string a0) KR KR ?_; clear ha a; intro a ha
            refine stepp ha 41 (.int .i64 (a0.size : Int)) KR KR ?_; clear ha a; intro a ha
            refine stepp ha 42 (.int .u64 t1631.1) KR KR ?_; clear ha a; intro a ha
            refine stepp ha 43 (.int .i64 (IntKind.wrap .i64 t1631.1)) KR KR ?_; clear ha a; intro a ha
            obtain ⟨t1640, ht1641, h_⟩ := bind_some' h; clear h; have h := h_; clear h_
            refine stepc ha 44 KR KR (headgateref05_Sectors.calls (IntKind.wrap .i64 t1631.1) t1640 _ ht1641) ?_; clear ha a; rintro e W1642 ⟨rfl, HX1643⟩
            refine ⟨_, rfl, ?_⟩; intro a ha; replace HW := HW.callw HX1643; clear HX1643
            refine stepp ha 45 (.int .i64 (IntKind.wrap .i64 (512 * t1640))) KR KR ?_; clear ha a; intro a ha
            refine stepp ha 46 (.bool (decide ((a0.size : Int) < (IntKind.wrap .i64 (512 * t1640))))) KR KR ?_; clear ha a; intro a ha
            refine stepp ha 47 (.bool (decide ((a0.size : Int) < (IntKind.wrap .i64 (512 * t1640))))) KR KR ?_; clear ha a; intro a ha
            refine endl ?_
            refine thenN (hK1638 _ _ ?_); clear hK1638
            by_cases hp1647 : (a0.size : Int) < (IntKind.wrap .i64 (512 * t1640))
            · skip
              replace h := ite_pos' h hp1647
              refine condT ha KR KR (t := decide ((a0.size : Int) < (IntKind.wrap .i64 (512 * t1640)))) (decide_eq_true hp1647) ?_
              refine wp_seq_k (fun K1648 hK1649 => ?_)
              refine wp_region_lit ?_
              refine stepp ha 48 (.agg #[.int .u64 0, .string (⟨#[]⟩ : ByteArray), .int .i64 0]) KR KR ?_; clear ha a; intro a ha
              refine stepst ha HW 0 (b := b1593) (C := #[.int .u64 0, .string (⟨#[]⟩ : ByteArray), .int .i64 0]) (T := 34) KR 34 0 (.tmp 2) (.tmp 48) (.agg #[.int .u64 0, .string (⟨#[]⟩ : ByteArray), .int .i64 0]) #[.int .u64 0, .string (⟨#[]⟩ : ByteArray), .int .i64 0] rfl KR KR KR KR KR KR KR ?_; clear ha HW a; intro a W1650 HW ha
              refine stepp ha 3 (.int .i64 50) KR KR ?_; clear ha a; intro a ha
              refine endl ?_
              refine thenN (hK1649 _ _ ?_); clear hK1649
              refine wp_ret ?_
              refine thenR ?_
              obtain rfl := Option.some.inj h
              exact finv ha _ _ rfl (.cell (ad := ⟨b1593, 0, none⟩) (v := .agg #[.int .u64 0, .string (⟨#[]⟩ : ByteArray), .int .i64 0]) KR (run_loadVar_ca0 (HW.ca (i := 0) (b := b1593) (C := #[.int .u64 0, .string (⟨#[]⟩ : ByteArray), .int .i64 0]) (T := 34) (fr := (0, 0)) KR) 34 0 (.agg #[.int .u64 0, .string (⟨#[]⟩ : ByteArray), .int .i64 0]) KR) (.tmp (v := .int .i64 50) KR .nil)) (.tuple #[.agg #[.int .u64 0, .string (⟨#[]⟩ : ByteArray), .int .i64 0], .int .i64 50]) rfl ⟨rfl, HW.pick [] [] (by decide) (by decide) rfl KR⟩
            · skip
              replace h := ite_neg' h hp1647
              refine condF ha KR KR (t := decide ((a0.size : Int) < (IntKind.wrap .i64 (512 * t1640)))) (decide_eq_false hp1647) ?_
              refine wp_skip ?_
              refine thenN (hK1636 _ _ ?_); clear hK1636
              refine wp_seq_k (fun K1651 hK1652 => ?_)
              refine wp_region_lit ?_
              refine stepp ha 49 (.int .u64 t1631.1) KR KR ?_; clear ha a; intro a ha
              refine stepp ha 50 (.int .i64 (IntKind.wrap .i64 t1631.1)) KR KR ?_; clear ha a; intro a ha
              refine stepp ha 51 (.int .i64 (IntKind.wrap .i64 (20 + (IntKind.wrap .i64 t1631.1)))) KR KR ?_; clear ha a; intro a ha
              refine stepp ha 8 (.int .i64 (IntKind.wrap .i64 (20 + (IntKind.wrap .i64 t1631.1)))) KR KR ?_; clear ha a; intro a ha
              refine endl ?_
              refine thenN (hK1652 _ _ ?_); clear hK1652
              refine wp_seq_k (fun K1653 hK1654 => ?_)
              refine wp_seq_k (fun K1655 hK1656 => ?_)
              obtain ⟨hA1657, h_⟩ := asrt_some h; clear h; have h := h_; clear h_
              obtain ⟨hA1658, h_⟩ := asrt_some h; clear h; have h := h_; clear h_
              obtain ⟨hA1659, h_⟩ := asrt_some h; clear h; have h := h_; clear h_
              obtain ⟨hA1660, h_⟩ := asrt_some h; clear h; have h := h_; clear h_
              obtain ⟨hA1661, h_⟩ := asrt_some h; clear h; have h := h_; clear h_
              obtain ⟨t1662, ht1663, h_⟩ := bind_some' h; clear h; have h := h_; clear h_
              refine regionG 10 KR KR ha HW [.fix (.string a0), .fix (.int .i64 (IntKind.wrap .i64 (20 + (IntKind.wrap .i64 t1631.1)))), .fix (.int .i64 (IntKind.wrap .i64 (20 + (IntKind.wrap .i64 t1631.1)))), .fix (.int .i64 (IntKind.wrap .i64 ((IntKind.wrap .i64 (20 + (IntKind.wrap .i64 t1631.1))) + 4))), .fix (.string (a0.extract (IntKind.wrap .i64 (20 + (IntKind.wrap .i64 t1631.1)) : Int).toNat (IntKind.wrap .i64 ((IntKind.wrap .i64 (20 + (IntKind.wrap .i64 t1631.1))) + 4) : Int).toNat)), .fix (.string a0), .fix (.int .i64 (IntKind.wrap .i64 (20 + (IntKind.wrap .i64 t1631.1)))), .fix (.string (a0.extract (20 : Int).toNat (IntKind.wrap .i64 (20 + (IntKind.wrap .i64 t1631.1)) : Int).toNat)), .fix (.string t1662), .fix (.bool (!((a0.extract (IntKind.wrap .i64 (20 + (IntKind.wrap .i64 t1631.1)) : Int).toNat (IntKind.wrap .i64 ((IntKind.wrap .i64 (20 + (IntKind.wrap .i64 t1631.1))) + 4) : Int).toNat).toList == t1662.toList)))] ?_ ?_
              · skip
                refine ⟨?_, ?_, ?_, ?_, ?_, ?_, ?_, ?_, ?_, ?_, trivial⟩
                · skip
                  intro a wr hn hd HW hs; have ha := hasNil hn hd
                  have ha := ha.add (seeE hs 0 (.string a0) KR KR)
                  refine yStep ha 52 KR ?_; intro l_ ha HK
                  refine stepp ha 52 (.string a0) KR KR ?_; intro ax hax; exact HK _ _ _ hax rfl (Below.refl _ _)
                · skip
                  intro a wr hn hd HW hs; have ha := hasNil hn hd
                  have ha := ha.add (seeE hs 8 (.int .i64 (IntKind.wrap .i64 (20 + (IntKind.wrap .i64 t1631.1)))) KR KR)
                  refine yStep ha 53 KR ?_; intro l_ ha HK
                  refine stepp ha 53 (.int .i64 (IntKind.wrap .i64 (20 + (IntKind.wrap .i64 t1631.1)))) KR KR ?_; intro ax hax; exact HK _ _ _ hax rfl (Below.refl _ _)
                · skip
                  intro a wr hn hd HW hs; have ha := hasNil hn hd
                  have ha := ha.add (seeE hs 8 (.int .i64 (IntKind.wrap .i64 (20 + (IntKind.wrap .i64 t1631.1)))) KR KR)
                  refine yStep ha 54 KR ?_; intro l_ ha HK
                  refine stepp ha 54 (.int .i64 (IntKind.wrap .i64 (20 + (IntKind.wrap .i64 t1631.1)))) KR KR ?_; intro ax hax; exact HK _ _ _ hax rfl (Below.refl _ _)
                · skip
                  intro a wr hn hd HW hs; have ha := hasNil hn hd
                  have ha := ha.add (seeF hs 54 2 (.int .i64 (IntKind.wrap .i64 (20 + (IntKind.wrap .i64 t1631.1)))) KR KR)
                  refine yStep ha 55 KR ?_; intro l_ ha HK
                  refine stepp ha 55 (.int .i64 (IntKind.wrap .i64 ((IntKind.wrap .i64 (20 + (IntKind.wrap .i64 t1631.1))) + 4))) KR KR ?_; intro ax hax; exact HK _ _ _ hax rfl (Below.refl _ _)
                · skip
                  intro a wr hn hd HW hs; have ha := hasNil hn hd
                  have ha := ha.add (seeF hs 52 0 (.string a0) KR KR)
                  have ha := ha.add (seeF hs 53 1 (.int .i64 (IntKind.wrap .i64 (20 + (IntKind.wrap .i64 t1631.1)))) KR KR)
                  have ha := ha.add (seeF hs 55 3 (.int .i64 (IntKind.wrap .i64 ((IntKind.wrap .i64 (20 + (IntKind.wrap .i64 t1631.1))) + 4))) KR KR)
                  refine yStep ha 56 KR ?_; intro l_ ha HK
                  refine stepss ha 56 9 (.tmp 52) (.tmp 53) (.tmp 55) a0 .i64 .i64 (IntKind.wrap .i64 (20 + (IntKind.wrap .i64 t1631.1))) (IntKind.wrap .i64 ((IntKind.wrap .i64 (20 + (IntKind.wrap .i64 t1631.1))) + 4)) rfl KR KR KR KR hA1657 hA1658 (show (IntKind.wrap .i64 ((IntKind.wrap .i64 (20 + (IntKind.wrap .i64 t1631.1))) + 4) : Int) ≤ ((a0).size : Int) from hA1659) KR ?_; intro ax hax; exact HK _ _ _ hax rfl (Below.refl _ _)
                · skip
                  intro a wr hn hd HW hs; have ha := hasNil hn hd
                  have ha := ha.add (seeE hs 0 (.string a0) KR KR)
                  refine yStep ha 57 KR ?_; intro l_ ha HK
                  refine stepp ha 57 (.string a0) KR KR ?_; intro ax hax; exact HK _ _ _ hax rfl (Below.refl _ _)
                · skip
                  intro a wr hn hd HW hs; have ha := hasNil hn hd
                  have ha := ha.add (seeE hs 8 (.int .i64 (IntKind.wrap .i64 (20 + (IntKind.wrap .i64 t1631.1)))) KR KR)
                  refine yStep ha 58 KR ?_; intro l_ ha HK
                  refine stepp ha 58 (.int .i64 (IntKind.wrap .i64 (20 + (IntKind.wrap .i64 t1631.1)))) KR KR ?_; intro ax hax; exact HK _ _ _ hax rfl (Below.refl _ _)
                · skip
                  intro a wr hn hd HW hs; have ha := hasNil hn hd
                  have ha := ha.add (seeF hs 57 5 (.string a0) KR KR)
                  have ha := ha.add (seeF hs 58 6 (.int .i64 (IntKind.wrap .i64 (20 + (IntKind.wrap .i64 t1631.1)))) KR KR)
                  refine yStep ha 59 KR ?_; intro l_ ha HK
                  refine stepss ha 59 9 (.tmp 57) (.const (.int .i64 20)) (.tmp 58) a0 .i64 .i64 20 (IntKind.wrap .i64 (20 + (IntKind.wrap .i64 t1631.1))) rfl KR KR KR KR (by decide) hA1660 (show (IntKind.wrap .i64 (20 + (IntKind.wrap .i64 t1631.1)) : Int) ≤ ((a0).size : Int) from hA1661) KR ?_; intro ax hax; exact HK _ _ _ hax rfl (Below.refl _ _)
                · skip
                  intro a wr hn hd HW hs; have ha := hasNil hn hd
                  have ha := ha.add (seeF hs 59 7 (.string (a0.extract (20 : Int).toNat (IntKind.wrap .i64 (20 + (IntKind.wrap .i64 t1631.1)) : Int).toNat)) KR KR)
                  refine yStep ha 60 KR ?_; intro l_ ha HK
                  refine stepc ha 60 KR KR (headgateref02_Digest.calls K (a0.extract (20 : Int).toNat (IntKind.wrap .i64 (20 + (IntKind.wrap .i64 t1631.1)) : Int).toNat) t1662 _ ht1663) ?_; rintro e W1664 ⟨rfl, HX1665⟩
                  refine ⟨_, rfl, ?_⟩; intro ax hax; exact HK _ _ _ hax rfl HX1665.below
                · skip
                  intro a wr hn hd HW hs; have ha := hasNil hn hd
                  have ha := ha.add (seeF hs 56 4 (.string (a0.extract (IntKind.wrap .i64 (20 + (IntKind.wrap .i64 t1631.1)) : Int).toNat (IntKind.wrap .i64 ((IntKind.wrap .i64 (20 + (IntKind.wrap .i64 t1631.1))) + 4) : Int).toNat)) KR KR)
                  have ha := ha.add (seeF hs 60 8 (.string t1662) KR KR)
                  refine yStep ha 61 KR ?_; intro l_ ha HK
                  refine stepp ha 61 (.bool (!((a0.extract (IntKind.wrap .i64 (20 + (IntKind.wrap .i64 t1631.1)) : Int).toNat (IntKind.wrap .i64 ((IntKind.wrap .i64 (20 + (IntKind.wrap .i64 t1631.1))) + 4) : Int).toNat).toList == t1662.toList))) KR KR ?_; intro ax hax; exact HK _ _ _ hax rfl (Below.refl _ _)
              · skip
                intro a W1666 ha HW he hf
                replace ha := ha.add (he 0 (.string a0) KR KR)
                replace ha := ha.add (he 2 (.pointer (some ⟨b1593, 0, none⟩)) KR KR)
                replace ha := ha.add (he 4 (.int .u64 t1625.1) KR KR)
                replace ha := ha.add (he 6 (.int .u64 t1631.1) KR KR)
                replace ha := ha.add (he 8 (.int .i64 (IntKind.wrap .i64 (20 + (IntKind.wrap .i64 t1631.1)))) KR KR)
                replace ha := ha.add (gotF (m := 10) (j := 9) (d := 61) (v := .bool (!((a0.extract (IntKind.wrap .i64 (20 + (IntKind.wrap .i64 t1631.1)) : Int).toNat (IntKind.wrap .i64 ((IntKind.wrap .i64 (20 + (IntKind.wrap .i64 t1631.1))) + 4) : Int).toNat).toList == t1662.toList))) hf KR KR KR)
                clear he hf
                refine endl ?_
                refine thenN (hK1656 _ _ ?_); clear hK1656
                by_cases hp1667 : (a0.extract (IntKind.wrap .i64 (20 + (IntKind.wrap .i64 t1631.1)) : Int).toNat (IntKind.wrap .i64 ((IntKind.wrap .i64 (20 + (IntKind.wrap .i64 t1631.1))) + 4) : Int).toNat) = t1662
                · skip
                  replace h := ite_pos' h hp1667
                  refine condF ha KR KR (t := (!((a0.extract (IntKind.wrap .i64 (20 + (IntKind.wrap .i64 t1631.1)) : Int).toNat (IntKind.wrap .i64 ((IntKind.wrap .i64 (20 + (IntKind.wrap .i64 t1631.1))) + 4) : Int).toNat).toList == t1662.toList))) (str_ne_f hp1667) ?_
                  refine wp_skip ?_
                  refine thenN (hK1654 _ _ ?_); clear hK1654
                  refine wp_seq_k (fun K1671 hK1672 => ?_)
                  refine wp_region_lit ?_
                  refine stepp ha 63 (.int .u64 t1631.1) KR KR ?_; clear ha a; intro a ha
                  refine stepp ha 64 (.int .i64 (IntKind.wrap .i64 t1631.1)) KR KR ?_; clear ha a; intro a ha
                  obtain ⟨t1673, ht1674, h_⟩ := bind_some' h; clear h; have h := h_; clear h_
                  refine stepc ha 65 KR KR (headgateref05_Sectors.calls (IntKind.wrap .i64 t1631.1) t1673 _ ht1674) ?_; clear ha a; rintro e W1675 ⟨rfl, HX1676⟩
                  refine ⟨_, rfl, ?_⟩; intro a ha; replace HW := HW.callw HX1676; clear HX1676
                  refine stepp ha 66 (.int .i64 (IntKind.wrap .i64 (512 * t1673))) KR KR ?_; clear ha a; intro a ha
                  refine stepp ha 9 (.int .i64 (IntKind.wrap .i64 (512 * t1673))) KR KR ?_; clear ha a; intro a ha
                  refine endl ?_
                  refine thenN (hK1672 _ _ ?_); clear hK1672
                  refine wp_seq_k (fun K1677 hK1678 => ?_)
                  refine wp_seq_k (fun K1679 hK1680 => ?_)
                  refine wp_region_lit ?_
                  refine stepp ha 67 (.int .i64 (IntKind.wrap .i64 (20 + (IntKind.wrap .i64 t1631.1)))) KR KR ?_; clear ha a; intro a ha
                  refine stepp ha 68 (.int .i64 (IntKind.wrap .i64 ((IntKind.wrap .i64 (20 + (IntKind.wrap .i64 t1631.1))) + 4))) KR KR ?_; clear ha a; intro a ha
                  refine stepp ha 10 (.int .i64 (IntKind.wrap .i64 ((IntKind.wrap .i64 (20 + (IntKind.wrap .i64 t1631.1))) + 4))) KR KR ?_; clear ha a; intro a ha
                  refine endl ?_
                  refine thenN (hK1680 _ _ ?_); clear hK1680
                  refine wp_block ?_
                  refine loopk (fun k => fun a W1716 => ∃ (x1715 : Int), headgateref05_Get.l0 K a0 t1625 t1631 t1673 k x1715 = some r ∧ Has 85 [(0, .string a0), (2, .pointer (some ⟨b1593, 0, none⟩)), (4, .int .u64 t1625.1), (8, .int .i64 (IntKind.wrap .i64 (20 + (IntKind.wrap .i64 t1631.1)))), (9, .int .i64 (IntKind.wrap .i64 (512 * t1673))), (10, .int .i64 x1715)] a ∧ Wd w W1716 [(b1593, .cells #[.int .u64 0, .string (⟨#[]⟩ : ByteArray), .int .i64 0] 34 (0, 0))] []) K ?_ ?_
                  · skip
                    exact ⟨IntKind.wrap .i64 ((IntKind.wrap .i64 (20 + (IntKind.wrap .i64 t1631.1))) + 4), h, ha.sub (subs_cons KR (subs_cons KR (subs_cons KR (subs_cons KR (subs_cons KR (subs_cons KR (subs_nil _))))))), HW.pick [0] [] (by decide) (by decide) KR KR⟩
                  · skip
                    intro k a W1716 hI
                    obtain ⟨x1715, h, ha, HW⟩ := hI
                    cases k with
                    | zero => exact (none_some (show none = some r from h)).elim
                    | succ k1717 =>
                      replace h : headgateref05_Get.b0 K a0 t1625 t1631 t1673 (headgateref05_Get.l0 K a0 t1625 t1631 t1673 k1717) x1715 = some r := h
                      obtain ⟨again1714, hag1718⟩ : ∃ g_, g_ = headgateref05_Get.l0 K a0 t1625 t1631 t1673 k1717 := ⟨_, rfl⟩
                      rw [← hag1718] at h
                      unfold headgateref05_Get.b0 at h
                      refine wp_seq_k (fun K1719 hK1720 => ?_)
                      refine wp_seq_k (fun K1721 hK1722 => ?_)
                      refine wp_region_lit ?_
                      refine stepp ha 69 (.int .i64 x1715) KR KR ?_; clear ha a; intro a ha
                      refine stepp ha 70 (.int .i64 (IntKind.wrap .i64 (512 * t1673))) KR KR ?_; clear ha a; intro a ha
                      refine stepp ha 71 (.bool (decide (x1715 < (IntKind.wrap .i64 (512 * t1673))))) KR KR ?_; clear ha a; intro a ha
                      refine endl ?_
                      refine thenN (hK1722 _ _ ?_); clear hK1722
                      by_cases hp1723 : x1715 < (IntKind.wrap .i64 (512 * t1673))
                      · skip
                        replace h := ite_pos' h hp1723
                        refine condT ha KR KR (t := decide (x1715 < (IntKind.wrap .i64 (512 * t1673)))) (decide_eq_true hp1723) ?_
                        refine wp_skip ?_
                        refine thenN (hK1720 _ _ ?_); clear hK1720
                        refine wp_seq_k (fun K1724 hK1725 => ?_)
                        refine wp_block ?_
                        refine wp_seq_k (fun K1726 hK1727 => ?_)
                        refine wp_region_lit ?_
                        refine stepp ha 74 (.string a0) KR KR ?_; clear ha a; intro a ha
                        refine stepp ha 75 (.int .i64 x1715) KR KR ?_; clear ha a; intro a ha
                        obtain ⟨hA1728, h_⟩ := asrt_some h; clear h; have h := h_; clear h_
                        obtain ⟨hA1729, h_⟩ := asrt_some h; clear h; have h := h_; clear h_
                        refine stepsi ha 76 9 (.tmp 74) (.tmp 75) a0 .i64 x1715 rfl KR KR KR hA1728 (show (x1715 : Int) < ((a0).size : Int) from hA1729) KR ?_; clear ha a; intro a ha
                        refine stepp ha 77 (.bool ((bt a0 x1715) != 0)) KR KR ?_; clear ha a; intro a ha
                        refine endl ?_
                        refine thenN (hK1727 _ _ ?_); clear hK1727
                        by_cases hp1730 : (bt a0 x1715) = 0
                        · skip
                          replace h := ite_pos' h hp1730
                          refine condF ha KR KR (t := ((bt a0 x1715) != 0)) (ineq_f hp1730) ?_
                          refine wp_skip ?_
                          refine blkN ?_
                          refine thenN (hK1725 _ _ ?_); clear hK1725
                          refine wp_region_lit ?_
                          refine stepp ha 72 (.int .i64 x1715) KR KR ?_; clear ha a; intro a ha
                          refine stepp ha 73 (.int .i64 (IntKind.wrap .i64 (x1715 + 1))) KR KR ?_; clear ha a; intro a ha
                          refine stepp ha 10 (.int .i64 (IntKind.wrap .i64 (x1715 + 1))) KR KR ?_; clear ha a; intro a ha
                          refine endl ?_
                          exact thenN ⟨k1717, Nat.lt_succ_self k1717, IntKind.wrap .i64 (x1715 + 1), (by rw [← hag1718]; exact h), ha.sub (subs_cons KR (subs_cons KR (subs_cons KR (subs_cons KR (subs_cons KR (subs_cons KR (subs_nil _))))))), HW.pick [0] [] (by decide) (by decide) KR KR⟩
                        · skip
                          replace h := ite_neg' h hp1730
                          refine condT ha KR KR (t := ((bt a0 x1715) != 0)) (ineq_t hp1730) ?_
                          refine wp_seq_k (fun K1731 hK1732 => ?_)
                          refine wp_region_lit ?_
                          refine stepp ha 78 (.agg #[.int .u64 0, .string (⟨#[]⟩ : ByteArray), .int .i64 0]) KR KR ?_; clear ha a; intro a ha
                          refine stepst ha HW 0 (b := b1593) (C := #[.int .u64 0, .string (⟨#[]⟩ : ByteArray), .int .i64 0]) (T := 34) KR 34 0 (.tmp 2) (.tmp 78) (.agg #[.int .u64 0, .string (⟨#[]⟩ : ByteArray), .int .i64 0]) #[.int .u64 0, .string (⟨#[]⟩ : ByteArray), .int .i64 0] rfl KR KR KR KR KR KR KR ?_; clear ha HW a; intro a W1733 HW ha
                          refine stepp ha 3 (.int .i64 50) KR KR ?_; clear ha a; intro a ha
                          refine endl ?_
                          refine thenN (hK1732 _ _ ?_); clear hK1732
                          refine wp_ret ?_
                          refine blkR ?_
                          refine thenR ?_
                          refine thenR ?_
                          refine blkR ?_
                          refine thenR ?_
                          obtain rfl := Option.some.inj h
                          exact finv ha _ _ rfl (.cell (ad := ⟨b1593, 0, none⟩) (v := .agg #[.int .u64 0, .string (⟨#[]⟩ : ByteArray), .int .i64 0]) KR (run_loadVar_ca0 (HW.ca (i := 0) (b := b1593) (C := #[.int .u64 0, .string (⟨#[]⟩ : ByteArray), .int .i64 0]) (T := 34) (fr := (0, 0)) KR) 34 0 (.agg #[.int .u64 0, .string (⟨#[]⟩ : ByteArray), .int .i64 0]) KR) (.tmp (v := .int .i64 50) KR .nil)) (.tuple #[.agg #[.int .u64 0, .string (⟨#[]⟩ : ByteArray), .int .i64 0], .int .i64 50]) rfl ⟨rfl, HW.pick [] [] (by decide) (by decide) rfl KR⟩
                      · skip
                        replace h := ite_neg' h hp1723
                        refine condF ha KR KR (t := decide (x1715 < (IntKind.wrap .i64 (512 * t1673)))) (decide_eq_false hp1723) ?_
                        refine wp_exit ?_
                        refine thenE ?_
                        refine thenE ?_
                        refine inBlk ?_
                        refine thenN (hK1678 _ _ ?_); clear hK1678
                        refine wp_seq_k (fun K1734 hK1735 => ?_)
                        refine wp_region_lit ?_
                        refine stepp ha 79 (.int .u64 t1625.1) KR KR ?_; clear ha a; intro a ha
                        refine stepp ha 80 (.string a0) KR KR ?_; clear ha a; intro a ha
                        refine stepp ha 81 (.int .i64 (IntKind.wrap .i64 (20 + (IntKind.wrap .i64 t1631.1)))) KR KR ?_; clear ha a; intro a ha
                        refine stepss ha 82 9 (.tmp 80) (.const (.int .i64 20)) (.tmp 81) a0 .i64 .i64 20 (IntKind.wrap .i64 (20 + (IntKind.wrap .i64 t1631.1))) rfl KR KR KR KR (by decide) hA1660 (show (IntKind.wrap .i64 (20 + (IntKind.wrap .i64 t1631.1)) : Int) ≤ ((a0).size : Int) from hA1661) KR ?_; clear ha a; intro a ha
                        refine stepp ha 83 (.int .i64 (IntKind.wrap .i64 (512 * t1673))) KR KR ?_; clear ha a; intro a ha
                        refine stepp ha 84 (.agg #[.int .u64 t1625.1, .string (a0.extract (20 : Int).toNat (IntKind.wrap .i64 (20 + (IntKind.wrap .i64 t1631.1)) : Int).toNat), .int .i64 (IntKind.wrap .i64 (512 * t1673))]) KR KR ?_; clear ha a; intro a ha
                        refine stepst ha HW 0 (b := b1593) (C := #[.int .u64 0, .string (⟨#[]⟩ : ByteArray), .int .i64 0]) (T := 34) KR 34 0 (.tmp 2) (.tmp 84) (.agg #[.int .u64 t1625.1, .string (a0.extract (20 : Int).toNat (IntKind.wrap .i64 (20 + (IntKind.wrap .i64 t1631.1)) : Int).toNat), .int .i64 (IntKind.wrap .i64 (512 * t1673))]) #[.int .u64 t1625.1, .string (a0.extract (20 : Int).toNat (IntKind.wrap .i64 (20 + (IntKind.wrap .i64 t1631.1)) : Int).toNat), .int .i64 (IntKind.wrap .i64 (512 * t1673))] rfl KR KR KR KR KR KR KR ?_; clear ha HW a; intro a W1736 HW ha
                        refine stepp ha 3 (.int .i64 0) KR KR ?_; clear ha a; intro a ha
                        refine endl ?_
                        refine thenN (hK1735 _ _ ?_); clear hK1735
                        refine wp_ret ?_
                        obtain rfl := Option.some.inj h
                        exact finv ha _ _ rfl (.cell (ad := ⟨b1593, 0, none⟩) (v := .agg #[.int .u64 t1625.1, .string (a0.extract (20 : Int).toNat (IntKind.wrap .i64 (20 + (IntKind.wrap .i64 t1631.1)) : Int).toNat), .int .i64 (IntKind.wrap .i64 (512 * t1673))]) KR (run_loadVar_ca0 (HW.ca (i := 0) (b := b1593) (C := #[.int .u64 t1625.1, .string (a0.extract (20 : Int).toNat (IntKind.wrap .i64 (20 + (IntKind.wrap .i64 t1631.1)) : Int).toNat), .int .i64 (IntKind.wrap .i64 (512 * t1673))]) (T := 34) (fr := (0, 0)) KR) 34 0 (.agg #[.int .u64 t1625.1, .string (a0.extract (20 : Int).toNat (IntKind.wrap .i64 (20 + (IntKind.wrap .i64 t1631.1)) : Int).toNat), .int .i64 (IntKind.wrap .i64 (512 * t1673))]) KR) (.tmp (v := .int .i64 0) KR .nil)) (.tuple #[.agg #[.int .u64 t1625.1, .string (a0.extract (20 : Int).toNat (IntKind.wrap .i64 (20 + (IntKind.wrap .i64 t1631.1)) : Int).toNat), .int .i64 (IntKind.wrap .i64 (512 * t1673))], .int .i64 0]) rfl ⟨rfl, HW.pick [] [] (by decide) (by decide) rfl KR⟩
                · skip
                  replace h := ite_neg' h hp1667
                  refine condT ha KR KR (t := (!((a0.extract (IntKind.wrap .i64 (20 + (IntKind.wrap .i64 t1631.1)) : Int).toNat (IntKind.wrap .i64 ((IntKind.wrap .i64 (20 + (IntKind.wrap .i64 t1631.1))) + 4) : Int).toNat).toList == t1662.toList))) (str_ne_t hp1667) ?_
                  refine wp_seq_k (fun K1668 hK1669 => ?_)
                  refine wp_region_lit ?_
                  refine stepp ha 62 (.agg #[.int .u64 0, .string (⟨#[]⟩ : ByteArray), .int .i64 0]) KR KR ?_; clear ha a; intro a ha
                  refine stepst ha HW 0 (b := b1593) (C := #[.int .u64 0, .string (⟨#[]⟩ : ByteArray), .int .i64 0]) (T := 34) KR 34 0 (.tmp 2) (.tmp 62) (.agg #[.int .u64 0, .string (⟨#[]⟩ : ByteArray), .int .i64 0]) #[.int .u64 0, .string (⟨#[]⟩ : ByteArray), .int .i64 0] rfl KR KR KR KR KR KR KR ?_; clear ha HW a; intro a W1670 HW ha
                  refine stepp ha 3 (.int .i64 51) KR KR ?_; clear ha a; intro a ha
                  refine endl ?_
                  refine thenN (hK1669 _ _ ?_); clear hK1669
                  refine wp_ret ?_
                  refine thenR ?_
                  obtain rfl := Option.some.inj h
                  exact finv ha _ _ rfl (.cell (ad := ⟨b1593, 0, none⟩) (v := .agg #[.int .u64 0, .string (⟨#[]⟩ : ByteArray), .int .i64 0]) KR (run_loadVar_ca0 (HW.ca (i := 0) (b := b1593) (C := #[.int .u64 0, .string (⟨#[]⟩ : ByteArray), .int .i64 0]) (T := 34) (fr := (0, 0)) KR) 34 0 (.agg #[.int .u64 0, .string (⟨#[]⟩ : ByteArray), .int .i64 0]) KR) (.tmp (v := .int .i64 51) KR .nil)) (.tuple #[.agg #[.int .u64 0, .string (⟨#[]⟩ : ByteArray), .int .i64 0], .int .i64 51]) rfl ⟨rfl, HW.pick [] [] (by decide) (by decide) rfl KR⟩
        · skip
          replace h := ite_neg' h hp1619
          refine condT ha KR KR (t := (!((a0.extract (16 : Int).toNat (20 : Int).toNat).toList == t1614.toList))) (str_ne_t hp1619) ?_
          refine wp_seq_k (fun K1620 hK1621 => ?_)
          refine wp_region_lit ?_
          refine stepp ha 26 (.agg #[.int .u64 0, .string (⟨#[]⟩ : ByteArray), .int .i64 0]) KR KR ?_; clear ha a; intro a ha
          refine stepst ha HW 0 (b := b1593) (C := #[.int .u64 0, .string (⟨#[]⟩ : ByteArray), .int .i64 0]) (T := 34) KR 34 0 (.tmp 2) (.tmp 26) (.agg #[.int .u64 0, .string (⟨#[]⟩ : ByteArray), .int .i64 0]) #[.int .u64 0, .string (⟨#[]⟩ : ByteArray), .int .i64 0] rfl KR KR KR KR KR KR KR ?_; clear ha HW a; intro a W1622 HW ha
          refine stepp ha 3 (.int .i64 51) KR KR ?_; clear ha a; intro a ha
          refine endl ?_
          refine thenN (hK1621 _ _ ?_); clear hK1621
          refine wp_ret ?_
          refine thenR ?_
          obtain rfl := Option.some.inj h
          exact finv ha _ _ rfl (.cell (ad := ⟨b1593, 0, none⟩) (v := .agg #[.int .u64 0, .string (⟨#[]⟩ : ByteArray), .int .i64 0]) KR (run_loadVar_ca0 (HW.ca (i := 0) (b := b1593) (C := #[.int .u64 0, .string (⟨#[]⟩ : ByteArray), .int .i64 0]) (T := 34) (fr := (0, 0)) KR) 34 0 (.agg #[.int .u64 0, .string (⟨#[]⟩ : ByteArray), .int .i64 0]) KR) (.tmp (v := .int .i64 51) KR .nil)) (.tuple #[.agg #[.int .u64 0, .string (⟨#[]⟩ : ByteArray), .int .i64 0], .int .i64 51]) rfl ⟨rfl, HW.pick [] [] (by decide) (by decide) rfl KR⟩
    · skip
      replace h := ite_neg' h hp1604
      refine condT ha KR KR (t := (!((a0.extract 0 (4 : Int).toNat).toList == (⟨#[72, 71, 70, 82]⟩ : ByteArray).toList))) (str_ne_t hp1604) ?_
      refine wp_seq_k (fun K1605 hK1606 => ?_)
      refine wp_region_lit ?_
      refine stepp ha 19 (.agg #[.int .u64 0, .string (⟨#[]⟩ : ByteArray), .int .i64 0]) KR KR ?_; clear ha a; intro a ha
      refine stepst ha HW 0 (b := b1593) (C := #[.int .u64 0, .string (⟨#[]⟩ : ByteArray), .int .i64 0]) (T := 34) KR 34 0 (.tmp 2) (.tmp 19) (.agg #[.int .u64 0, .string (⟨#[]⟩ : ByteArray), .int .i64 0]) #[.int .u64 0, .string (⟨#[]⟩ : ByteArray), .int .i64 0] rfl KR KR KR KR KR KR KR ?_; clear ha HW a; intro a W1607 HW ha
      refine stepp ha 3 (.int .i64 50) KR KR ?_; clear ha a; intro a ha
      refine endl ?_
      refine thenN (hK1606 _ _ ?_); clear hK1606
      refine wp_ret ?_
      refine thenR ?_
      obtain rfl := Option.some.inj h
      exact finv ha _ _ rfl (.cell (ad := ⟨b1593, 0, none⟩) (v := .agg #[.int .u64 0, .string (⟨#[]⟩ : ByteArray), .int .i64 0]) KR (run_loadVar_ca0 (HW.ca (i := 0) (b := b1593) (C := #[.int .u64 0, .string (⟨#[]⟩ : ByteArray), .int .i64 0]) (T := 34) (fr := (0, 0)) KR) 34 0 (.agg #[.int .u64 0, .string (⟨#[]⟩ : ByteArray), .int .i64 0]) KR) (.tmp (v := .int .i64 50) KR .nil)) (.tuple #[.agg #[.int .u64 0, .string (⟨#[]⟩ : ByteArray), .int .i64 0], .int .i64 50]) rfl ⟨rfl, HW.pick [] [] (by decide) (by decide) rfl KR⟩
/-! ### headgate/headgatelaw05.FrameGets: function 4 -/
def headgatelaw05_FrameGets.f (K : Nat) (a0 : ByteArray) : Option Bool :=
  if (a0.size : Int) > 70000 then ((headgatelaw05_wakes.f K).bind fun t1746 => (some t1746)) else ((frame_Get.f K a0).bind fun t1752 => ((headgateref05_Get.f K a0).bind fun t1758 => (if t1752.1 = t1758.1.f0 then (if t1752.2.1 = t1758.1.f1 then (if t1752.2.2.1 = t1758.1.f2 then (if t1752.2.2.2 = t1758.2 then ((headgatelaw05_wakes.f K).bind fun t1771 => (some t1771)) else (some false)) else (some false)) else (some false)) else (some false))))
set_option maxRecDepth 100000 in
set_option maxHeartbeats 4000000 in
theorem headgatelaw05_FrameGets.calls (K : Nat) (a0 : ByteArray)  (r : Bool) (w : World) (hG0 : CA w 0 0 (encs (encIK .u32) G_crc_steps).toArray) (h : headgatelaw05_FrameGets.f K a0 = some r) :
    Calls Tryd.prog 4 #[.string a0] w (fun e W' => e = .returned (.bool r) ∧ Wd w W' [] [] ) := by
  refine sxstart (n := 49) (l := [(0, .string a0)]) Tryd.func4 rfl rfl (Nat.le_of_ble_eq_true KR) (subsA_cons rfl (subsA_nil _)) ?_
  intro a ha
  have HW := Wd.refl w
  unfold headgatelaw05_FrameGets.f at h
  refine wp_seq_k (fun K1737 hK1738 => ?_)
  refine wp_region_lit ?_
  refine stepp ha 2 (.bool false) KR KR ?_; clear ha a; intro a ha
  refine endl ?_
  refine thenN (hK1738 _ _ ?_); clear hK1738
  refine wp_seq_k (fun K1739 hK1740 => ?_)
  refine wp_seq_k (fun K1741 hK1742 => ?_)
  refine wp_region_lit ?_
  refine stepp ha 9 (.string a0) KR KR ?_; clear ha a; intro a ha
  refine stepp ha 10 (.int .i64 (a0.size : Int)) KR KR ?_; clear ha a; intro a ha
  refine stepp ha 11 (.bool (decide ((a0.size : Int) > 70000))) KR KR ?_; clear ha a; intro a ha
  refine endl ?_
  refine thenN (hK1742 _ _ ?_); clear hK1742
  by_cases hp1743 : (a0.size : Int) > 70000
  · skip
    replace h := ite_pos' h hp1743
    refine condT ha KR KR (t := decide ((a0.size : Int) > 70000)) (decide_eq_true hp1743) ?_
    refine wp_seq_k (fun K1744 hK1745 => ?_)
    refine wp_region_lit ?_
    obtain ⟨t1746, ht1747, h_⟩ := bind_some' h; clear h; have h := h_; clear h_
    refine stepc ha 12 KR KR (headgatelaw05_wakes.calls K t1746 _ (HW.ca0 hG0) ht1747) ?_; clear ha a; rintro e W1748 ⟨rfl, HX1749⟩
    refine ⟨_, rfl, ?_⟩; intro a ha; replace HW := HW.callw HX1749; clear HX1749
    refine stepp ha 2 (.bool t1746) KR KR ?_; clear ha a; intro a ha
    refine endl ?_
    refine thenN (hK1745 _ _ ?_); clear hK1745
    refine wp_ret ?_
    refine thenR ?_
    obtain rfl := Option.some.inj h
    exact finv ha _ _ rfl (.tmp (v := .bool t1746) KR .nil) (.bool t1746) rfl ⟨rfl, HW.pick [] [] (by decide) (by decide) rfl KR⟩
  · skip
    replace h := ite_neg' h hp1743
    refine condF ha KR KR (t := decide ((a0.size : Int) > 70000)) (decide_eq_false hp1743) ?_
    refine wp_skip ?_
    refine thenN (hK1740 _ _ ?_); clear hK1740
    refine wp_seq_k (fun K1750 hK1751 => ?_)
    refine wp_region_lit ?_
    refine stepp ha 14 (.string a0) KR KR ?_; clear ha a; intro a ha
    obtain ⟨t1752, ht1753, h_⟩ := bind_some' h; clear h; have h := h_; clear h_
    refine stepc ha 15 KR KR (frame_Get.calls K a0 t1752 _ (HW.ca0 hG0) ht1753) ?_; clear ha a; rintro e W1754 ⟨rfl, HX1755⟩
    refine ⟨_, rfl, ?_⟩; intro a ha; replace HW := HW.callw HX1755; clear HX1755
    refine stepp ha 13 (.tuple #[.int .u64 t1752.1, .string t1752.2.1, .int .i64 t1752.2.2.1, .int .i64 t1752.2.2.2]) KR KR ?_; clear ha a; intro a ha
    refine stepp ha 16 (.int .u64 t1752.1) KR KR ?_; clear ha a; intro a ha
    refine stepp ha 17 (.string t1752.2.1) KR KR ?_; clear ha a; intro a ha
    refine stepp ha 18 (.int .i64 t1752.2.2.1) KR KR ?_; clear ha a; intro a ha
    refine stepp ha 19 (.int .i64 t1752.2.2.2) KR KR ?_; clear ha a; intro a ha
    refine stepp ha 3 (.int .u64 t1752.1) KR KR ?_; clear ha a; intro a ha
    refine stepp ha 4 (.string t1752.2.1) KR KR ?_; clear ha a; intro a ha
    refine stepp ha 5 (.int .i64 t1752.2.2.1) KR KR ?_; clear ha a; intro a ha
    refine stepp ha 6 (.int .i64 t1752.2.2.2) KR KR ?_; clear ha a; intro a ha
    refine endl ?_
    refine thenN (hK1751 _ _ ?_); clear hK1751
    refine wp_seq_k (fun K1756 hK1757 => ?_)
    refine wp_region_lit ?_
    refine stepp ha 21 (.string a0) KR KR ?_; clear ha a; intro a ha
    obtain ⟨t1758, ht1759, h_⟩ := bind_some' h; clear h; have h := h_; clear h_
    refine stepc ha 22 KR KR (headgateref05_Get.calls K a0 t1758 _ ht1759) ?_; clear ha a; rintro e W1760 ⟨rfl, HX1761⟩
    refine ⟨_, rfl, ?_⟩; intro a ha; replace HW := HW.callw HX1761; clear HX1761
    refine stepp ha 20 (.tuple #[.agg #[.int .u64 t1758.1.f0, .string t1758.1.f1, .int .i64 t1758.1.f2], .int .i64 t1758.2]) KR KR ?_; clear ha a; intro a ha
    refine stepp ha 23 (.agg #[.int .u64 t1758.1.f0, .string t1758.1.f1, .int .i64 t1758.1.f2]) KR KR ?_; clear ha a; intro a ha
    refine stepp ha 24 (.int .i64 t1758.2) KR KR ?_; clear ha a; intro a ha
    refine stepnew ha HW 7 #[.int .u64 0, .string (⟨#[]⟩ : ByteArray), .int .i64 0] 34 KR KR ?_; clear ha HW a; intro b1762 a W1763 HW ha
    refine stepst ha HW 0 (b := b1762) (C := #[.int .u64 0, .string (⟨#[]⟩ : ByteArray), .int .i64 0]) (T := 34) KR 34 0 (.tmp 7) (.tmp 23) (.agg #[.int .u64 t1758.1.f0, .string t1758.1.f1, .int .i64 t1758.1.f2]) #[.int .u64 t1758.1.f0, .string t1758.1.f1, .int .i64 t1758.1.f2] rfl KR KR KR KR KR KR KR ?_; clear ha HW a; intro a W1764 HW ha
    refine stepp ha 8 (.int .i64 t1758.2) KR KR ?_; clear ha a; intro a ha
    refine endl ?_
    refine thenN (hK1757 _ _ ?_); clear hK1757
    refine wp_seq_k (fun K1765 hK1766 => ?_)
    refine wp_region_lit ?_
    refine stepp ha 25 (.int .u64 t1752.1) KR KR ?_; clear ha a; intro a ha
    refine stepp ha 26 (.pointer (some ⟨b1762, 0, none⟩)) KR KR ?_; clear ha a; intro a ha
    refine stepl ha 27 (HW.ca (i := 0) (b := b1762) (C := #[.int .u64 t1758.1.f0, .string t1758.1.f1, .int .i64 t1758.1.f2]) (T := 34) (fr := (0, 0)) KR) 22 0 (.tmp 26) (.int .u64 t1758.1.f0) rfl KR KR KR ?_; clear ha a; intro a ha
    refine stepp ha 28 (.bool (t1752.1 == t1758.1.f0)) KR KR ?_; clear ha a; intro a ha
    refine stepp ha 29 (.bool (t1752.1 == t1758.1.f0)) KR KR ?_; clear ha a; intro a ha
    by_cases hp1767 : t1752.1 = t1758.1.f0
    · skip
      replace h := ite_pos' h hp1767
      replace ha := ha.bool 29 KR (ieq_t hp1767)
      refine stepp ha 30 (.string t1752.2.1) KR KR ?_; clear ha a; intro a ha
      refine stepp ha 31 (.pointer (some ⟨b1762, 1, none⟩)) KR KR ?_; clear ha a; intro a ha
      refine stepl ha 32 (HW.ca (i := 0) (b := b1762) (C := #[.int .u64 t1758.1.f0, .string t1758.1.f1, .int .i64 t1758.1.f2]) (T := 34) (fr := (0, 0)) KR) 9 1 (.tmp 31) (.string t1758.1.f1) rfl KR KR KR ?_; clear ha a; intro a ha
      refine stepp ha 33 (.bool (t1752.2.1.toList == t1758.1.f1.toList)) KR KR ?_; clear ha a; intro a ha
      refine stepp ha 34 (.bool (t1752.2.1.toList == t1758.1.f1.toList)) KR KR ?_; clear ha a; intro a ha
      refine stepp ha 35 (.bool (t1752.2.1.toList == t1758.1.f1.toList)) KR KR ?_; clear ha a; intro a ha
      by_cases hp1768 : t1752.2.1 = t1758.1.f1
      · skip
        replace h := ite_pos' h hp1768
        replace ha := ha.bool 35 KR (str_eq_t hp1768)
        refine stepp ha 36 (.int .i64 t1752.2.2.1) KR KR ?_; clear ha a; intro a ha
        refine stepp ha 37 (.pointer (some ⟨b1762, 2, none⟩)) KR KR ?_; clear ha a; intro a ha
        refine stepl ha 38 (HW.ca (i := 0) (b := b1762) (C := #[.int .u64 t1758.1.f0, .string t1758.1.f1, .int .i64 t1758.1.f2]) (T := 34) (fr := (0, 0)) KR) 3 2 (.tmp 37) (.int .i64 t1758.1.f2) rfl KR KR KR ?_; clear ha a; intro a ha
        refine stepp ha 39 (.bool (t1752.2.2.1 == t1758.1.f2)) KR KR ?_; clear ha a; intro a ha
        refine stepp ha 40 (.bool (t1752.2.2.1 == t1758.1.f2)) KR KR ?_; clear ha a; intro a ha
        refine stepp ha 41 (.bool (t1752.2.2.1 == t1758.1.f2)) KR KR ?_; clear ha a; intro a ha
        by_cases hp1769 : t1752.2.2.1 = t1758.1.f2
        · skip
          replace h := ite_pos' h hp1769
          replace ha := ha.bool 41 KR (ieq_t hp1769)
          refine stepp ha 42 (.int .i64 t1752.2.2.2) KR KR ?_; clear ha a; intro a ha
          refine stepp ha 43 (.int .i64 t1758.2) KR KR ?_; clear ha a; intro a ha
          refine stepp ha 44 (.bool (t1752.2.2.2 == t1758.2)) KR KR ?_; clear ha a; intro a ha
          refine stepp ha 45 (.bool (t1752.2.2.2 == t1758.2)) KR KR ?_; clear ha a; intro a ha
          refine stepp ha 46 (.bool (t1752.2.2.2 == t1758.2)) KR KR ?_; clear ha a; intro a ha
          by_cases hp1770 : t1752.2.2.2 = t1758.2
          · skip
            replace h := ite_pos' h hp1770
            replace ha := ha.bool 46 KR (ieq_t hp1770)
            obtain ⟨t1771, ht1772, h_⟩ := bind_some' h; clear h; have h := h_; clear h_
            refine stepc ha 47 KR KR (headgatelaw05_wakes.calls K t1771 _ (HW.ca0 hG0) ht1772) ?_; clear ha a; rintro e W1773 ⟨rfl, HX1774⟩
            refine ⟨_, rfl, ?_⟩; intro a ha; replace HW := HW.callw HX1774; clear HX1774
            refine stepp ha 48 (.bool t1771) KR KR ?_; clear ha a; intro a ha
            refine stepp ha 2 (.bool t1771) KR KR ?_; clear ha a; intro a ha
            refine endl ?_
            refine thenN (hK1766 _ _ ?_); clear hK1766
            refine wp_ret ?_
            obtain rfl := Option.some.inj h
            exact finv ha _ _ rfl (.tmp (v := .bool t1771) KR .nil) (.bool t1771) rfl ⟨rfl, HW.pick [] [] (by decide) (by decide) rfl KR⟩
          · skip
            replace h := ite_neg' h hp1770
            replace ha := ha.bool 46 KR (ieq_f hp1770)
            refine stepo ha 47 KR ?_; clear ha a; intro a ha
            refine stepp ha 48 (.bool false) KR KR ?_; clear ha a; intro a ha
            refine stepp ha 2 (.bool false) KR KR ?_; clear ha a; intro a ha
            refine endl ?_
            refine thenN (hK1766 _ _ ?_); clear hK1766
            refine wp_ret ?_
            obtain rfl := Option.some.inj h
            exact finv ha _ _ rfl (.tmp (v := .bool false) KR .nil) (.bool false) rfl ⟨rfl, HW.pick [] [] (by decide) (by decide) rfl KR⟩
        · skip
          replace h := ite_neg' h hp1769
          replace ha := ha.bool 41 KR (ieq_f hp1769)
          refine stepo ha 42 KR ?_; clear ha a; intro a ha
          refine stepo ha 43 KR ?_; clear ha a; intro a ha
          refine stepo ha 44 KR ?_; clear ha a; intro a ha
          refine stepp ha 45 (.bool false) KR KR ?_; clear ha a; intro a ha
          refine stepp ha 46 (.bool false) KR KR ?_; clear ha a; intro a ha
          refine stepo ha 47 KR ?_; clear ha a; intro a ha
          refine stepp ha 48 (.bool false) KR KR ?_; clear ha a; intro a ha
          refine stepp ha 2 (.bool false) KR KR ?_; clear ha a; intro a ha
          refine endl ?_
          refine thenN (hK1766 _ _ ?_); clear hK1766
          refine wp_ret ?_
          obtain rfl := Option.some.inj h
          exact finv ha _ _ rfl (.tmp (v := .bool false) KR .nil) (.bool false) rfl ⟨rfl, HW.pick [] [] (by decide) (by decide) rfl KR⟩
      · skip
        replace h := ite_neg' h hp1768
        replace ha := ha.bool 35 KR (str_eq_f hp1768)
        refine stepo ha 36 KR ?_; clear ha a; intro a ha
        refine stepo ha 37 KR ?_; clear ha a; intro a ha
        refine stepo ha 38 KR ?_; clear ha a; intro a ha
        refine stepo ha 39 KR ?_; clear ha a; intro a ha
        refine stepp ha 40 (.bool false) KR KR ?_; clear ha a; intro a ha
        refine stepp ha 41 (.bool false) KR KR ?_; clear ha a; intro a ha
        refine stepo ha 42 KR ?_; clear ha a; intro a ha
        refine stepo ha 43 KR ?_; clear ha a; intro a ha
        refine stepo ha 44 KR ?_; clear ha a; intro a ha
        refine stepp ha 45 (.bool false) KR KR ?_; clear ha a; intro a ha
        refine stepp ha 46 (.bool false) KR KR ?_; clear ha a; intro a ha
        refine stepo ha 47 KR ?_; clear ha a; intro a ha
        refine stepp ha 48 (.bool false) KR KR ?_; clear ha a; intro a ha
        refine stepp ha 2 (.bool false) KR KR ?_; clear ha a; intro a ha
        refine endl ?_
        refine thenN (hK1766 _ _ ?_); clear hK1766
        refine wp_ret ?_
        obtain rfl := Option.some.inj h
        exact finv ha _ _ rfl (.tmp (v := .bool false) KR .nil) (.bool false) rfl ⟨rfl, HW.pick [] [] (by decide) (by decide) rfl KR⟩
    · skip
      replace h := ite_neg' h hp1767
      replace ha := ha.bool 29 KR (ieq_f hp1767)
      refine stepo ha 30 KR ?_; clear ha a; intro a ha
      refine stepo ha 31 KR ?_; clear ha a; intro a ha
      refine stepo ha 32 KR ?_; clear ha a; intro a ha
      refine stepo ha 33 KR ?_; clear ha a; intro a ha
      refine stepp ha 34 (.bool false) KR KR ?_; clear ha a; intro a ha
      refine stepp ha 35 (.bool false) KR KR ?_; clear ha a; intro a ha
      refine stepo ha 36 KR ?_; clear ha a; intro a ha
      refine stepo ha 37 KR ?_; clear ha a; intro a ha
      refine stepo ha 38 KR ?_; clear ha a; intro a ha
      refine stepo ha 39 KR ?_; clear ha a; intro a ha
      refine stepp ha 40 (.bool false) KR KR ?_; clear ha a; intro a ha
      refine stepp ha 41 (.bool false) KR KR ?_; clear ha a; intro a ha
      refine stepo ha 42 KR ?_; clear ha a; intro a ha
      refine stepo ha 43 KR ?_; clear ha a; intro a ha
      refine stepo ha 44 KR ?_; clear ha a; intro a ha
      refine stepp ha 45 (.bool false) KR KR ?_; clear ha a; intro a ha
      refine stepp ha 46 (.bool false) KR KR ?_; clear ha a; intro a ha
      refine stepo ha 47 KR ?_; clear ha a; intro a ha
      refine stepp ha 48 (.bool false) KR KR ?_; clear ha a; intro a ha
      refine stepp ha 2 (.bool false) KR KR ?_; clear ha a; intro a ha
      refine endl ?_
      refine thenN (hK1766 _ _ ?_); clear hK1766
      refine wp_ret ?_
      obtain rfl := Option.some.inj h
      exact finv ha _ _ rfl (.tmp (v := .bool false) KR .nil) (.bool false) rfl ⟨rfl, HW.pick [] [] (by decide) (by decide) rfl KR⟩
end Go.Proofs.YtdcojinnjpihaaaDoor.F
