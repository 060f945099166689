/- headgate/headgateref10.Holds, headgate/headgateref27.Report: plain functions, and that the calls come to what they say. No condition. -/
import Derived.Test.YthjjbkgifelooaaDoorFT
import Derived.Test.YthjjbkgifelooaaDoorF12
import Derived.Test.YthjjbkgifelooaaDoorF50
import Derived.Test.YthjjbkgifelooaaDoorF51
namespace Go.Proofs.YthjjbkgifelooaaDoor.F
open Go Go.RowKit Go.Proofs.YthjjbkgifelooaaDoor.X
set_option linter.unusedVariables false
set_option linter.unusedSimpArgs false
/-! ### headgate/headgateref10.Holds: function 52 -/
def headgateref10_Holds.j1 (K : Nat) (a0 : T_api_Table) (a1 : ByteArray) (x1521 : Bool) : Option Bool :=
  if x1521 = true then ((headgateref10_Registered.f K (⟨a0.f0, (⟨a0.f1.f0, a0.f1.f1⟩ : T_api_Hold), a0.f2, a0.f3⟩ : T_api_Table) a1).bind fun t1526 => (some t1526)) else (some false)
def headgateref10_Holds.j0 (K : Nat) (a0 : T_api_Table) (a1 : ByteArray) (x1511 : Bool) : Option Bool :=
  if x1511 = true then (some (a0.f1.f1.toList == a1.toList)) else (if a0.f1.f0 = 5 then (headgateref10_Holds.j1 K a0 a1 (a0.f1.f0 == 5)) else (headgateref10_Holds.j1 K a0 a1 (a0.f1.f0 == 6)))
def headgateref10_Holds.f (K : Nat) (a0 : T_api_Table) (a1 : ByteArray) : Option Bool :=
  if a0.f1.f0 = 1 then (headgateref10_Holds.j0 K a0 a1 (a0.f1.f0 == 1)) else (if a0.f1.f0 = 2 then (headgateref10_Holds.j0 K a0 a1 (a0.f1.f0 == 2)) else (if a0.f1.f0 = 3 then (headgateref10_Holds.j0 K a0 a1 (a0.f1.f0 == 3)) else (headgateref10_Holds.j0 K a0 a1 (a0.f1.f0 == 4))))
set_option maxRecDepth 100000 in
set_option maxHeartbeats 4000000 in
theorem headgateref10_Holds.calls (K : Nat) (a0 : T_api_Table) (a1 : ByteArray) (A0_0 : Option Addr) (c0_0 : Nat) (r : Bool) (w : World) (hr0_0 : Rd 2 w (.slice A0_0 a0.f0.length c0_0) a0.f0.length (encs T_api_Reg.enc a0.f0)) (h : headgateref10_Holds.f K a0 a1 = some r) :
    Calls Tryd.prog 52 #[.agg #[.slice A0_0 a0.f0.length c0_0, .int .i64 a0.f1.f0, .string a0.f1.f1, .int .u32 a0.f2, .bool a0.f3], .string a1] w (fun e W' => e = .returned (.bool r) ∧ Wd w W' [] [] ) := by
  refine sxstart (n := 24) (l := [(0, .agg #[.slice A0_0 a0.f0.length c0_0, .int .i64 a0.f1.f0, .string a0.f1.f1, .int .u32 a0.f2, .bool a0.f3]), (1, .string a1)]) Tryd.func52 rfl rfl (Nat.le_of_ble_eq_true KR) (subsA_cons rfl (subsA_cons rfl (subsA_nil _))) ?_
  intro a ha
  have HW := Wd.refl w
  unfold headgateref10_Holds.f at h
  refine wp_seq_k (fun K1492 hK1493 => ?_)
  refine wp_region_lit ?_
  refine stepnew ha HW 2 #[.slice A0_0 a0.f0.length c0_0, .int .i64 a0.f1.f0, .string a0.f1.f1, .int .u32 a0.f2, .bool a0.f3] 27 KR KR ?_; clear ha HW a; intro b1494 a W1495 HW ha
  refine stepp ha 4 (.bool false) KR KR ?_; clear ha a; intro a ha
  refine endl ?_
  refine thenN (hK1493 _ _ ?_); clear hK1493
  refine wp_seq_k (fun K1496 hK1497 => ?_)
  refine wp_seq_k (fun K1498 hK1499 => ?_)
  refine wp_region_lit ?_
  refine stepp ha 5 (.pointer (some ⟨b1494, 1, none⟩)) KR KR ?_; clear ha a; intro a ha
  refine stepp ha 6 (.pointer (some ⟨b1494, 1, none⟩)) KR KR ?_; clear ha a; intro a ha
  refine stepl ha 7 (HW.ca (i := 0) (b := b1494) (C := #[.slice A0_0 a0.f0.length c0_0, .int .i64 a0.f1.f0, .string a0.f1.f1, .int .u32 a0.f2, .bool a0.f3]) (T := 27) (fr := (0, 0)) KR) 3 1 (.tmp 6) (.int .i64 a0.f1.f0) rfl KR KR KR ?_; clear ha a; intro a ha
  refine endl ?_
  refine thenN (hK1499 _ _ ?_); clear hK1499
  refine wp_block ?_
  refine wp_seq_k (fun K1500 hK1501 => ?_)
  refine cutn (fun a W1512 => ∃ (x1511 : Bool), headgateref10_Holds.j0 K a0 a1 x1511 = some r ∧ Has 24 [(1, .string a1), (2, .pointer (some ⟨b1494, 0, none⟩)), (7, .int .i64 a0.f1.f0), (8, .bool x1511)] a ∧ Wd w W1512 [(b1494, .cells #[.slice A0_0 a0.f0.length c0_0, .int .i64 a0.f1.f0, .string a0.f1.f1, .int .u32 a0.f2, .bool a0.f3] 27 (0, 0))] []) ?_ ?_
  · skip
    refine wp_seq_k (fun K1502 hK1503 => ?_)
    refine wp_region_lit ?_
    refine stepp ha 9 (.bool (a0.f1.f0 == 1)) KR KR ?_; clear ha a; intro a ha
    refine stepp ha 8 (.bool (a0.f1.f0 == 1)) KR KR ?_; clear ha a; intro a ha
    refine endl ?_
    refine thenN (hK1503 _ _ ?_); clear hK1503
    by_cases hp1504 : a0.f1.f0 = 1
    · skip
      replace h := ite_pos' h hp1504
      refine condT ha KR KR (t := (a0.f1.f0 == 1)) (ieq_t hp1504) ?_
      refine wp_skip ?_
      exact thenN ⟨(a0.f1.f0 == 1), h, ha.sub (subs_cons KR (subs_cons KR (subs_cons KR (subs_cons KR (subs_nil _))))), HW.pick [0] [] (by decide) (by decide) KR KR⟩
    · skip
      replace h := ite_neg' h hp1504
      refine condF ha KR KR (t := (a0.f1.f0 == 1)) (ieq_f hp1504) ?_
      refine wp_seq_k (fun K1505 hK1506 => ?_)
      refine wp_region_lit ?_
      refine stepp ha 10 (.bool (a0.f1.f0 == 2)) KR KR ?_; clear ha a; intro a ha
      refine stepp ha 8 (.bool (a0.f1.f0 == 2)) KR KR ?_; clear ha a; intro a ha
      refine endl ?_
      refine thenN (hK1506 _ _ ?_); clear hK1506
      by_cases hp1507 : a0.f1.f0 = 2
      · skip
        replace h := ite_pos' h hp1507
        refine condT ha KR KR (t := (a0.f1.f0 == 2)) (ieq_t hp1507) ?_
        refine wp_skip ?_
        exact thenN ⟨(a0.f1.f0 == 2), h, ha.sub (subs_cons KR (subs_cons KR (subs_cons KR (subs_cons KR (subs_nil _))))), HW.pick [0] [] (by decide) (by decide) KR KR⟩
      · skip
        replace h := ite_neg' h hp1507
        refine condF ha KR KR (t := (a0.f1.f0 == 2)) (ieq_f hp1507) ?_
        refine wp_seq_k (fun K1508 hK1509 => ?_)
        refine wp_region_lit ?_
        refine stepp ha 11 (.bool (a0.f1.f0 == 3)) KR KR ?_; clear ha a; intro a ha
        refine stepp ha 8 (.bool (a0.f1.f0 == 3)) KR KR ?_; clear ha a; intro a ha
        refine endl ?_
        refine thenN (hK1509 _ _ ?_); clear hK1509
        by_cases hp1510 : a0.f1.f0 = 3
        · skip
          replace h := ite_pos' h hp1510
          refine condT ha KR KR (t := (a0.f1.f0 == 3)) (ieq_t hp1510) ?_
          refine wp_skip ?_
          exact thenN ⟨(a0.f1.f0 == 3), h, ha.sub (subs_cons KR (subs_cons KR (subs_cons KR (subs_cons KR (subs_nil _))))), HW.pick [0] [] (by decide) (by decide) KR KR⟩
        · skip
          replace h := ite_neg' h hp1510
          refine condF ha KR KR (t := (a0.f1.f0 == 3)) (ieq_f hp1510) ?_
          refine wp_region_lit ?_
          refine stepp ha 12 (.bool (a0.f1.f0 == 4)) KR KR ?_; clear ha a; intro a ha
          refine stepp ha 8 (.bool (a0.f1.f0 == 4)) KR KR ?_; clear ha a; intro a ha
          refine endl ?_
          exact thenN ⟨(a0.f1.f0 == 4), h, ha.sub (subs_cons KR (subs_cons KR (subs_cons KR (subs_cons KR (subs_nil _))))), HW.pick [0] [] (by decide) (by decide) KR KR⟩
  · skip
    intro a W1512 hJ
    obtain ⟨x1511, h, ha, HW⟩ := hJ
    replace h : headgateref10_Holds.j0 K a0 a1 x1511 = some r := h
    unfold headgateref10_Holds.j0 at h
    refine hK1501 _ _ ?_; clear hK1501
    by_cases hp1513 : x1511 = true
    · skip
      replace h := ite_pos' h hp1513
      refine condT ha KR KR (t := x1511) (hp1513) ?_
      refine wp_seq_k (fun K1514 hK1515 => ?_)
      refine wp_region_lit ?_
      refine stepp ha 13 (.pointer (some ⟨b1494, 1, none⟩)) KR KR ?_; clear ha a; intro a ha
      refine stepp ha 14 (.pointer (some ⟨b1494, 2, none⟩)) KR KR ?_; clear ha a; intro a ha
      refine stepl ha 15 (HW.ca (i := 0) (b := b1494) (C := #[.slice A0_0 a0.f0.length c0_0, .int .i64 a0.f1.f0, .string a0.f1.f1, .int .u32 a0.f2, .bool a0.f3]) (T := 27) (fr := (0, 0)) KR) 9 2 (.tmp 14) (.string a0.f1.f1) rfl KR KR KR ?_; clear ha a; intro a ha
      refine stepp ha 16 (.string a1) KR KR ?_; clear ha a; intro a ha
      refine stepp ha 17 (.bool (a0.f1.f1.toList == a1.toList)) KR KR ?_; clear ha a; intro a ha
      refine stepp ha 4 (.bool (a0.f1.f1.toList == a1.toList)) KR KR ?_; clear ha a; intro a ha
      refine endl ?_
      refine thenN (hK1515 _ _ ?_); clear hK1515
      refine wp_ret ?_
      refine blkR ?_
      refine thenR ?_
      obtain rfl := Option.some.inj h
      exact finv ha _ _ rfl (.tmp (v := .bool (a0.f1.f1.toList == a1.toList)) KR .nil) (.bool (a0.f1.f1.toList == a1.toList)) rfl ⟨rfl, HW.pick [] [] (by decide) (by decide) rfl KR⟩
    · skip
      replace h := ite_neg' h hp1513
      refine condF ha KR KR (t := x1511) (bool_f hp1513) ?_
      refine wp_seq_k (fun K1516 hK1517 => ?_)
      refine cutn (fun a W1522 => ∃ (x1521 : Bool), headgateref10_Holds.j1 K a0 a1 x1521 = some r ∧ Has 24 [(1, .string a1), (2, .pointer (some ⟨b1494, 0, none⟩)), (18, .bool x1521)] a ∧ Wd w W1522 [(b1494, .cells #[.slice A0_0 a0.f0.length c0_0, .int .i64 a0.f1.f0, .string a0.f1.f1, .int .u32 a0.f2, .bool a0.f3] 27 (0, 0))] []) ?_ ?_
      · skip
        refine wp_seq_k (fun K1518 hK1519 => ?_)
        refine wp_region_lit ?_
        refine stepp ha 19 (.bool (a0.f1.f0 == 5)) KR KR ?_; clear ha a; intro a ha
        refine stepp ha 18 (.bool (a0.f1.f0 == 5)) KR KR ?_; clear ha a; intro a ha
        refine endl ?_
        refine thenN (hK1519 _ _ ?_); clear hK1519
        by_cases hp1520 : a0.f1.f0 = 5
        · skip
          replace h := ite_pos' h hp1520
          refine condT ha KR KR (t := (a0.f1.f0 == 5)) (ieq_t hp1520) ?_
          refine wp_skip ?_
          exact thenN ⟨(a0.f1.f0 == 5), h, ha.sub (subs_cons KR (subs_cons KR (subs_cons KR (subs_nil _)))), HW.pick [0] [] (by decide) (by decide) KR KR⟩
        · skip
          replace h := ite_neg' h hp1520
          refine condF ha KR KR (t := (a0.f1.f0 == 5)) (ieq_f hp1520) ?_
          refine wp_region_lit ?_
          refine stepp ha 20 (.bool (a0.f1.f0 == 6)) KR KR ?_; clear ha a; intro a ha
          refine stepp ha 18 (.bool (a0.f1.f0 == 6)) KR KR ?_; clear ha a; intro a ha
          refine endl ?_
          exact thenN ⟨(a0.f1.f0 == 6), h, ha.sub (subs_cons KR (subs_cons KR (subs_cons KR (subs_nil _)))), HW.pick [0] [] (by decide) (by decide) KR KR⟩
      · skip
        intro a W1522 hJ
        obtain ⟨x1521, h, ha, HW⟩ := hJ
        replace h : headgateref10_Holds.j1 K a0 a1 x1521 = some r := h
        unfold headgateref10_Holds.j1 at h
        refine hK1517 _ _ ?_; clear hK1517
        by_cases hp1523 : x1521 = true
        · skip
          replace h := ite_pos' h hp1523
          refine condT ha KR KR (t := x1521) (hp1523) ?_
          refine wp_seq_k (fun K1524 hK1525 => ?_)
          refine wp_region_lit ?_
          refine stepl ha 21 (HW.ca (i := 0) (b := b1494) (C := #[.slice A0_0 a0.f0.length c0_0, .int .i64 a0.f1.f0, .string a0.f1.f1, .int .u32 a0.f2, .bool a0.f3]) (T := 27) (fr := (0, 0)) KR) 27 0 (.tmp 2) (.agg #[.slice A0_0 a0.f0.length c0_0, .int .i64 a0.f1.f0, .string a0.f1.f1, .int .u32 a0.f2, .bool a0.f3]) rfl KR KR KR ?_; clear ha a; intro a ha
          refine stepp ha 22 (.string a1) KR KR ?_; clear ha a; intro a ha
          obtain ⟨t1526, ht1527, h_⟩ := bind_some' h; clear h; have h := h_; clear h_
          refine stepc ha 23 KR KR (headgateref10_Registered.calls K (⟨a0.f0, (⟨a0.f1.f0, a0.f1.f1⟩ : T_api_Hold), a0.f2, a0.f3⟩ : T_api_Table) a1 A0_0 c0_0 t1526 _ ((HW.rd0 hr0_0)) ht1527) ?_; clear ha a; rintro e W1528 ⟨rfl, HX1529⟩
          refine ⟨_, rfl, ?_⟩; intro a ha; replace HW := HW.callw HX1529; clear HX1529
          refine stepp ha 4 (.bool t1526) KR KR ?_; clear ha a; intro a ha
          refine endl ?_
          refine thenN (hK1525 _ _ ?_); clear hK1525
          refine wp_ret ?_
          refine blkR ?_
          refine thenR ?_
          obtain rfl := Option.some.inj h
          exact finv ha _ _ rfl (.tmp (v := .bool t1526) KR .nil) (.bool t1526) rfl ⟨rfl, HW.pick [] [] (by decide) (by decide) rfl KR⟩
        · skip
          replace h := ite_neg' h hp1523
          refine condF ha KR KR (t := x1521) (bool_f hp1523) ?_
          refine wp_skip ?_
          refine blkN ?_
          refine thenN (hK1497 _ _ ?_); clear hK1497
          refine wp_seq_k (fun K1530 hK1531 => ?_)
          refine wp_region_lit ?_
          refine stepp ha 4 (.bool false) KR KR ?_; clear ha a; intro a ha
          refine endl ?_
          refine thenN (hK1531 _ _ ?_); clear hK1531
          refine wp_ret ?_
          obtain rfl := Option.some.inj h
          exact finv ha _ _ rfl (.tmp (v := .bool false) KR .nil) (.bool false) rfl ⟨rfl, HW.pick [] [] (by decide) (by decide) rfl KR⟩
/-! ### headgate/headgateref27.Report: function 18 -/
def headgateref27_Report.j2 (K : Nat) (a0 : T_api_Table) (again1691 : ByteArray → Int → Option ByteArray) (x1692 : ByteArray) (x1693 : Int) (x1722 : Int) : Option ByteArray :=
  asrt ((strOfNums ([IntKind.wrap .u8 (IntKind.wrap .i64 (x1693 + 1)), 0, x1722] : List Int)).size + (strOfNums (List.replicate (13 : Int).toNat (0 : Int))).size ≤ 9223372036854775807) (asrt (0 ≤ x1693) (asrt (x1693 < (a0.f0.length : Int)) ((headgateref01_PutLittle.f K ((rdL T_api_Reg.z a0.f0 x1693).f1) 8).bind fun t1743 => (asrt (((strOfNums ([IntKind.wrap .u8 (IntKind.wrap .i64 (x1693 + 1)), 0, x1722] : List Int)) ++ (strOfNums (List.replicate (13 : Int).toNat (0 : Int)))).size + t1743.size ≤ 9223372036854775807) (asrt (x1692.size + (((strOfNums ([IntKind.wrap .u8 (IntKind.wrap .i64 (x1693 + 1)), 0, x1722] : List Int)) ++ (strOfNums (List.replicate (13 : Int).toNat (0 : Int)))) ++ t1743).size ≤ 9223372036854775807) (again1691 (x1692 ++ (((strOfNums ([IntKind.wrap .u8 (IntKind.wrap .i64 (x1693 + 1)), 0, x1722] : List Int)) ++ (strOfNums (List.replicate (13 : Int).toNat (0 : Int)))) ++ t1743)) (IntKind.wrap .i64 (x1693 + 1))))))))
def headgateref27_Report.b0 (K : Nat) (a0 : T_api_Table) (again1691 : ByteArray → Int → Option ByteArray) (x1692 : ByteArray) (x1693 : Int) : Option ByteArray :=
  if x1693 < (mn (a0.f0.length : Int) 16) then (asrt (0 ≤ x1693) (asrt (x1693 < (a0.f0.length : Int)) ((headgateref10_Holds.f K (⟨a0.f0, (⟨a0.f1.f0, a0.f1.f1⟩ : T_api_Hold), a0.f2, a0.f3⟩ : T_api_Table) ((rdL T_api_Reg.z a0.f0 x1693).f0)).bind fun t1716 => (if t1716 = true then (headgateref27_Report.j2 K a0 again1691 x1692 x1693 1) else (headgateref27_Report.j2 K a0 again1691 x1692 x1693 0))))) else (some x1692)
def headgateref27_Report.l0 (K : Nat) (a0 : T_api_Table) : Nat → ByteArray → Int → Option ByteArray
  | 0, _, _ => none
  | k_ + 1, x1692, x1693 => headgateref27_Report.b0 K a0 (headgateref27_Report.l0 K a0 k_) x1692 x1693
def headgateref27_Report.j1 (K : Nat) (a0 : T_api_Table) (x1549 : Int) (x1556 : Int) : Option ByteArray :=
  (headgateref01_PutLittle.f K (IntKind.wrap .u64 a0.f2) 4).bind fun t1560 => (asrt (t1560.size + (strOfNums ([x1549, IntKind.wrap .u8 (mn (a0.f0.length : Int) 16), 0, 0, 0, x1556] : List Int)).size ≤ 9223372036854775807) (asrt ((t1560 ++ (strOfNums ([x1549, IntKind.wrap .u8 (mn (a0.f0.length : Int) 16), 0, 0, 0, x1556] : List Int))).size + (strOfNums (List.replicate (14 : Int).toNat (0 : Int))).size ≤ 9223372036854775807) (headgateref27_Report.l0 K a0 K ((t1560 ++ (strOfNums ([x1549, IntKind.wrap .u8 (mn (a0.f0.length : Int) 16), 0, 0, 0, x1556] : List Int))) ++ (strOfNums (List.replicate (14 : Int).toNat (0 : Int)))) 0)))
def headgateref27_Report.j0 (K : Nat) (a0 : T_api_Table) (x1549 : Int) : Option ByteArray :=
  if a0.f3 = true then (headgateref27_Report.j1 K a0 x1549 1) else (headgateref27_Report.j1 K a0 x1549 0)
def headgateref27_Report.f (K : Nat) (a0 : T_api_Table) : Option ByteArray :=
  (headgateref10_Type.f a0.f1.f0).bind fun t1544 => (if t1544 = true then (headgateref27_Report.j0 K a0 (IntKind.wrap .u8 a0.f1.f0)) else (headgateref27_Report.j0 K a0 0))
set_option maxRecDepth 100000 in
set_option maxHeartbeats 4000000 in
theorem headgateref27_Report.calls (K : Nat) (a0 : T_api_Table) (A0_0 : Option Addr) (c0_0 : Nat) (r : ByteArray) (w : World) (hr0_0 : Rd 2 w (.slice A0_0 a0.f0.length c0_0) a0.f0.length (encs T_api_Reg.enc a0.f0)) (h : headgateref27_Report.f K a0 = some r) :
    Calls Tryd.prog 18 #[.agg #[.slice A0_0 a0.f0.length c0_0, .int .i64 a0.f1.f0, .string a0.f1.f1, .int .u32 a0.f2, .bool a0.f3]] w (fun e W' => e = .returned (.string r) ∧ Wd w W' [] [] ) := by
  refine sxstart (n := 70) (l := [(0, .agg #[.slice A0_0 a0.f0.length c0_0, .int .i64 a0.f1.f0, .string a0.f1.f1, .int .u32 a0.f2, .bool a0.f3])]) Tryd.func18 rfl rfl (Nat.le_of_ble_eq_true KR) (subsA_cons rfl (subsA_nil _)) ?_
  intro a ha
  have HW := Wd.refl w
  unfold headgateref27_Report.f at h
  refine wp_seq_k (fun K1532 hK1533 => ?_)
  refine wp_region_lit ?_
  refine stepnew ha HW 1 #[.slice A0_0 a0.f0.length c0_0, .int .i64 a0.f1.f0, .string a0.f1.f1, .int .u32 a0.f2, .bool a0.f3] 27 KR KR ?_; clear ha HW a; intro b1534 a W1535 HW ha
  refine stepp ha 2 (.string (⟨#[]⟩ : ByteArray)) KR KR ?_; clear ha a; intro a ha
  refine endl ?_
  refine thenN (hK1533 _ _ ?_); clear hK1533
  refine wp_seq_k (fun K1536 hK1537 => ?_)
  refine wp_region_lit ?_
  refine stepp ha 9 (.pointer (some ⟨b1534, 0, none⟩)) KR KR ?_; clear ha a; intro a ha
  refine stepl ha 10 (HW.ca (i := 0) (b := b1534) (C := #[.slice A0_0 a0.f0.length c0_0, .int .i64 a0.f1.f0, .string a0.f1.f1, .int .u32 a0.f2, .bool a0.f3]) (T := 27) (fr := (0, 0)) KR) 22 0 (.tmp 9) (.slice A0_0 a0.f0.length c0_0) rfl KR KR KR ?_; clear ha a; intro a ha
  refine stepp ha 11 (.int .i64 (a0.f0.length : Int)) KR KR ?_; clear ha a; intro a ha
  refine stepmn ha 12 #[3, 3] (.tmp 11) (.const (.int .i64 16)) .i64 (a0.f0.length : Int) 16 rfl KR KR KR ?_; clear ha a; intro a ha
  refine stepp ha 3 (.int .i64 (mn (a0.f0.length : Int) 16)) KR KR ?_; clear ha a; intro a ha
  refine endl ?_
  refine thenN (hK1537 _ _ ?_); clear hK1537
  refine wp_seq_k (fun K1538 hK1539 => ?_)
  refine wp_region_lit ?_
  refine stepp ha 4 (.int .u8 0) KR KR ?_; clear ha a; intro a ha
  refine stepp ha 5 (.int .u8 0) KR KR ?_; clear ha a; intro a ha
  refine endl ?_
  refine thenN (hK1539 _ _ ?_); clear hK1539
  refine wp_seq_k (fun K1540 hK1541 => ?_)
  refine cutn (fun a W1550 => ∃ (x1549 : Int), headgateref27_Report.j0 K a0 x1549 = some r ∧ Has 70 [(1, .pointer (some ⟨b1534, 0, none⟩)), (3, .int .i64 (mn (a0.f0.length : Int) 16)), (4, .int .u8 x1549), (5, .int .u8 0)] a ∧ Wd w W1550 [(b1534, .cells #[.slice A0_0 a0.f0.length c0_0, .int .i64 a0.f1.f0, .string a0.f1.f1, .int .u32 a0.f2, .bool a0.f3] 27 (0, 0))] []) ?_ ?_
  · skip
    refine wp_seq_k (fun K1542 hK1543 => ?_)
    refine wp_region_lit ?_
    refine stepp ha 13 (.pointer (some ⟨b1534, 1, none⟩)) KR KR ?_; clear ha a; intro a ha
    refine stepp ha 14 (.pointer (some ⟨b1534, 1, none⟩)) KR KR ?_; clear ha a; intro a ha
    refine stepl ha 15 (HW.ca (i := 0) (b := b1534) (C := #[.slice A0_0 a0.f0.length c0_0, .int .i64 a0.f1.f0, .string a0.f1.f1, .int .u32 a0.f2, .bool a0.f3]) (T := 27) (fr := (0, 0)) KR) 3 1 (.tmp 14) (.int .i64 a0.f1.f0) rfl KR KR KR ?_; clear ha a; intro a ha
    obtain ⟨t1544, ht1545, h_⟩ := bind_some' h; clear h; have h := h_; clear h_
    refine stepc ha 16 KR KR (headgateref10_Type.calls a0.f1.f0 t1544 _ ht1545) ?_; clear ha a; rintro e W1546 ⟨rfl, HX1547⟩
    refine ⟨_, rfl, ?_⟩; intro a ha; replace HW := HW.callw HX1547; clear HX1547
    refine endl ?_
    refine thenN (hK1543 _ _ ?_); clear hK1543
    by_cases hp1548 : t1544 = true
    · skip
      replace h := ite_pos' h hp1548
      refine condT ha KR KR (t := t1544) (hp1548) ?_
      refine wp_region_lit ?_
      refine stepp ha 17 (.pointer (some ⟨b1534, 1, none⟩)) KR KR ?_; clear ha a; intro a ha
      refine stepp ha 18 (.pointer (some ⟨b1534, 1, none⟩)) KR KR ?_; clear ha a; intro a ha
      refine stepl ha 19 (HW.ca (i := 0) (b := b1534) (C := #[.slice A0_0 a0.f0.length c0_0, .int .i64 a0.f1.f0, .string a0.f1.f1, .int .u32 a0.f2, .bool a0.f3]) (T := 27) (fr := (0, 0)) KR) 3 1 (.tmp 18) (.int .i64 a0.f1.f0) rfl KR KR KR ?_; clear ha a; intro a ha
      refine stepp ha 20 (.int .u8 (IntKind.wrap .u8 a0.f1.f0)) KR KR ?_; clear ha a; intro a ha
      refine stepp ha 4 (.int .u8 (IntKind.wrap .u8 a0.f1.f0)) KR KR ?_; clear ha a; intro a ha
      refine endl ?_
      exact thenN ⟨IntKind.wrap .u8 a0.f1.f0, h, ha.sub (subs_cons KR (subs_cons KR (subs_cons KR (subs_cons KR (subs_nil _))))), HW.pick [0] [] (by decide) (by decide) KR KR⟩
    · skip
      replace h := ite_neg' h hp1548
      refine condF ha KR KR (t := t1544) (bool_f hp1548) ?_
      refine wp_skip ?_
      exact thenN ⟨0, h, ha.sub (subs_cons KR (subs_cons KR (subs_cons KR (subs_cons KR (subs_nil _))))), HW.pick [0] [] (by decide) (by decide) KR KR⟩
  · skip
    intro a W1550 hJ
    obtain ⟨x1549, h, ha, HW⟩ := hJ
    replace h : headgateref27_Report.j0 K a0 x1549 = some r := h
    unfold headgateref27_Report.j0 at h
    refine hK1541 _ _ ?_; clear hK1541
    refine wp_seq_k (fun K1551 hK1552 => ?_)
    refine cutn (fun a W1557 => ∃ (x1556 : Int), headgateref27_Report.j1 K a0 x1549 x1556 = some r ∧ Has 70 [(1, .pointer (some ⟨b1534, 0, none⟩)), (3, .int .i64 (mn (a0.f0.length : Int) 16)), (4, .int .u8 x1549), (5, .int .u8 x1556)] a ∧ Wd w W1557 [(b1534, .cells #[.slice A0_0 a0.f0.length c0_0, .int .i64 a0.f1.f0, .string a0.f1.f1, .int .u32 a0.f2, .bool a0.f3] 27 (0, 0))] []) ?_ ?_
    · skip
      refine wp_seq_k (fun K1553 hK1554 => ?_)
      refine wp_region_lit ?_
      refine stepp ha 21 (.pointer (some ⟨b1534, 4, none⟩)) KR KR ?_; clear ha a; intro a ha
      refine stepl ha 22 (HW.ca (i := 0) (b := b1534) (C := #[.slice A0_0 a0.f0.length c0_0, .int .i64 a0.f1.f0, .string a0.f1.f1, .int .u32 a0.f2, .bool a0.f3]) (T := 27) (fr := (0, 0)) KR) 4 4 (.tmp 21) (.bool a0.f3) rfl KR KR KR ?_; clear ha a; intro a ha
      refine endl ?_
      refine thenN (hK1554 _ _ ?_); clear hK1554
      by_cases hp1555 : a0.f3 = true
      · skip
        replace h := ite_pos' h hp1555
        refine condT ha KR KR (t := a0.f3) (hp1555) ?_
        refine wp_region_lit ?_
        refine stepp ha 5 (.int .u8 1) KR KR ?_; clear ha a; intro a ha
        refine endl ?_
        exact thenN ⟨1, h, ha.sub (subs_cons KR (subs_cons KR (subs_cons KR (subs_cons KR (subs_nil _))))), HW.pick [0] [] (by decide) (by decide) KR KR⟩
      · skip
        replace h := ite_neg' h hp1555
        refine condF ha KR KR (t := a0.f3) (bool_f hp1555) ?_
        refine wp_skip ?_
        exact thenN ⟨0, h, ha.sub (subs_cons KR (subs_cons KR (subs_cons KR (subs_cons KR (subs_nil _))))), HW.pick [0] [] (by decide) (by decide) KR KR⟩
    · skip
      intro a W1557 hJ
      obtain ⟨x1556, h, ha, HW⟩ := hJ
      replace h : headgateref27_Report.j1 K a0 x1549 x1556 = some r := h
      unfold headgateref27_Report.j1 at h
      refine hK1552 _ _ ?_; clear hK1552
      refine wp_seq_k (fun K1558 hK1559 => ?_)
      obtain ⟨t1560, ht1561, h_⟩ := bind_some' h; clear h; have h := h_; clear h_
      obtain ⟨hA1570, h_⟩ := asrt_some h; clear h; have h := h_; clear h_
      obtain ⟨hA1577, h_⟩ := asrt_some h; clear h; have h := h_; clear h_
      refine regionG 14 KR KR ha HW [.fix (.pointer (some ⟨b1534, 3, none⟩)), .fix (.int .u32 a0.f2), .fix (.int .u64 (IntKind.wrap .u64 a0.f2)), .fix (.string t1560), .fix (.int .u8 x1549), .fix (.int .i64 (mn (a0.f0.length : Int) 16)), .fix (.int .u8 (IntKind.wrap .u8 (mn (a0.f0.length : Int) 16))), .fix (.int .u8 x1556), .rd 1 ([x1549, IntKind.wrap .u8 (mn (a0.f0.length : Int) 16), 0, 0, 0, x1556] : List Int).length (encs (encI .u8) ([x1549, IntKind.wrap .u8 (mn (a0.f0.length : Int) 16), 0, 0, 0, x1556] : List Int)), .fix (.string (strOfNums ([x1549, IntKind.wrap .u8 (mn (a0.f0.length : Int) 16), 0, 0, 0, x1556] : List Int))), .fix (.string (t1560 ++ (strOfNums ([x1549, IntKind.wrap .u8 (mn (a0.f0.length : Int) 16), 0, 0, 0, x1556] : List Int)))), .rd 1 (List.replicate (14 : Int).toNat (0 : Int)).length (encs (encI .u8) (List.replicate (14 : Int).toNat (0 : Int))), .fix (.string (strOfNums (List.replicate (14 : Int).toNat (0 : Int)))), .fix (.string ((t1560 ++ (strOfNums ([x1549, IntKind.wrap .u8 (mn (a0.f0.length : Int) 16), 0, 0, 0, x1556] : List Int))) ++ (strOfNums (List.replicate (14 : Int).toNat (0 : Int)))))] ?_ ?_
      · skip
        refine ⟨?_, ?_, ?_, ?_, ?_, ?_, ?_, ?_, ?_, ?_, ?_, ?_, ?_, ?_, trivial⟩
        · skip
          intro a wr hn hd HW hs; have ha := hasNil hn hd
          have ha := ha.add (seeE hs 1 (.pointer (some ⟨b1534, 0, none⟩)) KR KR)
          refine yStep ha 23 KR ?_; intro l_ ha HK
          refine stepp ha 23 (.pointer (some ⟨b1534, 3, none⟩)) KR KR ?_; intro ax hax; exact HK _ _ _ hax rfl (Below.refl _ _)
        · skip
          intro a wr hn hd HW hs; have ha := hasNil hn hd
          have ha := ha.add (seeF hs 23 0 (.pointer (some ⟨b1534, 3, none⟩)) KR KR)
          refine yStep ha 24 KR ?_; intro l_ ha HK
          refine stepl ha 24 (HW.ca (i := 0) (b := b1534) (C := #[.slice A0_0 a0.f0.length c0_0, .int .i64 a0.f1.f0, .string a0.f1.f1, .int .u32 a0.f2, .bool a0.f3]) (T := 27) (fr := (0, 0)) KR) 25 3 (.tmp 23) (.int .u32 a0.f2) rfl KR KR KR ?_; intro ax hax; exact HK _ _ _ hax rfl (Below.refl _ _)
        · skip
          intro a wr hn hd HW hs; have ha := hasNil hn hd
          have ha := ha.add (seeF hs 24 1 (.int .u32 a0.f2) KR KR)
          refine yStep ha 25 KR ?_; intro l_ ha HK
          refine stepp ha 25 (.int .u64 (IntKind.wrap .u64 a0.f2)) KR KR ?_; intro ax hax; exact HK _ _ _ hax rfl (Below.refl _ _)
        · skip
          intro a wr hn hd HW hs; have ha := hasNil hn hd
          have ha := ha.add (seeF hs 25 2 (.int .u64 (IntKind.wrap .u64 a0.f2)) KR KR)
          refine yStep ha 26 KR ?_; intro l_ ha HK
          refine stepc ha 26 KR KR (headgateref01_PutLittle.calls K (IntKind.wrap .u64 a0.f2) 4 t1560 _ ht1561) ?_; rintro e W1562 ⟨rfl, HX1563⟩
          refine ⟨_, rfl, ?_⟩; intro ax hax; exact HK _ _ _ hax rfl HX1563.below
        · skip
          intro a wr hn hd HW hs; have ha := hasNil hn hd
          have ha := ha.add (seeE hs 4 (.int .u8 x1549) KR KR)
          refine yStep ha 27 KR ?_; intro l_ ha HK
          refine stepp ha 27 (.int .u8 x1549) KR KR ?_; intro ax hax; exact HK _ _ _ hax rfl (Below.refl _ _)
        · skip
          intro a wr hn hd HW hs; have ha := hasNil hn hd
          have ha := ha.add (seeE hs 3 (.int .i64 (mn (a0.f0.length : Int) 16)) KR KR)
          refine yStep ha 28 KR ?_; intro l_ ha HK
          refine stepp ha 28 (.int .i64 (mn (a0.f0.length : Int) 16)) KR KR ?_; intro ax hax; exact HK _ _ _ hax rfl (Below.refl _ _)
        · skip
          intro a wr hn hd HW hs; have ha := hasNil hn hd
          have ha := ha.add (seeF hs 28 5 (.int .i64 (mn (a0.f0.length : Int) 16)) KR KR)
          refine yStep ha 29 KR ?_; intro l_ ha HK
          refine stepp ha 29 (.int .u8 (IntKind.wrap .u8 (mn (a0.f0.length : Int) 16))) KR KR ?_; intro ax hax; exact HK _ _ _ hax rfl (Below.refl _ _)
        · skip
          intro a wr hn hd HW hs; have ha := hasNil hn hd
          have ha := ha.add (seeE hs 5 (.int .u8 x1556) KR KR)
          refine yStep ha 30 KR ?_; intro l_ ha HK
          refine stepp ha 30 (.int .u8 x1556) KR KR ?_; intro ax hax; exact HK _ _ _ hax rfl (Below.refl _ _)
        · skip
          intro a wr hn hd HW hs; have ha := hasNil hn hd
          have ha := ha.add (seeF hs 27 4 (.int .u8 x1549) KR KR)
          have ha := ha.add (seeF hs 29 6 (.int .u8 (IntKind.wrap .u8 (mn (a0.f0.length : Int) 16))) KR KR)
          have ha := ha.add (seeF hs 30 7 (.int .u8 x1556) KR KR)
          refine yStep ha 31 KR ?_; intro l_ ha HK
          refine stepbs ha (Wd.refl wr) 31 5 1 6 #[.int .u8 x1549, .int .u8 (IntKind.wrap .u8 (mn (a0.f0.length : Int) 16)), .int .u8 0, .int .u8 0, .int .u8 0, .int .u8 x1556] [.int .u8 x1549, .int .u8 (IntKind.wrap .u8 (mn (a0.f0.length : Int) 16)), .int .u8 0, .int .u8 0, .int .u8 0, .int .u8 x1556] (by decide) KR KR KR KR ?_; intro b1564 ax W1565 HV hax
          exact HK _ _ _ hax (show Rd 1 _ _ ([x1549, IntKind.wrap .u8 (mn (a0.f0.length : Int) 16), 0, 0, 0, x1556] : List Int).length (encs (encI .u8) ([x1549, IntKind.wrap .u8 (mn (a0.f0.length : Int) 16), 0, 0, 0, x1556] : List Int)) from HV.rdo (i := 0) (q := ⟨5, 1, .slice (some ⟨b1564, 0, none⟩) 6 6, 6, [.int .u8 x1549, .int .u8 (IntKind.wrap .u8 (mn (a0.f0.length : Int) 16)), .int .u8 0, .int .u8 0, .int .u8 0, .int .u8 x1556]⟩) KR) HV.below
        · skip
          intro a wr hn hd HW hs; have ha := hasNil hn hd
          obtain ⟨A1567, c1568, he_, hR1569⟩ := seeR hs 31 8 1 ([x1549, IntKind.wrap .u8 (mn (a0.f0.length : Int) 16), 0, 0, 0, x1556] : List Int).length (encs (encI .u8) ([x1549, IntKind.wrap .u8 (mn (a0.f0.length : Int) 16), 0, 0, 0, x1556] : List Int)) KR KR; have ha := ha.add he_
          refine yStep ha 32 KR ?_; intro l_ ha HK
          refine stepbt ha 32 97 9 5 (.tmp 31) (v := .slice A1567 ([x1549, IntKind.wrap .u8 (mn (a0.f0.length : Int) 16), 0, 0, 0, x1556] : List Int).length c1568) (xs := ([x1549, IntKind.wrap .u8 (mn (a0.f0.length : Int) 16), 0, 0, 0, x1556] : List Int)) hR1569 rfl KR KR KR KR KR ?_; intro ax hax; exact HK _ _ _ hax rfl (Below.refl _ _)
        · skip
          intro a wr hn hd HW hs; have ha := hasNil hn hd
          have ha := ha.add (seeF hs 26 3 (.string t1560) KR KR)
          have ha := ha.add (seeF hs 32 9 (.string (strOfNums ([x1549, IntKind.wrap .u8 (mn (a0.f0.length : Int) 16), 0, 0, 0, x1556] : List Int))) KR KR)
          refine yStep ha 33 KR ?_; intro l_ ha HK
          refine stepsa ha 33 9 9 (.tmp 26) (.tmp 32) t1560 (strOfNums ([x1549, IntKind.wrap .u8 (mn (a0.f0.length : Int) 16), 0, 0, 0, x1556] : List Int)) rfl KR KR (show (t1560).size + (strOfNums ([x1549, IntKind.wrap .u8 (mn (a0.f0.length : Int) 16), 0, 0, 0, x1556] : List Int)).size ≤ 9223372036854775807 from hA1570) KR ?_; intro ax hax; exact HK _ _ _ hax rfl (Below.refl _ _)
        · skip
          intro a wr hn hd HW hs; have ha := hasNil hn hd
          refine yStep ha 34 KR ?_; intro l_ ha HK
          refine stepmk (encI .u8) (0 : Int) ha (Wd.refl wr) 34 97 5 (.const (.int .i64 14)) (.const (.int .i64 14)) .i64 .i64 14 (.int .u8 0) 1 rfl KR KR KR KR rfl rfl (by decide) (by have := (show (14 : Int) ≤ 281474976710656 by decide); omega) (by have := (show (14 : Int) ≤ 281474976710656 by decide); omega) KR ?_; intro b1571 ax W1572 HV hax
          exact HK _ _ _ hax (show Rd 1 _ _ (List.replicate (14 : Int).toNat (0 : Int)).length (encs (encI .u8) (List.replicate (14 : Int).toNat (0 : Int))) from HV.rdo (i := 0) (q := ⟨5, 1, .slice (some ⟨b1571, 0, none⟩) (List.replicate (14 : Int).toNat (0 : Int)).length ((14 : Int).toNat), (List.replicate (14 : Int).toNat (0 : Int)).length, encs (encI .u8) (List.replicate (14 : Int).toNat (0 : Int))⟩) KR) HV.below
        · skip
          intro a wr hn hd HW hs; have ha := hasNil hn hd
          obtain ⟨A1574, c1575, he_, hR1576⟩ := seeR hs 34 11 1 (List.replicate (14 : Int).toNat (0 : Int)).length (encs (encI .u8) (List.replicate (14 : Int).toNat (0 : Int))) KR KR; have ha := ha.add he_
          refine yStep ha 35 KR ?_; intro l_ ha HK
          refine stepbt ha 35 97 9 5 (.tmp 34) (v := .slice A1574 (List.replicate (14 : Int).toNat (0 : Int)).length c1575) (xs := List.replicate (14 : Int).toNat (0 : Int)) hR1576 rfl KR KR KR KR KR ?_; intro ax hax; exact HK _ _ _ hax rfl (Below.refl _ _)
        · skip
          intro a wr hn hd HW hs; have ha := hasNil hn hd
          have ha := ha.add (seeF hs 33 10 (.string (t1560 ++ (strOfNums ([x1549, IntKind.wrap .u8 (mn (a0.f0.length : Int) 16), 0, 0, 0, x1556] : List Int)))) KR KR)
          have ha := ha.add (seeF hs 35 12 (.string (strOfNums (List.replicate (14 : Int).toNat (0 : Int)))) KR KR)
          refine yStep ha 36 KR ?_; intro l_ ha HK
          refine stepsa ha 36 9 9 (.tmp 33) (.tmp 35) (t1560 ++ (strOfNums ([x1549, IntKind.wrap .u8 (mn (a0.f0.length : Int) 16), 0, 0, 0, x1556] : List Int))) (strOfNums (List.replicate (14 : Int).toNat (0 : Int))) rfl KR KR (show (t1560 ++ (strOfNums ([x1549, IntKind.wrap .u8 (mn (a0.f0.length : Int) 16), 0, 0, 0, x1556] : List Int))).size + (strOfNums (List.replicate (14 : Int).toNat (0 : Int))).size ≤ 9223372036854775807 from hA1577) KR ?_; intro ax hax; exact HK _ _ _ hax rfl (Below.refl _ _)
      · skip
        intro a W1578 ha HW he hf
        replace ha := ha.add (he 1 (.pointer (some ⟨b1534, 0, none⟩)) KR KR)
        replace ha := ha.add (he 3 (.int .i64 (mn (a0.f0.length : Int) 16)) KR KR)
        replace ha := ha.add (gotF (m := 14) (j := 13) (d := 36) (v := .string ((t1560 ++ (strOfNums ([x1549, IntKind.wrap .u8 (mn (a0.f0.length : Int) 16), 0, 0, 0, x1556] : List Int))) ++ (strOfNums (List.replicate (14 : Int).toNat (0 : Int))))) hf KR KR KR)
        clear he hf
        refine stepp ha 6 (.string ((t1560 ++ (strOfNums ([x1549, IntKind.wrap .u8 (mn (a0.f0.length : Int) 16), 0, 0, 0, x1556] : List Int))) ++ (strOfNums (List.replicate (14 : Int).toNat (0 : Int))))) KR KR ?_; clear ha a; intro a ha
        refine endl ?_
        refine thenN (hK1559 _ _ ?_); clear hK1559
        refine wp_seq_k (fun K1579 hK1580 => ?_)
        refine wp_seq_k (fun K1581 hK1582 => ?_)
        refine wp_region_lit ?_
        refine stepp ha 7 (.int .i64 0) KR KR ?_; clear ha a; intro a ha
        refine endl ?_
        refine thenN (hK1582 _ _ ?_); clear hK1582
        refine wp_block ?_
        refine loopk (fun k => fun a W1694 => ∃ (x1692 : ByteArray), ∃ (x1693 : Int), headgateref27_Report.l0 K a0 k x1692 x1693 = some r ∧ Has 70 [(1, .pointer (some ⟨b1534, 0, none⟩)), (3, .int .i64 (mn (a0.f0.length : Int) 16)), (6, .string x1692), (7, .int .i64 x1693)] a ∧ Wd w W1694 [(b1534, .cells #[.slice A0_0 a0.f0.length c0_0, .int .i64 a0.f1.f0, .string a0.f1.f1, .int .u32 a0.f2, .bool a0.f3] 27 (0, 0))] []) K ?_ ?_
        · skip
          exact ⟨(t1560 ++ (strOfNums ([x1549, IntKind.wrap .u8 (mn (a0.f0.length : Int) 16), 0, 0, 0, x1556] : List Int))) ++ (strOfNums (List.replicate (14 : Int).toNat (0 : Int))), 0, h, ha.sub (subs_cons KR (subs_cons KR (subs_cons KR (subs_cons KR (subs_nil _))))), HW.pick [0] [] (by decide) (by decide) KR KR⟩
        · skip
          intro k a W1694 hI
          obtain ⟨x1692, x1693, h, ha, HW⟩ := hI
          cases k with
          | zero => exact (none_some (show none = some r from h)).elim
          | succ k1695 =>
            replace h : headgateref27_Report.b0 K a0 (headgateref27_Report.l0 K a0 k1695) x1692 x1693 = some r := h
            obtain ⟨again1691, hag1696⟩ : ∃ g_, g_ = headgateref27_Report.l0 K a0 k1695 := ⟨_, rfl⟩
            rw [← hag1696] at h
            unfold headgateref27_Report.b0 at h
            refine wp_seq_k (fun K1697 hK1698 => ?_)
            refine wp_seq_k (fun K1699 hK1700 => ?_)
            refine wp_region_lit ?_
            refine stepp ha 37 (.int .i64 x1693) KR KR ?_; clear ha a; intro a ha
            refine stepp ha 38 (.int .i64 (mn (a0.f0.length : Int) 16)) KR KR ?_; clear ha a; intro a ha
            refine stepp ha 39 (.bool (decide (x1693 < (mn (a0.f0.length : Int) 16)))) KR KR ?_; clear ha a; intro a ha
            refine endl ?_
            refine thenN (hK1700 _ _ ?_); clear hK1700
            by_cases hp1701 : x1693 < (mn (a0.f0.length : Int) 16)
            · skip
              replace h := ite_pos' h hp1701
              refine condT ha KR KR (t := decide (x1693 < (mn (a0.f0.length : Int) 16))) (decide_eq_true hp1701) ?_
              refine wp_skip ?_
              refine thenN (hK1698 _ _ ?_); clear hK1698
              refine wp_seq_k (fun K1702 hK1703 => ?_)
              refine wp_block ?_
              refine wp_seq_k (fun K1704 hK1705 => ?_)
              refine wp_region_lit ?_
              refine stepp ha 8 (.int .u8 0) KR KR ?_; clear ha a; intro a ha
              refine endl ?_
              refine thenN (hK1705 _ _ ?_); clear hK1705
              refine wp_seq_k (fun K1706 hK1707 => ?_)
              refine cutn (fun a W1723 => ∃ (x1722 : Int), headgateref27_Report.j2 K a0 again1691 x1692 x1693 x1722 = some r ∧ Has 70 [(1, .pointer (some ⟨b1534, 0, none⟩)), (3, .int .i64 (mn (a0.f0.length : Int) 16)), (6, .string x1692), (7, .int .i64 x1693), (8, .int .u8 x1722)] a ∧ Wd w W1723 [(b1534, .cells #[.slice A0_0 a0.f0.length c0_0, .int .i64 a0.f1.f0, .string a0.f1.f1, .int .u32 a0.f2, .bool a0.f3] 27 (0, 0))] []) ?_ ?_
              · skip
                refine wp_seq_k (fun K1708 hK1709 => ?_)
                obtain ⟨hA1710, h_⟩ := asrt_some h; clear h; have h := h_; clear h_
                obtain ⟨hA1711, h_⟩ := asrt_some h; clear h; have h := h_; clear h_
                obtain ⟨b1713, off1714, hA1715⟩ := Rd.addr ((HW.rd0 hr0_0)) hA1710 (show (x1693 : Int) < ((a0.f0).length : Int) from hA1711)
                obtain ⟨t1716, ht1717, h_⟩ := bind_some' h; clear h; have h := h_; clear h_
                refine regionG 8 KR KR ha HW [.fix (.agg #[.slice A0_0 a0.f0.length c0_0, .int .i64 a0.f1.f0, .string a0.f1.f1, .int .u32 a0.f2, .bool a0.f3]), .fix (.pointer (some ⟨b1534, 0, none⟩)), .fix (.slice A0_0 a0.f0.length c0_0), .fix (.int .i64 x1693), .fix (.pointer (some ⟨b1713, off1714 + (x1693 : Int).toNat * 2, none⟩)), .fix (.pointer (some ⟨b1713, off1714 + (x1693 : Int).toNat * 2, none⟩)), .fix (.string ((rdL T_api_Reg.z a0.f0 x1693).f0)), .fix (.bool t1716)] ?_ ?_
                · skip
                  refine ⟨?_, ?_, ?_, ?_, ?_, ?_, ?_, ?_, trivial⟩
                  · skip
                    intro a wr hn hd HW hs; have ha := hasNil hn hd
                    have ha := ha.add (seeE hs 1 (.pointer (some ⟨b1534, 0, none⟩)) KR KR)
                    refine yStep ha 42 KR ?_; intro l_ ha HK
                    refine stepl ha 42 (HW.ca (i := 0) (b := b1534) (C := #[.slice A0_0 a0.f0.length c0_0, .int .i64 a0.f1.f0, .string a0.f1.f1, .int .u32 a0.f2, .bool a0.f3]) (T := 27) (fr := (0, 0)) KR) 27 0 (.tmp 1) (.agg #[.slice A0_0 a0.f0.length c0_0, .int .i64 a0.f1.f0, .string a0.f1.f1, .int .u32 a0.f2, .bool a0.f3]) rfl KR KR KR ?_; intro ax hax; exact HK _ _ _ hax rfl (Below.refl _ _)
                  · skip
                    intro a wr hn hd HW hs; have ha := hasNil hn hd
                    have ha := ha.add (seeE hs 1 (.pointer (some ⟨b1534, 0, none⟩)) KR KR)
                    refine yStep ha 43 KR ?_; intro l_ ha HK
                    refine stepp ha 43 (.pointer (some ⟨b1534, 0, none⟩)) KR KR ?_; intro ax hax; exact HK _ _ _ hax rfl (Below.refl _ _)
                  · skip
                    intro a wr hn hd HW hs; have ha := hasNil hn hd
                    have ha := ha.add (seeF hs 43 1 (.pointer (some ⟨b1534, 0, none⟩)) KR KR)
                    refine yStep ha 44 KR ?_; intro l_ ha HK
                    refine stepl ha 44 (HW.ca (i := 0) (b := b1534) (C := #[.slice A0_0 a0.f0.length c0_0, .int .i64 a0.f1.f0, .string a0.f1.f1, .int .u32 a0.f2, .bool a0.f3]) (T := 27) (fr := (0, 0)) KR) 22 0 (.tmp 43) (.slice A0_0 a0.f0.length c0_0) rfl KR KR KR ?_; intro ax hax; exact HK _ _ _ hax rfl (Below.refl _ _)
                  · skip
                    intro a wr hn hd HW hs; have ha := hasNil hn hd
                    have ha := ha.add (seeE hs 7 (.int .i64 x1693) KR KR)
                    refine yStep ha 45 KR ?_; intro l_ ha HK
                    refine stepp ha 45 (.int .i64 x1693) KR KR ?_; intro ax hax; exact HK _ _ _ hax rfl (Below.refl _ _)
                  · skip
                    intro a wr hn hd HW hs; have ha := hasNil hn hd
                    have ha := ha.add (seeF hs 44 2 (.slice A0_0 a0.f0.length c0_0) KR KR)
                    have ha := ha.add (seeF hs 45 3 (.int .i64 x1693) KR KR)
                    replace ha := ha.turn 44 (u := .slice A0_0 a0.f0.length c0_0) (v := .slice (some ⟨b1713, off1714, none⟩) a0.f0.length c0_0) KR (by rw [hA1715])
                    refine yStep ha 46 KR ?_; intro l_ ha HK
                    refine stepif ha 46 (sz := 2) (len := a0.f0.length) (b := b1713) (off := off1714) (c := c0_0) 22 44 (.tmp 44) (.tmp 45) .i64 x1693 rfl KR KR KR KR hA1710 (show (x1693 : Int) < ((a0.f0).length : Int) from hA1711) KR ?_; intro ax hax; exact HK _ _ _ hax rfl (Below.refl _ _)
                  · skip
                    intro a wr hn hd HW hs; have ha := hasNil hn hd
                    have ha := ha.add (seeF hs 46 4 (.pointer (some ⟨b1713, off1714 + (x1693 : Int).toNat * 2, none⟩)) KR KR)
                    refine yStep ha 47 KR ?_; intro l_ ha HK
                    refine stepp ha 47 (.pointer (some ⟨b1713, off1714 + (x1693 : Int).toNat * 2, none⟩)) KR KR ?_; intro ax hax; exact HK _ _ _ hax rfl (Below.refl _ _)
                  · skip
                    intro a wr hn hd HW hs; have ha := hasNil hn hd
                    have ha := ha.add (seeF hs 47 5 (.pointer (some ⟨b1713, off1714 + (x1693 : Int).toNat * 2, none⟩)) KR KR)
                    refine yStep ha 48 KR ?_; intro l_ ha HK
                    refine stepl ha 48 (Rd.ca T_api_Reg.enc T_api_Reg.z (fun _ => rfl) (by have h_ := ((HW.rd0 hr0_0)); rw [hA1715] at h_; exact h_) hA1710 (show (x1693 : Int) < ((a0.f0).length : Int) from hA1711)) 9 0 (.tmp 47) (.string ((rdL T_api_Reg.z a0.f0 x1693).f0)) rfl KR KR KR ?_; intro ax hax; exact HK _ _ _ hax rfl (Below.refl _ _)
                  · skip
                    intro a wr hn hd HW hs; have ha := hasNil hn hd
                    have ha := ha.add (seeF hs 42 0 (.agg #[.slice A0_0 a0.f0.length c0_0, .int .i64 a0.f1.f0, .string a0.f1.f1, .int .u32 a0.f2, .bool a0.f3]) KR KR)
                    have ha := ha.add (seeF hs 48 6 (.string ((rdL T_api_Reg.z a0.f0 x1693).f0)) KR KR)
                    refine yStep ha 49 KR ?_; intro l_ ha HK
                    refine stepc ha 49 KR KR (headgateref10_Holds.calls K (⟨a0.f0, (⟨a0.f1.f0, a0.f1.f1⟩ : T_api_Hold), a0.f2, a0.f3⟩ : T_api_Table) ((rdL T_api_Reg.z a0.f0 x1693).f0) A0_0 c0_0 t1716 _ ((HW.rd0 hr0_0)) ht1717) ?_; rintro e W1718 ⟨rfl, HX1719⟩
                    refine ⟨_, rfl, ?_⟩; intro ax hax; exact HK _ _ _ hax rfl HX1719.below
                · skip
                  intro a W1720 ha HW he hf
                  replace ha := ha.add (he 1 (.pointer (some ⟨b1534, 0, none⟩)) KR KR)
                  replace ha := ha.add (he 3 (.int .i64 (mn (a0.f0.length : Int) 16)) KR KR)
                  replace ha := ha.add (he 6 (.string x1692) KR KR)
                  replace ha := ha.add (he 7 (.int .i64 x1693) KR KR)
                  replace ha := ha.add (he 8 (.int .u8 0) KR KR)
                  replace ha := ha.add (gotF (m := 8) (j := 7) (d := 49) (v := .bool t1716) hf KR KR KR)
                  clear he hf
                  refine endl ?_
                  refine thenN (hK1709 _ _ ?_); clear hK1709
                  by_cases hp1721 : t1716 = true
                  · skip
                    replace h := ite_pos' h hp1721
                    refine condT ha KR KR (t := t1716) (hp1721) ?_
                    refine wp_region_lit ?_
                    refine stepp ha 8 (.int .u8 1) KR KR ?_; clear ha a; intro a ha
                    refine endl ?_
                    exact thenN ⟨1, h, ha.sub (subs_cons KR (subs_cons KR (subs_cons KR (subs_cons KR (subs_cons KR (subs_nil _)))))), HW.pick [0] [] (by decide) (by decide) KR KR⟩
                  · skip
                    replace h := ite_neg' h hp1721
                    refine condF ha KR KR (t := t1716) (bool_f hp1721) ?_
                    refine wp_skip ?_
                    exact thenN ⟨0, h, ha.sub (subs_cons KR (subs_cons KR (subs_cons KR (subs_cons KR (subs_cons KR (subs_nil _)))))), HW.pick [0] [] (by decide) (by decide) KR KR⟩
              · skip
                intro a W1723 hJ
                obtain ⟨x1722, h, ha, HW⟩ := hJ
                replace h : headgateref27_Report.j2 K a0 again1691 x1692 x1693 x1722 = some r := h
                unfold headgateref27_Report.j2 at h
                refine hK1707 _ _ ?_; clear hK1707
                obtain ⟨hA1736, h_⟩ := asrt_some h; clear h; have h := h_; clear h_
                obtain ⟨hA1737, h_⟩ := asrt_some h; clear h; have h := h_; clear h_
                obtain ⟨hA1738, h_⟩ := asrt_some h; clear h; have h := h_; clear h_
                obtain ⟨b1740, off1741, hA1742⟩ := Rd.addr ((HW.rd0 hr0_0)) hA1737 (show (x1693 : Int) < ((a0.f0).length : Int) from hA1738)
                obtain ⟨t1743, ht1744, h_⟩ := bind_some' h; clear h; have h := h_; clear h_
                obtain ⟨hA1747, h_⟩ := asrt_some h; clear h; have h := h_; clear h_
                obtain ⟨hA1748, h_⟩ := asrt_some h; clear h; have h := h_; clear h_
                refine regionG 19 KR KR ha HW [.fix (.string x1692), .fix (.int .i64 x1693), .fix (.int .i64 (IntKind.wrap .i64 (x1693 + 1))), .fix (.int .u8 (IntKind.wrap .u8 (IntKind.wrap .i64 (x1693 + 1)))), .fix (.int .u8 x1722), .rd 1 ([IntKind.wrap .u8 (IntKind.wrap .i64 (x1693 + 1)), 0, x1722] : List Int).length (encs (encI .u8) ([IntKind.wrap .u8 (IntKind.wrap .i64 (x1693 + 1)), 0, x1722] : List Int)), .fix (.string (strOfNums ([IntKind.wrap .u8 (IntKind.wrap .i64 (x1693 + 1)), 0, x1722] : List Int))), .rd 1 (List.replicate (13 : Int).toNat (0 : Int)).length (encs (encI .u8) (List.replicate (13 : Int).toNat (0 : Int))), .fix (.string (strOfNums (List.replicate (13 : Int).toNat (0 : Int)))), .fix (.string ((strOfNums ([IntKind.wrap .u8 (IntKind.wrap .i64 (x1693 + 1)), 0, x1722] : List Int)) ++ (strOfNums (List.replicate (13 : Int).toNat (0 : Int))))), .fix (.pointer (some ⟨b1534, 0, none⟩)), .fix (.slice A0_0 a0.f0.length c0_0), .fix (.int .i64 x1693), .fix (.pointer (some ⟨b1740, off1741 + (x1693 : Int).toNat * 2, none⟩)), .fix (.pointer (some ⟨b1740, off1741 + (x1693 : Int).toNat * 2 + 1, none⟩)), .fix (.int .u64 ((rdL T_api_Reg.z a0.f0 x1693).f1)), .fix (.string t1743), .fix (.string (((strOfNums ([IntKind.wrap .u8 (IntKind.wrap .i64 (x1693 + 1)), 0, x1722] : List Int)) ++ (strOfNums (List.replicate (13 : Int).toNat (0 : Int)))) ++ t1743)), .fix (.string (x1692 ++ (((strOfNums ([IntKind.wrap .u8 (IntKind.wrap .i64 (x1693 + 1)), 0, x1722] : List Int)) ++ (strOfNums (List.replicate (13 : Int).toNat (0 : Int)))) ++ t1743)))] ?_ ?_
                · skip
                  refine ⟨?_, ?_, ?_, ?_, ?_, ?_, ?_, ?_, ?_, ?_, ?_, ?_, ?_, ?_, ?_, ?_, ?_, ?_, ?_, trivial⟩
                  · skip
                    intro a wr hn hd HW hs; have ha := hasNil hn hd
                    have ha := ha.add (seeE hs 6 (.string x1692) KR KR)
                    refine yStep ha 50 KR ?_; intro l_ ha HK
                    refine stepp ha 50 (.string x1692) KR KR ?_; intro ax hax; exact HK _ _ _ hax rfl (Below.refl _ _)
                  · skip
                    intro a wr hn hd HW hs; have ha := hasNil hn hd
                    have ha := ha.add (seeE hs 7 (.int .i64 x1693) KR KR)
                    refine yStep ha 51 KR ?_; intro l_ ha HK
                    refine stepp ha 51 (.int .i64 x1693) KR KR ?_; intro ax hax; exact HK _ _ _ hax rfl (Below.refl _ _)
                  · skip
                    intro a wr hn hd HW hs; have ha := hasNil hn hd
                    have ha := ha.add (seeF hs 51 1 (.int .i64 x1693) KR KR)
                    refine yStep ha 52 KR ?_; intro l_ ha HK
                    refine stepp ha 52 (.int .i64 (IntKind.wrap .i64 (x1693 + 1))) KR KR ?_; intro ax hax; exact HK _ _ _ hax rfl (Below.refl _ _)
                  · skip
                    intro a wr hn hd HW hs; have ha := hasNil hn hd
                    have ha := ha.add (seeF hs 52 2 (.int .i64 (IntKind.wrap .i64 (x1693 + 1))) KR KR)
                    refine yStep ha 53 KR ?_; intro l_ ha HK
                    refine stepp ha 53 (.int .u8 (IntKind.wrap .u8 (IntKind.wrap .i64 (x1693 + 1)))) KR KR ?_; intro ax hax; exact HK _ _ _ hax rfl (Below.refl _ _)
                  · skip
                    intro a wr hn hd HW hs; have ha := hasNil hn hd
                    have ha := ha.add (seeE hs 8 (.int .u8 x1722) KR KR)
                    refine yStep ha 54 KR ?_; intro l_ ha HK
                    refine stepp ha 54 (.int .u8 x1722) KR KR ?_; intro ax hax; exact HK _ _ _ hax rfl (Below.refl _ _)
                  · skip
                    intro a wr hn hd HW hs; have ha := hasNil hn hd
                    have ha := ha.add (seeF hs 53 3 (.int .u8 (IntKind.wrap .u8 (IntKind.wrap .i64 (x1693 + 1)))) KR KR)
                    have ha := ha.add (seeF hs 54 4 (.int .u8 x1722) KR KR)
                    refine yStep ha 55 KR ?_; intro l_ ha HK
                    refine stepbs ha (Wd.refl wr) 55 5 1 3 #[.int .u8 (IntKind.wrap .u8 (IntKind.wrap .i64 (x1693 + 1))), .int .u8 0, .int .u8 x1722] [.int .u8 (IntKind.wrap .u8 (IntKind.wrap .i64 (x1693 + 1))), .int .u8 0, .int .u8 x1722] (by decide) KR KR KR KR ?_; intro b1724 ax W1725 HV hax
                    exact HK _ _ _ hax (show Rd 1 _ _ ([IntKind.wrap .u8 (IntKind.wrap .i64 (x1693 + 1)), 0, x1722] : List Int).length (encs (encI .u8) ([IntKind.wrap .u8 (IntKind.wrap .i64 (x1693 + 1)), 0, x1722] : List Int)) from HV.rdo (i := 0) (q := ⟨5, 1, .slice (some ⟨b1724, 0, none⟩) 3 3, 3, [.int .u8 (IntKind.wrap .u8 (IntKind.wrap .i64 (x1693 + 1))), .int .u8 0, .int .u8 x1722]⟩) KR) HV.below
                  · skip
                    intro a wr hn hd HW hs; have ha := hasNil hn hd
                    obtain ⟨A1727, c1728, he_, hR1729⟩ := seeR hs 55 5 1 ([IntKind.wrap .u8 (IntKind.wrap .i64 (x1693 + 1)), 0, x1722] : List Int).length (encs (encI .u8) ([IntKind.wrap .u8 (IntKind.wrap .i64 (x1693 + 1)), 0, x1722] : List Int)) KR KR; have ha := ha.add he_
                    refine yStep ha 56 KR ?_; intro l_ ha HK
                    refine stepbt ha 56 97 9 5 (.tmp 55) (v := .slice A1727 ([IntKind.wrap .u8 (IntKind.wrap .i64 (x1693 + 1)), 0, x1722] : List Int).length c1728) (xs := ([IntKind.wrap .u8 (IntKind.wrap .i64 (x1693 + 1)), 0, x1722] : List Int)) hR1729 rfl KR KR KR KR KR ?_; intro ax hax; exact HK _ _ _ hax rfl (Below.refl _ _)
                  · skip
                    intro a wr hn hd HW hs; have ha := hasNil hn hd
                    refine yStep ha 57 KR ?_; intro l_ ha HK
                    refine stepmk (encI .u8) (0 : Int) ha (Wd.refl wr) 57 97 5 (.const (.int .i64 13)) (.const (.int .i64 13)) .i64 .i64 13 (.int .u8 0) 1 rfl KR KR KR KR rfl rfl (by decide) (by have := (show (13 : Int) ≤ 281474976710656 by decide); omega) (by have := (show (13 : Int) ≤ 281474976710656 by decide); omega) KR ?_; intro b1730 ax W1731 HV hax
                    exact HK _ _ _ hax (show Rd 1 _ _ (List.replicate (13 : Int).toNat (0 : Int)).length (encs (encI .u8) (List.replicate (13 : Int).toNat (0 : Int))) from HV.rdo (i := 0) (q := ⟨5, 1, .slice (some ⟨b1730, 0, none⟩) (List.replicate (13 : Int).toNat (0 : Int)).length ((13 : Int).toNat), (List.replicate (13 : Int).toNat (0 : Int)).length, encs (encI .u8) (List.replicate (13 : Int).toNat (0 : Int))⟩) KR) HV.below
                  · skip
                    intro a wr hn hd HW hs; have ha := hasNil hn hd
                    obtain ⟨A1733, c1734, he_, hR1735⟩ := seeR hs 57 7 1 (List.replicate (13 : Int).toNat (0 : Int)).length (encs (encI .u8) (List.replicate (13 : Int).toNat (0 : Int))) KR KR; have ha := ha.add he_
                    refine yStep ha 58 KR ?_; intro l_ ha HK
                    refine stepbt ha 58 97 9 5 (.tmp 57) (v := .slice A1733 (List.replicate (13 : Int).toNat (0 : Int)).length c1734) (xs := List.replicate (13 : Int).toNat (0 : Int)) hR1735 rfl KR KR KR KR KR ?_; intro ax hax; exact HK _ _ _ hax rfl (Below.refl _ _)
                  · skip
                    intro a wr hn hd HW hs; have ha := hasNil hn hd
                    have ha := ha.add (seeF hs 56 6 (.string (strOfNums ([IntKind.wrap .u8 (IntKind.wrap .i64 (x1693 + 1)), 0, x1722] : List Int))) KR KR)
                    have ha := ha.add (seeF hs 58 8 (.string (strOfNums (List.replicate (13 : Int).toNat (0 : Int)))) KR KR)
                    refine yStep ha 59 KR ?_; intro l_ ha HK
                    refine stepsa ha 59 9 9 (.tmp 56) (.tmp 58) (strOfNums ([IntKind.wrap .u8 (IntKind.wrap .i64 (x1693 + 1)), 0, x1722] : List Int)) (strOfNums (List.replicate (13 : Int).toNat (0 : Int))) rfl KR KR (show (strOfNums ([IntKind.wrap .u8 (IntKind.wrap .i64 (x1693 + 1)), 0, x1722] : List Int)).size + (strOfNums (List.replicate (13 : Int).toNat (0 : Int))).size ≤ 9223372036854775807 from hA1736) KR ?_; intro ax hax; exact HK _ _ _ hax rfl (Below.refl _ _)
                  · skip
                    intro a wr hn hd HW hs; have ha := hasNil hn hd
                    have ha := ha.add (seeE hs 1 (.pointer (some ⟨b1534, 0, none⟩)) KR KR)
                    refine yStep ha 60 KR ?_; intro l_ ha HK
                    refine stepp ha 60 (.pointer (some ⟨b1534, 0, none⟩)) KR KR ?_; intro ax hax; exact HK _ _ _ hax rfl (Below.refl _ _)
                  · skip
                    intro a wr hn hd HW hs; have ha := hasNil hn hd
                    have ha := ha.add (seeF hs 60 10 (.pointer (some ⟨b1534, 0, none⟩)) KR KR)
                    refine yStep ha 61 KR ?_; intro l_ ha HK
                    refine stepl ha 61 (HW.ca (i := 0) (b := b1534) (C := #[.slice A0_0 a0.f0.length c0_0, .int .i64 a0.f1.f0, .string a0.f1.f1, .int .u32 a0.f2, .bool a0.f3]) (T := 27) (fr := (0, 0)) KR) 22 0 (.tmp 60) (.slice A0_0 a0.f0.length c0_0) rfl KR KR KR ?_; intro ax hax; exact HK _ _ _ hax rfl (Below.refl _ _)
                  · skip
                    intro a wr hn hd HW hs; have ha := hasNil hn hd
                    have ha := ha.add (seeE hs 7 (.int .i64 x1693) KR KR)
                    refine yStep ha 62 KR ?_; intro l_ ha HK
                    refine stepp ha 62 (.int .i64 x1693) KR KR ?_; intro ax hax; exact HK _ _ _ hax rfl (Below.refl _ _)
                  · skip
                    intro a wr hn hd HW hs; have ha := hasNil hn hd
                    have ha := ha.add (seeF hs 61 11 (.slice A0_0 a0.f0.length c0_0) KR KR)
                    have ha := ha.add (seeF hs 62 12 (.int .i64 x1693) KR KR)
                    replace ha := ha.turn 61 (u := .slice A0_0 a0.f0.length c0_0) (v := .slice (some ⟨b1740, off1741, none⟩) a0.f0.length c0_0) KR (by rw [hA1742])
                    refine yStep ha 63 KR ?_; intro l_ ha HK
                    refine stepif ha 63 (sz := 2) (len := a0.f0.length) (b := b1740) (off := off1741) (c := c0_0) 22 44 (.tmp 61) (.tmp 62) .i64 x1693 rfl KR KR KR KR hA1737 (show (x1693 : Int) < ((a0.f0).length : Int) from hA1738) KR ?_; intro ax hax; exact HK _ _ _ hax rfl (Below.refl _ _)
                  · skip
                    intro a wr hn hd HW hs; have ha := hasNil hn hd
                    have ha := ha.add (seeF hs 63 13 (.pointer (some ⟨b1740, off1741 + (x1693 : Int).toNat * 2, none⟩)) KR KR)
                    refine yStep ha 64 KR ?_; intro l_ ha HK
                    refine stepp ha 64 (.pointer (some ⟨b1740, off1741 + (x1693 : Int).toNat * 2 + 1, none⟩)) KR KR ?_; intro ax hax; exact HK _ _ _ hax rfl (Below.refl _ _)
                  · skip
                    intro a wr hn hd HW hs; have ha := hasNil hn hd
                    have ha := ha.add (seeF hs 64 14 (.pointer (some ⟨b1740, off1741 + (x1693 : Int).toNat * 2 + 1, none⟩)) KR KR)
                    refine yStep ha 65 KR ?_; intro l_ ha HK
                    refine stepl ha 65 (Rd.ca T_api_Reg.enc T_api_Reg.z (fun _ => rfl) (by have h_ := ((HW.rd0 hr0_0)); rw [hA1742] at h_; exact h_) hA1737 (show (x1693 : Int) < ((a0.f0).length : Int) from hA1738)) 42 1 (.tmp 64) (.int .u64 ((rdL T_api_Reg.z a0.f0 x1693).f1)) rfl KR KR KR ?_; intro ax hax; exact HK _ _ _ hax rfl (Below.refl _ _)
                  · skip
                    intro a wr hn hd HW hs; have ha := hasNil hn hd
                    have ha := ha.add (seeF hs 65 15 (.int .u64 ((rdL T_api_Reg.z a0.f0 x1693).f1)) KR KR)
                    refine yStep ha 66 KR ?_; intro l_ ha HK
                    refine stepc ha 66 KR KR (headgateref01_PutLittle.calls K ((rdL T_api_Reg.z a0.f0 x1693).f1) 8 t1743 _ ht1744) ?_; rintro e W1745 ⟨rfl, HX1746⟩
                    refine ⟨_, rfl, ?_⟩; intro ax hax; exact HK _ _ _ hax rfl HX1746.below
                  · skip
                    intro a wr hn hd HW hs; have ha := hasNil hn hd
                    have ha := ha.add (seeF hs 59 9 (.string ((strOfNums ([IntKind.wrap .u8 (IntKind.wrap .i64 (x1693 + 1)), 0, x1722] : List Int)) ++ (strOfNums (List.replicate (13 : Int).toNat (0 : Int))))) KR KR)
                    have ha := ha.add (seeF hs 66 16 (.string t1743) KR KR)
                    refine yStep ha 67 KR ?_; intro l_ ha HK
                    refine stepsa ha 67 9 9 (.tmp 59) (.tmp 66) ((strOfNums ([IntKind.wrap .u8 (IntKind.wrap .i64 (x1693 + 1)), 0, x1722] : List Int)) ++ (strOfNums (List.replicate (13 : Int).toNat (0 : Int)))) t1743 rfl KR KR (show ((strOfNums ([IntKind.wrap .u8 (IntKind.wrap .i64 (x1693 + 1)), 0, x1722] : List Int)) ++ (strOfNums (List.replicate (13 : Int).toNat (0 : Int)))).size + (t1743).size ≤ 9223372036854775807 from hA1747) KR ?_; intro ax hax; exact HK _ _ _ hax rfl (Below.refl _ _)
                  · skip
                    intro a wr hn hd HW hs; have ha := hasNil hn hd
                    have ha := ha.add (seeF hs 50 0 (.string x1692) KR KR)
                    have ha := ha.add (seeF hs 67 17 (.string (((strOfNums ([IntKind.wrap .u8 (IntKind.wrap .i64 (x1693 + 1)), 0, x1722] : List Int)) ++ (strOfNums (List.replicate (13 : Int).toNat (0 : Int)))) ++ t1743)) KR KR)
                    refine yStep ha 68 KR ?_; intro l_ ha HK
                    refine stepsa ha 68 9 9 (.tmp 50) (.tmp 67) x1692 (((strOfNums ([IntKind.wrap .u8 (IntKind.wrap .i64 (x1693 + 1)), 0, x1722] : List Int)) ++ (strOfNums (List.replicate (13 : Int).toNat (0 : Int)))) ++ t1743) rfl KR KR (show (x1692).size + (((strOfNums ([IntKind.wrap .u8 (IntKind.wrap .i64 (x1693 + 1)), 0, x1722] : List Int)) ++ (strOfNums (List.replicate (13 : Int).toNat (0 : Int)))) ++ t1743).size ≤ 9223372036854775807 from hA1748) KR ?_; intro ax hax; exact HK _ _ _ hax rfl (Below.refl _ _)
                · skip
                  intro a W1749 ha HW he hf
                  replace ha := ha.add (he 1 (.pointer (some ⟨b1534, 0, none⟩)) KR KR)
                  replace ha := ha.add (he 3 (.int .i64 (mn (a0.f0.length : Int) 16)) KR KR)
                  replace ha := ha.add (he 7 (.int .i64 x1693) KR KR)
                  replace ha := ha.add (gotF (m := 19) (j := 18) (d := 68) (v := .string (x1692 ++ (((strOfNums ([IntKind.wrap .u8 (IntKind.wrap .i64 (x1693 + 1)), 0, x1722] : List Int)) ++ (strOfNums (List.replicate (13 : Int).toNat (0 : Int)))) ++ t1743))) hf KR KR KR)
                  clear he hf
                  refine stepp ha 6 (.string (x1692 ++ (((strOfNums ([IntKind.wrap .u8 (IntKind.wrap .i64 (x1693 + 1)), 0, x1722] : List Int)) ++ (strOfNums (List.replicate (13 : Int).toNat (0 : Int)))) ++ t1743))) KR KR ?_; clear ha a; intro a ha
                  refine endl ?_
                  refine blkN ?_
                  refine thenN (hK1703 _ _ ?_); clear hK1703
                  refine wp_region_lit ?_
                  refine stepp ha 40 (.int .i64 x1693) KR KR ?_; clear ha a; intro a ha
                  refine stepp ha 41 (.int .i64 (IntKind.wrap .i64 (x1693 + 1))) KR KR ?_; clear ha a; intro a ha
                  refine stepp ha 7 (.int .i64 (IntKind.wrap .i64 (x1693 + 1))) KR KR ?_; clear ha a; intro a ha
                  refine endl ?_
                  exact thenN ⟨k1695, Nat.lt_succ_self k1695, x1692 ++ (((strOfNums ([IntKind.wrap .u8 (IntKind.wrap .i64 (x1693 + 1)), 0, x1722] : List Int)) ++ (strOfNums (List.replicate (13 : Int).toNat (0 : Int)))) ++ t1743), IntKind.wrap .i64 (x1693 + 1), (by rw [← hag1696]; exact h), ha.sub (subs_cons KR (subs_cons KR (subs_cons KR (subs_cons KR (subs_nil _))))), HW.pick [0] [] (by decide) (by decide) KR KR⟩
            · skip
              replace h := ite_neg' h hp1701
              refine condF ha KR KR (t := decide (x1693 < (mn (a0.f0.length : Int) 16))) (decide_eq_false hp1701) ?_
              refine wp_exit ?_
              refine thenE ?_
              refine thenE ?_
              refine inBlk ?_
              refine thenN (hK1580 _ _ ?_); clear hK1580
              refine wp_seq_k (fun K1750 hK1751 => ?_)
              refine wp_region_lit ?_
              refine stepp ha 69 (.string x1692) KR KR ?_; clear ha a; intro a ha
              refine stepp ha 2 (.string x1692) KR KR ?_; clear ha a; intro a ha
              refine endl ?_
              refine thenN (hK1751 _ _ ?_); clear hK1751
              refine wp_ret ?_
              obtain rfl := Option.some.inj h
              exact finv ha _ _ rfl (.tmp (v := .string x1692) KR .nil) (.string x1692) rfl ⟨rfl, HW.pick [] [] (by decide) (by decide) rfl KR⟩
end Go.Proofs.YthjjbkgifelooaaDoor.F
