/- headgate/headgateref17.Unmap, headgate/headgateref01.Big, headgate/headgateref17.Ranges, headgate/headgatelaw17.InquiryRanges: plain functions, and that the calls come to what they say. No condition. -/
import Derived.Test.YtccmdlbdpapigaaFT
import Derived.Test.YtccmdlbdpapigaaF15
import Derived.Test.YtccmdlbdpapigaaF22
import Derived.Test.YtccmdlbdpapigaaF27
import Derived.Test.YtccmdlbdpapigaaF36
namespace Go.Proofs.Ytccmdlbdpapigaa.F
open Go Go.RowKit Go.Proofs.Ytccmdlbdpapigaa.X
set_option linter.unusedVariables false
set_option linter.unusedSimpArgs false
/-! ### headgate/headgateref17.Unmap: function 17 -/
def headgateref17_Unmap.b0 (K : Nat) (a0 : List T_api_Range) (again1570 : ByteArray → Int → Option (ByteArray × Int)) (x1571 : ByteArray) (x1572 : Int) : Option (ByteArray × Int) :=
  if x1572 < (a0.length : Int) then (asrt (0 ≤ x1572) (if ((rdL T_api_Range.z a0 x1572).f0) < 0 then (some ((⟨#[]⟩ : ByteArray), 180)) else (if ((rdL T_api_Range.z a0 x1572).f0) ≥ 2147483648 then (some ((⟨#[]⟩ : ByteArray), 180)) else (if ((rdL T_api_Range.z a0 x1572).f1) < 0 then (some ((⟨#[]⟩ : ByteArray), 180)) else (if ((rdL T_api_Range.z a0 x1572).f1) ≥ 4294967296 then (some ((⟨#[]⟩ : ByteArray), 180)) else ((headgateref01_PutBig.f K (IntKind.wrap .u64 ((rdL T_api_Range.z a0 x1572).f0)) 8).bind fun t1616 => ((headgateref01_PutBig.f K (IntKind.wrap .u64 ((rdL T_api_Range.z a0 x1572).f1)) 4).bind fun t1621 => (asrt (t1616.size + t1621.size ≤ 9223372036854775807) ((headgateref17_zeros.f 4).bind fun t1626 => (asrt ((t1616 ++ t1621).size + t1626.size ≤ 9223372036854775807) (asrt (x1571.size + ((t1616 ++ t1621) ++ t1626).size ≤ 9223372036854775807) (again1570 (x1571 ++ ((t1616 ++ t1621) ++ t1626)) (IntKind.wrap .i64 (x1572 + 1)))))))))))))) else (some (x1571, 0))
def headgateref17_Unmap.l0 (K : Nat) (a0 : List T_api_Range) : Nat → ByteArray → Int → Option (ByteArray × Int)
  | 0, _, _ => none
  | k_ + 1, x1571, x1572 => headgateref17_Unmap.b0 K a0 (headgateref17_Unmap.l0 K a0 k_) x1571 x1572
def headgateref17_Unmap.f (K : Nat) (a0 : List T_api_Range) : Option (ByteArray × Int) :=
  if (a0.length : Int) > 16 then (some ((⟨#[]⟩ : ByteArray), 180)) else ((headgateref01_PutBig.f K (IntKind.wrap .u64 (IntKind.wrap .i64 (6 + (IntKind.wrap .i64 (16 * (a0.length : Int)))))) 2).bind fun t1434 => ((headgateref01_PutBig.f K (IntKind.wrap .u64 (IntKind.wrap .i64 (16 * (a0.length : Int)))) 2).bind fun t1438 => (asrt (t1434.size + t1438.size ≤ 9223372036854775807) ((headgateref17_zeros.f 4).bind fun t1443 => (asrt ((t1434 ++ t1438).size + t1443.size ≤ 9223372036854775807) (headgateref17_Unmap.l0 K a0 K ((t1434 ++ t1438) ++ t1443) 0))))))
set_option maxRecDepth 100000 in
set_option maxHeartbeats 4000000 in
theorem headgateref17_Unmap.calls (K : Nat) (a0 : List T_api_Range) (A0_0 : Option Addr) (c0_0 : Nat) (r : ByteArray × Int) (w : World) (hr0_0 : Rd 2 w (.slice A0_0 a0.length c0_0) a0.length (encs T_api_Range.enc a0)) (h : headgateref17_Unmap.f K a0 = some r) :
    Calls Try.prog 17 #[.slice A0_0 a0.length c0_0] w (fun e W' => e = .returned (.tuple #[.string r.1, .int .i64 r.2]) ∧ Wd w W' [] [] ) := by
  refine sxstart (n := 79) (l := [(0, .slice A0_0 a0.length c0_0)]) Try.func17 rfl rfl (Nat.le_of_ble_eq_true KR) (subsA_cons rfl (subsA_nil _)) ?_
  intro a ha
  have HW := Wd.refl w
  unfold headgateref17_Unmap.f at h
  refine wp_seq_k (fun K1423 hK1424 => ?_)
  refine wp_region_lit ?_
  refine stepp ha 2 (.string (⟨#[]⟩ : ByteArray)) KR KR ?_; clear ha a; intro a ha
  refine stepp ha 3 (.int .i64 0) KR KR ?_; clear ha a; intro a ha
  refine endl ?_
  refine thenN (hK1424 _ _ ?_); clear hK1424
  refine wp_seq_k (fun K1425 hK1426 => ?_)
  refine wp_seq_k (fun K1427 hK1428 => ?_)
  refine wp_region_lit ?_
  refine stepp ha 6 (.slice A0_0 a0.length c0_0) KR KR ?_; clear ha a; intro a ha
  refine stepp ha 7 (.int .i64 (a0.length : Int)) KR KR ?_; clear ha a; intro a ha
  refine stepp ha 8 (.bool (decide ((a0.length : Int) > 16))) KR KR ?_; clear ha a; intro a ha
  refine endl ?_
  refine thenN (hK1428 _ _ ?_); clear hK1428
  by_cases hp1429 : (a0.length : Int) > 16
  · skip
    replace h := ite_pos' h hp1429
    refine condT ha KR KR (t := decide ((a0.length : Int) > 16)) (decide_eq_true hp1429) ?_
    refine wp_seq_k (fun K1430 hK1431 => ?_)
    refine wp_region_lit ?_
    refine stepp ha 2 (.string (⟨#[]⟩ : ByteArray)) KR KR ?_; clear ha a; intro a ha
    refine stepp ha 3 (.int .i64 180) KR KR ?_; clear ha a; intro a ha
    refine endl ?_
    refine thenN (hK1431 _ _ ?_); clear hK1431
    refine wp_ret ?_
    refine thenR ?_
    obtain rfl := Option.some.inj h
    exact finv ha _ _ rfl (.tmp (v := .string (⟨#[]⟩ : ByteArray)) KR (.tmp (v := .int .i64 180) KR .nil)) (.tuple #[.string (⟨#[]⟩ : ByteArray), .int .i64 180]) rfl ⟨rfl, HW.pick [] [] (by decide) (by decide) rfl KR⟩
  · skip
    replace h := ite_neg' h hp1429
    refine condF ha KR KR (t := decide ((a0.length : Int) > 16)) (decide_eq_false hp1429) ?_
    refine wp_skip ?_
    refine thenN (hK1426 _ _ ?_); clear hK1426
    refine wp_seq_k (fun K1432 hK1433 => ?_)
    refine wp_region_lit ?_
    refine stepp ha 9 (.slice A0_0 a0.length c0_0) KR KR ?_; clear ha a; intro a ha
    refine stepp ha 10 (.int .i64 (a0.length : Int)) KR KR ?_; clear ha a; intro a ha
    refine stepp ha 11 (.int .i64 (IntKind.wrap .i64 (16 * (a0.length : Int)))) KR KR ?_; clear ha a; intro a ha
    refine stepp ha 12 (.int .i64 (IntKind.wrap .i64 (6 + (IntKind.wrap .i64 (16 * (a0.length : Int)))))) KR KR ?_; clear ha a; intro a ha
    refine stepp ha 13 (.int .u64 (IntKind.wrap .u64 (IntKind.wrap .i64 (6 + (IntKind.wrap .i64 (16 * (a0.length : Int))))))) KR KR ?_; clear ha a; intro a ha
    obtain ⟨t1434, ht1435, h_⟩ := bind_some' h; clear h; have h := h_; clear h_
    refine stepc ha 14 KR KR (headgateref01_PutBig.calls K (IntKind.wrap .u64 (IntKind.wrap .i64 (6 + (IntKind.wrap .i64 (16 * (a0.length : Int)))))) 2 t1434 _ ht1435) ?_; clear ha a; rintro e W1436 ⟨rfl, HX1437⟩
    refine ⟨_, rfl, ?_⟩; intro a ha; replace HW := HW.callw HX1437; clear HX1437
    refine stepp ha 15 (.slice A0_0 a0.length c0_0) KR KR ?_; clear ha a; intro a ha
    refine stepp ha 16 (.int .i64 (a0.length : Int)) KR KR ?_; clear ha a; intro a ha
    refine stepp ha 17 (.int .i64 (IntKind.wrap .i64 (16 * (a0.length : Int)))) KR KR ?_; clear ha a; intro a ha
    refine stepp ha 18 (.int .u64 (IntKind.wrap .u64 (IntKind.wrap .i64 (16 * (a0.length : Int))))) KR KR ?_; clear ha a; intro a ha
    obtain ⟨t1438, ht1439, h_⟩ := bind_some' h; clear h; have h := h_; clear h_
    refine stepc ha 19 KR KR (headgateref01_PutBig.calls K (IntKind.wrap .u64 (IntKind.wrap .i64 (16 * (a0.length : Int)))) 2 t1438 _ ht1439) ?_; clear ha a; rintro e W1440 ⟨rfl, HX1441⟩
    refine ⟨_, rfl, ?_⟩; intro a ha; replace HW := HW.callw HX1441; clear HX1441
    obtain ⟨hA1442, h_⟩ := asrt_some h; clear h; have h := h_; clear h_
    refine stepsa ha 20 9 9 (.tmp 14) (.tmp 19) t1434 t1438 rfl KR KR (show (t1434).size + (t1438).size ≤ 9223372036854775807 from hA1442) KR ?_; clear ha a; intro a ha
    obtain ⟨t1443, ht1444, h_⟩ := bind_some' h; clear h; have h := h_; clear h_
    refine stepc ha 21 KR KR (headgateref17_zeros.calls 4 t1443 _ ht1444) ?_; clear ha a; rintro e W1445 ⟨rfl, HX1446⟩
    refine ⟨_, rfl, ?_⟩; intro a ha; replace HW := HW.callw HX1446; clear HX1446
    obtain ⟨hA1447, h_⟩ := asrt_some h; clear h; have h := h_; clear h_
    refine stepsa ha 22 9 9 (.tmp 20) (.tmp 21) (t1434 ++ t1438) t1443 rfl KR KR (show (t1434 ++ t1438).size + (t1443).size ≤ 9223372036854775807 from hA1447) KR ?_; clear ha a; intro a ha
    refine stepp ha 4 (.string ((t1434 ++ t1438) ++ t1443)) KR KR ?_; clear ha a; intro a ha
    refine endl ?_
    refine thenN (hK1433 _ _ ?_); clear hK1433
    refine wp_seq_k (fun K1448 hK1449 => ?_)
    refine wp_seq_k (fun K1450 hK1451 => ?_)
    refine wp_region_lit ?_
    refine stepp ha 5 (.int .i64 0) KR KR ?_; clear ha a; intro a ha
    refine endl ?_
    refine thenN (hK1451 _ _ ?_); clear hK1451
    refine wp_block ?_
    refine loopk (fun k => fun a W1573 => ∃ (x1571 : ByteArray), ∃ (x1572 : Int), headgateref17_Unmap.l0 K a0 k x1571 x1572 = some r ∧ Has 79 [(0, .slice A0_0 a0.length c0_0), (4, .string x1571), (5, .int .i64 x1572)] a ∧ Wd w W1573 [] []) K ?_ ?_
    · skip
      exact ⟨(t1434 ++ t1438) ++ t1443, 0, h, ha.sub (subs_cons KR (subs_cons KR (subs_cons KR (subs_nil _)))), HW.pick [] [] (by decide) (by decide) KR KR⟩
    · skip
      intro k a W1573 hI
      obtain ⟨x1571, x1572, h, ha, HW⟩ := hI
      cases k with
      | zero => exact (none_some (show none = some r from h)).elim
      | succ k1574 =>
        replace h : headgateref17_Unmap.b0 K a0 (headgateref17_Unmap.l0 K a0 k1574) x1571 x1572 = some r := h
        obtain ⟨again1570, hag1575⟩ : ∃ g_, g_ = headgateref17_Unmap.l0 K a0 k1574 := ⟨_, rfl⟩
        rw [← hag1575] at h
        unfold headgateref17_Unmap.b0 at h
        refine wp_seq_k (fun K1576 hK1577 => ?_)
        refine wp_seq_k (fun K1578 hK1579 => ?_)
        refine wp_region_lit ?_
        refine stepp ha 23 (.int .i64 x1572) KR KR ?_; clear ha a; intro a ha
        refine stepp ha 24 (.slice A0_0 a0.length c0_0) KR KR ?_; clear ha a; intro a ha
        refine stepp ha 25 (.int .i64 (a0.length : Int)) KR KR ?_; clear ha a; intro a ha
        refine stepp ha 26 (.bool (decide (x1572 < (a0.length : Int)))) KR KR ?_; clear ha a; intro a ha
        refine endl ?_
        refine thenN (hK1579 _ _ ?_); clear hK1579
        by_cases hp1580 : x1572 < (a0.length : Int)
        · skip
          replace h := ite_pos' h hp1580
          refine condT ha KR KR (t := decide (x1572 < (a0.length : Int))) (decide_eq_true hp1580) ?_
          refine wp_skip ?_
          refine thenN (hK1577 _ _ ?_); clear hK1577
          refine wp_seq_k (fun K1581 hK1582 => ?_)
          refine wp_block ?_
          refine wp_seq_k (fun K1583 hK1584 => ?_)
          refine wp_seq_k (fun K1585 hK1586 => ?_)
          refine wp_region_lit ?_
          refine stepp ha 29 (.slice A0_0 a0.length c0_0) KR KR ?_; clear ha a; intro a ha
          refine stepp ha 30 (.int .i64 x1572) KR KR ?_; clear ha a; intro a ha
          obtain ⟨hA1587, h_⟩ := asrt_some h; clear h; have h := h_; clear h_
          refine stepie T_api_Range.enc T_api_Range.z ha 31 (fun _ => rfl) (v := .slice A0_0 a0.length c0_0) (xs := a0) ((HW.rd0 hr0_0)) 34 53 (.tmp 29) (.tmp 30) .i64 x1572 rfl KR KR KR KR hA1587 (show (x1572 : Int) < ((a0).length : Int) from hp1580) KR ?_; clear ha a; intro b1588 off1589 a hC1590 ha
          refine stepp ha 32 (.pointer (some ⟨b1588, off1589, none⟩)) KR KR ?_; clear ha a; intro a ha
          refine stepl ha 33 hC1590 3 0 (.tmp 32) (.int .i64 ((rdL T_api_Range.z a0 x1572).f0)) rfl KR KR KR ?_; clear ha a; intro a ha
          refine stepp ha 34 (.bool (decide (((rdL T_api_Range.z a0 x1572).f0) < 0))) KR KR ?_; clear ha a; intro a ha
          refine stepp ha 35 (.bool (decide (((rdL T_api_Range.z a0 x1572).f0) < 0))) KR KR ?_; clear ha a; intro a ha
          by_cases hp1591 : ((rdL T_api_Range.z a0 x1572).f0) < 0
          · skip
            replace h := ite_pos' h hp1591
            replace ha := ha.bool 35 KR (decide_eq_true hp1591)
            refine stepo ha 36 KR ?_; clear ha a; intro a ha
            refine stepo ha 37 KR ?_; clear ha a; intro a ha
            refine stepo ha 38 KR ?_; clear ha a; intro a ha
            refine stepo ha 39 KR ?_; clear ha a; intro a ha
            refine stepo ha 40 KR ?_; clear ha a; intro a ha
            refine stepo ha 41 KR ?_; clear ha a; intro a ha
            refine stepp ha 42 (.bool true) KR KR ?_; clear ha a; intro a ha
            refine stepp ha 43 (.bool true) KR KR ?_; clear ha a; intro a ha
            refine stepo ha 44 KR ?_; clear ha a; intro a ha
            refine stepo ha 45 KR ?_; clear ha a; intro a ha
            refine stepo ha 46 KR ?_; clear ha a; intro a ha
            refine stepo ha 47 KR ?_; clear ha a; intro a ha
            refine stepo ha 48 KR ?_; clear ha a; intro a ha
            refine stepo ha 49 KR ?_; clear ha a; intro a ha
            refine stepp ha 50 (.bool true) KR KR ?_; clear ha a; intro a ha
            refine stepp ha 51 (.bool true) KR KR ?_; clear ha a; intro a ha
            refine stepo ha 52 KR ?_; clear ha a; intro a ha
            refine stepo ha 53 KR ?_; clear ha a; intro a ha
            refine stepo ha 54 KR ?_; clear ha a; intro a ha
            refine stepo ha 55 KR ?_; clear ha a; intro a ha
            refine stepo ha 56 KR ?_; clear ha a; intro a ha
            refine stepo ha 57 KR ?_; clear ha a; intro a ha
            refine stepp ha 58 (.bool true) KR KR ?_; clear ha a; intro a ha
            refine endl ?_
            refine thenN (hK1586 _ _ ?_); clear hK1586
            refine condT ha KR KR (t := true) (rfl) ?_
            refine wp_seq_k (fun K1603 hK1604 => ?_)
            refine wp_region_lit ?_
            refine stepp ha 2 (.string (⟨#[]⟩ : ByteArray)) KR KR ?_; clear ha a; intro a ha
            refine stepp ha 3 (.int .i64 180) KR KR ?_; clear ha a; intro a ha
            refine endl ?_
            refine thenN (hK1604 _ _ ?_); clear hK1604
            refine wp_ret ?_
            refine thenR ?_
            refine blkR ?_
            refine thenR ?_
            refine thenR ?_
            refine blkR ?_
            refine thenR ?_
            obtain rfl := Option.some.inj h
            exact finv ha _ _ rfl (.tmp (v := .string (⟨#[]⟩ : ByteArray)) KR (.tmp (v := .int .i64 180) KR .nil)) (.tuple #[.string (⟨#[]⟩ : ByteArray), .int .i64 180]) rfl ⟨rfl, HW.pick [] [] (by decide) (by decide) rfl KR⟩
          · skip
            replace h := ite_neg' h hp1591
            replace ha := ha.bool 35 KR (decide_eq_false hp1591)
            refine stepp ha 36 (.slice A0_0 a0.length c0_0) KR KR ?_; clear ha a; intro a ha
            refine stepp ha 37 (.int .i64 x1572) KR KR ?_; clear ha a; intro a ha
            refine stepie T_api_Range.enc T_api_Range.z ha 38 (fun _ => rfl) (v := .slice A0_0 a0.length c0_0) (xs := a0) ((HW.rd0 hr0_0)) 34 53 (.tmp 36) (.tmp 37) .i64 x1572 rfl KR KR KR KR hA1587 (show (x1572 : Int) < ((a0).length : Int) from hp1580) KR ?_; clear ha a; intro b1592 off1593 a hC1594 ha
            refine stepp ha 39 (.pointer (some ⟨b1592, off1593, none⟩)) KR KR ?_; clear ha a; intro a ha
            refine stepl ha 40 hC1594 3 0 (.tmp 39) (.int .i64 ((rdL T_api_Range.z a0 x1572).f0)) rfl KR KR KR ?_; clear ha a; intro a ha
            refine stepp ha 41 (.bool (decide (((rdL T_api_Range.z a0 x1572).f0) ≥ 2147483648))) KR KR ?_; clear ha a; intro a ha
            refine stepp ha 42 (.bool (decide (((rdL T_api_Range.z a0 x1572).f0) ≥ 2147483648))) KR KR ?_; clear ha a; intro a ha
            refine stepp ha 43 (.bool (decide (((rdL T_api_Range.z a0 x1572).f0) ≥ 2147483648))) KR KR ?_; clear ha a; intro a ha
            by_cases hp1595 : ((rdL T_api_Range.z a0 x1572).f0) ≥ 2147483648
            · skip
              replace h := ite_pos' h hp1595
              replace ha := ha.bool 43 KR (decide_eq_true hp1595)
              refine stepo ha 44 KR ?_; clear ha a; intro a ha
              refine stepo ha 45 KR ?_; clear ha a; intro a ha
              refine stepo ha 46 KR ?_; clear ha a; intro a ha
              refine stepo ha 47 KR ?_; clear ha a; intro a ha
              refine stepo ha 48 KR ?_; clear ha a; intro a ha
              refine stepo ha 49 KR ?_; clear ha a; intro a ha
              refine stepp ha 50 (.bool true) KR KR ?_; clear ha a; intro a ha
              refine stepp ha 51 (.bool true) KR KR ?_; clear ha a; intro a ha
              refine stepo ha 52 KR ?_; clear ha a; intro a ha
              refine stepo ha 53 KR ?_; clear ha a; intro a ha
              refine stepo ha 54 KR ?_; clear ha a; intro a ha
              refine stepo ha 55 KR ?_; clear ha a; intro a ha
              refine stepo ha 56 KR ?_; clear ha a; intro a ha
              refine stepo ha 57 KR ?_; clear ha a; intro a ha
              refine stepp ha 58 (.bool true) KR KR ?_; clear ha a; intro a ha
              refine endl ?_
              refine thenN (hK1586 _ _ ?_); clear hK1586
              refine condT ha KR KR (t := true) (rfl) ?_
              refine wp_seq_k (fun K1605 hK1606 => ?_)
              refine wp_region_lit ?_
              refine stepp ha 2 (.string (⟨#[]⟩ : ByteArray)) KR KR ?_; clear ha a; intro a ha
              refine stepp ha 3 (.int .i64 180) KR KR ?_; clear ha a; intro a ha
              refine endl ?_
              refine thenN (hK1606 _ _ ?_); clear hK1606
              refine wp_ret ?_
              refine thenR ?_
              refine blkR ?_
              refine thenR ?_
              refine thenR ?_
              refine blkR ?_
              refine thenR ?_
              obtain rfl := Option.some.inj h
              exact finv ha _ _ rfl (.tmp (v := .string (⟨#[]⟩ : ByteArray)) KR (.tmp (v := .int .i64 180) KR .nil)) (.tuple #[.string (⟨#[]⟩ : ByteArray), .int .i64 180]) rfl ⟨rfl, HW.pick [] [] (by decide) (by decide) rfl KR⟩
            · skip
              replace h := ite_neg' h hp1595
              replace ha := ha.bool 43 KR (decide_eq_false hp1595)
              refine stepp ha 44 (.slice A0_0 a0.length c0_0) KR KR ?_; clear ha a; intro a ha
              refine stepp ha 45 (.int .i64 x1572) KR KR ?_; clear ha a; intro a ha
              refine stepie T_api_Range.enc T_api_Range.z ha 46 (fun _ => rfl) (v := .slice A0_0 a0.length c0_0) (xs := a0) ((HW.rd0 hr0_0)) 34 53 (.tmp 44) (.tmp 45) .i64 x1572 rfl KR KR KR KR hA1587 (show (x1572 : Int) < ((a0).length : Int) from hp1580) KR ?_; clear ha a; intro b1596 off1597 a hC1598 ha
              refine stepp ha 47 (.pointer (some ⟨b1596, off1597 + 1, none⟩)) KR KR ?_; clear ha a; intro a ha
              refine stepl ha 48 hC1598 3 1 (.tmp 47) (.int .i64 ((rdL T_api_Range.z a0 x1572).f1)) rfl KR KR KR ?_; clear ha a; intro a ha
              refine stepp ha 49 (.bool (decide (((rdL T_api_Range.z a0 x1572).f1) < 0))) KR KR ?_; clear ha a; intro a ha
              refine stepp ha 50 (.bool (decide (((rdL T_api_Range.z a0 x1572).f1) < 0))) KR KR ?_; clear ha a; intro a ha
              refine stepp ha 51 (.bool (decide (((rdL T_api_Range.z a0 x1572).f1) < 0))) KR KR ?_; clear ha a; intro a ha
              by_cases hp1599 : ((rdL T_api_Range.z a0 x1572).f1) < 0
              · skip
                replace h := ite_pos' h hp1599
                replace ha := ha.bool 51 KR (decide_eq_true hp1599)
                refine stepo ha 52 KR ?_; clear ha a; intro a ha
                refine stepo ha 53 KR ?_; clear ha a; intro a ha
                refine stepo ha 54 KR ?_; clear ha a; intro a ha
                refine stepo ha 55 KR ?_; clear ha a; intro a ha
                refine stepo ha 56 KR ?_; clear ha a; intro a ha
                refine stepo ha 57 KR ?_; clear ha a; intro a ha
                refine stepp ha 58 (.bool true) KR KR ?_; clear ha a; intro a ha
                refine endl ?_
                refine thenN (hK1586 _ _ ?_); clear hK1586
                refine condT ha KR KR (t := true) (rfl) ?_
                refine wp_seq_k (fun K1607 hK1608 => ?_)
                refine wp_region_lit ?_
                refine stepp ha 2 (.string (⟨#[]⟩ : ByteArray)) KR KR ?_; clear ha a; intro a ha
                refine stepp ha 3 (.int .i64 180) KR KR ?_; clear ha a; intro a ha
                refine endl ?_
                refine thenN (hK1608 _ _ ?_); clear hK1608
                refine wp_ret ?_
                refine thenR ?_
                refine blkR ?_
                refine thenR ?_
                refine thenR ?_
                refine blkR ?_
                refine thenR ?_
                obtain rfl := Option.some.inj h
                exact finv ha _ _ rfl (.tmp (v := .string (⟨#[]⟩ : ByteArray)) KR (.tmp (v := .int .i64 180) KR .nil)) (.tuple #[.string (⟨#[]⟩ : ByteArray), .int .i64 180]) rfl ⟨rfl, HW.pick [] [] (by decide) (by decide) rfl KR⟩
              · skip
                replace h := ite_neg' h hp1599
                replace ha := ha.bool 51 KR (decide_eq_false hp1599)
                refine stepp ha 52 (.slice A0_0 a0.length c0_0) KR KR ?_; clear ha a; intro a ha
                refine stepp ha 53 (.int .i64 x1572) KR KR ?_; clear ha a; intro a ha
                refine stepie T_api_Range.enc T_api_Range.z ha 54 (fun _ => rfl) (v := .slice A0_0 a0.length c0_0) (xs := a0) ((HW.rd0 hr0_0)) 34 53 (.tmp 52) (.tmp 53) .i64 x1572 rfl KR KR KR KR hA1587 (show (x1572 : Int) < ((a0).length : Int) from hp1580) KR ?_; clear ha a; intro b1600 off1601 a hC1602 ha
                refine stepp ha 55 (.pointer (some ⟨b1600, off1601 + 1, none⟩)) KR KR ?_; clear ha a; intro a ha
                refine stepl ha 56 hC1602 3 1 (.tmp 55) (.int .i64 ((rdL T_api_Range.z a0 x1572).f1)) rfl KR KR KR ?_; clear ha a; intro a ha
                refine stepp ha 57 (.bool (decide (((rdL T_api_Range.z a0 x1572).f1) ≥ 4294967296))) KR KR ?_; clear ha a; intro a ha
                refine stepp ha 58 (.bool (decide (((rdL T_api_Range.z a0 x1572).f1) ≥ 4294967296))) KR KR ?_; clear ha a; intro a ha
                refine endl ?_
                refine thenN (hK1586 _ _ ?_); clear hK1586
                by_cases hp1609 : ((rdL T_api_Range.z a0 x1572).f1) ≥ 4294967296
                · skip
                  replace h := ite_pos' h hp1609
                  refine condT ha KR KR (t := decide (((rdL T_api_Range.z a0 x1572).f1) ≥ 4294967296)) (decide_eq_true hp1609) ?_
                  refine wp_seq_k (fun K1610 hK1611 => ?_)
                  refine wp_region_lit ?_
                  refine stepp ha 2 (.string (⟨#[]⟩ : ByteArray)) KR KR ?_; clear ha a; intro a ha
                  refine stepp ha 3 (.int .i64 180) KR KR ?_; clear ha a; intro a ha
                  refine endl ?_
                  refine thenN (hK1611 _ _ ?_); clear hK1611
                  refine wp_ret ?_
                  refine thenR ?_
                  refine blkR ?_
                  refine thenR ?_
                  refine thenR ?_
                  refine blkR ?_
                  refine thenR ?_
                  obtain rfl := Option.some.inj h
                  exact finv ha _ _ rfl (.tmp (v := .string (⟨#[]⟩ : ByteArray)) KR (.tmp (v := .int .i64 180) KR .nil)) (.tuple #[.string (⟨#[]⟩ : ByteArray), .int .i64 180]) rfl ⟨rfl, HW.pick [] [] (by decide) (by decide) rfl KR⟩
                · skip
                  replace h := ite_neg' h hp1609
                  refine condF ha KR KR (t := decide (((rdL T_api_Range.z a0 x1572).f1) ≥ 4294967296)) (decide_eq_false hp1609) ?_
                  refine wp_skip ?_
                  refine thenN (hK1584 _ _ ?_); clear hK1584
                  obtain ⟨b1613, off1614, hA1615⟩ := Rd.addr ((HW.rd0 hr0_0)) hA1587 (show (x1572 : Int) < ((a0).length : Int) from hp1580)
                  obtain ⟨t1616, ht1617, h_⟩ := bind_some' h; clear h; have h := h_; clear h_
                  obtain ⟨t1621, ht1622, h_⟩ := bind_some' h; clear h; have h := h_; clear h_
                  obtain ⟨hA1625, h_⟩ := asrt_some h; clear h; have h := h_; clear h_
                  obtain ⟨t1626, ht1627, h_⟩ := bind_some' h; clear h; have h := h_; clear h_
                  obtain ⟨hA1630, h_⟩ := asrt_some h; clear h; have h := h_; clear h_
                  obtain ⟨hA1631, h_⟩ := asrt_some h; clear h; have h := h_; clear h_
                  refine regionG 19 KR KR ha HW [.fix (.string x1571), .fix (.slice A0_0 a0.length c0_0), .fix (.int .i64 x1572), .fix (.pointer (some ⟨b1613, off1614 + (x1572 : Int).toNat * 2, none⟩)), .fix (.pointer (some ⟨b1613, off1614 + (x1572 : Int).toNat * 2, none⟩)), .fix (.int .i64 ((rdL T_api_Range.z a0 x1572).f0)), .fix (.int .u64 (IntKind.wrap .u64 ((rdL T_api_Range.z a0 x1572).f0))), .fix (.string t1616), .fix (.slice A0_0 a0.length c0_0), .fix (.int .i64 x1572), .fix (.pointer (some ⟨b1613, off1614 + (x1572 : Int).toNat * 2, none⟩)), .fix (.pointer (some ⟨b1613, off1614 + (x1572 : Int).toNat * 2 + 1, none⟩)), .fix (.int .i64 ((rdL T_api_Range.z a0 x1572).f1)), .fix (.int .u64 (IntKind.wrap .u64 ((rdL T_api_Range.z a0 x1572).f1))), .fix (.string t1621), .fix (.string (t1616 ++ t1621)), .fix (.string t1626), .fix (.string ((t1616 ++ t1621) ++ t1626)), .fix (.string (x1571 ++ ((t1616 ++ t1621) ++ t1626)))] ?_ ?_
                  · skip
                    refine ⟨?_, ?_, ?_, ?_, ?_, ?_, ?_, ?_, ?_, ?_, ?_, ?_, ?_, ?_, ?_, ?_, ?_, ?_, ?_, trivial⟩
                    · skip
                      intro a wr hn hd HW hs; have ha := hasNil hn hd
                      have ha := ha.add (seeE hs 4 (.string x1571) KR KR)
                      refine yStep ha 59 KR ?_; intro l_ ha HK
                      refine stepp ha 59 (.string x1571) KR KR ?_; intro ax hax; exact HK _ _ _ hax rfl (Below.refl _ _)
                    · skip
                      intro a wr hn hd HW hs; have ha := hasNil hn hd
                      have ha := ha.add (seeE hs 0 (.slice A0_0 a0.length c0_0) KR KR)
                      refine yStep ha 60 KR ?_; intro l_ ha HK
                      refine stepp ha 60 (.slice A0_0 a0.length c0_0) KR KR ?_; intro ax hax; exact HK _ _ _ hax rfl (Below.refl _ _)
                    · skip
                      intro a wr hn hd HW hs; have ha := hasNil hn hd
                      have ha := ha.add (seeE hs 5 (.int .i64 x1572) KR KR)
                      refine yStep ha 61 KR ?_; intro l_ ha HK
                      refine stepp ha 61 (.int .i64 x1572) KR KR ?_; intro ax hax; exact HK _ _ _ hax rfl (Below.refl _ _)
                    · skip
                      intro a wr hn hd HW hs; have ha := hasNil hn hd
                      have ha := ha.add (seeF hs 60 1 (.slice A0_0 a0.length c0_0) KR KR)
                      have ha := ha.add (seeF hs 61 2 (.int .i64 x1572) KR KR)
                      replace ha := ha.turn 60 (u := .slice A0_0 a0.length c0_0) (v := .slice (some ⟨b1613, off1614, none⟩) a0.length c0_0) KR (by rw [hA1615])
                      refine yStep ha 62 KR ?_; intro l_ ha HK
                      refine stepif ha 62 (sz := 2) (len := a0.length) (b := b1613) (off := off1614) (c := c0_0) 34 53 (.tmp 60) (.tmp 61) .i64 x1572 rfl KR KR KR KR hA1587 (show (x1572 : Int) < ((a0).length : Int) from hp1580) KR ?_; intro ax hax; exact HK _ _ _ hax rfl (Below.refl _ _)
                    · skip
                      intro a wr hn hd HW hs; have ha := hasNil hn hd
                      have ha := ha.add (seeF hs 62 3 (.pointer (some ⟨b1613, off1614 + (x1572 : Int).toNat * 2, none⟩)) KR KR)
                      refine yStep ha 63 KR ?_; intro l_ ha HK
                      refine stepp ha 63 (.pointer (some ⟨b1613, off1614 + (x1572 : Int).toNat * 2, none⟩)) KR KR ?_; intro ax hax; exact HK _ _ _ hax rfl (Below.refl _ _)
                    · skip
                      intro a wr hn hd HW hs; have ha := hasNil hn hd
                      have ha := ha.add (seeF hs 63 4 (.pointer (some ⟨b1613, off1614 + (x1572 : Int).toNat * 2, none⟩)) KR KR)
                      refine yStep ha 64 KR ?_; intro l_ ha HK
                      refine stepl ha 64 (Rd.ca T_api_Range.enc T_api_Range.z (fun _ => rfl) (by have h_ := ((HW.rd0 hr0_0)); rw [hA1615] at h_; exact h_) hA1587 (show (x1572 : Int) < ((a0).length : Int) from hp1580)) 3 0 (.tmp 63) (.int .i64 ((rdL T_api_Range.z a0 x1572).f0)) rfl KR KR KR ?_; intro ax hax; exact HK _ _ _ hax rfl (Below.refl _ _)
                    · skip
                      intro a wr hn hd HW hs; have ha := hasNil hn hd
                      have ha := ha.add (seeF hs 64 5 (.int .i64 ((rdL T_api_Range.z a0 x1572).f0)) KR KR)
                      refine yStep ha 65 KR ?_; intro l_ ha HK
                      refine stepp ha 65 (.int .u64 (IntKind.wrap .u64 ((rdL T_api_Range.z a0 x1572).f0))) KR KR ?_; intro ax hax; exact HK _ _ _ hax rfl (Below.refl _ _)
                    · skip
                      intro a wr hn hd HW hs; have ha := hasNil hn hd
                      have ha := ha.add (seeF hs 65 6 (.int .u64 (IntKind.wrap .u64 ((rdL T_api_Range.z a0 x1572).f0))) KR KR)
                      refine yStep ha 66 KR ?_; intro l_ ha HK
                      refine stepc ha 66 KR KR (headgateref01_PutBig.calls K (IntKind.wrap .u64 ((rdL T_api_Range.z a0 x1572).f0)) 8 t1616 _ ht1617) ?_; rintro e W1618 ⟨rfl, HX1619⟩
                      refine ⟨_, rfl, ?_⟩; intro ax hax; exact HK _ _ _ hax rfl HX1619.below
                    · skip
                      intro a wr hn hd HW hs; have ha := hasNil hn hd
                      have ha := ha.add (seeE hs 0 (.slice A0_0 a0.length c0_0) KR KR)
                      refine yStep ha 67 KR ?_; intro l_ ha HK
                      refine stepp ha 67 (.slice A0_0 a0.length c0_0) KR KR ?_; intro ax hax; exact HK _ _ _ hax rfl (Below.refl _ _)
                    · skip
                      intro a wr hn hd HW hs; have ha := hasNil hn hd
                      have ha := ha.add (seeE hs 5 (.int .i64 x1572) KR KR)
                      refine yStep ha 68 KR ?_; intro l_ ha HK
                      refine stepp ha 68 (.int .i64 x1572) KR KR ?_; intro ax hax; exact HK _ _ _ hax rfl (Below.refl _ _)
                    · skip
                      intro a wr hn hd HW hs; have ha := hasNil hn hd
                      have ha := ha.add (seeF hs 67 8 (.slice A0_0 a0.length c0_0) KR KR)
                      have ha := ha.add (seeF hs 68 9 (.int .i64 x1572) KR KR)
                      replace ha := ha.turn 67 (u := .slice A0_0 a0.length c0_0) (v := .slice (some ⟨b1613, off1614, none⟩) a0.length c0_0) KR (by rw [hA1615])
                      refine yStep ha 69 KR ?_; intro l_ ha HK
                      refine stepif ha 69 (sz := 2) (len := a0.length) (b := b1613) (off := off1614) (c := c0_0) 34 53 (.tmp 67) (.tmp 68) .i64 x1572 rfl KR KR KR KR hA1587 (show (x1572 : Int) < ((a0).length : Int) from hp1580) KR ?_; intro ax hax; exact HK _ _ _ hax rfl (Below.refl _ _)
                    · skip
                      intro a wr hn hd HW hs; have ha := hasNil hn hd
                      have ha := ha.add (seeF hs 69 10 (.pointer (some ⟨b1613, off1614 + (x1572 : Int).toNat * 2, none⟩)) KR KR)
                      refine yStep ha 70 KR ?_; intro l_ ha HK
                      refine stepp ha 70 (.pointer (some ⟨b1613, off1614 + (x1572 : Int).toNat * 2 + 1, none⟩)) KR KR ?_; intro ax hax; exact HK _ _ _ hax rfl (Below.refl _ _)
                    · skip
                      intro a wr hn hd HW hs; have ha := hasNil hn hd
                      have ha := ha.add (seeF hs 70 11 (.pointer (some ⟨b1613, off1614 + (x1572 : Int).toNat * 2 + 1, none⟩)) KR KR)
                      refine yStep ha 71 KR ?_; intro l_ ha HK
                      refine stepl ha 71 (Rd.ca T_api_Range.enc T_api_Range.z (fun _ => rfl) (by have h_ := ((HW.rd0 hr0_0)); rw [hA1615] at h_; exact h_) hA1587 (show (x1572 : Int) < ((a0).length : Int) from hp1580)) 3 1 (.tmp 70) (.int .i64 ((rdL T_api_Range.z a0 x1572).f1)) rfl KR KR KR ?_; intro ax hax; exact HK _ _ _ hax rfl (Below.refl _ _)
                    · skip
                      intro a wr hn hd HW hs; have ha := hasNil hn hd
                      have ha := ha.add (seeF hs 71 12 (.int .i64 ((rdL T_api_Range.z a0 x1572).f1)) KR KR)
                      refine yStep ha 72 KR ?_; intro l_ ha HK
                      refine stepp ha 72 (.int .u64 (IntKind.wrap .u64 ((rdL T_api_Range.z a0 x1572).f1))) KR KR ?_; intro ax hax; exact HK _ _ _ hax rfl (Below.refl _ _)
                    · skip
                      intro a wr hn hd HW hs; have ha := hasNil hn hd
                      have ha := ha.add (seeF hs 72 13 (.int .u64 (IntKind.wrap .u64 ((rdL T_api_Range.z a0 x1572).f1))) KR KR)
                      refine yStep ha 73 KR ?_; intro l_ ha HK
                      refine stepc ha 73 KR KR (headgateref01_PutBig.calls K (IntKind.wrap .u64 ((rdL T_api_Range.z a0 x1572).f1)) 4 t1621 _ ht1622) ?_; rintro e W1623 ⟨rfl, HX1624⟩
                      refine ⟨_, rfl, ?_⟩; intro ax hax; exact HK _ _ _ hax rfl HX1624.below
                    · skip
                      intro a wr hn hd HW hs; have ha := hasNil hn hd
                      have ha := ha.add (seeF hs 66 7 (.string t1616) KR KR)
                      have ha := ha.add (seeF hs 73 14 (.string t1621) KR KR)
                      refine yStep ha 74 KR ?_; intro l_ ha HK
                      refine stepsa ha 74 9 9 (.tmp 66) (.tmp 73) t1616 t1621 rfl KR KR (show (t1616).size + (t1621).size ≤ 9223372036854775807 from hA1625) KR ?_; intro ax hax; exact HK _ _ _ hax rfl (Below.refl _ _)
                    · skip
                      intro a wr hn hd HW hs; have ha := hasNil hn hd
                      refine yStep ha 75 KR ?_; intro l_ ha HK
                      refine stepc ha 75 KR KR (headgateref17_zeros.calls 4 t1626 _ ht1627) ?_; rintro e W1628 ⟨rfl, HX1629⟩
                      refine ⟨_, rfl, ?_⟩; intro ax hax; exact HK _ _ _ hax rfl HX1629.below
                    · skip
                      intro a wr hn hd HW hs; have ha := hasNil hn hd
                      have ha := ha.add (seeF hs 74 15 (.string (t1616 ++ t1621)) KR KR)
                      have ha := ha.add (seeF hs 75 16 (.string t1626) KR KR)
                      refine yStep ha 76 KR ?_; intro l_ ha HK
                      refine stepsa ha 76 9 9 (.tmp 74) (.tmp 75) (t1616 ++ t1621) t1626 rfl KR KR (show (t1616 ++ t1621).size + (t1626).size ≤ 9223372036854775807 from hA1630) KR ?_; intro ax hax; exact HK _ _ _ hax rfl (Below.refl _ _)
                    · skip
                      intro a wr hn hd HW hs; have ha := hasNil hn hd
                      have ha := ha.add (seeF hs 59 0 (.string x1571) KR KR)
                      have ha := ha.add (seeF hs 76 17 (.string ((t1616 ++ t1621) ++ t1626)) KR KR)
                      refine yStep ha 77 KR ?_; intro l_ ha HK
                      refine stepsa ha 77 9 9 (.tmp 59) (.tmp 76) x1571 ((t1616 ++ t1621) ++ t1626) rfl KR KR (show (x1571).size + ((t1616 ++ t1621) ++ t1626).size ≤ 9223372036854775807 from hA1631) KR ?_; intro ax hax; exact HK _ _ _ hax rfl (Below.refl _ _)
                  · skip
                    intro a W1632 ha HW he hf
                    replace ha := ha.add (he 0 (.slice A0_0 a0.length c0_0) KR KR)
                    replace ha := ha.add (he 5 (.int .i64 x1572) KR KR)
                    replace ha := ha.add (he 36 (.slice A0_0 a0.length c0_0) KR KR)
                    replace ha := ha.add (he 37 (.int .i64 x1572) KR KR)
                    replace ha := ha.add (he 40 (.int .i64 ((rdL T_api_Range.z a0 x1572).f0)) KR KR)
                    replace ha := ha.add (he 41 (.bool (decide (((rdL T_api_Range.z a0 x1572).f0) ≥ 2147483648))) KR KR)
                    replace ha := ha.add (he 44 (.slice A0_0 a0.length c0_0) KR KR)
                    replace ha := ha.add (he 45 (.int .i64 x1572) KR KR)
                    replace ha := ha.add (he 48 (.int .i64 ((rdL T_api_Range.z a0 x1572).f1)) KR KR)
                    replace ha := ha.add (he 49 (.bool (decide (((rdL T_api_Range.z a0 x1572).f1) < 0))) KR KR)
                    replace ha := ha.add (he 52 (.slice A0_0 a0.length c0_0) KR KR)
                    replace ha := ha.add (he 53 (.int .i64 x1572) KR KR)
                    replace ha := ha.add (he 56 (.int .i64 ((rdL T_api_Range.z a0 x1572).f1)) KR KR)
                    replace ha := ha.add (he 57 (.bool (decide (((rdL T_api_Range.z a0 x1572).f1) ≥ 4294967296))) KR KR)
                    replace ha := ha.add (gotF (m := 19) (j := 18) (d := 77) (v := .string (x1571 ++ ((t1616 ++ t1621) ++ t1626))) hf KR KR KR)
                    clear he hf
                    refine stepp ha 4 (.string (x1571 ++ ((t1616 ++ t1621) ++ t1626))) KR KR ?_; clear ha a; intro a ha
                    refine endl ?_
                    refine blkN ?_
                    refine thenN (hK1582 _ _ ?_); clear hK1582
                    refine wp_region_lit ?_
                    refine stepp ha 27 (.int .i64 x1572) KR KR ?_; clear ha a; intro a ha
                    refine stepp ha 28 (.int .i64 (IntKind.wrap .i64 (x1572 + 1))) KR KR ?_; clear ha a; intro a ha
                    refine stepp ha 5 (.int .i64 (IntKind.wrap .i64 (x1572 + 1))) KR KR ?_; clear ha a; intro a ha
                    refine endl ?_
                    exact thenN ⟨k1574, Nat.lt_succ_self k1574, x1571 ++ ((t1616 ++ t1621) ++ t1626), IntKind.wrap .i64 (x1572 + 1), (by rw [← hag1575]; exact h), ha.sub (subs_cons KR (subs_cons KR (subs_cons KR (subs_nil _)))), HW.pick [] [] (by decide) (by decide) KR KR⟩
        · skip
          replace h := ite_neg' h hp1580
          refine condF ha KR KR (t := decide (x1572 < (a0.length : Int))) (decide_eq_false hp1580) ?_
          refine wp_exit ?_
          refine thenE ?_
          refine thenE ?_
          refine inBlk ?_
          refine thenN (hK1449 _ _ ?_); clear hK1449
          refine wp_seq_k (fun K1633 hK1634 => ?_)
          refine wp_region_lit ?_
          refine stepp ha 78 (.string x1571) KR KR ?_; clear ha a; intro a ha
          refine stepp ha 2 (.string x1571) KR KR ?_; clear ha a; intro a ha
          refine stepp ha 3 (.int .i64 0) KR KR ?_; clear ha a; intro a ha
          refine endl ?_
          refine thenN (hK1634 _ _ ?_); clear hK1634
          refine wp_ret ?_
          obtain rfl := Option.some.inj h
          exact finv ha _ _ rfl (.tmp (v := .string x1571) KR (.tmp (v := .int .i64 0) KR .nil)) (.tuple #[.string x1571, .int .i64 0]) rfl ⟨rfl, HW.pick [] [] (by decide) (by decide) rfl KR⟩
/-! ### headgate/headgateref01.Big: function 30 -/
def headgateref01_Big.b0 (K : Nat) (a0 : ByteArray) (a1 : Int) (a2 : Int) (again1950 : Int → Int → Option (Int × Bool)) (x1951 : Int) (x1952 : Int) : Option (Int × Bool) :=
  if x1952 < a2 then (asrt (0 ≤ (IntKind.wrap .i64 (a1 + x1952))) (asrt ((IntKind.wrap .i64 (a1 + x1952)) < (a0.size : Int)) (again1950 (IntKind.wrap .u64 ((IntKind.wrap .u64 (x1951 * 256)) + (IntKind.wrap .u64 (bt a0 (IntKind.wrap .i64 (a1 + x1952)))))) (IntKind.wrap .i64 (x1952 + 1))))) else (some (x1951, true))
def headgateref01_Big.l0 (K : Nat) (a0 : ByteArray) (a1 : Int) (a2 : Int) : Nat → Int → Int → Option (Int × Bool)
  | 0, _, _ => none
  | k_ + 1, x1951, x1952 => headgateref01_Big.b0 K a0 a1 a2 (headgateref01_Big.l0 K a0 a1 a2 k_) x1951 x1952
def headgateref01_Big.f (K : Nat) (a0 : ByteArray) (a1 : Int) (a2 : Int) : Option (Int × Bool) :=
  if a2 < 1 then (some (0, false)) else (if a2 > 8 then (some (0, false)) else ((headgateref01_there.f a0 a1 a2).bind fun t1911 => (if t1911 = true then (headgateref01_Big.l0 K a0 a1 a2 K 0 0) else (some (0, false)))))
set_option maxRecDepth 100000 in
set_option maxHeartbeats 4000000 in
theorem headgateref01_Big.calls (K : Nat) (a0 : ByteArray) (a1 : Int) (a2 : Int)  (r : Int × Bool) (w : World)  (h : headgateref01_Big.f K a0 a1 a2 = some r) :
    Calls Try.prog 30 #[.string a0, .int .i64 a1, .int .i64 a2] w (fun e W' => e = .returned (.tuple #[.int .u64 r.1, .bool r.2]) ∧ Wd w W' [] [] ) := by
  refine sxstart (n := 38) (l := [(0, .string a0), (1, .int .i64 a1), (2, .int .i64 a2)]) Try.func30 rfl rfl (Nat.le_of_ble_eq_true KR) (subsA_cons rfl (subsA_cons rfl (subsA_cons rfl (subsA_nil _)))) ?_
  intro a ha
  have HW := Wd.refl w
  unfold headgateref01_Big.f at h
  refine wp_seq_k (fun K1903 hK1904 => ?_)
  refine wp_region_lit ?_
  refine stepp ha 6 (.int .u64 0) KR KR ?_; clear ha a; intro a ha
  refine stepp ha 7 (.bool false) KR KR ?_; clear ha a; intro a ha
  refine endl ?_
  refine thenN (hK1904 _ _ ?_); clear hK1904
  refine wp_seq_k (fun K1905 hK1906 => ?_)
  refine wp_seq_k (fun K1907 hK1908 => ?_)
  refine wp_region_lit ?_
  refine stepp ha 10 (.int .i64 a2) KR KR ?_; clear ha a; intro a ha
  refine stepp ha 11 (.bool (decide (a2 < 1))) KR KR ?_; clear ha a; intro a ha
  refine stepp ha 12 (.bool (decide (a2 < 1))) KR KR ?_; clear ha a; intro a ha
  by_cases hp1909 : a2 < 1
  · skip
    replace h := ite_pos' h hp1909
    replace ha := ha.bool 12 KR (decide_eq_true hp1909)
    refine stepo ha 13 KR ?_; clear ha a; intro a ha
    refine stepo ha 14 KR ?_; clear ha a; intro a ha
    refine stepp ha 15 (.bool true) KR KR ?_; clear ha a; intro a ha
    refine stepp ha 16 (.bool true) KR KR ?_; clear ha a; intro a ha
    refine stepo ha 17 KR ?_; clear ha a; intro a ha
    refine stepo ha 18 KR ?_; clear ha a; intro a ha
    refine stepo ha 19 KR ?_; clear ha a; intro a ha
    refine stepo ha 20 KR ?_; clear ha a; intro a ha
    refine stepo ha 21 KR ?_; clear ha a; intro a ha
    refine stepp ha 22 (.bool true) KR KR ?_; clear ha a; intro a ha
    refine endl ?_
    refine thenN (hK1908 _ _ ?_); clear hK1908
    refine condT ha KR KR (t := true) (rfl) ?_
    refine wp_seq_k (fun K1915 hK1916 => ?_)
    refine wp_region_lit ?_
    refine stepp ha 6 (.int .u64 0) KR KR ?_; clear ha a; intro a ha
    refine stepp ha 7 (.bool false) KR KR ?_; clear ha a; intro a ha
    refine endl ?_
    refine thenN (hK1916 _ _ ?_); clear hK1916
    refine wp_ret ?_
    refine thenR ?_
    obtain rfl := Option.some.inj h
    exact finv ha _ _ rfl (.tmp (v := .int .u64 0) KR (.tmp (v := .bool false) KR .nil)) (.tuple #[.int .u64 0, .bool false]) rfl ⟨rfl, HW.pick [] [] (by decide) (by decide) rfl KR⟩
  · skip
    replace h := ite_neg' h hp1909
    replace ha := ha.bool 12 KR (decide_eq_false hp1909)
    refine stepp ha 13 (.int .i64 a2) KR KR ?_; clear ha a; intro a ha
    refine stepp ha 14 (.bool (decide (a2 > 8))) KR KR ?_; clear ha a; intro a ha
    refine stepp ha 15 (.bool (decide (a2 > 8))) KR KR ?_; clear ha a; intro a ha
    refine stepp ha 16 (.bool (decide (a2 > 8))) KR KR ?_; clear ha a; intro a ha
    by_cases hp1910 : a2 > 8
    · skip
      replace h := ite_pos' h hp1910
      replace ha := ha.bool 16 KR (decide_eq_true hp1910)
      refine stepo ha 17 KR ?_; clear ha a; intro a ha
      refine stepo ha 18 KR ?_; clear ha a; intro a ha
      refine stepo ha 19 KR ?_; clear ha a; intro a ha
      refine stepo ha 20 KR ?_; clear ha a; intro a ha
      refine stepo ha 21 KR ?_; clear ha a; intro a ha
      refine stepp ha 22 (.bool true) KR KR ?_; clear ha a; intro a ha
      refine endl ?_
      refine thenN (hK1908 _ _ ?_); clear hK1908
      refine condT ha KR KR (t := true) (rfl) ?_
      refine wp_seq_k (fun K1917 hK1918 => ?_)
      refine wp_region_lit ?_
      refine stepp ha 6 (.int .u64 0) KR KR ?_; clear ha a; intro a ha
      refine stepp ha 7 (.bool false) KR KR ?_; clear ha a; intro a ha
      refine endl ?_
      refine thenN (hK1918 _ _ ?_); clear hK1918
      refine wp_ret ?_
      refine thenR ?_
      obtain rfl := Option.some.inj h
      exact finv ha _ _ rfl (.tmp (v := .int .u64 0) KR (.tmp (v := .bool false) KR .nil)) (.tuple #[.int .u64 0, .bool false]) rfl ⟨rfl, HW.pick [] [] (by decide) (by decide) rfl KR⟩
    · skip
      replace h := ite_neg' h hp1910
      replace ha := ha.bool 16 KR (decide_eq_false hp1910)
      refine stepp ha 17 (.string a0) KR KR ?_; clear ha a; intro a ha
      refine stepp ha 18 (.int .i64 a1) KR KR ?_; clear ha a; intro a ha
      refine stepp ha 19 (.int .i64 a2) KR KR ?_; clear ha a; intro a ha
      obtain ⟨t1911, ht1912, h_⟩ := bind_some' h; clear h; have h := h_; clear h_
      refine stepc ha 20 KR KR (headgateref01_there.calls a0 a1 a2 t1911 _ ht1912) ?_; clear ha a; rintro e W1913 ⟨rfl, HX1914⟩
      refine ⟨_, rfl, ?_⟩; intro a ha; replace HW := HW.callw HX1914; clear HX1914
      refine stepp ha 21 (.bool (!t1911)) KR KR ?_; clear ha a; intro a ha
      refine stepp ha 22 (.bool (!t1911)) KR KR ?_; clear ha a; intro a ha
      refine endl ?_
      refine thenN (hK1908 _ _ ?_); clear hK1908
      by_cases hp1919 : t1911 = true
      · skip
        replace h := ite_pos' h hp1919
        refine condF ha KR KR (t := (!t1911)) (not_f (hp1919)) ?_
        refine wp_skip ?_
        refine thenN (hK1906 _ _ ?_); clear hK1906
        refine wp_seq_k (fun K1922 hK1923 => ?_)
        refine wp_region_lit ?_
        refine stepp ha 8 (.int .u64 0) KR KR ?_; clear ha a; intro a ha
        refine endl ?_
        refine thenN (hK1923 _ _ ?_); clear hK1923
        refine wp_seq_k (fun K1924 hK1925 => ?_)
        refine wp_seq_k (fun K1926 hK1927 => ?_)
        refine wp_region_lit ?_
        refine stepp ha 9 (.int .i64 0) KR KR ?_; clear ha a; intro a ha
        refine endl ?_
        refine thenN (hK1927 _ _ ?_); clear hK1927
        refine wp_block ?_
        refine loopk (fun k => fun a W1953 => ∃ (x1951 : Int), ∃ (x1952 : Int), headgateref01_Big.l0 K a0 a1 a2 k x1951 x1952 = some r ∧ Has 38 [(0, .string a0), (1, .int .i64 a1), (2, .int .i64 a2), (8, .int .u64 x1951), (9, .int .i64 x1952)] a ∧ Wd w W1953 [] []) K ?_ ?_
        · skip
          exact ⟨0, 0, h, ha.sub (subs_cons KR (subs_cons KR (subs_cons KR (subs_cons KR (subs_cons KR (subs_nil _)))))), HW.pick [] [] (by decide) (by decide) KR KR⟩
        · skip
          intro k a W1953 hI
          obtain ⟨x1951, x1952, h, ha, HW⟩ := hI
          cases k with
          | zero => exact (none_some (show none = some r from h)).elim
          | succ k1954 =>
            replace h : headgateref01_Big.b0 K a0 a1 a2 (headgateref01_Big.l0 K a0 a1 a2 k1954) x1951 x1952 = some r := h
            obtain ⟨again1950, hag1955⟩ : ∃ g_, g_ = headgateref01_Big.l0 K a0 a1 a2 k1954 := ⟨_, rfl⟩
            rw [← hag1955] at h
            unfold headgateref01_Big.b0 at h
            refine wp_seq_k (fun K1956 hK1957 => ?_)
            refine wp_seq_k (fun K1958 hK1959 => ?_)
            refine wp_region_lit ?_
            refine stepp ha 23 (.int .i64 x1952) KR KR ?_; clear ha a; intro a ha
            refine stepp ha 24 (.int .i64 a2) KR KR ?_; clear ha a; intro a ha
            refine stepp ha 25 (.bool (decide (x1952 < a2))) KR KR ?_; clear ha a; intro a ha
            refine endl ?_
            refine thenN (hK1959 _ _ ?_); clear hK1959
            by_cases hp1960 : x1952 < a2
            · skip
              replace h := ite_pos' h hp1960
              refine condT ha KR KR (t := decide (x1952 < a2)) (decide_eq_true hp1960) ?_
              refine wp_skip ?_
              refine thenN (hK1957 _ _ ?_); clear hK1957
              refine wp_seq_k (fun K1961 hK1962 => ?_)
              refine wp_block ?_
              refine wp_region_lit ?_
              refine stepp ha 28 (.int .u64 x1951) KR KR ?_; clear ha a; intro a ha
              refine stepp ha 29 (.int .u64 (IntKind.wrap .u64 (x1951 * 256))) KR KR ?_; clear ha a; intro a ha
              refine stepp ha 30 (.string a0) KR KR ?_; clear ha a; intro a ha
              refine stepp ha 31 (.int .i64 a1) KR KR ?_; clear ha a; intro a ha
              refine stepp ha 32 (.int .i64 x1952) KR KR ?_; clear ha a; intro a ha
              refine stepp ha 33 (.int .i64 (IntKind.wrap .i64 (a1 + x1952))) KR KR ?_; clear ha a; intro a ha
              obtain ⟨hA1963, h_⟩ := asrt_some h; clear h; have h := h_; clear h_
              obtain ⟨hA1964, h_⟩ := asrt_some h; clear h; have h := h_; clear h_
              refine stepsi ha 34 9 (.tmp 30) (.tmp 33) a0 .i64 (IntKind.wrap .i64 (a1 + x1952)) rfl KR KR KR hA1963 (show (IntKind.wrap .i64 (a1 + x1952) : Int) < ((a0).size : Int) from hA1964) KR ?_; clear ha a; intro a ha
              refine stepp ha 35 (.int .u64 (IntKind.wrap .u64 (bt a0 (IntKind.wrap .i64 (a1 + x1952))))) KR KR ?_; clear ha a; intro a ha
              refine stepp ha 36 (.int .u64 (IntKind.wrap .u64 ((IntKind.wrap .u64 (x1951 * 256)) + (IntKind.wrap .u64 (bt a0 (IntKind.wrap .i64 (a1 + x1952))))))) KR KR ?_; clear ha a; intro a ha
              refine stepp ha 8 (.int .u64 (IntKind.wrap .u64 ((IntKind.wrap .u64 (x1951 * 256)) + (IntKind.wrap .u64 (bt a0 (IntKind.wrap .i64 (a1 + x1952))))))) KR KR ?_; clear ha a; intro a ha
              refine endl ?_
              refine blkN ?_
              refine thenN (hK1962 _ _ ?_); clear hK1962
              refine wp_region_lit ?_
              refine stepp ha 26 (.int .i64 x1952) KR KR ?_; clear ha a; intro a ha
              refine stepp ha 27 (.int .i64 (IntKind.wrap .i64 (x1952 + 1))) KR KR ?_; clear ha a; intro a ha
              refine stepp ha 9 (.int .i64 (IntKind.wrap .i64 (x1952 + 1))) KR KR ?_; clear ha a; intro a ha
              refine endl ?_
              exact thenN ⟨k1954, Nat.lt_succ_self k1954, IntKind.wrap .u64 ((IntKind.wrap .u64 (x1951 * 256)) + (IntKind.wrap .u64 (bt a0 (IntKind.wrap .i64 (a1 + x1952))))), IntKind.wrap .i64 (x1952 + 1), (by rw [← hag1955]; exact h), ha.sub (subs_cons KR (subs_cons KR (subs_cons KR (subs_cons KR (subs_cons KR (subs_nil _)))))), HW.pick [] [] (by decide) (by decide) KR KR⟩
            · skip
              replace h := ite_neg' h hp1960
              refine condF ha KR KR (t := decide (x1952 < a2)) (decide_eq_false hp1960) ?_
              refine wp_exit ?_
              refine thenE ?_
              refine thenE ?_
              refine inBlk ?_
              refine thenN (hK1925 _ _ ?_); clear hK1925
              refine wp_seq_k (fun K1965 hK1966 => ?_)
              refine wp_region_lit ?_
              refine stepp ha 37 (.int .u64 x1951) KR KR ?_; clear ha a; intro a ha
              refine stepp ha 6 (.int .u64 x1951) KR KR ?_; clear ha a; intro a ha
              refine stepp ha 7 (.bool true) KR KR ?_; clear ha a; intro a ha
              refine endl ?_
              refine thenN (hK1966 _ _ ?_); clear hK1966
              refine wp_ret ?_
              obtain rfl := Option.some.inj h
              exact finv ha _ _ rfl (.tmp (v := .int .u64 x1951) KR (.tmp (v := .bool true) KR .nil)) (.tuple #[.int .u64 x1951, .bool true]) rfl ⟨rfl, HW.pick [] [] (by decide) (by decide) rfl KR⟩
      · skip
        replace h := ite_neg' h hp1919
        refine condT ha KR KR (t := (!t1911)) (not_t (bool_f hp1919)) ?_
        refine wp_seq_k (fun K1920 hK1921 => ?_)
        refine wp_region_lit ?_
        refine stepp ha 6 (.int .u64 0) KR KR ?_; clear ha a; intro a ha
        refine stepp ha 7 (.bool false) KR KR ?_; clear ha a; intro a ha
        refine endl ?_
        refine thenN (hK1921 _ _ ?_); clear hK1921
        refine wp_ret ?_
        refine thenR ?_
        obtain rfl := Option.some.inj h
        exact finv ha _ _ rfl (.tmp (v := .int .u64 0) KR (.tmp (v := .bool false) KR .nil)) (.tuple #[.int .u64 0, .bool false]) rfl ⟨rfl, HW.pick [] [] (by decide) (by decide) rfl KR⟩
/-! ### headgate/headgateref17.Ranges: function 19 -/
def headgateref17_Ranges.b0 (K : Nat) (a0 : ByteArray) (again2071 : (List T_api_Range) → Int → Option ((List T_api_Range) × Int)) (x2072 : List T_api_Range) (x2076 : Int) : Option ((List T_api_Range) × Int) :=
  if x2076 < (a0.size : Int) then ((headgateref01_Big.f K a0 x2076 8).bind fun t2089 => ((headgateref01_Big.f K a0 (IntKind.wrap .i64 (x2076 + 8)) 4).bind fun t2095 => (if t2089.1 ≥ 2147483648 then (some (([] : List T_api_Range), 180)) else (asrt (x2072.length + ([(⟨IntKind.wrap .i64 t2089.1, IntKind.wrap .i64 t2095.1⟩ : T_api_Range)] : List T_api_Range).length ≤ 8796093022208) (again2071 (x2072 ++ ([(⟨IntKind.wrap .i64 t2089.1, IntKind.wrap .i64 t2095.1⟩ : T_api_Range)] : List T_api_Range)) (IntKind.wrap .i64 (x2076 + 16))))))) else ((headgateref17_Unmap.f K x2072).bind fun t2118 => (if t2118.2 = 0 then (if t2118.1 = a0 then (some (x2072, 0)) else (some (([] : List T_api_Range), 180))) else (some (([] : List T_api_Range), 180))))
def headgateref17_Ranges.l0 (K : Nat) (a0 : ByteArray) : Nat → (List T_api_Range) → Int → Option ((List T_api_Range) × Int)
  | 0, _, _ => none
  | k_ + 1, x2072, x2076 => headgateref17_Ranges.b0 K a0 (headgateref17_Ranges.l0 K a0 k_) x2072 x2076
def headgateref17_Ranges.f (K : Nat) (a0 : ByteArray) : Option ((List T_api_Range) × Int) :=
  if (a0.size : Int) < 8 then (some (([] : List T_api_Range), 180)) else (if (Int.tmod (IntKind.wrap .i64 ((a0.size : Int) - 8)) 16) = 0 then (if (IntKind.wrap .i64 (Int.tdiv (IntKind.wrap .i64 ((a0.size : Int) - 8)) 16)) > 16 then (some (([] : List T_api_Range), 180)) else (headgateref17_Ranges.l0 K a0 K ([] : List T_api_Range) 8)) else (some (([] : List T_api_Range), 180)))
set_option maxRecDepth 100000 in
set_option maxHeartbeats 4000000 in
theorem headgateref17_Ranges.calls (K : Nat) (a0 : ByteArray)  (r : (List T_api_Range) × Int) (w : World)  (h : headgateref17_Ranges.f K a0 = some r) :
    Calls Try.prog 19 #[.string a0] w (fun e W' => ∃ A_0 c_0, e = .returned (.tuple #[.slice A_0 r.1.length c_0, .int .i64 r.2]) ∧ Wd w W' [] [⟨53, 2, .slice A_0 r.1.length c_0, r.1.length, encs T_api_Range.enc r.1⟩] ) := by
  refine sxstart (n := 71) (l := [(0, .string a0)]) Try.func19 rfl rfl (Nat.le_of_ble_eq_true KR) (subsA_cons rfl (subsA_nil _)) ?_
  intro a ha
  have HW := Wd.refl w
  unfold headgateref17_Ranges.f at h
  refine wp_seq_k (fun K1967 hK1968 => ?_)
  refine wp_region_lit ?_
  refine stepp ha 2 (.slice none 0 0) KR KR ?_; clear ha a; intro a ha
  refine stepp ha 3 (.int .i64 0) KR KR ?_; clear ha a; intro a ha
  refine endl ?_
  refine thenN (hK1968 _ _ ?_); clear hK1968
  refine wp_seq_k (fun K1969 hK1970 => ?_)
  refine wp_seq_k (fun K1971 hK1972 => ?_)
  refine wp_region_lit ?_
  refine stepp ha 12 (.string a0) KR KR ?_; clear ha a; intro a ha
  refine stepp ha 13 (.int .i64 (a0.size : Int)) KR KR ?_; clear ha a; intro a ha
  refine stepp ha 14 (.bool (decide ((a0.size : Int) < 8))) KR KR ?_; clear ha a; intro a ha
  refine stepp ha 15 (.bool (decide ((a0.size : Int) < 8))) KR KR ?_; clear ha a; intro a ha
  by_cases hp1973 : (a0.size : Int) < 8
  · skip
    replace h := ite_pos' h hp1973
    replace ha := ha.bool 15 KR (decide_eq_true hp1973)
    refine stepo ha 16 KR ?_; clear ha a; intro a ha
    refine stepo ha 17 KR ?_; clear ha a; intro a ha
    refine stepo ha 18 KR ?_; clear ha a; intro a ha
    refine stepo ha 19 KR ?_; clear ha a; intro a ha
    refine stepo ha 20 KR ?_; clear ha a; intro a ha
    refine stepp ha 21 (.bool true) KR KR ?_; clear ha a; intro a ha
    refine stepp ha 22 (.bool true) KR KR ?_; clear ha a; intro a ha
    refine stepo ha 23 KR ?_; clear ha a; intro a ha
    refine stepo ha 24 KR ?_; clear ha a; intro a ha
    refine stepo ha 25 KR ?_; clear ha a; intro a ha
    refine stepo ha 26 KR ?_; clear ha a; intro a ha
    refine stepo ha 27 KR ?_; clear ha a; intro a ha
    refine stepp ha 28 (.bool true) KR KR ?_; clear ha a; intro a ha
    refine endl ?_
    refine thenN (hK1972 _ _ ?_); clear hK1972
    refine condT ha KR KR (t := true) (rfl) ?_
    refine wp_seq_k (fun K1975 hK1976 => ?_)
    refine wp_region_lit ?_
    refine stepp ha 2 (.slice none 0 0) KR KR ?_; clear ha a; intro a ha
    refine stepp ha 3 (.int .i64 180) KR KR ?_; clear ha a; intro a ha
    refine endl ?_
    refine thenN (hK1976 _ _ ?_); clear hK1976
    refine wp_ret ?_
    refine thenR ?_
    obtain rfl := Option.some.inj h
    replace HW := HW.nilo 53 2
    exact finv ha _ _ rfl (.tmp (v := .slice none 0 0) KR (.tmp (v := .int .i64 180) KR .nil)) (.tuple #[.slice none 0 0, .int .i64 180]) rfl ⟨none, 0, rfl, HW.pick [] [0] (by decide) (by decide) rfl KR⟩
  · skip
    replace h := ite_neg' h hp1973
    replace ha := ha.bool 15 KR (decide_eq_false hp1973)
    refine stepp ha 16 (.string a0) KR KR ?_; clear ha a; intro a ha
    refine stepp ha 17 (.int .i64 (a0.size : Int)) KR KR ?_; clear ha a; intro a ha
    refine stepp ha 18 (.int .i64 (IntKind.wrap .i64 ((a0.size : Int) - 8))) KR KR ?_; clear ha a; intro a ha
    refine stepp ha 19 (.int .i64 (Int.tmod (IntKind.wrap .i64 ((a0.size : Int) - 8)) 16)) KR KR ?_; clear ha a; intro a ha
    refine stepp ha 20 (.bool ((Int.tmod (IntKind.wrap .i64 ((a0.size : Int) - 8)) 16) != 0)) KR KR ?_; clear ha a; intro a ha
    refine stepp ha 21 (.bool ((Int.tmod (IntKind.wrap .i64 ((a0.size : Int) - 8)) 16) != 0)) KR KR ?_; clear ha a; intro a ha
    refine stepp ha 22 (.bool ((Int.tmod (IntKind.wrap .i64 ((a0.size : Int) - 8)) 16) != 0)) KR KR ?_; clear ha a; intro a ha
    by_cases hp1974 : (Int.tmod (IntKind.wrap .i64 ((a0.size : Int) - 8)) 16) = 0
    · skip
      replace h := ite_pos' h hp1974
      replace ha := ha.bool 22 KR (ineq_f hp1974)
      refine stepp ha 23 (.string a0) KR KR ?_; clear ha a; intro a ha
      refine stepp ha 24 (.int .i64 (a0.size : Int)) KR KR ?_; clear ha a; intro a ha
      refine stepp ha 25 (.int .i64 (IntKind.wrap .i64 ((a0.size : Int) - 8))) KR KR ?_; clear ha a; intro a ha
      refine stepp ha 26 (.int .i64 (IntKind.wrap .i64 (Int.tdiv (IntKind.wrap .i64 ((a0.size : Int) - 8)) 16))) KR KR ?_; clear ha a; intro a ha
      refine stepp ha 27 (.bool (decide ((IntKind.wrap .i64 (Int.tdiv (IntKind.wrap .i64 ((a0.size : Int) - 8)) 16)) > 16))) KR KR ?_; clear ha a; intro a ha
      refine stepp ha 28 (.bool (decide ((IntKind.wrap .i64 (Int.tdiv (IntKind.wrap .i64 ((a0.size : Int) - 8)) 16)) > 16))) KR KR ?_; clear ha a; intro a ha
      refine endl ?_
      refine thenN (hK1972 _ _ ?_); clear hK1972
      by_cases hp1978 : (IntKind.wrap .i64 (Int.tdiv (IntKind.wrap .i64 ((a0.size : Int) - 8)) 16)) > 16
      · skip
        replace h := ite_pos' h hp1978
        refine condT ha KR KR (t := decide ((IntKind.wrap .i64 (Int.tdiv (IntKind.wrap .i64 ((a0.size : Int) - 8)) 16)) > 16)) (decide_eq_true hp1978) ?_
        refine wp_seq_k (fun K1979 hK1980 => ?_)
        refine wp_region_lit ?_
        refine stepp ha 2 (.slice none 0 0) KR KR ?_; clear ha a; intro a ha
        refine stepp ha 3 (.int .i64 180) KR KR ?_; clear ha a; intro a ha
        refine endl ?_
        refine thenN (hK1980 _ _ ?_); clear hK1980
        refine wp_ret ?_
        refine thenR ?_
        obtain rfl := Option.some.inj h
        replace HW := HW.nilo 53 2
        exact finv ha _ _ rfl (.tmp (v := .slice none 0 0) KR (.tmp (v := .int .i64 180) KR .nil)) (.tuple #[.slice none 0 0, .int .i64 180]) rfl ⟨none, 0, rfl, HW.pick [] [0] (by decide) (by decide) rfl KR⟩
      · skip
        replace h := ite_neg' h hp1978
        refine condF ha KR KR (t := decide ((IntKind.wrap .i64 (Int.tdiv (IntKind.wrap .i64 ((a0.size : Int) - 8)) 16)) > 16)) (decide_eq_false hp1978) ?_
        refine wp_skip ?_
        refine thenN (hK1970 _ _ ?_); clear hK1970
        refine wp_seq_k (fun K1985 hK1986 => ?_)
        refine wp_region_lit ?_
        refine stepp ha 4 (.slice none 0 0) KR KR ?_; clear ha a; intro a ha
        refine endl ?_
        refine thenN (hK1986 _ _ ?_); clear hK1986
        refine wp_seq_k (fun K1987 hK1988 => ?_)
        refine wp_seq_k (fun K1989 hK1990 => ?_)
        refine wp_region_lit ?_
        refine stepp ha 5 (.int .i64 8) KR KR ?_; clear ha a; intro a ha
        refine endl ?_
        refine thenN (hK1990 _ _ ?_); clear hK1990
        refine wp_block ?_
        refine loopk (fun k => fun a W2077 => ∃ (x2072 : List T_api_Range), ∃ A2073, ∃ c2074, ∃ (x2076 : Int), headgateref17_Ranges.l0 K a0 k x2072 x2076 = some r ∧ Has 71 [(0, .string a0), (4, .slice A2073 x2072.length c2074), (5, .int .i64 x2076)] a ∧ Wd w W2077 [] [⟨53, 2, .slice A2073 x2072.length c2074, x2072.length, encs T_api_Range.enc x2072⟩]) K ?_ ?_
        · skip
          replace HW := HW.nilo 53 2
          exact ⟨([] : List T_api_Range), none, 0, 8, h, ha.sub (subs_cons KR (subs_cons KR (subs_cons KR (subs_nil _)))), HW.pick [] [0] (by decide) (by decide) KR KR⟩
        · skip
          intro k a W2077 hI
          obtain ⟨x2072, A2073, c2074, x2076, h, ha, HW⟩ := hI
          cases k with
          | zero => exact (none_some (show none = some r from h)).elim
          | succ k2078 =>
            replace h : headgateref17_Ranges.b0 K a0 (headgateref17_Ranges.l0 K a0 k2078) x2072 x2076 = some r := h
            obtain ⟨again2071, hag2079⟩ : ∃ g_, g_ = headgateref17_Ranges.l0 K a0 k2078 := ⟨_, rfl⟩
            rw [← hag2079] at h
            unfold headgateref17_Ranges.b0 at h
            refine wp_seq_k (fun K2080 hK2081 => ?_)
            refine wp_seq_k (fun K2082 hK2083 => ?_)
            refine wp_region_lit ?_
            refine stepp ha 29 (.int .i64 x2076) KR KR ?_; clear ha a; intro a ha
            refine stepp ha 30 (.string a0) KR KR ?_; clear ha a; intro a ha
            refine stepp ha 31 (.int .i64 (a0.size : Int)) KR KR ?_; clear ha a; intro a ha
            refine stepp ha 32 (.bool (decide (x2076 < (a0.size : Int)))) KR KR ?_; clear ha a; intro a ha
            refine endl ?_
            refine thenN (hK2083 _ _ ?_); clear hK2083
            by_cases hp2084 : x2076 < (a0.size : Int)
            · skip
              replace h := ite_pos' h hp2084
              refine condT ha KR KR (t := decide (x2076 < (a0.size : Int))) (decide_eq_true hp2084) ?_
              refine wp_skip ?_
              refine thenN (hK2081 _ _ ?_); clear hK2081
              refine wp_seq_k (fun K2085 hK2086 => ?_)
              refine wp_block ?_
              refine wp_seq_k (fun K2087 hK2088 => ?_)
              refine wp_region_lit ?_
              refine stepp ha 36 (.string a0) KR KR ?_; clear ha a; intro a ha
              refine stepp ha 37 (.int .i64 x2076) KR KR ?_; clear ha a; intro a ha
              obtain ⟨t2089, ht2090, h_⟩ := bind_some' h; clear h; have h := h_; clear h_
              refine stepc ha 38 KR KR (headgateref01_Big.calls K a0 x2076 8 t2089 _ ht2090) ?_; clear ha a; rintro e W2091 ⟨rfl, HX2092⟩
              refine ⟨_, rfl, ?_⟩; intro a ha; replace HW := HW.callw HX2092; clear HX2092
              refine stepp ha 35 (.tuple #[.int .u64 t2089.1, .bool t2089.2]) KR KR ?_; clear ha a; intro a ha
              refine stepp ha 39 (.int .u64 t2089.1) KR KR ?_; clear ha a; intro a ha
              refine stepp ha 40 (.bool t2089.2) KR KR ?_; clear ha a; intro a ha
              refine stepp ha 6 (.int .u64 t2089.1) KR KR ?_; clear ha a; intro a ha
              refine stepp ha 7 (.bool t2089.2) KR KR ?_; clear ha a; intro a ha
              refine endl ?_
              refine thenN (hK2088 _ _ ?_); clear hK2088
              refine wp_seq_k (fun K2093 hK2094 => ?_)
              refine wp_region_lit ?_
              refine stepp ha 42 (.string a0) KR KR ?_; clear ha a; intro a ha
              refine stepp ha 43 (.int .i64 x2076) KR KR ?_; clear ha a; intro a ha
              refine stepp ha 44 (.int .i64 (IntKind.wrap .i64 (x2076 + 8))) KR KR ?_; clear ha a; intro a ha
              obtain ⟨t2095, ht2096, h_⟩ := bind_some' h; clear h; have h := h_; clear h_
              refine stepc ha 45 KR KR (headgateref01_Big.calls K a0 (IntKind.wrap .i64 (x2076 + 8)) 4 t2095 _ ht2096) ?_; clear ha a; rintro e W2097 ⟨rfl, HX2098⟩
              refine ⟨_, rfl, ?_⟩; intro a ha; replace HW := HW.callw HX2098; clear HX2098
              refine stepp ha 41 (.tuple #[.int .u64 t2095.1, .bool t2095.2]) KR KR ?_; clear ha a; intro a ha
              refine stepp ha 46 (.int .u64 t2095.1) KR KR ?_; clear ha a; intro a ha
              refine stepp ha 47 (.bool t2095.2) KR KR ?_; clear ha a; intro a ha
              refine stepp ha 8 (.int .u64 t2095.1) KR KR ?_; clear ha a; intro a ha
              refine stepp ha 9 (.bool t2095.2) KR KR ?_; clear ha a; intro a ha
              refine endl ?_
              refine thenN (hK2094 _ _ ?_); clear hK2094
              refine wp_seq_k (fun K2099 hK2100 => ?_)
              refine wp_seq_k (fun K2101 hK2102 => ?_)
              refine wp_region_lit ?_
              refine stepp ha 48 (.int .u64 t2089.1) KR KR ?_; clear ha a; intro a ha
              refine stepp ha 49 (.bool (decide (t2089.1 ≥ 2147483648))) KR KR ?_; clear ha a; intro a ha
              refine endl ?_
              refine thenN (hK2102 _ _ ?_); clear hK2102
              by_cases hp2103 : t2089.1 ≥ 2147483648
              · skip
                replace h := ite_pos' h hp2103
                refine condT ha KR KR (t := decide (t2089.1 ≥ 2147483648)) (decide_eq_true hp2103) ?_
                refine wp_seq_k (fun K2104 hK2105 => ?_)
                refine wp_region_lit ?_
                refine stepp ha 2 (.slice none 0 0) KR KR ?_; clear ha a; intro a ha
                refine stepp ha 3 (.int .i64 180) KR KR ?_; clear ha a; intro a ha
                refine endl ?_
                refine thenN (hK2105 _ _ ?_); clear hK2105
                refine wp_ret ?_
                refine thenR ?_
                refine blkR ?_
                refine thenR ?_
                refine thenR ?_
                refine blkR ?_
                refine thenR ?_
                obtain rfl := Option.some.inj h
                replace HW := HW.nilo 53 2
                exact finv ha _ _ rfl (.tmp (v := .slice none 0 0) KR (.tmp (v := .int .i64 180) KR .nil)) (.tuple #[.slice none 0 0, .int .i64 180]) rfl ⟨none, 0, rfl, HW.pick [] [0] (by decide) (by decide) rfl KR⟩
              · skip
                replace h := ite_neg' h hp2103
                refine condF ha KR KR (t := decide (t2089.1 ≥ 2147483648)) (decide_eq_false hp2103) ?_
                refine wp_skip ?_
                refine thenN (hK2100 _ _ ?_); clear hK2100
                refine wp_region_lit ?_
                refine stepp ha 50 (.slice A2073 x2072.length c2074) KR KR ?_; clear ha a; intro a ha
                refine stepp ha 51 (.int .u64 t2089.1) KR KR ?_; clear ha a; intro a ha
                refine stepp ha 52 (.int .i64 (IntKind.wrap .i64 t2089.1)) KR KR ?_; clear ha a; intro a ha
                refine stepp ha 53 (.int .u64 t2095.1) KR KR ?_; clear ha a; intro a ha
                refine stepp ha 54 (.int .i64 (IntKind.wrap .i64 t2095.1)) KR KR ?_; clear ha a; intro a ha
                refine stepp ha 55 (.agg #[.int .i64 (IntKind.wrap .i64 t2089.1), .int .i64 (IntKind.wrap .i64 t2095.1)]) KR KR ?_; clear ha a; intro a ha
                refine stepbs ha HW 56 53 2 1 #[.int .i64 (IntKind.wrap .i64 t2089.1), .int .i64 (IntKind.wrap .i64 t2095.1)] [.int .i64 (IntKind.wrap .i64 t2089.1), .int .i64 (IntKind.wrap .i64 t2095.1)] (by decide) KR KR KR KR ?_; clear ha HW a; intro b2107 a W2108 HW ha
                replace HW : Wd w W2108 [] [⟨53, 2, .slice (some ⟨b2107, 0, none⟩) ([(⟨IntKind.wrap .i64 t2089.1, IntKind.wrap .i64 t2095.1⟩ : T_api_Range)] : List T_api_Range).length 1, ([(⟨IntKind.wrap .i64 t2089.1, IntKind.wrap .i64 t2095.1⟩ : T_api_Range)] : List T_api_Range).length, encs T_api_Range.enc ([(⟨IntKind.wrap .i64 t2089.1, IntKind.wrap .i64 t2095.1⟩ : T_api_Range)] : List T_api_Range)⟩, ⟨53, 2, .slice A2073 x2072.length c2074, x2072.length, encs T_api_Range.enc x2072⟩] := HW
                replace ha := ha.turn 56 (v := .slice (some ⟨b2107, 0, none⟩) ([(⟨IntKind.wrap .i64 t2089.1, IntKind.wrap .i64 t2095.1⟩ : T_api_Range)] : List T_api_Range).length 1) KR rfl
                obtain ⟨hA2110, h_⟩ := asrt_some h; clear h; have h := h_; clear h_
                refine stepape T_api_Range.enc ha HW 57 1 34 53 (.tmp 50) (.tmp 56) (.agg #[.int .i64 0, .int .i64 0]) 2 16 (.slice A2073 x2072.length c2074) x2072 (.slice (some ⟨b2107, 0, none⟩) ([(⟨IntKind.wrap .i64 t2089.1, IntKind.wrap .i64 t2095.1⟩ : T_api_Range)] : List T_api_Range).length 1) ([(⟨IntKind.wrap .i64 t2089.1, IntKind.wrap .i64 t2095.1⟩ : T_api_Range)] : List T_api_Range) KR rfl KR KR (HW.rdo (i := 0) (q := ⟨53, 2, .slice (some ⟨b2107, 0, none⟩) ([(⟨IntKind.wrap .i64 t2089.1, IntKind.wrap .i64 t2095.1⟩ : T_api_Range)] : List T_api_Range).length 1, ([(⟨IntKind.wrap .i64 t2089.1, IntKind.wrap .i64 t2095.1⟩ : T_api_Range)] : List T_api_Range).length, encs T_api_Range.enc ([(⟨IntKind.wrap .i64 t2089.1, IntKind.wrap .i64 t2095.1⟩ : T_api_Range)] : List T_api_Range)⟩) KR) (fun _ => rfl) KR KR KR (by decide) (by have := hA2110; unfold maxLen; omega) (by have := hA2110; omega) KR ?_; clear ha HW a; intro A2111 c2112 a W2113 HW ha
                refine stepp ha 4 (.slice A2111 (x2072 ++ ([(⟨IntKind.wrap .i64 t2089.1, IntKind.wrap .i64 t2095.1⟩ : T_api_Range)] : List T_api_Range)).length c2112) KR KR ?_; clear ha a; intro a ha
                refine endl ?_
                refine blkN ?_
                refine thenN (hK2086 _ _ ?_); clear hK2086
                refine wp_region_lit ?_
                refine stepp ha 33 (.int .i64 x2076) KR KR ?_; clear ha a; intro a ha
                refine stepp ha 34 (.int .i64 (IntKind.wrap .i64 (x2076 + 16))) KR KR ?_; clear ha a; intro a ha
                refine stepp ha 5 (.int .i64 (IntKind.wrap .i64 (x2076 + 16))) KR KR ?_; clear ha a; intro a ha
                refine endl ?_
                exact thenN ⟨k2078, Nat.lt_succ_self k2078, x2072 ++ ([(⟨IntKind.wrap .i64 t2089.1, IntKind.wrap .i64 t2095.1⟩ : T_api_Range)] : List T_api_Range), A2111, c2112, IntKind.wrap .i64 (x2076 + 16), (by rw [← hag2079]; exact h), ha.sub (subs_cons KR (subs_cons KR (subs_cons KR (subs_nil _)))), HW.pick [] [1] (by decide) (by decide) KR KR⟩
            · skip
              replace h := ite_neg' h hp2084
              refine condF ha KR KR (t := decide (x2076 < (a0.size : Int))) (decide_eq_false hp2084) ?_
              refine wp_exit ?_
              refine thenE ?_
              refine thenE ?_
              refine inBlk ?_
              refine thenN (hK1988 _ _ ?_); clear hK1988
              refine wp_seq_k (fun K2116 hK2117 => ?_)
              refine wp_region_lit ?_
              refine stepp ha 59 (.slice A2073 x2072.length c2074) KR KR ?_; clear ha a; intro a ha
              obtain ⟨t2118, ht2119, h_⟩ := bind_some' h; clear h; have h := h_; clear h_
              refine stepc ha 60 KR KR (headgateref17_Unmap.calls K x2072 A2073 c2074 t2118 _ (HW.rdo (i := 0) (q := ⟨53, 2, .slice A2073 x2072.length c2074, x2072.length, encs T_api_Range.enc x2072⟩) KR) ht2119) ?_; clear ha a; rintro e W2120 ⟨rfl, HX2121⟩
              refine ⟨_, rfl, ?_⟩; intro a ha; replace HW := HW.callw HX2121; clear HX2121
              refine stepp ha 58 (.tuple #[.string t2118.1, .int .i64 t2118.2]) KR KR ?_; clear ha a; intro a ha
              refine stepp ha 61 (.string t2118.1) KR KR ?_; clear ha a; intro a ha
              refine stepp ha 62 (.int .i64 t2118.2) KR KR ?_; clear ha a; intro a ha
              refine stepp ha 10 (.string t2118.1) KR KR ?_; clear ha a; intro a ha
              refine stepp ha 11 (.int .i64 t2118.2) KR KR ?_; clear ha a; intro a ha
              refine endl ?_
              refine thenN (hK2117 _ _ ?_); clear hK2117
              refine wp_seq_k (fun K2122 hK2123 => ?_)
              refine wp_seq_k (fun K2124 hK2125 => ?_)
              refine wp_region_lit ?_
              refine stepp ha 63 (.int .i64 t2118.2) KR KR ?_; clear ha a; intro a ha
              refine stepp ha 64 (.bool (t2118.2 != 0)) KR KR ?_; clear ha a; intro a ha
              refine stepp ha 65 (.bool (t2118.2 != 0)) KR KR ?_; clear ha a; intro a ha
              by_cases hp2126 : t2118.2 = 0
              · skip
                replace h := ite_pos' h hp2126
                replace ha := ha.bool 65 KR (ineq_f hp2126)
                refine stepp ha 66 (.string t2118.1) KR KR ?_; clear ha a; intro a ha
                refine stepp ha 67 (.string a0) KR KR ?_; clear ha a; intro a ha
                refine stepp ha 68 (.bool (!(t2118.1.toList == a0.toList))) KR KR ?_; clear ha a; intro a ha
                refine stepp ha 69 (.bool (!(t2118.1.toList == a0.toList))) KR KR ?_; clear ha a; intro a ha
                refine endl ?_
                refine thenN (hK2125 _ _ ?_); clear hK2125
                by_cases hp2127 : t2118.1 = a0
                · skip
                  replace h := ite_pos' h hp2127
                  refine condF ha KR KR (t := (!(t2118.1.toList == a0.toList))) (str_ne_f hp2127) ?_
                  refine wp_skip ?_
                  refine thenN (hK2123 _ _ ?_); clear hK2123
                  refine wp_seq_k (fun K2134 hK2135 => ?_)
                  refine wp_region_lit ?_
                  refine stepp ha 70 (.slice A2073 x2072.length c2074) KR KR ?_; clear ha a; intro a ha
                  refine stepp ha 2 (.slice A2073 x2072.length c2074) KR KR ?_; clear ha a; intro a ha
                  refine stepp ha 3 (.int .i64 0) KR KR ?_; clear ha a; intro a ha
                  refine endl ?_
                  refine thenN (hK2135 _ _ ?_); clear hK2135
                  refine wp_ret ?_
                  obtain rfl := Option.some.inj h
                  exact finv ha _ _ rfl (.tmp (v := .slice A2073 x2072.length c2074) KR (.tmp (v := .int .i64 0) KR .nil)) (.tuple #[.slice A2073 x2072.length c2074, .int .i64 0]) rfl ⟨A2073, c2074, rfl, HW.pick [] [0] (by decide) (by decide) rfl KR⟩
                · skip
                  replace h := ite_neg' h hp2127
                  refine condT ha KR KR (t := (!(t2118.1.toList == a0.toList))) (str_ne_t hp2127) ?_
                  refine wp_seq_k (fun K2128 hK2129 => ?_)
                  refine wp_region_lit ?_
                  refine stepp ha 2 (.slice none 0 0) KR KR ?_; clear ha a; intro a ha
                  refine stepp ha 3 (.int .i64 180) KR KR ?_; clear ha a; intro a ha
                  refine endl ?_
                  refine thenN (hK2129 _ _ ?_); clear hK2129
                  refine wp_ret ?_
                  refine thenR ?_
                  obtain rfl := Option.some.inj h
                  replace HW := HW.nilo 53 2
                  exact finv ha _ _ rfl (.tmp (v := .slice none 0 0) KR (.tmp (v := .int .i64 180) KR .nil)) (.tuple #[.slice none 0 0, .int .i64 180]) rfl ⟨none, 0, rfl, HW.pick [] [0] (by decide) (by decide) rfl KR⟩
              · skip
                replace h := ite_neg' h hp2126
                replace ha := ha.bool 65 KR (ineq_t hp2126)
                refine stepo ha 66 KR ?_; clear ha a; intro a ha
                refine stepo ha 67 KR ?_; clear ha a; intro a ha
                refine stepo ha 68 KR ?_; clear ha a; intro a ha
                refine stepp ha 69 (.bool true) KR KR ?_; clear ha a; intro a ha
                refine endl ?_
                refine thenN (hK2125 _ _ ?_); clear hK2125
                refine condT ha KR KR (t := true) (rfl) ?_
                refine wp_seq_k (fun K2131 hK2132 => ?_)
                refine wp_region_lit ?_
                refine stepp ha 2 (.slice none 0 0) KR KR ?_; clear ha a; intro a ha
                refine stepp ha 3 (.int .i64 180) KR KR ?_; clear ha a; intro a ha
                refine endl ?_
                refine thenN (hK2132 _ _ ?_); clear hK2132
                refine wp_ret ?_
                refine thenR ?_
                obtain rfl := Option.some.inj h
                replace HW := HW.nilo 53 2
                exact finv ha _ _ rfl (.tmp (v := .slice none 0 0) KR (.tmp (v := .int .i64 180) KR .nil)) (.tuple #[.slice none 0 0, .int .i64 180]) rfl ⟨none, 0, rfl, HW.pick [] [0] (by decide) (by decide) rfl KR⟩
    · skip
      replace h := ite_neg' h hp1974
      replace ha := ha.bool 22 KR (ineq_t hp1974)
      refine stepo ha 23 KR ?_; clear ha a; intro a ha
      refine stepo ha 24 KR ?_; clear ha a; intro a ha
      refine stepo ha 25 KR ?_; clear ha a; intro a ha
      refine stepo ha 26 KR ?_; clear ha a; intro a ha
      refine stepo ha 27 KR ?_; clear ha a; intro a ha
      refine stepp ha 28 (.bool true) KR KR ?_; clear ha a; intro a ha
      refine endl ?_
      refine thenN (hK1972 _ _ ?_); clear hK1972
      refine condT ha KR KR (t := true) (rfl) ?_
      refine wp_seq_k (fun K1982 hK1983 => ?_)
      refine wp_region_lit ?_
      refine stepp ha 2 (.slice none 0 0) KR KR ?_; clear ha a; intro a ha
      refine stepp ha 3 (.int .i64 180) KR KR ?_; clear ha a; intro a ha
      refine endl ?_
      refine thenN (hK1983 _ _ ?_); clear hK1983
      refine wp_ret ?_
      refine thenR ?_
      obtain rfl := Option.some.inj h
      replace HW := HW.nilo 53 2
      exact finv ha _ _ rfl (.tmp (v := .slice none 0 0) KR (.tmp (v := .int .i64 180) KR .nil)) (.tuple #[.slice none 0 0, .int .i64 180]) rfl ⟨none, 0, rfl, HW.pick [] [0] (by decide) (by decide) rfl KR⟩
/-! ### headgate/headgatelaw17.InquiryRanges: function 6 -/
def headgatelaw17_InquiryRanges.j0 (K : Nat) (a0 : List T_api_Range) (a1 : ByteArray) (x2253 : Bool) : Option Bool :=
  if x2253 = true then ((headgatelaw17_wakes.f K).bind fun t2258 => (some t2258)) else ((headgatekeep_CopyRanges.f a0).bind fun t2264 => ((inquiry_Unmap.f K t2264).bind fun t2273 => ((headgateref17_Unmap.f K a0).bind fun t2279 => ((inquiry_Ranges.f K a1).bind fun t2285 => ((headgateref17_Ranges.f K a1).bind fun t2294 => (if t2273.1 = t2279.1 then (if t2273.2 = t2279.2 then ((headgatekeep_Ranges.f K t2285.1 t2294.1).bind fun t2305 => (if t2305 = true then (if t2285.2 = t2294.2 then ((headgatekeep_Ranges.f K t2264 a0).bind fun t2311 => (if t2311 = true then ((headgatelaw17_wakes.f K).bind fun t2316 => (some t2316)) else (some false))) else (some false)) else (some false))) else (some false)) else (some false)))))))
def headgatelaw17_InquiryRanges.f (K : Nat) (a0 : List T_api_Range) (a1 : ByteArray) : Option Bool :=
  if (a0.length : Int) > 200 then (headgatelaw17_InquiryRanges.j0 K a0 a1 true) else (headgatelaw17_InquiryRanges.j0 K a0 a1 (decide ((a1.size : Int) > 5000)))
set_option maxRecDepth 100000 in
set_option maxHeartbeats 4000000 in
theorem headgatelaw17_InquiryRanges.calls (K : Nat) (a0 : List T_api_Range) (a1 : ByteArray) (A0_0 : Option Addr) (c0_0 : Nat) (r : Bool) (w : World) (hr0_0 : Rd 2 w (.slice A0_0 a0.length c0_0) a0.length (encs T_api_Range.enc a0)) (h : headgatelaw17_InquiryRanges.f K a0 a1 = some r) :
    Calls Try.prog 6 #[.slice A0_0 a0.length c0_0, .string a1] w (fun e W' => e = .returned (.bool r) ∧ Wd w W' [] [] ) := by
  refine sxstart (n := 71) (l := [(0, .slice A0_0 a0.length c0_0), (1, .string a1)]) Try.func6 rfl rfl (Nat.le_of_ble_eq_true KR) (subsA_cons rfl (subsA_cons rfl (subsA_nil _))) ?_
  intro a ha
  have HW := Wd.refl w
  unfold headgatelaw17_InquiryRanges.f at h
  refine wp_seq_k (fun K2246 hK2247 => ?_)
  refine wp_region_lit ?_
  refine stepp ha 4 (.bool false) KR KR ?_; clear ha a; intro a ha
  refine endl ?_
  refine thenN (hK2247 _ _ ?_); clear hK2247
  refine wp_seq_k (fun K2248 hK2249 => ?_)
  refine wp_seq_k (fun K2250 hK2251 => ?_)
  refine cutn (fun a W2254 => ∃ (x2253 : Bool), headgatelaw17_InquiryRanges.j0 K a0 a1 x2253 = some r ∧ Has 71 [(0, .slice A0_0 a0.length c0_0), (1, .string a1), (21, .bool x2253)] a ∧ Wd w W2254 [] []) ?_ ?_
  · skip
    refine wp_region_lit ?_
    refine stepp ha 14 (.slice A0_0 a0.length c0_0) KR KR ?_; clear ha a; intro a ha
    refine stepp ha 15 (.int .i64 (a0.length : Int)) KR KR ?_; clear ha a; intro a ha
    refine stepp ha 16 (.bool (decide ((a0.length : Int) > 200))) KR KR ?_; clear ha a; intro a ha
    refine stepp ha 17 (.bool (decide ((a0.length : Int) > 200))) KR KR ?_; clear ha a; intro a ha
    by_cases hp2252 : (a0.length : Int) > 200
    · skip
      replace h := ite_pos' h hp2252
      replace ha := ha.bool 17 KR (decide_eq_true hp2252)
      refine stepo ha 18 KR ?_; clear ha a; intro a ha
      refine stepo ha 19 KR ?_; clear ha a; intro a ha
      refine stepo ha 20 KR ?_; clear ha a; intro a ha
      refine stepp ha 21 (.bool true) KR KR ?_; clear ha a; intro a ha
      refine endl ?_
      exact thenN ⟨true, h, ha.sub (subs_cons KR (subs_cons KR (subs_cons KR (subs_nil _)))), HW.pick [] [] (by decide) (by decide) KR KR⟩
    · skip
      replace h := ite_neg' h hp2252
      replace ha := ha.bool 17 KR (decide_eq_false hp2252)
      refine stepp ha 18 (.string a1) KR KR ?_; clear ha a; intro a ha
      refine stepp ha 19 (.int .i64 (a1.size : Int)) KR KR ?_; clear ha a; intro a ha
      refine stepp ha 20 (.bool (decide ((a1.size : Int) > 5000))) KR KR ?_; clear ha a; intro a ha
      refine stepp ha 21 (.bool (decide ((a1.size : Int) > 5000))) KR KR ?_; clear ha a; intro a ha
      refine endl ?_
      exact thenN ⟨decide ((a1.size : Int) > 5000), h, ha.sub (subs_cons KR (subs_cons KR (subs_cons KR (subs_nil _)))), HW.pick [] [] (by decide) (by decide) KR KR⟩
  · skip
    intro a W2254 hJ
    obtain ⟨x2253, h, ha, HW⟩ := hJ
    replace h : headgatelaw17_InquiryRanges.j0 K a0 a1 x2253 = some r := h
    unfold headgatelaw17_InquiryRanges.j0 at h
    refine hK2251 _ _ ?_; clear hK2251
    by_cases hp2255 : x2253 = true
    · skip
      replace h := ite_pos' h hp2255
      refine condT ha KR KR (t := x2253) (hp2255) ?_
      refine wp_seq_k (fun K2256 hK2257 => ?_)
      refine wp_region_lit ?_
      obtain ⟨t2258, ht2259, h_⟩ := bind_some' h; clear h; have h := h_; clear h_
      refine stepc ha 22 KR KR (headgatelaw17_wakes.calls K t2258 _ ht2259) ?_; clear ha a; rintro e W2260 ⟨rfl, HX2261⟩
      refine ⟨_, rfl, ?_⟩; intro a ha; replace HW := HW.callw HX2261; clear HX2261
      refine stepp ha 4 (.bool t2258) KR KR ?_; clear ha a; intro a ha
      refine endl ?_
      refine thenN (hK2257 _ _ ?_); clear hK2257
      refine wp_ret ?_
      refine thenR ?_
      obtain rfl := Option.some.inj h
      exact finv ha _ _ rfl (.tmp (v := .bool t2258) KR .nil) (.bool t2258) rfl ⟨rfl, HW.pick [] [] (by decide) (by decide) rfl KR⟩
    · skip
      replace h := ite_neg' h hp2255
      refine condF ha KR KR (t := x2253) (bool_f hp2255) ?_
      refine wp_skip ?_
      refine thenN (hK2249 _ _ ?_); clear hK2249
      refine wp_seq_k (fun K2262 hK2263 => ?_)
      refine wp_region_lit ?_
      refine stepp ha 23 (.slice A0_0 a0.length c0_0) KR KR ?_; clear ha a; intro a ha
      obtain ⟨t2264, ht2265, h_⟩ := bind_some' h; clear h; have h := h_; clear h_
      refine stepc ha 24 KR KR (headgatekeep_CopyRanges.calls a0 A0_0 c0_0 t2264 _ ((HW.rd0 hr0_0)) ht2265) ?_; clear ha a; rintro e W2269 ⟨A2266, c2267, rfl, HX2270⟩
      refine ⟨_, rfl, ?_⟩; intro a ha; replace HW := HW.callw HX2270; clear HX2270
      refine stepp ha 5 (.slice A2266 t2264.length c2267) KR KR ?_; clear ha a; intro a ha
      refine endl ?_
      refine thenN (hK2263 _ _ ?_); clear hK2263
      refine wp_seq_k (fun K2271 hK2272 => ?_)
      refine wp_region_lit ?_
      refine stepp ha 26 (.slice A2266 t2264.length c2267) KR KR ?_; clear ha a; intro a ha
      obtain ⟨t2273, ht2274, h_⟩ := bind_some' h; clear h; have h := h_; clear h_
      refine stepc ha 27 KR KR (inquiry_Unmap.calls K t2264 A2266 c2267 t2273 _ (HW.rdo (i := 0) (q := ⟨53, 2, .slice A2266 t2264.length c2267, t2264.length, encs T_api_Range.enc t2264⟩) KR) ht2274) ?_; clear ha a; rintro e W2275 ⟨rfl, HX2276⟩
      refine ⟨_, rfl, ?_⟩; intro a ha; replace HW := HW.callw HX2276; clear HX2276
      refine stepp ha 25 (.tuple #[.string t2273.1, .int .i64 t2273.2]) KR KR ?_; clear ha a; intro a ha
      refine stepp ha 28 (.string t2273.1) KR KR ?_; clear ha a; intro a ha
      refine stepp ha 29 (.int .i64 t2273.2) KR KR ?_; clear ha a; intro a ha
      refine stepp ha 6 (.string t2273.1) KR KR ?_; clear ha a; intro a ha
      refine stepp ha 7 (.int .i64 t2273.2) KR KR ?_; clear ha a; intro a ha
      refine endl ?_
      refine thenN (hK2272 _ _ ?_); clear hK2272
      refine wp_seq_k (fun K2277 hK2278 => ?_)
      refine wp_region_lit ?_
      refine stepp ha 31 (.slice A0_0 a0.length c0_0) KR KR ?_; clear ha a; intro a ha
      obtain ⟨t2279, ht2280, h_⟩ := bind_some' h; clear h; have h := h_; clear h_
      refine stepc ha 32 KR KR (headgateref17_Unmap.calls K a0 A0_0 c0_0 t2279 _ ((HW.rd0 hr0_0)) ht2280) ?_; clear ha a; rintro e W2281 ⟨rfl, HX2282⟩
      refine ⟨_, rfl, ?_⟩; intro a ha; replace HW := HW.callw HX2282; clear HX2282
      refine stepp ha 30 (.tuple #[.string t2279.1, .int .i64 t2279.2]) KR KR ?_; clear ha a; intro a ha
      refine stepp ha 33 (.string t2279.1) KR KR ?_; clear ha a; intro a ha
      refine stepp ha 34 (.int .i64 t2279.2) KR KR ?_; clear ha a; intro a ha
      refine stepp ha 8 (.string t2279.1) KR KR ?_; clear ha a; intro a ha
      refine stepp ha 9 (.int .i64 t2279.2) KR KR ?_; clear ha a; intro a ha
      refine endl ?_
      refine thenN (hK2278 _ _ ?_); clear hK2278
      refine wp_seq_k (fun K2283 hK2284 => ?_)
      refine wp_region_lit ?_
      refine stepp ha 36 (.string a1) KR KR ?_; clear ha a; intro a ha
      obtain ⟨t2285, ht2286, h_⟩ := bind_some' h; clear h; have h := h_; clear h_
      refine stepc ha 37 KR KR (inquiry_Ranges.calls K a1 t2285 _ ht2286) ?_; clear ha a; rintro e W2290 ⟨A2287, c2288, rfl, HX2291⟩
      refine ⟨_, rfl, ?_⟩; intro a ha; replace HW := HW.callw HX2291; clear HX2291
      refine stepp ha 35 (.tuple #[.slice A2287 t2285.1.length c2288, .int .i64 t2285.2]) KR KR ?_; clear ha a; intro a ha
      refine stepp ha 38 (.slice A2287 t2285.1.length c2288) KR KR ?_; clear ha a; intro a ha
      refine stepp ha 39 (.int .i64 t2285.2) KR KR ?_; clear ha a; intro a ha
      refine stepp ha 10 (.slice A2287 t2285.1.length c2288) KR KR ?_; clear ha a; intro a ha
      refine stepp ha 11 (.int .i64 t2285.2) KR KR ?_; clear ha a; intro a ha
      refine endl ?_
      refine thenN (hK2284 _ _ ?_); clear hK2284
      refine wp_seq_k (fun K2292 hK2293 => ?_)
      refine wp_region_lit ?_
      refine stepp ha 41 (.string a1) KR KR ?_; clear ha a; intro a ha
      obtain ⟨t2294, ht2295, h_⟩ := bind_some' h; clear h; have h := h_; clear h_
      refine stepc ha 42 KR KR (headgateref17_Ranges.calls K a1 t2294 _ ht2295) ?_; clear ha a; rintro e W2299 ⟨A2296, c2297, rfl, HX2300⟩
      refine ⟨_, rfl, ?_⟩; intro a ha; replace HW := HW.callw HX2300; clear HX2300
      refine stepp ha 40 (.tuple #[.slice A2296 t2294.1.length c2297, .int .i64 t2294.2]) KR KR ?_; clear ha a; intro a ha
      refine stepp ha 43 (.slice A2296 t2294.1.length c2297) KR KR ?_; clear ha a; intro a ha
      refine stepp ha 44 (.int .i64 t2294.2) KR KR ?_; clear ha a; intro a ha
      refine stepp ha 12 (.slice A2296 t2294.1.length c2297) KR KR ?_; clear ha a; intro a ha
      refine stepp ha 13 (.int .i64 t2294.2) KR KR ?_; clear ha a; intro a ha
      refine endl ?_
      refine thenN (hK2293 _ _ ?_); clear hK2293
      refine wp_seq_k (fun K2301 hK2302 => ?_)
      refine wp_region_lit ?_
      refine stepp ha 45 (.string t2273.1) KR KR ?_; clear ha a; intro a ha
      refine stepp ha 46 (.string t2279.1) KR KR ?_; clear ha a; intro a ha
      refine stepp ha 47 (.bool (t2273.1.toList == t2279.1.toList)) KR KR ?_; clear ha a; intro a ha
      refine stepp ha 48 (.bool (t2273.1.toList == t2279.1.toList)) KR KR ?_; clear ha a; intro a ha
      by_cases hp2303 : t2273.1 = t2279.1
      · skip
        replace h := ite_pos' h hp2303
        replace ha := ha.bool 48 KR (str_eq_t hp2303)
        refine stepp ha 49 (.int .i64 t2273.2) KR KR ?_; clear ha a; intro a ha
        refine stepp ha 50 (.int .i64 t2279.2) KR KR ?_; clear ha a; intro a ha
        refine stepp ha 51 (.bool (t2273.2 == t2279.2)) KR KR ?_; clear ha a; intro a ha
        refine stepp ha 52 (.bool (t2273.2 == t2279.2)) KR KR ?_; clear ha a; intro a ha
        refine stepp ha 53 (.bool (t2273.2 == t2279.2)) KR KR ?_; clear ha a; intro a ha
        by_cases hp2304 : t2273.2 = t2279.2
        · skip
          replace h := ite_pos' h hp2304
          replace ha := ha.bool 53 KR (ieq_t hp2304)
          refine stepp ha 54 (.slice A2287 t2285.1.length c2288) KR KR ?_; clear ha a; intro a ha
          refine stepp ha 55 (.slice A2296 t2294.1.length c2297) KR KR ?_; clear ha a; intro a ha
          obtain ⟨t2305, ht2306, h_⟩ := bind_some' h; clear h; have h := h_; clear h_
          refine stepc ha 56 KR KR (headgatekeep_Ranges.calls K t2285.1 t2294.1 A2287 c2288 A2296 c2297 t2305 _ (HW.rdo (i := 1) (q := ⟨53, 2, .slice A2287 t2285.1.length c2288, t2285.1.length, encs T_api_Range.enc t2285.1⟩) KR) (HW.rdo (i := 0) (q := ⟨53, 2, .slice A2296 t2294.1.length c2297, t2294.1.length, encs T_api_Range.enc t2294.1⟩) KR) ht2306) ?_; clear ha a; rintro e W2307 ⟨rfl, HX2308⟩
          refine ⟨_, rfl, ?_⟩; intro a ha; replace HW := HW.callw HX2308; clear HX2308
          refine stepp ha 57 (.bool t2305) KR KR ?_; clear ha a; intro a ha
          refine stepp ha 58 (.bool t2305) KR KR ?_; clear ha a; intro a ha
          by_cases hp2309 : t2305 = true
          · skip
            replace h := ite_pos' h hp2309
            replace ha := ha.bool 58 KR (hp2309)
            refine stepp ha 59 (.int .i64 t2285.2) KR KR ?_; clear ha a; intro a ha
            refine stepp ha 60 (.int .i64 t2294.2) KR KR ?_; clear ha a; intro a ha
            refine stepp ha 61 (.bool (t2285.2 == t2294.2)) KR KR ?_; clear ha a; intro a ha
            refine stepp ha 62 (.bool (t2285.2 == t2294.2)) KR KR ?_; clear ha a; intro a ha
            refine stepp ha 63 (.bool (t2285.2 == t2294.2)) KR KR ?_; clear ha a; intro a ha
            by_cases hp2310 : t2285.2 = t2294.2
            · skip
              replace h := ite_pos' h hp2310
              replace ha := ha.bool 63 KR (ieq_t hp2310)
              refine stepp ha 64 (.slice A2266 t2264.length c2267) KR KR ?_; clear ha a; intro a ha
              refine stepp ha 65 (.slice A0_0 a0.length c0_0) KR KR ?_; clear ha a; intro a ha
              obtain ⟨t2311, ht2312, h_⟩ := bind_some' h; clear h; have h := h_; clear h_
              refine stepc ha 66 KR KR (headgatekeep_Ranges.calls K t2264 a0 A2266 c2267 A0_0 c0_0 t2311 _ (HW.rdo (i := 2) (q := ⟨53, 2, .slice A2266 t2264.length c2267, t2264.length, encs T_api_Range.enc t2264⟩) KR) ((HW.rd0 hr0_0)) ht2312) ?_; clear ha a; rintro e W2313 ⟨rfl, HX2314⟩
              refine ⟨_, rfl, ?_⟩; intro a ha; replace HW := HW.callw HX2314; clear HX2314
              refine stepp ha 67 (.bool t2311) KR KR ?_; clear ha a; intro a ha
              refine stepp ha 68 (.bool t2311) KR KR ?_; clear ha a; intro a ha
              by_cases hp2315 : t2311 = true
              · skip
                replace h := ite_pos' h hp2315
                replace ha := ha.bool 68 KR (hp2315)
                obtain ⟨t2316, ht2317, h_⟩ := bind_some' h; clear h; have h := h_; clear h_
                refine stepc ha 69 KR KR (headgatelaw17_wakes.calls K t2316 _ ht2317) ?_; clear ha a; rintro e W2318 ⟨rfl, HX2319⟩
                refine ⟨_, rfl, ?_⟩; intro a ha; replace HW := HW.callw HX2319; clear HX2319
                refine stepp ha 70 (.bool t2316) KR KR ?_; clear ha a; intro a ha
                refine stepp ha 4 (.bool t2316) KR KR ?_; clear ha a; intro a ha
                refine endl ?_
                refine thenN (hK2302 _ _ ?_); clear hK2302
                refine wp_ret ?_
                obtain rfl := Option.some.inj h
                exact finv ha _ _ rfl (.tmp (v := .bool t2316) KR .nil) (.bool t2316) rfl ⟨rfl, HW.pick [] [] (by decide) (by decide) rfl KR⟩
              · skip
                replace h := ite_neg' h hp2315
                replace ha := ha.bool 68 KR (bool_f hp2315)
                refine stepo ha 69 KR ?_; clear ha a; intro a ha
                refine stepp ha 70 (.bool false) KR KR ?_; clear ha a; intro a ha
                refine stepp ha 4 (.bool false) KR KR ?_; clear ha a; intro a ha
                refine endl ?_
                refine thenN (hK2302 _ _ ?_); clear hK2302
                refine wp_ret ?_
                obtain rfl := Option.some.inj h
                exact finv ha _ _ rfl (.tmp (v := .bool false) KR .nil) (.bool false) rfl ⟨rfl, HW.pick [] [] (by decide) (by decide) rfl KR⟩
            · skip
              replace h := ite_neg' h hp2310
              replace ha := ha.bool 63 KR (ieq_f hp2310)
              refine stepo ha 64 KR ?_; clear ha a; intro a ha
              refine stepo ha 65 KR ?_; clear ha a; intro a ha
              refine stepo ha 66 KR ?_; clear ha a; intro a ha
              refine stepp ha 67 (.bool false) KR KR ?_; clear ha a; intro a ha
              refine stepp ha 68 (.bool false) KR KR ?_; clear ha a; intro a ha
              refine stepo ha 69 KR ?_; clear ha a; intro a ha
              refine stepp ha 70 (.bool false) KR KR ?_; clear ha a; intro a ha
              refine stepp ha 4 (.bool false) KR KR ?_; clear ha a; intro a ha
              refine endl ?_
              refine thenN (hK2302 _ _ ?_); clear hK2302
              refine wp_ret ?_
              obtain rfl := Option.some.inj h
              exact finv ha _ _ rfl (.tmp (v := .bool false) KR .nil) (.bool false) rfl ⟨rfl, HW.pick [] [] (by decide) (by decide) rfl KR⟩
          · skip
            replace h := ite_neg' h hp2309
            replace ha := ha.bool 58 KR (bool_f hp2309)
            refine stepo ha 59 KR ?_; clear ha a; intro a ha
            refine stepo ha 60 KR ?_; clear ha a; intro a ha
            refine stepo ha 61 KR ?_; clear ha a; intro a ha
            refine stepp ha 62 (.bool false) KR KR ?_; clear ha a; intro a ha
            refine stepp ha 63 (.bool false) KR KR ?_; clear ha a; intro a ha
            refine stepo ha 64 KR ?_; clear ha a; intro a ha
            refine stepo ha 65 KR ?_; clear ha a; intro a ha
            refine stepo ha 66 KR ?_; clear ha a; intro a ha
            refine stepp ha 67 (.bool false) KR KR ?_; clear ha a; intro a ha
            refine stepp ha 68 (.bool false) KR KR ?_; clear ha a; intro a ha
            refine stepo ha 69 KR ?_; clear ha a; intro a ha
            refine stepp ha 70 (.bool false) KR KR ?_; clear ha a; intro a ha
            refine stepp ha 4 (.bool false) KR KR ?_; clear ha a; intro a ha
            refine endl ?_
            refine thenN (hK2302 _ _ ?_); clear hK2302
            refine wp_ret ?_
            obtain rfl := Option.some.inj h
            exact finv ha _ _ rfl (.tmp (v := .bool false) KR .nil) (.bool false) rfl ⟨rfl, HW.pick [] [] (by decide) (by decide) rfl KR⟩
        · skip
          replace h := ite_neg' h hp2304
          replace ha := ha.bool 53 KR (ieq_f hp2304)
          refine stepo ha 54 KR ?_; clear ha a; intro a ha
          refine stepo ha 55 KR ?_; clear ha a; intro a ha
          refine stepo ha 56 KR ?_; clear ha a; intro a ha
          refine stepp ha 57 (.bool false) KR KR ?_; clear ha a; intro a ha
          refine stepp ha 58 (.bool false) KR KR ?_; clear ha a; intro a ha
          refine stepo ha 59 KR ?_; clear ha a; intro a ha
          refine stepo ha 60 KR ?_; clear ha a; intro a ha
          refine stepo ha 61 KR ?_; clear ha a; intro a ha
          refine stepp ha 62 (.bool false) KR KR ?_; clear ha a; intro a ha
          refine stepp ha 63 (.bool false) KR KR ?_; clear ha a; intro a ha
          refine stepo ha 64 KR ?_; clear ha a; intro a ha
          refine stepo ha 65 KR ?_; clear ha a; intro a ha
          refine stepo ha 66 KR ?_; clear ha a; intro a ha
          refine stepp ha 67 (.bool false) KR KR ?_; clear ha a; intro a ha
          refine stepp ha 68 (.bool false) KR KR ?_; clear ha a; intro a ha
          refine stepo ha 69 KR ?_; clear ha a; intro a ha
          refine stepp ha 70 (.bool false) KR KR ?_; clear ha a; intro a ha
          refine stepp ha 4 (.bool false) KR KR ?_; clear ha a; intro a ha
          refine endl ?_
          refine thenN (hK2302 _ _ ?_); clear hK2302
          refine wp_ret ?_
          obtain rfl := Option.some.inj h
          exact finv ha _ _ rfl (.tmp (v := .bool false) KR .nil) (.bool false) rfl ⟨rfl, HW.pick [] [] (by decide) (by decide) rfl KR⟩
      · skip
        replace h := ite_neg' h hp2303
        replace ha := ha.bool 48 KR (str_eq_f hp2303)
        refine stepo ha 49 KR ?_; clear ha a; intro a ha
        refine stepo ha 50 KR ?_; clear ha a; intro a ha
        refine stepo ha 51 KR ?_; clear ha a; intro a ha
        refine stepp ha 52 (.bool false) KR KR ?_; clear ha a; intro a ha
        refine stepp ha 53 (.bool false) KR KR ?_; clear ha a; intro a ha
        refine stepo ha 54 KR ?_; clear ha a; intro a ha
        refine stepo ha 55 KR ?_; clear ha a; intro a ha
        refine stepo ha 56 KR ?_; clear ha a; intro a ha
        refine stepp ha 57 (.bool false) KR KR ?_; clear ha a; intro a ha
        refine stepp ha 58 (.bool false) KR KR ?_; clear ha a; intro a ha
        refine stepo ha 59 KR ?_; clear ha a; intro a ha
        refine stepo ha 60 KR ?_; clear ha a; intro a ha
        refine stepo ha 61 KR ?_; clear ha a; intro a ha
        refine stepp ha 62 (.bool false) KR KR ?_; clear ha a; intro a ha
        refine stepp ha 63 (.bool false) KR KR ?_; clear ha a; intro a ha
        refine stepo ha 64 KR ?_; clear ha a; intro a ha
        refine stepo ha 65 KR ?_; clear ha a; intro a ha
        refine stepo ha 66 KR ?_; clear ha a; intro a ha
        refine stepp ha 67 (.bool false) KR KR ?_; clear ha a; intro a ha
        refine stepp ha 68 (.bool false) KR KR ?_; clear ha a; intro a ha
        refine stepo ha 69 KR ?_; clear ha a; intro a ha
        refine stepp ha 70 (.bool false) KR KR ?_; clear ha a; intro a ha
        refine stepp ha 4 (.bool false) KR KR ?_; clear ha a; intro a ha
        refine endl ?_
        refine thenN (hK2302 _ _ ?_); clear hK2302
        refine wp_ret ?_
        obtain rfl := Option.some.inj h
        exact finv ha _ _ rfl (.tmp (v := .bool false) KR .nil) (.bool false) rfl ⟨rfl, HW.pick [] [] (by decide) (by decide) rfl KR⟩
end Go.Proofs.Ytccmdlbdpapigaa.F
