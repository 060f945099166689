/- headgate/headgatelaw05.FrameTurned: plain functions, and that the calls come to what they say. No condition. -/
import Derived.Test.YtdcojinnjpihaaaDoorFT
import Derived.Test.YtdcojinnjpihaaaDoorXSB
import Derived.Test.YtdcojinnjpihaaaDoorF9
import Derived.Test.YtdcojinnjpihaaaDoorF45
namespace Go.Proofs.YtdcojinnjpihaaaDoor.F
open Go Go.RowKit Go.Proofs.YtdcojinnjpihaaaDoor.X
set_option linter.unusedVariables false
set_option linter.unusedSimpArgs false
/-! ### headgate/headgatelaw05.FrameTurned: function 5 -/
def headgatelaw05_FrameTurned.f (K : Nat) (a0 : Int) (a1 : ByteArray) (a2 : T_arr2_3) : Option Bool :=
  if (a1.size : Int) > 5000 then ((headgatelaw05_wakes.f K).bind fun t1788 => (some t1788)) else ((frame_Put.f K a0 a1).bind fun t1794 => (if t1794.2 = 0 then (if (t1794.1.size : Int) < (IntKind.wrap .i64 (24 + (a1.size : Int))) then (some false) else (asrt (¬ (IntKind.wrap .u64 (IntKind.wrap .i64 (24 + (a1.size : Int)))) = 0) (asrt (0 ≤ (IntKind.wrap .i64 (Int.tmod (IntKind.wrap .u64 a2.f0) (IntKind.wrap .u64 (IntKind.wrap .i64 (24 + (a1.size : Int))))))) (asrt ((IntKind.wrap .i64 (Int.tmod (IntKind.wrap .u64 a2.f0) (IntKind.wrap .u64 (IntKind.wrap .i64 (24 + (a1.size : Int)))))) < (t1794.1.size : Int)) ((frame_Get.f K (strOfNums ((bytesI t1794.1).set (IntKind.wrap .i64 (Int.tmod (IntKind.wrap .u64 a2.f0) (IntKind.wrap .u64 (IntKind.wrap .i64 (24 + (a1.size : Int))))) : Int).toNat (IntKind.wrap .u8 a2.f1)))).bind fun t1827 => (if (strOfNums ((bytesI t1794.1).set (IntKind.wrap .i64 (Int.tmod (IntKind.wrap .u64 a2.f0) (IntKind.wrap .u64 (IntKind.wrap .i64 (24 + (a1.size : Int))))) : Int).toNat (IntKind.wrap .u8 a2.f1))) = t1794.1 then (if t1827.2.2.2 = 0 then (if t1827.1 = a0 then (if t1827.2.1 = a1 then ((headgatelaw05_wakes.f K).bind fun t1841 => (some t1841)) else (some false)) else (some false)) else (some false)) else (if t1827.2.2.2 = 0 then (some false) else (if t1827.2.1 = (⟨#[]⟩ : ByteArray) then (if t1827.1 = 0 then ((headgatelaw05_wakes.f K).bind fun t1850 => (some t1850)) else (some false)) else (some false))))))))) else (some false)))
set_option maxRecDepth 100000 in
set_option maxHeartbeats 4000000 in
theorem headgatelaw05_FrameTurned.calls (K : Nat) (a0 : Int) (a1 : ByteArray) (a2 : T_arr2_3)  (r : Bool) (w : World) (hG0 : CA w 0 0 (encs (encIK .u32) G_crc_steps).toArray) (h : headgatelaw05_FrameTurned.f K a0 a1 a2 = some r) :
    Calls Tryd.prog 5 #[.int .u64 a0, .string a1, .agg #[.int .i64 a2.f0, .int .i64 a2.f1]] w (fun e W' => e = .returned (.bool r) ∧ Wd w W' [] [] ) := by
  refine sxstart (n := 94) (l := [(0, .int .u64 a0), (1, .string a1), (2, .agg #[.int .i64 a2.f0, .int .i64 a2.f1])]) Tryd.func5 rfl rfl (Nat.le_of_ble_eq_true KR) (subsA_cons rfl (subsA_cons rfl (subsA_cons rfl (subsA_nil _)))) ?_
  intro a ha
  have HW := Wd.refl w
  unfold headgatelaw05_FrameTurned.f at h
  refine wp_seq_k (fun K1775 hK1776 => ?_)
  refine wp_region_lit ?_
  refine stepnew ha HW 5 #[.int .i64 a2.f0, .int .i64 a2.f1] 38 KR KR ?_; clear ha HW a; intro b1777 a W1778 HW ha
  refine stepp ha 6 (.bool false) KR KR ?_; clear ha a; intro a ha
  refine endl ?_
  refine thenN (hK1776 _ _ ?_); clear hK1776
  refine wp_seq_k (fun K1779 hK1780 => ?_)
  refine wp_region_lit ?_
  refine stepp ha 16 (.pointer (some ⟨b1777, 1, none⟩)) KR KR ?_; clear ha a; intro a ha
  refine stepl ha 17 (HW.ca (i := 0) (b := b1777) (C := #[.int .i64 a2.f0, .int .i64 a2.f1]) (T := 38) (fr := (0, 0)) KR) 3 1 (.tmp 16) (.int .i64 a2.f1) rfl KR KR KR ?_; clear ha a; intro a ha
  refine stepp ha 18 (.int .u8 (IntKind.wrap .u8 a2.f1)) KR KR ?_; clear ha a; intro a ha
  refine stepp ha 7 (.int .u8 (IntKind.wrap .u8 a2.f1)) KR KR ?_; clear ha a; intro a ha
  refine endl ?_
  refine thenN (hK1780 _ _ ?_); clear hK1780
  refine wp_seq_k (fun K1781 hK1782 => ?_)
  refine wp_seq_k (fun K1783 hK1784 => ?_)
  refine wp_region_lit ?_
  refine stepp ha 19 (.string a1) KR KR ?_; clear ha a; intro a ha
  refine stepp ha 20 (.int .i64 (a1.size : Int)) KR KR ?_; clear ha a; intro a ha
  refine stepp ha 21 (.bool (decide ((a1.size : Int) > 5000))) KR KR ?_; clear ha a; intro a ha
  refine endl ?_
  refine thenN (hK1784 _ _ ?_); clear hK1784
  by_cases hp1785 : (a1.size : Int) > 5000
  · skip
    replace h := ite_pos' h hp1785
    refine condT ha KR KR (t := decide ((a1.size : Int) > 5000)) (decide_eq_true hp1785) ?_
    refine wp_seq_k (fun K1786 hK1787 => ?_)
    refine wp_region_lit ?_
    obtain ⟨t1788, ht1789, h_⟩ := bind_some' h; clear h; have h := h_; clear h_
    refine stepc ha 22 KR KR (headgatelaw05_wakes.calls K t1788 _ (HW.ca0 hG0) ht1789) ?_; clear ha a; rintro e W1790 ⟨rfl, HX1791⟩
    refine ⟨_, rfl, ?_⟩; intro a ha; replace HW := HW.callw HX1791; clear HX1791
    refine stepp ha 6 (.bool t1788) KR KR ?_; clear ha a; intro a ha
    refine endl ?_
    refine thenN (hK1787 _ _ ?_); clear hK1787
    refine wp_ret ?_
    refine thenR ?_
    obtain rfl := Option.some.inj h
    exact finv ha _ _ rfl (.tmp (v := .bool t1788) KR .nil) (.bool t1788) rfl ⟨rfl, HW.pick [] [] (by decide) (by decide) rfl KR⟩
  · skip
    replace h := ite_neg' h hp1785
    refine condF ha KR KR (t := decide ((a1.size : Int) > 5000)) (decide_eq_false hp1785) ?_
    refine wp_skip ?_
    refine thenN (hK1782 _ _ ?_); clear hK1782
    refine wp_seq_k (fun K1792 hK1793 => ?_)
    refine wp_region_lit ?_
    refine stepp ha 24 (.int .u64 a0) KR KR ?_; clear ha a; intro a ha
    refine stepp ha 25 (.string a1) KR KR ?_; clear ha a; intro a ha
    obtain ⟨t1794, ht1795, h_⟩ := bind_some' h; clear h; have h := h_; clear h_
    refine stepc ha 26 KR KR (frame_Put.calls K a0 a1 t1794 _ (HW.ca0 hG0) ht1795) ?_; clear ha a; rintro e W1796 ⟨rfl, HX1797⟩
    refine ⟨_, rfl, ?_⟩; intro a ha; replace HW := HW.callw HX1797; clear HX1797
    refine stepp ha 23 (.tuple #[.string t1794.1, .int .i64 t1794.2]) KR KR ?_; clear ha a; intro a ha
    refine stepp ha 27 (.string t1794.1) KR KR ?_; clear ha a; intro a ha
    refine stepp ha 28 (.int .i64 t1794.2) KR KR ?_; clear ha a; intro a ha
    refine stepp ha 8 (.string t1794.1) KR KR ?_; clear ha a; intro a ha
    refine stepp ha 9 (.int .i64 t1794.2) KR KR ?_; clear ha a; intro a ha
    refine endl ?_
    refine thenN (hK1793 _ _ ?_); clear hK1793
    refine wp_seq_k (fun K1798 hK1799 => ?_)
    refine wp_seq_k (fun K1800 hK1801 => ?_)
    refine wp_region_lit ?_
    refine stepp ha 29 (.int .i64 t1794.2) KR KR ?_; clear ha a; intro a ha
    refine stepp ha 30 (.bool (t1794.2 != 0)) KR KR ?_; clear ha a; intro a ha
    refine stepp ha 31 (.bool (t1794.2 != 0)) KR KR ?_; clear ha a; intro a ha
    by_cases hp1802 : t1794.2 = 0
    · skip
      replace h := ite_pos' h hp1802
      replace ha := ha.bool 31 KR (ineq_f hp1802)
      refine stepp ha 32 (.string t1794.1) KR KR ?_; clear ha a; intro a ha
      refine stepp ha 33 (.int .i64 (t1794.1.size : Int)) KR KR ?_; clear ha a; intro a ha
      refine stepp ha 34 (.string a1) KR KR ?_; clear ha a; intro a ha
      refine stepp ha 35 (.int .i64 (a1.size : Int)) KR KR ?_; clear ha a; intro a ha
      refine stepp ha 36 (.int .i64 (IntKind.wrap .i64 (24 + (a1.size : Int)))) KR KR ?_; clear ha a; intro a ha
      refine stepp ha 37 (.bool (decide ((t1794.1.size : Int) < (IntKind.wrap .i64 (24 + (a1.size : Int)))))) KR KR ?_; clear ha a; intro a ha
      refine stepp ha 38 (.bool (decide ((t1794.1.size : Int) < (IntKind.wrap .i64 (24 + (a1.size : Int)))))) KR KR ?_; clear ha a; intro a ha
      refine endl ?_
      refine thenN (hK1801 _ _ ?_); clear hK1801
      by_cases hp1803 : (t1794.1.size : Int) < (IntKind.wrap .i64 (24 + (a1.size : Int)))
      · skip
        replace h := ite_pos' h hp1803
        refine condT ha KR KR (t := decide ((t1794.1.size : Int) < (IntKind.wrap .i64 (24 + (a1.size : Int))))) (decide_eq_true hp1803) ?_
        refine wp_seq_k (fun K1804 hK1805 => ?_)
        refine wp_region_lit ?_
        refine stepp ha 6 (.bool false) KR KR ?_; clear ha a; intro a ha
        refine endl ?_
        refine thenN (hK1805 _ _ ?_); clear hK1805
        refine wp_ret ?_
        refine thenR ?_
        obtain rfl := Option.some.inj h
        exact finv ha _ _ rfl (.tmp (v := .bool false) KR .nil) (.bool false) rfl ⟨rfl, HW.pick [] [] (by decide) (by decide) rfl KR⟩
      · skip
        replace h := ite_neg' h hp1803
        refine condF ha KR KR (t := decide ((t1794.1.size : Int) < (IntKind.wrap .i64 (24 + (a1.size : Int))))) (decide_eq_false hp1803) ?_
        refine wp_skip ?_
        refine thenN (hK1799 _ _ ?_); clear hK1799
        refine wp_seq_k (fun K1808 hK1809 => ?_)
        refine wp_region_lit ?_
        refine stepp ha 39 (.pointer (some ⟨b1777, 0, none⟩)) KR KR ?_; clear ha a; intro a ha
        refine stepl ha 40 (HW.ca (i := 0) (b := b1777) (C := #[.int .i64 a2.f0, .int .i64 a2.f1]) (T := 38) (fr := (0, 0)) KR) 3 0 (.tmp 39) (.int .i64 a2.f0) rfl KR KR KR ?_; clear ha a; intro a ha
        refine stepp ha 41 (.int .u64 (IntKind.wrap .u64 a2.f0)) KR KR ?_; clear ha a; intro a ha
        refine stepp ha 42 (.string a1) KR KR ?_; clear ha a; intro a ha
        refine stepp ha 43 (.int .i64 (a1.size : Int)) KR KR ?_; clear ha a; intro a ha
        refine stepp ha 44 (.int .i64 (IntKind.wrap .i64 (24 + (a1.size : Int)))) KR KR ?_; clear ha a; intro a ha
        refine stepp ha 45 (.int .u64 (IntKind.wrap .u64 (IntKind.wrap .i64 (24 + (a1.size : Int))))) KR KR ?_; clear ha a; intro a ha
        obtain ⟨hA1810, h_⟩ := asrt_some h; clear h; have h := h_; clear h_
        refine steprem ha 46 39 39 (.tmp 41) (.tmp 45) .u64 (IntKind.wrap .u64 a2.f0) (IntKind.wrap .u64 (IntKind.wrap .i64 (24 + (a1.size : Int)))) rfl KR KR hA1810 KR ?_; clear ha a; intro a ha
        refine stepp ha 47 (.int .i64 (IntKind.wrap .i64 (Int.tmod (IntKind.wrap .u64 a2.f0) (IntKind.wrap .u64 (IntKind.wrap .i64 (24 + (a1.size : Int))))))) KR KR ?_; clear ha a; intro a ha
        refine stepp ha 10 (.int .i64 (IntKind.wrap .i64 (Int.tmod (IntKind.wrap .u64 a2.f0) (IntKind.wrap .u64 (IntKind.wrap .i64 (24 + (a1.size : Int))))))) KR KR ?_; clear ha a; intro a ha
        refine endl ?_
        refine thenN (hK1809 _ _ ?_); clear hK1809
        refine wp_seq_k (fun K1811 hK1812 => ?_)
        refine wp_region_lit ?_
        refine stepp ha 48 (.string t1794.1) KR KR ?_; clear ha a; intro a ha
        refine stepsb ha HW 49 9 40 5 (.tmp 48) t1794.1 rfl KR KR KR KR KR ?_; clear ha HW a; intro b1813 N1814 c1815 z1816 a W1817 hN1818 hc1819 HW ha
        refine stepp ha 11 (.slice (some ⟨b1813, 0, none⟩) N1814 c1815) KR KR ?_; clear ha a; intro a ha
        refine endl ?_
        refine thenN (hK1812 _ _ ?_); clear hK1812
        refine wp_seq_k (fun K1820 hK1821 => ?_)
        refine wp_region_lit ?_
        refine stepp ha 50 (.slice (some ⟨b1813, 0, none⟩) N1814 c1815) KR KR ?_; clear ha a; intro a ha
        refine stepp ha 51 (.int .i64 (IntKind.wrap .i64 (Int.tmod (IntKind.wrap .u64 a2.f0) (IntKind.wrap .u64 (IntKind.wrap .i64 (24 + (a1.size : Int))))))) KR KR ?_; clear ha a; intro a ha
        refine stepp ha 52 (.int .u8 (IntKind.wrap .u8 a2.f1)) KR KR ?_; clear ha a; intro a ha
        obtain ⟨hA1822, h_⟩ := asrt_some h; clear h; have h := h_; clear h_
        obtain ⟨hA1823, h_⟩ := asrt_some h; clear h; have h := h_; clear h_
        refine stepif ha 53 (sz := 1) (len := N1814) (b := b1813) (off := 0) (c := c1815) 40 5 (.tmp 50) (.tmp 51) .i64 (IntKind.wrap .i64 (Int.tmod (IntKind.wrap .u64 a2.f0) (IntKind.wrap .u64 (IntKind.wrap .i64 (24 + (a1.size : Int)))))) rfl KR KR KR KR hA1822 (show (IntKind.wrap .i64 (Int.tmod (IntKind.wrap .u64 a2.f0) (IntKind.wrap .u64 (IntKind.wrap .i64 (24 + (a1.size : Int))))) : Int) < (N1814 : Int) by rw [hN1818]; exact hA1823) KR ?_; clear ha a; intro a ha
        refine stepsbs ha HW 0 (b := b1813) (e := 5) (N := N1814) (L := bytesI t1794.1) (z := z1816) KR ((bytesI_length _).trans hN1818.symm) 5 (.tmp 53) (.tmp 52) (IntKind.wrap .i64 (Int.tmod (IntKind.wrap .u64 a2.f0) (IntKind.wrap .u64 (IntKind.wrap .i64 (24 + (a1.size : Int)))))) (IntKind.wrap .u8 a2.f1) rfl KR KR KR hA1822 (show (IntKind.wrap .i64 (Int.tmod (IntKind.wrap .u64 a2.f0) (IntKind.wrap .u64 (IntKind.wrap .i64 (24 + (a1.size : Int))))) : Int) < (N1814 : Int) by rw [hN1818]; exact hA1823) KR ?_; clear ha HW a; intro a W1824 HW ha
        refine endl ?_
        refine thenN (hK1821 _ _ ?_); clear hK1821
        refine wp_seq_k (fun K1825 hK1826 => ?_)
        refine wp_region_lit ?_
        refine stepp ha 55 (.slice (some ⟨b1813, 0, none⟩) N1814 c1815) KR KR ?_; clear ha a; intro a ha
        refine stepbt ha 56 40 9 5 (.tmp 55) (v := .slice (some ⟨b1813, 0, none⟩) N1814 c1815) (xs := (bytesI t1794.1).set (IntKind.wrap .i64 (Int.tmod (IntKind.wrap .u64 a2.f0) (IntKind.wrap .u64 (IntKind.wrap .i64 (24 + (a1.size : Int))))) : Int).toNat (IntKind.wrap .u8 a2.f1)) (sbRead HW (i := 0) (e := 5) (z := z1816) KR ((List.length_set ..).trans ((bytesI_length _).trans hN1818.symm)) hc1819) rfl KR KR KR KR KR ?_; clear ha a; intro a ha
        obtain ⟨t1827, ht1828, h_⟩ := bind_some' h; clear h; have h := h_; clear h_
        refine stepc ha 57 KR KR (frame_Get.calls K (strOfNums ((bytesI t1794.1).set (IntKind.wrap .i64 (Int.tmod (IntKind.wrap .u64 a2.f0) (IntKind.wrap .u64 (IntKind.wrap .i64 (24 + (a1.size : Int))))) : Int).toNat (IntKind.wrap .u8 a2.f1))) t1827 _ (HW.ca0 hG0) ht1828) ?_; clear ha a; rintro e W1829 ⟨rfl, HX1830⟩
        refine ⟨_, rfl, ?_⟩; intro a ha; replace HW := HW.callw HX1830; clear HX1830
        refine stepp ha 54 (.tuple #[.int .u64 t1827.1, .string t1827.2.1, .int .i64 t1827.2.2.1, .int .i64 t1827.2.2.2]) KR KR ?_; clear ha a; intro a ha
        refine stepp ha 58 (.int .u64 t1827.1) KR KR ?_; clear ha a; intro a ha
        refine stepp ha 59 (.string t1827.2.1) KR KR ?_; clear ha a; intro a ha
        refine stepp ha 60 (.int .i64 t1827.2.2.1) KR KR ?_; clear ha a; intro a ha
        refine stepp ha 61 (.int .i64 t1827.2.2.2) KR KR ?_; clear ha a; intro a ha
        refine stepp ha 12 (.int .u64 t1827.1) KR KR ?_; clear ha a; intro a ha
        refine stepp ha 13 (.string t1827.2.1) KR KR ?_; clear ha a; intro a ha
        refine stepp ha 14 (.int .i64 t1827.2.2.1) KR KR ?_; clear ha a; intro a ha
        refine stepp ha 15 (.int .i64 t1827.2.2.2) KR KR ?_; clear ha a; intro a ha
        refine endl ?_
        refine thenN (hK1826 _ _ ?_); clear hK1826
        refine wp_seq_k (fun K1831 hK1832 => ?_)
        refine wp_seq_k (fun K1833 hK1834 => ?_)
        refine wp_region_lit ?_
        refine stepp ha 62 (.slice (some ⟨b1813, 0, none⟩) N1814 c1815) KR KR ?_; clear ha a; intro a ha
        refine stepbt ha 63 40 9 5 (.tmp 62) (v := .slice (some ⟨b1813, 0, none⟩) N1814 c1815) (xs := (bytesI t1794.1).set (IntKind.wrap .i64 (Int.tmod (IntKind.wrap .u64 a2.f0) (IntKind.wrap .u64 (IntKind.wrap .i64 (24 + (a1.size : Int))))) : Int).toNat (IntKind.wrap .u8 a2.f1)) (sbRead HW (i := 0) (e := 5) (z := z1816) KR ((List.length_set ..).trans ((bytesI_length _).trans hN1818.symm)) hc1819) rfl KR KR KR KR KR ?_; clear ha a; intro a ha
        refine stepp ha 64 (.string t1794.1) KR KR ?_; clear ha a; intro a ha
        refine stepp ha 65 (.bool ((strOfNums ((bytesI t1794.1).set (IntKind.wrap .i64 (Int.tmod (IntKind.wrap .u64 a2.f0) (IntKind.wrap .u64 (IntKind.wrap .i64 (24 + (a1.size : Int))))) : Int).toNat (IntKind.wrap .u8 a2.f1))).toList == t1794.1.toList)) KR KR ?_; clear ha a; intro a ha
        refine endl ?_
        refine thenN (hK1834 _ _ ?_); clear hK1834
        by_cases hp1835 : (strOfNums ((bytesI t1794.1).set (IntKind.wrap .i64 (Int.tmod (IntKind.wrap .u64 a2.f0) (IntKind.wrap .u64 (IntKind.wrap .i64 (24 + (a1.size : Int))))) : Int).toNat (IntKind.wrap .u8 a2.f1))) = t1794.1
        · skip
          replace h := ite_pos' h hp1835
          refine condT ha KR KR (t := ((strOfNums ((bytesI t1794.1).set (IntKind.wrap .i64 (Int.tmod (IntKind.wrap .u64 a2.f0) (IntKind.wrap .u64 (IntKind.wrap .i64 (24 + (a1.size : Int))))) : Int).toNat (IntKind.wrap .u8 a2.f1))).toList == t1794.1.toList)) (str_eq_t hp1835) ?_
          refine wp_seq_k (fun K1836 hK1837 => ?_)
          refine wp_region_lit ?_
          refine stepp ha 66 (.int .i64 t1827.2.2.2) KR KR ?_; clear ha a; intro a ha
          refine stepp ha 67 (.bool (t1827.2.2.2 == 0)) KR KR ?_; clear ha a; intro a ha
          refine stepp ha 68 (.bool (t1827.2.2.2 == 0)) KR KR ?_; clear ha a; intro a ha
          by_cases hp1838 : t1827.2.2.2 = 0
          · skip
            replace h := ite_pos' h hp1838
            replace ha := ha.bool 68 KR (ieq_t hp1838)
            refine stepp ha 69 (.int .u64 t1827.1) KR KR ?_; clear ha a; intro a ha
            refine stepp ha 70 (.int .u64 a0) KR KR ?_; clear ha a; intro a ha
            refine stepp ha 71 (.bool (t1827.1 == a0)) KR KR ?_; clear ha a; intro a ha
            refine stepp ha 72 (.bool (t1827.1 == a0)) KR KR ?_; clear ha a; intro a ha
            refine stepp ha 73 (.bool (t1827.1 == a0)) KR KR ?_; clear ha a; intro a ha
            by_cases hp1839 : t1827.1 = a0
            · skip
              replace h := ite_pos' h hp1839
              replace ha := ha.bool 73 KR (ieq_t hp1839)
              refine stepp ha 74 (.string t1827.2.1) KR KR ?_; clear ha a; intro a ha
              refine stepp ha 75 (.string a1) KR KR ?_; clear ha a; intro a ha
              refine stepp ha 76 (.bool (t1827.2.1.toList == a1.toList)) KR KR ?_; clear ha a; intro a ha
              refine stepp ha 77 (.bool (t1827.2.1.toList == a1.toList)) KR KR ?_; clear ha a; intro a ha
              refine stepp ha 78 (.bool (t1827.2.1.toList == a1.toList)) KR KR ?_; clear ha a; intro a ha
              by_cases hp1840 : t1827.2.1 = a1
              · skip
                replace h := ite_pos' h hp1840
                replace ha := ha.bool 78 KR (str_eq_t hp1840)
                obtain ⟨t1841, ht1842, h_⟩ := bind_some' h; clear h; have h := h_; clear h_
                refine stepc ha 79 KR KR (headgatelaw05_wakes.calls K t1841 _ (HW.ca0 hG0) ht1842) ?_; clear ha a; rintro e W1843 ⟨rfl, HX1844⟩
                refine ⟨_, rfl, ?_⟩; intro a ha; replace HW := HW.callw HX1844; clear HX1844
                refine stepp ha 80 (.bool t1841) KR KR ?_; clear ha a; intro a ha
                refine stepp ha 6 (.bool t1841) KR KR ?_; clear ha a; intro a ha
                refine endl ?_
                refine thenN (hK1837 _ _ ?_); clear hK1837
                refine wp_ret ?_
                refine thenR ?_
                obtain rfl := Option.some.inj h
                exact finv ha _ _ rfl (.tmp (v := .bool t1841) KR .nil) (.bool t1841) rfl ⟨rfl, HW.pick [] [] (by decide) (by decide) rfl KR⟩
              · skip
                replace h := ite_neg' h hp1840
                replace ha := ha.bool 78 KR (str_eq_f hp1840)
                refine stepo ha 79 KR ?_; clear ha a; intro a ha
                refine stepp ha 80 (.bool false) KR KR ?_; clear ha a; intro a ha
                refine stepp ha 6 (.bool false) KR KR ?_; clear ha a; intro a ha
                refine endl ?_
                refine thenN (hK1837 _ _ ?_); clear hK1837
                refine wp_ret ?_
                refine thenR ?_
                obtain rfl := Option.some.inj h
                exact finv ha _ _ rfl (.tmp (v := .bool false) KR .nil) (.bool false) rfl ⟨rfl, HW.pick [] [] (by decide) (by decide) rfl KR⟩
            · skip
              replace h := ite_neg' h hp1839
              replace ha := ha.bool 73 KR (ieq_f hp1839)
              refine stepo ha 74 KR ?_; clear ha a; intro a ha
              refine stepo ha 75 KR ?_; clear ha a; intro a ha
              refine stepo ha 76 KR ?_; clear ha a; intro a ha
              refine stepp ha 77 (.bool false) KR KR ?_; clear ha a; intro a ha
              refine stepp ha 78 (.bool false) KR KR ?_; clear ha a; intro a ha
              refine stepo ha 79 KR ?_; clear ha a; intro a ha
              refine stepp ha 80 (.bool false) KR KR ?_; clear ha a; intro a ha
              refine stepp ha 6 (.bool false) KR KR ?_; clear ha a; intro a ha
              refine endl ?_
              refine thenN (hK1837 _ _ ?_); clear hK1837
              refine wp_ret ?_
              refine thenR ?_
              obtain rfl := Option.some.inj h
              exact finv ha _ _ rfl (.tmp (v := .bool false) KR .nil) (.bool false) rfl ⟨rfl, HW.pick [] [] (by decide) (by decide) rfl KR⟩
          · skip
            replace h := ite_neg' h hp1838
            replace ha := ha.bool 68 KR (ieq_f hp1838)
            refine stepo ha 69 KR ?_; clear ha a; intro a ha
            refine stepo ha 70 KR ?_; clear ha a; intro a ha
            refine stepo ha 71 KR ?_; clear ha a; intro a ha
            refine stepp ha 72 (.bool false) KR KR ?_; clear ha a; intro a ha
            refine stepp ha 73 (.bool false) KR KR ?_; clear ha a; intro a ha
            refine stepo ha 74 KR ?_; clear ha a; intro a ha
            refine stepo ha 75 KR ?_; clear ha a; intro a ha
            refine stepo ha 76 KR ?_; clear ha a; intro a ha
            refine stepp ha 77 (.bool false) KR KR ?_; clear ha a; intro a ha
            refine stepp ha 78 (.bool false) KR KR ?_; clear ha a; intro a ha
            refine stepo ha 79 KR ?_; clear ha a; intro a ha
            refine stepp ha 80 (.bool false) KR KR ?_; clear ha a; intro a ha
            refine stepp ha 6 (.bool false) KR KR ?_; clear ha a; intro a ha
            refine endl ?_
            refine thenN (hK1837 _ _ ?_); clear hK1837
            refine wp_ret ?_
            refine thenR ?_
            obtain rfl := Option.some.inj h
            exact finv ha _ _ rfl (.tmp (v := .bool false) KR .nil) (.bool false) rfl ⟨rfl, HW.pick [] [] (by decide) (by decide) rfl KR⟩
        · skip
          replace h := ite_neg' h hp1835
          refine condF ha KR KR (t := ((strOfNums ((bytesI t1794.1).set (IntKind.wrap .i64 (Int.tmod (IntKind.wrap .u64 a2.f0) (IntKind.wrap .u64 (IntKind.wrap .i64 (24 + (a1.size : Int))))) : Int).toNat (IntKind.wrap .u8 a2.f1))).toList == t1794.1.toList)) (str_eq_f hp1835) ?_
          refine wp_skip ?_
          refine thenN (hK1832 _ _ ?_); clear hK1832
          refine wp_seq_k (fun K1845 hK1846 => ?_)
          refine wp_region_lit ?_
          refine stepp ha 81 (.int .i64 t1827.2.2.2) KR KR ?_; clear ha a; intro a ha
          refine stepp ha 82 (.bool (t1827.2.2.2 != 0)) KR KR ?_; clear ha a; intro a ha
          refine stepp ha 83 (.bool (t1827.2.2.2 != 0)) KR KR ?_; clear ha a; intro a ha
          by_cases hp1847 : t1827.2.2.2 = 0
          · skip
            replace h := ite_pos' h hp1847
            replace ha := ha.bool 83 KR (ineq_f hp1847)
            refine stepo ha 84 KR ?_; clear ha a; intro a ha
            refine stepo ha 85 KR ?_; clear ha a; intro a ha
            refine stepp ha 86 (.bool false) KR KR ?_; clear ha a; intro a ha
            refine stepp ha 87 (.bool false) KR KR ?_; clear ha a; intro a ha
            refine stepo ha 88 KR ?_; clear ha a; intro a ha
            refine stepo ha 89 KR ?_; clear ha a; intro a ha
            refine stepp ha 90 (.bool false) KR KR ?_; clear ha a; intro a ha
            refine stepp ha 91 (.bool false) KR KR ?_; clear ha a; intro a ha
            refine stepo ha 92 KR ?_; clear ha a; intro a ha
            refine stepp ha 93 (.bool false) KR KR ?_; clear ha a; intro a ha
            refine stepp ha 6 (.bool false) KR KR ?_; clear ha a; intro a ha
            refine endl ?_
            refine thenN (hK1846 _ _ ?_); clear hK1846
            refine wp_ret ?_
            obtain rfl := Option.some.inj h
            exact finv ha _ _ rfl (.tmp (v := .bool false) KR .nil) (.bool false) rfl ⟨rfl, HW.pick [] [] (by decide) (by decide) rfl KR⟩
          · skip
            replace h := ite_neg' h hp1847
            replace ha := ha.bool 83 KR (ineq_t hp1847)
            refine stepp ha 84 (.string t1827.2.1) KR KR ?_; clear ha a; intro a ha
            refine stepp ha 85 (.bool (t1827.2.1.toList == (⟨#[]⟩ : ByteArray).toList)) KR KR ?_; clear ha a; intro a ha
            refine stepp ha 86 (.bool (t1827.2.1.toList == (⟨#[]⟩ : ByteArray).toList)) KR KR ?_; clear ha a; intro a ha
            refine stepp ha 87 (.bool (t1827.2.1.toList == (⟨#[]⟩ : ByteArray).toList)) KR KR ?_; clear ha a; intro a ha
            by_cases hp1848 : t1827.2.1 = (⟨#[]⟩ : ByteArray)
            · skip
              replace h := ite_pos' h hp1848
              replace ha := ha.bool 87 KR (str_eq_t hp1848)
              refine stepp ha 88 (.int .u64 t1827.1) KR KR ?_; clear ha a; intro a ha
              refine stepp ha 89 (.bool (t1827.1 == 0)) KR KR ?_; clear ha a; intro a ha
              refine stepp ha 90 (.bool (t1827.1 == 0)) KR KR ?_; clear ha a; intro a ha
              refine stepp ha 91 (.bool (t1827.1 == 0)) KR KR ?_; clear ha a; intro a ha
              by_cases hp1849 : t1827.1 = 0
              · skip
                replace h := ite_pos' h hp1849
                replace ha := ha.bool 91 KR (ieq_t hp1849)
                obtain ⟨t1850, ht1851, h_⟩ := bind_some' h; clear h; have h := h_; clear h_
                refine stepc ha 92 KR KR (headgatelaw05_wakes.calls K t1850 _ (HW.ca0 hG0) ht1851) ?_; clear ha a; rintro e W1852 ⟨rfl, HX1853⟩
                refine ⟨_, rfl, ?_⟩; intro a ha; replace HW := HW.callw HX1853; clear HX1853
                refine stepp ha 93 (.bool t1850) KR KR ?_; clear ha a; intro a ha
                refine stepp ha 6 (.bool t1850) KR KR ?_; clear ha a; intro a ha
                refine endl ?_
                refine thenN (hK1846 _ _ ?_); clear hK1846
                refine wp_ret ?_
                obtain rfl := Option.some.inj h
                exact finv ha _ _ rfl (.tmp (v := .bool t1850) KR .nil) (.bool t1850) rfl ⟨rfl, HW.pick [] [] (by decide) (by decide) rfl KR⟩
              · skip
                replace h := ite_neg' h hp1849
                replace ha := ha.bool 91 KR (ieq_f hp1849)
                refine stepo ha 92 KR ?_; clear ha a; intro a ha
                refine stepp ha 93 (.bool false) KR KR ?_; clear ha a; intro a ha
                refine stepp ha 6 (.bool false) KR KR ?_; clear ha a; intro a ha
                refine endl ?_
                refine thenN (hK1846 _ _ ?_); clear hK1846
                refine wp_ret ?_
                obtain rfl := Option.some.inj h
                exact finv ha _ _ rfl (.tmp (v := .bool false) KR .nil) (.bool false) rfl ⟨rfl, HW.pick [] [] (by decide) (by decide) rfl KR⟩
            · skip
              replace h := ite_neg' h hp1848
              replace ha := ha.bool 87 KR (str_eq_f hp1848)
              refine stepo ha 88 KR ?_; clear ha a; intro a ha
              refine stepo ha 89 KR ?_; clear ha a; intro a ha
              refine stepp ha 90 (.bool false) KR KR ?_; clear ha a; intro a ha
              refine stepp ha 91 (.bool false) KR KR ?_; clear ha a; intro a ha
              refine stepo ha 92 KR ?_; clear ha a; intro a ha
              refine stepp ha 93 (.bool false) KR KR ?_; clear ha a; intro a ha
              refine stepp ha 6 (.bool false) KR KR ?_; clear ha a; intro a ha
              refine endl ?_
              refine thenN (hK1846 _ _ ?_); clear hK1846
              refine wp_ret ?_
              obtain rfl := Option.some.inj h
              exact finv ha _ _ rfl (.tmp (v := .bool false) KR .nil) (.bool false) rfl ⟨rfl, HW.pick [] [] (by decide) (by decide) rfl KR⟩
    · skip
      replace h := ite_neg' h hp1802
      replace ha := ha.bool 31 KR (ineq_t hp1802)
      refine stepo ha 32 KR ?_; clear ha a; intro a ha
      refine stepo ha 33 KR ?_; clear ha a; intro a ha
      refine stepo ha 34 KR ?_; clear ha a; intro a ha
      refine stepo ha 35 KR ?_; clear ha a; intro a ha
      refine stepo ha 36 KR ?_; clear ha a; intro a ha
      refine stepo ha 37 KR ?_; clear ha a; intro a ha
      refine stepp ha 38 (.bool true) KR KR ?_; clear ha a; intro a ha
      refine endl ?_
      refine thenN (hK1801 _ _ ?_); clear hK1801
      refine condT ha KR KR (t := true) (rfl) ?_
      refine wp_seq_k (fun K1806 hK1807 => ?_)
      refine wp_region_lit ?_
      refine stepp ha 6 (.bool false) KR KR ?_; clear ha a; intro a ha
      refine endl ?_
      refine thenN (hK1807 _ _ ?_); clear hK1807
      refine wp_ret ?_
      refine thenR ?_
      obtain rfl := Option.some.inj h
      exact finv ha _ _ rfl (.tmp (v := .bool false) KR .nil) (.bool false) rfl ⟨rfl, HW.pick [] [] (by decide) (by decide) rfl KR⟩
end Go.Proofs.YtdcojinnjpihaaaDoor.F
