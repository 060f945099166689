/- headgate/cdb.Parse, headgate/fields.Set: plain functions, and that the calls come to what they say. No condition. -/
import Derived.Test.YtpjcipadjegmlaaDoorFT
import Derived.Test.YtpjcipadjegmlaaDoorF32
namespace Go.Proofs.YtpjcipadjegmlaaDoor.F
open Go Go.RowKit Go.Proofs.YtpjcipadjegmlaaDoor.X
set_option linter.unusedVariables false
set_option linter.unusedSimpArgs false
/-! ### headgate/cdb.Parse: function 16 -/
def cdb_Parse.j3 (K : Nat) (x1743 : T_cdb_form) (t1755 : Int) (t1759 : Int) (t1763 : Int) (x1846 : Bool) (x1847 : Int) (x1848 : Bool) (x1849 : Int) (x1850 : Int) : Option (T_cdb_Ask × Int) :=
  if x1846 = true then (if x1743.f1 = 16 then (if t1755 ≥ 2147483648 then (some ((⟨0, 0, 0, false, 0, 0, 0⟩ : T_cdb_Ask), 150)) else (if t1759 ≥ 2147483648 then (some ((⟨0, 0, 0, false, 0, 0, 0⟩ : T_cdb_Ask), 150)) else (some ((⟨x1847, t1755, t1759, x1848, x1849, t1763, x1850⟩ : T_cdb_Ask), 0)))) else (some ((⟨x1847, t1755, t1759, x1848, x1849, t1763, x1850⟩ : T_cdb_Ask), 0))) else (some ((⟨0, 0, 0, false, 0, 0, 0⟩ : T_cdb_Ask), 150))
def cdb_Parse.j2 (K : Nat) (a0 : ByteArray) (x1743 : T_cdb_form) (t1755 : Int) (t1759 : Int) (t1763 : Int) (x1828 : Bool) : Option (T_cdb_Ask × Int) :=
  (cdb_typed.f (IntKind.wrap .i64 (band .u8 (bt a0 1) 31))).bind fun t1832 => (if t1832 = true then (asrt (2 < (a0.size : Int)) ((cdb_Type.f K (IntKind.wrap .i64 (band .u8 (bt a0 2) 15))).bind fun t1840 => (if x1828 = true then (cdb_Parse.j3 K x1743 t1755 t1759 t1763 (t1840 != 0) (IntKind.wrap .i64 ((IntKind.wrap .i64 (256 * x1743.f0)) + (IntKind.wrap .i64 (band .u8 (bt a0 1) 31)))) false 0 t1840) else (cdb_Parse.j3 K x1743 t1755 t1759 t1763 false (IntKind.wrap .i64 ((IntKind.wrap .i64 (256 * x1743.f0)) + (IntKind.wrap .i64 (band .u8 (bt a0 1) 31)))) false 0 t1840)))) else (cdb_Parse.j3 K x1743 t1755 t1759 t1763 x1828 (IntKind.wrap .i64 ((IntKind.wrap .i64 (256 * x1743.f0)) + (IntKind.wrap .i64 (band .u8 (bt a0 1) 31)))) false 0 0))
def cdb_Parse.j1 (K : Nat) (a0 : ByteArray) (x1743 : T_cdb_form) (t1755 : Int) (t1759 : Int) (t1763 : Int) (x1805 : Bool) : Option (T_cdb_Ask × Int) :=
  if x1805 = true then (asrt (1 < (a0.size : Int)) ((cdb_known.f x1743.f0 (IntKind.wrap .i64 (band .u8 (bt a0 1) 31))).bind fun t1816 => (if x1743.f0 = 95 then (if t1816 = true then (asrt (2 < (a0.size : Int)) (if ((bt a0 2).fdiv 16) = 0 then (cdb_Parse.j2 K a0 x1743 t1755 t1759 t1763 (t1763 == 24)) else (cdb_Parse.j2 K a0 x1743 t1755 t1759 t1763 false))) else (cdb_Parse.j2 K a0 x1743 t1755 t1759 t1763 false)) else (cdb_Parse.j3 K x1743 t1755 t1759 t1763 t1816 (IntKind.wrap .i64 ((IntKind.wrap .i64 (256 * x1743.f0)) + (IntKind.wrap .i64 (band .u8 (bt a0 1) 31)))) false 0 0)))) else (cdb_Parse.j3 K x1743 t1755 t1759 t1763 true x1743.f0 false 0 0)
def cdb_Parse.j0 (K : Nat) (a0 : ByteArray) (x1743 : T_cdb_form) (t1755 : Int) (t1759 : Int) (t1763 : Int) (x1791 : Bool) : Option (T_cdb_Ask × Int) :=
  if x1791 = true then (asrt (1 < (a0.size : Int)) (cdb_Parse.j3 K x1743 t1755 t1759 t1763 true x1743.f0 ((band .u8 ((bt a0 1).fdiv 8) 1) == 1) 0 0)) else (if x1743.f0 = 147 then (asrt (1 < (a0.size : Int)) (cdb_Parse.j3 K x1743 t1755 t1759 t1763 ((band .u8 (bt a0 1) 1) == 1) x1743.f0 false 0 0)) else (if x1743.f0 = 94 then (cdb_Parse.j1 K a0 x1743 t1755 t1759 t1763 (x1743.f0 == 94)) else (cdb_Parse.j1 K a0 x1743 t1755 t1759 t1763 (x1743.f0 == 95))))
def cdb_Parse.f (K : Nat) (a0 : ByteArray) : Option (T_cdb_Ask × Int) :=
  (cdb_Length.f K a0).bind fun t1713 => (if t1713 = 0 then (some ((⟨0, 0, 0, false, 0, 0, 0⟩ : T_cdb_Ask), 150)) else (if (a0.size : Int) = t1713 then (asrt (0 ≤ (IntKind.wrap .i64 (t1713 - 1))) (asrt ((IntKind.wrap .i64 (t1713 - 1)) < (a0.size : Int)) (if (bt a0 (IntKind.wrap .i64 (t1713 - 1))) = 0 then (asrt (0 < (a0.size : Int)) ((cdb_formOf.f K (IntKind.wrap .i64 (bt a0 0))).bind fun t1738 => (optc t1738 (none) (fun x1743 => ((cdb_Parse_1.f K (⟨x1743.f2.f0, x1743.f2.f1⟩ : T_cdb_span) a0).bind fun t1755 => ((cdb_Parse_1.f K (⟨x1743.f3.f0, x1743.f3.f1⟩ : T_cdb_span) a0).bind fun t1759 => ((cdb_Parse_1.f K (⟨x1743.f4.f0, x1743.f4.f1⟩ : T_cdb_span) a0).bind fun t1763 => (if x1743.f0 = 18 then (asrt (1 < (a0.size : Int)) (if (band .u8 (bt a0 1) 1) = 1 then (asrt (2 < (a0.size : Int)) (cdb_Parse.j3 K x1743 t1755 t1759 t1763 true x1743.f0 false (IntKind.wrap .i64 (256 + (IntKind.wrap .i64 (bt a0 2)))) 0)) else (cdb_Parse.j3 K x1743 t1755 t1759 t1763 true x1743.f0 false 0 0))) else (if x1743.f0 = 42 then (cdb_Parse.j0 K a0 x1743 t1755 t1759 t1763 (x1743.f0 == 42)) else (cdb_Parse.j0 K a0 x1743 t1755 t1759 t1763 (x1743.f0 == 138))))))))))) else (some ((⟨0, 0, 0, false, 0, 0, 0⟩ : T_cdb_Ask), 150))))) else (some ((⟨0, 0, 0, false, 0, 0, 0⟩ : T_cdb_Ask), 150))))
set_option maxRecDepth 100000 in
set_option maxHeartbeats 4000000 in
theorem cdb_Parse.calls (K : Nat) (a0 : ByteArray)  (r : T_cdb_Ask × Int) (w : World) (hG0 : CA w 0 0 (encs (encI .i64) G_cdb_numbers).toArray) (hG1 : CA w 1 0 (encs T_cdb_form.enc G_cdb_forms).toArray) (h : cdb_Parse.f K a0 = some r) :
    Calls Tryd.prog 16 #[.string a0] w (fun e W' => e = .returned (.tuple #[.agg #[.int .i64 r.1.f0, .int .i64 r.1.f1, .int .i64 r.1.f2, .bool r.1.f3, .int .i64 r.1.f4, .int .i64 r.1.f5, .int .i64 r.1.f6], .int .i64 r.2]) ∧ Wd w W' [] [] ) := by
  refine sxstart (n := 162) (l := [(0, .string a0)]) Tryd.func16 rfl rfl (Nat.le_of_ble_eq_true KR) (subsA_cons rfl (subsA_nil _)) ?_
  intro a ha
  have HW := Wd.refl w
  unfold cdb_Parse.f at h
  refine wp_seq_k (fun K1705 hK1706 => ?_)
  refine wp_region_lit ?_
  refine stepnew ha HW 1 #[.string a0] 9 KR KR ?_; clear ha HW a; intro b1707 a W1708 HW ha
  refine stepnew ha HW 2 #[.int .i64 0, .int .i64 0, .int .i64 0, .bool false, .int .i64 0, .int .i64 0, .int .i64 0] 39 KR KR ?_; clear ha HW a; intro b1709 a W1710 HW ha
  refine stepp ha 3 (.int .i64 0) KR KR ?_; clear ha a; intro a ha
  refine endl ?_
  refine thenN (hK1706 _ _ ?_); clear hK1706
  refine wp_seq_k (fun K1711 hK1712 => ?_)
  refine wp_region_lit ?_
  refine stepl ha 10 (HW.ca (i := 1) (b := b1707) (C := #[.string a0]) (T := 9) (fr := (0, 0)) KR) 9 0 (.tmp 1) (.string a0) rfl KR KR KR ?_; clear ha a; intro a ha
  obtain ⟨t1713, ht1714, h_⟩ := bind_some' h; clear h; have h := h_; clear h_
  refine stepc ha 11 KR KR (cdb_Length.calls K a0 t1713 _ (HW.ca0 hG1) ht1714) ?_; clear ha a; rintro e W1715 ⟨rfl, HX1716⟩
  refine ⟨_, rfl, ?_⟩; intro a ha; replace HW := HW.callw HX1716; clear HX1716
  refine stepp ha 4 (.int .i64 t1713) KR KR ?_; clear ha a; intro a ha
  refine endl ?_
  refine thenN (hK1712 _ _ ?_); clear hK1712
  refine wp_seq_k (fun K1717 hK1718 => ?_)
  refine wp_seq_k (fun K1719 hK1720 => ?_)
  refine wp_region_lit ?_
  refine stepp ha 12 (.int .i64 t1713) KR KR ?_; clear ha a; intro a ha
  refine stepp ha 13 (.bool (t1713 == 0)) KR KR ?_; clear ha a; intro a ha
  refine stepp ha 14 (.bool (t1713 == 0)) KR KR ?_; clear ha a; intro a ha
  by_cases hp1721 : t1713 = 0
  · skip
    replace h := ite_pos' h hp1721
    replace ha := ha.bool 14 KR (ieq_t hp1721)
    refine stepo ha 15 KR ?_; clear ha a; intro a ha
    refine stepo ha 16 KR ?_; clear ha a; intro a ha
    refine stepo ha 17 KR ?_; clear ha a; intro a ha
    refine stepo ha 18 KR ?_; clear ha a; intro a ha
    refine stepp ha 19 (.bool true) KR KR ?_; clear ha a; intro a ha
    refine stepp ha 20 (.bool true) KR KR ?_; clear ha a; intro a ha
    refine stepo ha 21 KR ?_; clear ha a; intro a ha
    refine stepo ha 22 KR ?_; clear ha a; intro a ha
    refine stepo ha 23 KR ?_; clear ha a; intro a ha
    refine stepo ha 24 KR ?_; clear ha a; intro a ha
    refine stepo ha 25 KR ?_; clear ha a; intro a ha
    refine stepp ha 26 (.bool true) KR KR ?_; clear ha a; intro a ha
    refine endl ?_
    refine thenN (hK1720 _ _ ?_); clear hK1720
    refine condT ha KR KR (t := true) (rfl) ?_
    refine wp_seq_k (fun K1725 hK1726 => ?_)
    refine wp_region_lit ?_
    refine stepp ha 27 (.agg #[.int .i64 0, .int .i64 0, .int .i64 0, .bool false, .int .i64 0, .int .i64 0, .int .i64 0]) KR KR ?_; clear ha a; intro a ha
    refine stepst ha HW 0 (b := b1709) (C := #[.int .i64 0, .int .i64 0, .int .i64 0, .bool false, .int .i64 0, .int .i64 0, .int .i64 0]) (T := 39) KR 39 0 (.tmp 2) (.tmp 27) (.agg #[.int .i64 0, .int .i64 0, .int .i64 0, .bool false, .int .i64 0, .int .i64 0, .int .i64 0]) #[.int .i64 0, .int .i64 0, .int .i64 0, .bool false, .int .i64 0, .int .i64 0, .int .i64 0] rfl KR KR KR KR KR KR KR ?_; clear ha HW a; intro a W1727 HW ha
    refine stepp ha 3 (.int .i64 150) KR KR ?_; clear ha a; intro a ha
    refine endl ?_
    refine thenN (hK1726 _ _ ?_); clear hK1726
    refine wp_ret ?_
    refine thenR ?_
    obtain rfl := Option.some.inj h
    exact finv ha _ _ rfl (.cell (ad := ⟨b1709, 0, none⟩) (v := .agg #[.int .i64 0, .int .i64 0, .int .i64 0, .bool false, .int .i64 0, .int .i64 0, .int .i64 0]) KR (run_loadVar_ca0 (HW.ca (i := 0) (b := b1709) (C := #[.int .i64 0, .int .i64 0, .int .i64 0, .bool false, .int .i64 0, .int .i64 0, .int .i64 0]) (T := 39) (fr := (0, 0)) KR) 39 0 (.agg #[.int .i64 0, .int .i64 0, .int .i64 0, .bool false, .int .i64 0, .int .i64 0, .int .i64 0]) KR) (.tmp (v := .int .i64 150) KR .nil)) (.tuple #[.agg #[.int .i64 0, .int .i64 0, .int .i64 0, .bool false, .int .i64 0, .int .i64 0, .int .i64 0], .int .i64 150]) rfl ⟨rfl, HW.pick [] [] (by decide) (by decide) rfl KR⟩
  · skip
    replace h := ite_neg' h hp1721
    replace ha := ha.bool 14 KR (ieq_f hp1721)
    refine stepl ha 15 (HW.ca (i := 1) (b := b1707) (C := #[.string a0]) (T := 9) (fr := (0, 0)) KR) 9 0 (.tmp 1) (.string a0) rfl KR KR KR ?_; clear ha a; intro a ha
    refine stepp ha 16 (.int .i64 (a0.size : Int)) KR KR ?_; clear ha a; intro a ha
    refine stepp ha 17 (.int .i64 t1713) KR KR ?_; clear ha a; intro a ha
    refine stepp ha 18 (.bool ((a0.size : Int) != t1713)) KR KR ?_; clear ha a; intro a ha
    refine stepp ha 19 (.bool ((a0.size : Int) != t1713)) KR KR ?_; clear ha a; intro a ha
    refine stepp ha 20 (.bool ((a0.size : Int) != t1713)) KR KR ?_; clear ha a; intro a ha
    by_cases hp1722 : (a0.size : Int) = t1713
    · skip
      replace h := ite_pos' h hp1722
      replace ha := ha.bool 20 KR (ineq_f hp1722)
      refine stepl ha 21 (HW.ca (i := 1) (b := b1707) (C := #[.string a0]) (T := 9) (fr := (0, 0)) KR) 9 0 (.tmp 1) (.string a0) rfl KR KR KR ?_; clear ha a; intro a ha
      refine stepp ha 22 (.int .i64 t1713) KR KR ?_; clear ha a; intro a ha
      refine stepp ha 23 (.int .i64 (IntKind.wrap .i64 (t1713 - 1))) KR KR ?_; clear ha a; intro a ha
      obtain ⟨hA1723, h_⟩ := asrt_some h; clear h; have h := h_; clear h_
      obtain ⟨hA1724, h_⟩ := asrt_some h; clear h; have h := h_; clear h_
      refine stepsi ha 24 9 (.tmp 21) (.tmp 23) a0 .i64 (IntKind.wrap .i64 (t1713 - 1)) rfl KR KR KR hA1723 (show (IntKind.wrap .i64 (t1713 - 1) : Int) < ((a0).size : Int) from hA1724) KR ?_; clear ha a; intro a ha
      refine stepp ha 25 (.bool ((bt a0 (IntKind.wrap .i64 (t1713 - 1))) != 0)) KR KR ?_; clear ha a; intro a ha
      refine stepp ha 26 (.bool ((bt a0 (IntKind.wrap .i64 (t1713 - 1))) != 0)) KR KR ?_; clear ha a; intro a ha
      refine endl ?_
      refine thenN (hK1720 _ _ ?_); clear hK1720
      by_cases hp1728 : (bt a0 (IntKind.wrap .i64 (t1713 - 1))) = 0
      · skip
        replace h := ite_pos' h hp1728
        refine condF ha KR KR (t := ((bt a0 (IntKind.wrap .i64 (t1713 - 1))) != 0)) (ineq_f hp1728) ?_
        refine wp_skip ?_
        refine thenN (hK1718 _ _ ?_); clear hK1718
        refine wp_seq_k (fun K1735 hK1736 => ?_)
        refine wp_region_lit ?_
        refine stepl ha 28 (HW.ca (i := 1) (b := b1707) (C := #[.string a0]) (T := 9) (fr := (0, 0)) KR) 9 0 (.tmp 1) (.string a0) rfl KR KR KR ?_; clear ha a; intro a ha
        obtain ⟨hA1737, h_⟩ := asrt_some h; clear h; have h := h_; clear h_
        refine stepsi ha 29 9 (.tmp 28) (.const (.int .i64 0)) a0 .i64 0 rfl KR KR KR (by decide) (show (0 : Int) < ((a0).size : Int) from hA1737) KR ?_; clear ha a; intro a ha
        refine stepp ha 30 (.int .i64 (IntKind.wrap .i64 (bt a0 0))) KR KR ?_; clear ha a; intro a ha
        obtain ⟨t1738, ht1739, h_⟩ := bind_some' h; clear h; have h := h_; clear h_
        refine stepc ha 31 KR KR (cdb_formOf.calls K (IntKind.wrap .i64 (bt a0 0)) t1738 _ (HW.ca0 hG1) ht1739) ?_; clear ha a; rintro e W1741 ⟨b1740, rfl, HX1742⟩
        refine ⟨_, rfl, ?_⟩; intro a ha; replace HW := HW.callw HX1742; clear HX1742
        rcases t1738 with _ | x1743
        · skip
          replace h := optc_n h
          replace HW : Wd w W1741 [(b1709, .cells #[.int .i64 0, .int .i64 0, .int .i64 0, .bool false, .int .i64 0, .int .i64 0, .int .i64 0] 39 (0, 0)), (b1707, .cells #[.string a0] 9 (0, 0))] [] := HW
          replace ha := ha.turn 31 (v := .pointer none) KR rfl
          refine stepp ha 5 (.pointer none) KR KR ?_; clear ha a; intro a ha
          refine endl ?_
          refine thenN (hK1736 _ _ ?_); clear hK1736
          refine wp_seq_k (fun K1744 hK1745 => ?_)
          refine wp_region_lit ?_
          refine stepp ha 32 (.pointer none) KR KR ?_; clear ha a; intro a ha
          exact (none_some h).elim
        · skip
          replace h := optc_s h
          replace HW : Wd w W1741 [(b1740, .cells #[.int .i64 x1743.f0, .int .i64 x1743.f1, .int .i64 x1743.f2.f0, .int .i64 x1743.f2.f1, .int .i64 x1743.f3.f0, .int .i64 x1743.f3.f1, .int .i64 x1743.f4.f0, .int .i64 x1743.f4.f1] 75 (0, 0)), (b1709, .cells #[.int .i64 0, .int .i64 0, .int .i64 0, .bool false, .int .i64 0, .int .i64 0, .int .i64 0] 39 (0, 0)), (b1707, .cells #[.string a0] 9 (0, 0))] [] := HW
          replace ha := ha.turn 31 (v := .pointer (some ⟨b1740, 0, none⟩)) KR rfl
          refine stepp ha 5 (.pointer (some ⟨b1740, 0, none⟩)) KR KR ?_; clear ha a; intro a ha
          refine endl ?_
          refine thenN (hK1736 _ _ ?_); clear hK1736
          refine wp_seq_k (fun K1746 hK1747 => ?_)
          refine wp_region_lit ?_
          refine stepp ha 32 (.pointer (some ⟨b1740, 0, none⟩)) KR KR ?_; clear ha a; intro a ha
          refine stepp ha 33 (.pointer (some ⟨b1740, 0, none⟩)) KR KR ?_; clear ha a; intro a ha
          refine stepp ha 34 (.pointer (some ⟨b1740, 0, none⟩)) KR KR ?_; clear ha a; intro a ha
          refine stepl ha 35 (HW.ca (i := 0) (b := b1740) (C := #[.int .i64 x1743.f0, .int .i64 x1743.f1, .int .i64 x1743.f2.f0, .int .i64 x1743.f2.f1, .int .i64 x1743.f3.f0, .int .i64 x1743.f3.f1, .int .i64 x1743.f4.f0, .int .i64 x1743.f4.f1]) (T := 75) (fr := (0, 0)) KR) 3 0 (.tmp 34) (.int .i64 x1743.f0) rfl KR KR KR ?_; clear ha a; intro a ha
          refine stepp ha 36 (.agg #[.int .i64 x1743.f0, .int .i64 0, .int .i64 0, .bool false, .int .i64 0, .int .i64 0, .int .i64 0]) KR KR ?_; clear ha a; intro a ha
          refine stepnew ha HW 6 #[.int .i64 0, .int .i64 0, .int .i64 0, .bool false, .int .i64 0, .int .i64 0, .int .i64 0] 39 KR KR ?_; clear ha HW a; intro b1748 a W1749 HW ha
          refine stepst ha HW 0 (b := b1748) (C := #[.int .i64 0, .int .i64 0, .int .i64 0, .bool false, .int .i64 0, .int .i64 0, .int .i64 0]) (T := 39) KR 39 0 (.tmp 6) (.tmp 36) (.agg #[.int .i64 x1743.f0, .int .i64 0, .int .i64 0, .bool false, .int .i64 0, .int .i64 0, .int .i64 0]) #[.int .i64 x1743.f0, .int .i64 0, .int .i64 0, .bool false, .int .i64 0, .int .i64 0, .int .i64 0] rfl KR KR KR KR KR KR KR ?_; clear ha HW a; intro a W1750 HW ha
          refine endl ?_
          refine thenN (hK1747 _ _ ?_); clear hK1747
          refine wp_seq_k (fun K1751 hK1752 => ?_)
          refine wp_region_lit ?_
          refine stepp ha 37 (.func (.func 33) #[] #[.pointer (some ⟨b1707, 0, none⟩)]) KR KR ?_; clear ha a; intro a ha
          refine stepp ha 7 (.func (.func 33) #[] #[.pointer (some ⟨b1707, 0, none⟩)]) KR KR ?_; clear ha a; intro a ha
          refine endl ?_
          refine thenN (hK1752 _ _ ?_); clear hK1752
          refine wp_seq_k (fun K1753 hK1754 => ?_)
          obtain ⟨t1755, ht1756, h_⟩ := bind_some' h; clear h; have h := h_; clear h_
          obtain ⟨t1759, ht1760, h_⟩ := bind_some' h; clear h; have h := h_; clear h_
          obtain ⟨t1763, ht1764, h_⟩ := bind_some' h; clear h; have h := h_; clear h_
          refine regionL 22 KR ([(b1740, .cells #[.int .i64 x1743.f0, .int .i64 x1743.f1, .int .i64 x1743.f2.f0, .int .i64 x1743.f2.f1, .int .i64 x1743.f3.f0, .int .i64 x1743.f3.f1, .int .i64 x1743.f4.f0, .int .i64 x1743.f4.f1] 75 (0, 0)), (b1709, .cells #[.int .i64 0, .int .i64 0, .int .i64 0, .bool false, .int .i64 0, .int .i64 0, .int .i64 0] 39 (0, 0)), (b1707, .cells #[.string a0] 9 (0, 0))], []) ([(b1748, .cells #[.int .i64 x1743.f0, .int .i64 0, .int .i64 0, .bool false, .int .i64 0, .int .i64 0, .int .i64 0] 39 (0, 0)), (b1740, .cells #[.int .i64 x1743.f0, .int .i64 x1743.f1, .int .i64 x1743.f2.f0, .int .i64 x1743.f2.f1, .int .i64 x1743.f3.f0, .int .i64 x1743.f3.f1, .int .i64 x1743.f4.f0, .int .i64 x1743.f4.f1] 75 (0, 0)), (b1709, .cells #[.int .i64 0, .int .i64 0, .int .i64 0, .bool false, .int .i64 0, .int .i64 0, .int .i64 0] 39 (0, 0)), (b1707, .cells #[.string a0] 9 (0, 0))], []) [none, none, none, none, none, none, none, none, none, none, none, none, none, none, none, none, none, none, none, some ([(b1748, .cells #[.int .i64 x1743.f0, .int .i64 t1755, .int .i64 0, .bool false, .int .i64 0, .int .i64 0, .int .i64 0] 39 (0, 0)), (b1740, .cells #[.int .i64 x1743.f0, .int .i64 x1743.f1, .int .i64 x1743.f2.f0, .int .i64 x1743.f2.f1, .int .i64 x1743.f3.f0, .int .i64 x1743.f3.f1, .int .i64 x1743.f4.f0, .int .i64 x1743.f4.f1] 75 (0, 0)), (b1709, .cells #[.int .i64 0, .int .i64 0, .int .i64 0, .bool false, .int .i64 0, .int .i64 0, .int .i64 0] 39 (0, 0)), (b1707, .cells #[.string a0] 9 (0, 0))], []), none, some ([(b1748, .cells #[.int .i64 x1743.f0, .int .i64 t1755, .int .i64 t1759, .bool false, .int .i64 0, .int .i64 0, .int .i64 0] 39 (0, 0)), (b1740, .cells #[.int .i64 x1743.f0, .int .i64 x1743.f1, .int .i64 x1743.f2.f0, .int .i64 x1743.f2.f1, .int .i64 x1743.f3.f0, .int .i64 x1743.f3.f1, .int .i64 x1743.f4.f0, .int .i64 x1743.f4.f1] 75 (0, 0)), (b1709, .cells #[.int .i64 0, .int .i64 0, .int .i64 0, .bool false, .int .i64 0, .int .i64 0, .int .i64 0] 39 (0, 0)), (b1707, .cells #[.string a0] 9 (0, 0))], [])] [.fix (.func (.func 33) #[] #[.pointer (some ⟨b1707, 0, none⟩)]), .fix (.pointer (some ⟨b1740, 0, none⟩)), .fix (.pointer (some ⟨b1740, 0, none⟩)), .fix (.pointer (some ⟨b1740, 2, none⟩)), .fix (.agg #[.int .i64 x1743.f2.f0, .int .i64 x1743.f2.f1]), .fix (.int .i64 t1755), .fix (.func (.func 33) #[] #[.pointer (some ⟨b1707, 0, none⟩)]), .fix (.pointer (some ⟨b1740, 0, none⟩)), .fix (.pointer (some ⟨b1740, 0, none⟩)), .fix (.pointer (some ⟨b1740, 4, none⟩)), .fix (.agg #[.int .i64 x1743.f3.f0, .int .i64 x1743.f3.f1]), .fix (.int .i64 t1759), .fix (.func (.func 33) #[] #[.pointer (some ⟨b1707, 0, none⟩)]), .fix (.pointer (some ⟨b1740, 0, none⟩)), .fix (.pointer (some ⟨b1740, 0, none⟩)), .fix (.pointer (some ⟨b1740, 6, none⟩)), .fix (.agg #[.int .i64 x1743.f4.f0, .int .i64 x1743.f4.f1]), .fix (.int .i64 t1763), .fix (.pointer (some ⟨b1748, 1, none⟩)), .any, .fix (.pointer (some ⟨b1748, 2, none⟩)), .any] KR ha HW ⟨(fun w_ h_ => h_.pick [1, 2, 3] [] (by decide) (by decide) KR KR), ⟨(fun w_ h_ => h_.pick [1, 2, 3] [] (by decide) (by decide) KR KR), (fun w_ h_ => h_.pick [1, 2, 3] [] (by decide) (by decide) KR KR)⟩⟩ ?_ ?_
          · skip
            refine ⟨?_, ?_, ?_, ?_, ?_, ?_, ?_, ?_, ?_, ?_, ?_, ?_, ?_, ?_, ?_, ?_, ?_, ?_, ?_, ?_, ?_, ?_, trivial⟩
            · skip
              intro a wr hn hd HW hs; have ha := hasNil hn hd
              have ha := ha.add (seeE hs 7 (.func (.func 33) #[] #[.pointer (some ⟨b1707, 0, none⟩)]) KR KR)
              refine yStep ha 38 KR ?_; intro l_ ha HK
              refine stepp ha 38 (.func (.func 33) #[] #[.pointer (some ⟨b1707, 0, none⟩)]) KR KR ?_; intro ax hax; exact HK _ _ _ hax rfl (Below.refl _ _)
            · skip
              intro a wr hn hd HW hs; have ha := hasNil hn hd
              have ha := ha.add (seeE hs 5 (.pointer (some ⟨b1740, 0, none⟩)) KR KR)
              refine yStep ha 39 KR ?_; intro l_ ha HK
              refine stepp ha 39 (.pointer (some ⟨b1740, 0, none⟩)) KR KR ?_; intro ax hax; exact HK _ _ _ hax rfl (Below.refl _ _)
            · skip
              intro a wr hn hd HW hs; have ha := hasNil hn hd
              have ha := ha.add (seeF hs 39 1 (.pointer (some ⟨b1740, 0, none⟩)) KR KR)
              refine yStep ha 40 KR ?_; intro l_ ha HK
              refine stepp ha 40 (.pointer (some ⟨b1740, 0, none⟩)) KR KR ?_; intro ax hax; exact HK _ _ _ hax rfl (Below.refl _ _)
            · skip
              intro a wr hn hd HW hs; have ha := hasNil hn hd
              have ha := ha.add (seeF hs 40 2 (.pointer (some ⟨b1740, 0, none⟩)) KR KR)
              refine yStep ha 41 KR ?_; intro l_ ha HK
              refine stepp ha 41 (.pointer (some ⟨b1740, 2, none⟩)) KR KR ?_; intro ax hax; exact HK _ _ _ hax rfl (Below.refl _ _)
            · skip
              intro a wr hn hd HW hs; have ha := hasNil hn hd
              have ha := ha.add (seeF hs 41 3 (.pointer (some ⟨b1740, 2, none⟩)) KR KR)
              refine yStep ha 42 KR ?_; intro l_ ha HK
              refine stepl ha 42 (HW.ca (i := 0) (b := b1740) (C := #[.int .i64 x1743.f0, .int .i64 x1743.f1, .int .i64 x1743.f2.f0, .int .i64 x1743.f2.f1, .int .i64 x1743.f3.f0, .int .i64 x1743.f3.f1, .int .i64 x1743.f4.f0, .int .i64 x1743.f4.f1]) (T := 75) (fr := (0, 0)) KR) 73 2 (.tmp 41) (.agg #[.int .i64 x1743.f2.f0, .int .i64 x1743.f2.f1]) rfl KR KR KR ?_; intro ax hax; exact HK _ _ _ hax rfl (Below.refl _ _)
            · skip
              intro a wr hn hd HW hs; have ha := hasNil hn hd
              have ha := ha.add (seeF hs 38 0 (.func (.func 33) #[] #[.pointer (some ⟨b1707, 0, none⟩)]) KR KR)
              have ha := ha.add (seeF hs 42 4 (.agg #[.int .i64 x1743.f2.f0, .int .i64 x1743.f2.f1]) KR KR)
              refine yStep ha 43 KR ?_; intro l_ ha HK
              refine stepc ha 43 KR KR (cdb_Parse_1.calls K (⟨x1743.f2.f0, x1743.f2.f1⟩ : T_cdb_span) a0 b1707 t1755 _ (HW.ca (i := 2) (b := b1707) (C := #[.string a0]) (T := 9) (fr := (0, 0)) KR) ht1756) ?_; rintro e W1757 ⟨rfl, HX1758⟩
              refine ⟨_, rfl, ?_⟩; intro ax hax; exact HK _ _ _ hax rfl HX1758.below
            · skip
              intro a wr hn hd HW hs; have ha := hasNil hn hd
              have ha := ha.add (seeE hs 7 (.func (.func 33) #[] #[.pointer (some ⟨b1707, 0, none⟩)]) KR KR)
              refine yStep ha 44 KR ?_; intro l_ ha HK
              refine stepp ha 44 (.func (.func 33) #[] #[.pointer (some ⟨b1707, 0, none⟩)]) KR KR ?_; intro ax hax; exact HK _ _ _ hax rfl (Below.refl _ _)
            · skip
              intro a wr hn hd HW hs; have ha := hasNil hn hd
              have ha := ha.add (seeE hs 5 (.pointer (some ⟨b1740, 0, none⟩)) KR KR)
              refine yStep ha 45 KR ?_; intro l_ ha HK
              refine stepp ha 45 (.pointer (some ⟨b1740, 0, none⟩)) KR KR ?_; intro ax hax; exact HK _ _ _ hax rfl (Below.refl _ _)
            · skip
              intro a wr hn hd HW hs; have ha := hasNil hn hd
              have ha := ha.add (seeF hs 45 7 (.pointer (some ⟨b1740, 0, none⟩)) KR KR)
              refine yStep ha 46 KR ?_; intro l_ ha HK
              refine stepp ha 46 (.pointer (some ⟨b1740, 0, none⟩)) KR KR ?_; intro ax hax; exact HK _ _ _ hax rfl (Below.refl _ _)
            · skip
              intro a wr hn hd HW hs; have ha := hasNil hn hd
              have ha := ha.add (seeF hs 46 8 (.pointer (some ⟨b1740, 0, none⟩)) KR KR)
              refine yStep ha 47 KR ?_; intro l_ ha HK
              refine stepp ha 47 (.pointer (some ⟨b1740, 4, none⟩)) KR KR ?_; intro ax hax; exact HK _ _ _ hax rfl (Below.refl _ _)
            · skip
              intro a wr hn hd HW hs; have ha := hasNil hn hd
              have ha := ha.add (seeF hs 47 9 (.pointer (some ⟨b1740, 4, none⟩)) KR KR)
              refine yStep ha 48 KR ?_; intro l_ ha HK
              refine stepl ha 48 (HW.ca (i := 0) (b := b1740) (C := #[.int .i64 x1743.f0, .int .i64 x1743.f1, .int .i64 x1743.f2.f0, .int .i64 x1743.f2.f1, .int .i64 x1743.f3.f0, .int .i64 x1743.f3.f1, .int .i64 x1743.f4.f0, .int .i64 x1743.f4.f1]) (T := 75) (fr := (0, 0)) KR) 73 4 (.tmp 47) (.agg #[.int .i64 x1743.f3.f0, .int .i64 x1743.f3.f1]) rfl KR KR KR ?_; intro ax hax; exact HK _ _ _ hax rfl (Below.refl _ _)
            · skip
              intro a wr hn hd HW hs; have ha := hasNil hn hd
              have ha := ha.add (seeF hs 44 6 (.func (.func 33) #[] #[.pointer (some ⟨b1707, 0, none⟩)]) KR KR)
              have ha := ha.add (seeF hs 48 10 (.agg #[.int .i64 x1743.f3.f0, .int .i64 x1743.f3.f1]) KR KR)
              refine yStep ha 49 KR ?_; intro l_ ha HK
              refine stepc ha 49 KR KR (cdb_Parse_1.calls K (⟨x1743.f3.f0, x1743.f3.f1⟩ : T_cdb_span) a0 b1707 t1759 _ (HW.ca (i := 2) (b := b1707) (C := #[.string a0]) (T := 9) (fr := (0, 0)) KR) ht1760) ?_; rintro e W1761 ⟨rfl, HX1762⟩
              refine ⟨_, rfl, ?_⟩; intro ax hax; exact HK _ _ _ hax rfl HX1762.below
            · skip
              intro a wr hn hd HW hs; have ha := hasNil hn hd
              have ha := ha.add (seeE hs 7 (.func (.func 33) #[] #[.pointer (some ⟨b1707, 0, none⟩)]) KR KR)
              refine yStep ha 50 KR ?_; intro l_ ha HK
              refine stepp ha 50 (.func (.func 33) #[] #[.pointer (some ⟨b1707, 0, none⟩)]) KR KR ?_; intro ax hax; exact HK _ _ _ hax rfl (Below.refl _ _)
            · skip
              intro a wr hn hd HW hs; have ha := hasNil hn hd
              have ha := ha.add (seeE hs 5 (.pointer (some ⟨b1740, 0, none⟩)) KR KR)
              refine yStep ha 51 KR ?_; intro l_ ha HK
              refine stepp ha 51 (.pointer (some ⟨b1740, 0, none⟩)) KR KR ?_; intro ax hax; exact HK _ _ _ hax rfl (Below.refl _ _)
            · skip
              intro a wr hn hd HW hs; have ha := hasNil hn hd
              have ha := ha.add (seeF hs 51 13 (.pointer (some ⟨b1740, 0, none⟩)) KR KR)
              refine yStep ha 52 KR ?_; intro l_ ha HK
              refine stepp ha 52 (.pointer (some ⟨b1740, 0, none⟩)) KR KR ?_; intro ax hax; exact HK _ _ _ hax rfl (Below.refl _ _)
            · skip
              intro a wr hn hd HW hs; have ha := hasNil hn hd
              have ha := ha.add (seeF hs 52 14 (.pointer (some ⟨b1740, 0, none⟩)) KR KR)
              refine yStep ha 53 KR ?_; intro l_ ha HK
              refine stepp ha 53 (.pointer (some ⟨b1740, 6, none⟩)) KR KR ?_; intro ax hax; exact HK _ _ _ hax rfl (Below.refl _ _)
            · skip
              intro a wr hn hd HW hs; have ha := hasNil hn hd
              have ha := ha.add (seeF hs 53 15 (.pointer (some ⟨b1740, 6, none⟩)) KR KR)
              refine yStep ha 54 KR ?_; intro l_ ha HK
              refine stepl ha 54 (HW.ca (i := 0) (b := b1740) (C := #[.int .i64 x1743.f0, .int .i64 x1743.f1, .int .i64 x1743.f2.f0, .int .i64 x1743.f2.f1, .int .i64 x1743.f3.f0, .int .i64 x1743.f3.f1, .int .i64 x1743.f4.f0, .int .i64 x1743.f4.f1]) (T := 75) (fr := (0, 0)) KR) 73 6 (.tmp 53) (.agg #[.int .i64 x1743.f4.f0, .int .i64 x1743.f4.f1]) rfl KR KR KR ?_; intro ax hax; exact HK _ _ _ hax rfl (Below.refl _ _)
            · skip
              intro a wr hn hd HW hs; have ha := hasNil hn hd
              have ha := ha.add (seeF hs 50 12 (.func (.func 33) #[] #[.pointer (some ⟨b1707, 0, none⟩)]) KR KR)
              have ha := ha.add (seeF hs 54 16 (.agg #[.int .i64 x1743.f4.f0, .int .i64 x1743.f4.f1]) KR KR)
              refine yStep ha 55 KR ?_; intro l_ ha HK
              refine stepc ha 55 KR KR (cdb_Parse_1.calls K (⟨x1743.f4.f0, x1743.f4.f1⟩ : T_cdb_span) a0 b1707 t1763 _ (HW.ca (i := 2) (b := b1707) (C := #[.string a0]) (T := 9) (fr := (0, 0)) KR) ht1764) ?_; rintro e W1765 ⟨rfl, HX1766⟩
              refine ⟨_, rfl, ?_⟩; intro ax hax; exact HK _ _ _ hax rfl HX1766.below
            · skip
              intro a wr hn hd HW hs; have ha := hasNil hn hd
              have ha := ha.add (seeE hs 6 (.pointer (some ⟨b1748, 0, none⟩)) KR KR)
              refine yStep ha 56 KR ?_; intro l_ ha HK
              refine stepp ha 56 (.pointer (some ⟨b1748, 1, none⟩)) KR KR ?_; intro ax hax; exact HK _ _ _ hax rfl (Below.refl _ _)
            · skip
              intro a wr hn hd HW hs; have ha := hasNil hn hd
              have ha := ha.add (seeF hs 43 5 (.int .i64 t1755) KR KR)
              have ha := ha.add (seeF hs 56 18 (.pointer (some ⟨b1748, 1, none⟩)) KR KR)
              refine yStepS ha KR ?_; intro l_ ha HK
              refine stepst ha HW 0 (b := b1748) (C := #[.int .i64 x1743.f0, .int .i64 0, .int .i64 0, .bool false, .int .i64 0, .int .i64 0, .int .i64 0]) (T := 39) KR 3 1 (.tmp 56) (.tmp 43) (.int .i64 t1755) #[.int .i64 x1743.f0, .int .i64 t1755, .int .i64 0, .bool false, .int .i64 0, .int .i64 0, .int .i64 0] rfl KR KR KR KR KR KR KR ?_; intro ax wx HV hax; exact HK _ _ hax HV
            · skip
              intro a wr hn hd HW hs; have ha := hasNil hn hd
              have ha := ha.add (seeE hs 6 (.pointer (some ⟨b1748, 0, none⟩)) KR KR)
              refine yStep ha 57 KR ?_; intro l_ ha HK
              refine stepp ha 57 (.pointer (some ⟨b1748, 2, none⟩)) KR KR ?_; intro ax hax; exact HK _ _ _ hax rfl (Below.refl _ _)
            · skip
              intro a wr hn hd HW hs; have ha := hasNil hn hd
              have ha := ha.add (seeF hs 49 11 (.int .i64 t1759) KR KR)
              have ha := ha.add (seeF hs 57 20 (.pointer (some ⟨b1748, 2, none⟩)) KR KR)
              refine yStepS ha KR ?_; intro l_ ha HK
              refine stepst ha HW 0 (b := b1748) (C := #[.int .i64 x1743.f0, .int .i64 t1755, .int .i64 0, .bool false, .int .i64 0, .int .i64 0, .int .i64 0]) (T := 39) KR 3 2 (.tmp 57) (.tmp 49) (.int .i64 t1759) #[.int .i64 x1743.f0, .int .i64 t1755, .int .i64 t1759, .bool false, .int .i64 0, .int .i64 0, .int .i64 0] rfl KR KR KR KR KR KR KR ?_; intro ax wx HV hax; exact HK _ _ hax HV
          · skip
            intro a W1769 ha HW he hf
            replace HW : Wd w W1769 [(b1748, .cells #[.int .i64 x1743.f0, .int .i64 t1755, .int .i64 t1759, .bool false, .int .i64 0, .int .i64 0, .int .i64 0] 39 (0, 0)), (b1740, .cells #[.int .i64 x1743.f0, .int .i64 x1743.f1, .int .i64 x1743.f2.f0, .int .i64 x1743.f2.f1, .int .i64 x1743.f3.f0, .int .i64 x1743.f3.f1, .int .i64 x1743.f4.f0, .int .i64 x1743.f4.f1] 75 (0, 0)), (b1709, .cells #[.int .i64 0, .int .i64 0, .int .i64 0, .bool false, .int .i64 0, .int .i64 0, .int .i64 0] 39 (0, 0)), (b1707, .cells #[.string a0] 9 (0, 0))] [] := HW
            replace ha := ha.add (he 1 (.pointer (some ⟨b1707, 0, none⟩)) KR KR)
            replace ha := ha.add (he 2 (.pointer (some ⟨b1709, 0, none⟩)) KR KR)
            replace ha := ha.add (he 5 (.pointer (some ⟨b1740, 0, none⟩)) KR KR)
            replace ha := ha.add (he 6 (.pointer (some ⟨b1748, 0, none⟩)) KR KR)
            replace ha := ha.add (gotF (m := 22) (j := 17) (d := 55) (v := .int .i64 t1763) hf KR KR KR)
            clear he hf
            refine stepp ha 58 (.pointer (some ⟨b1748, 5, none⟩)) KR KR ?_; clear ha a; intro a ha
            refine stepst ha HW 0 (b := b1748) (C := #[.int .i64 x1743.f0, .int .i64 t1755, .int .i64 t1759, .bool false, .int .i64 0, .int .i64 0, .int .i64 0]) (T := 39) KR 3 5 (.tmp 58) (.tmp 55) (.int .i64 t1763) #[.int .i64 x1743.f0, .int .i64 t1755, .int .i64 t1759, .bool false, .int .i64 0, .int .i64 t1763, .int .i64 0] rfl KR KR KR KR KR KR KR ?_; clear ha HW a; intro a W1770 HW ha
            refine endl ?_
            refine thenN (hK1754 _ _ ?_); clear hK1754
            refine wp_seq_k (fun K1771 hK1772 => ?_)
            refine wp_region_lit ?_
            refine stepp ha 8 (.bool true) KR KR ?_; clear ha a; intro a ha
            refine endl ?_
            refine thenN (hK1772 _ _ ?_); clear hK1772
            refine wp_seq_k (fun K1773 hK1774 => ?_)
            refine cutn (fun a W1851 => ∃ (x1846 : Bool), ∃ (x1847 : Int), ∃ (x1848 : Bool), ∃ (x1849 : Int), ∃ (x1850 : Int), cdb_Parse.j3 K x1743 t1755 t1759 t1763 x1846 x1847 x1848 x1849 x1850 = some r ∧ Has 162 [(2, .pointer (some ⟨b1709, 0, none⟩)), (5, .pointer (some ⟨b1740, 0, none⟩)), (6, .pointer (some ⟨b1748, 0, none⟩)), (8, .bool x1846)] a ∧ Wd w W1851 [(b1709, .cells #[.int .i64 0, .int .i64 0, .int .i64 0, .bool false, .int .i64 0, .int .i64 0, .int .i64 0] 39 (0, 0)), (b1740, .cells #[.int .i64 x1743.f0, .int .i64 x1743.f1, .int .i64 x1743.f2.f0, .int .i64 x1743.f2.f1, .int .i64 x1743.f3.f0, .int .i64 x1743.f3.f1, .int .i64 x1743.f4.f0, .int .i64 x1743.f4.f1] 75 (0, 0)), (b1748, .cells #[.int .i64 x1847, .int .i64 t1755, .int .i64 t1759, .bool x1848, .int .i64 x1849, .int .i64 t1763, .int .i64 x1850] 39 (0, 0))] []) ?_ ?_
            · skip
              refine wp_seq_k (fun K1775 hK1776 => ?_)
              refine wp_region_lit ?_
              refine stepp ha 59 (.pointer (some ⟨b1740, 0, none⟩)) KR KR ?_; clear ha a; intro a ha
              refine stepp ha 60 (.pointer (some ⟨b1740, 0, none⟩)) KR KR ?_; clear ha a; intro a ha
              refine stepp ha 61 (.pointer (some ⟨b1740, 0, none⟩)) KR KR ?_; clear ha a; intro a ha
              refine stepl ha 62 (HW.ca (i := 1) (b := b1740) (C := #[.int .i64 x1743.f0, .int .i64 x1743.f1, .int .i64 x1743.f2.f0, .int .i64 x1743.f2.f1, .int .i64 x1743.f3.f0, .int .i64 x1743.f3.f1, .int .i64 x1743.f4.f0, .int .i64 x1743.f4.f1]) (T := 75) (fr := (0, 0)) KR) 3 0 (.tmp 61) (.int .i64 x1743.f0) rfl KR KR KR ?_; clear ha a; intro a ha
              refine endl ?_
              refine thenN (hK1776 _ _ ?_); clear hK1776
              refine wp_block ?_
              refine wp_seq_k (fun K1777 hK1778 => ?_)
              refine wp_region_lit ?_
              refine stepp ha 64 (.bool (x1743.f0 == 18)) KR KR ?_; clear ha a; intro a ha
              refine stepp ha 63 (.bool (x1743.f0 == 18)) KR KR ?_; clear ha a; intro a ha
              refine endl ?_
              refine thenN (hK1778 _ _ ?_); clear hK1778
              by_cases hp1779 : x1743.f0 = 18
              · skip
                replace h := ite_pos' h hp1779
                refine condT ha KR KR (t := (x1743.f0 == 18)) (ieq_t hp1779) ?_
                refine wp_seq_k (fun K1780 hK1781 => ?_)
                refine wp_region_lit ?_
                refine stepl ha 65 (HW.ca (i := 3) (b := b1707) (C := #[.string a0]) (T := 9) (fr := (0, 0)) KR) 9 0 (.tmp 1) (.string a0) rfl KR KR KR ?_; clear ha a; intro a ha
                obtain ⟨hA1782, h_⟩ := asrt_some h; clear h; have h := h_; clear h_
                refine stepsi ha 66 9 (.tmp 65) (.const (.int .i64 1)) a0 .i64 1 rfl KR KR KR (by decide) (show (1 : Int) < ((a0).size : Int) from hA1782) KR ?_; clear ha a; intro a ha
                refine stepp ha 67 (.int .u8 (band .u8 (bt a0 1) 1)) KR KR ?_; clear ha a; intro a ha
                refine stepp ha 68 (.bool ((band .u8 (bt a0 1) 1) == 1)) KR KR ?_; clear ha a; intro a ha
                refine endl ?_
                refine thenN (hK1781 _ _ ?_); clear hK1781
                by_cases hp1783 : (band .u8 (bt a0 1) 1) = 1
                · skip
                  replace h := ite_pos' h hp1783
                  refine condT ha KR KR (t := ((band .u8 (bt a0 1) 1) == 1)) (ieq_t hp1783) ?_
                  refine wp_region_lit ?_
                  refine stepl ha 69 (HW.ca (i := 3) (b := b1707) (C := #[.string a0]) (T := 9) (fr := (0, 0)) KR) 9 0 (.tmp 1) (.string a0) rfl KR KR KR ?_; clear ha a; intro a ha
                  obtain ⟨hA1784, h_⟩ := asrt_some h; clear h; have h := h_; clear h_
                  refine stepsi ha 70 9 (.tmp 69) (.const (.int .i64 2)) a0 .i64 2 rfl KR KR KR (by decide) (show (2 : Int) < ((a0).size : Int) from hA1784) KR ?_; clear ha a; intro a ha
                  refine stepp ha 71 (.int .i64 (IntKind.wrap .i64 (bt a0 2))) KR KR ?_; clear ha a; intro a ha
                  refine stepp ha 72 (.int .i64 (IntKind.wrap .i64 (256 + (IntKind.wrap .i64 (bt a0 2))))) KR KR ?_; clear ha a; intro a ha
                  refine stepp ha 73 (.pointer (some ⟨b1748, 4, none⟩)) KR KR ?_; clear ha a; intro a ha
                  refine stepst ha HW 0 (b := b1748) (C := #[.int .i64 x1743.f0, .int .i64 t1755, .int .i64 t1759, .bool false, .int .i64 0, .int .i64 t1763, .int .i64 0]) (T := 39) KR 3 4 (.tmp 73) (.tmp 72) (.int .i64 (IntKind.wrap .i64 (256 + (IntKind.wrap .i64 (bt a0 2))))) #[.int .i64 x1743.f0, .int .i64 t1755, .int .i64 t1759, .bool false, .int .i64 (IntKind.wrap .i64 (256 + (IntKind.wrap .i64 (bt a0 2)))), .int .i64 t1763, .int .i64 0] rfl KR KR KR KR KR KR KR ?_; clear ha HW a; intro a W1785 HW ha
                  refine endl ?_
                  refine blkN ?_
                  exact thenN ⟨true, x1743.f0, false, IntKind.wrap .i64 (256 + (IntKind.wrap .i64 (bt a0 2))), 0, h, ha.sub (subs_cons KR (subs_cons KR (subs_cons KR (subs_cons KR (subs_nil _))))), HW.pick [2, 1, 0] [] (by decide) (by decide) KR KR⟩
                · skip
                  replace h := ite_neg' h hp1783
                  refine condF ha KR KR (t := ((band .u8 (bt a0 1) 1) == 1)) (ieq_f hp1783) ?_
                  refine wp_skip ?_
                  refine blkN ?_
                  exact thenN ⟨true, x1743.f0, false, 0, 0, h, ha.sub (subs_cons KR (subs_cons KR (subs_cons KR (subs_cons KR (subs_nil _))))), HW.pick [2, 1, 0] [] (by decide) (by decide) KR KR⟩
              · skip
                replace h := ite_neg' h hp1779
                refine condF ha KR KR (t := (x1743.f0 == 18)) (ieq_f hp1779) ?_
                refine wp_seq_k (fun K1786 hK1787 => ?_)
                refine cutn (fun a W1792 => ∃ (x1791 : Bool), cdb_Parse.j0 K a0 x1743 t1755 t1759 t1763 x1791 = some r ∧ Has 162 [(1, .pointer (some ⟨b1707, 0, none⟩)), (2, .pointer (some ⟨b1709, 0, none⟩)), (5, .pointer (some ⟨b1740, 0, none⟩)), (6, .pointer (some ⟨b1748, 0, none⟩)), (8, .bool true), (62, .int .i64 x1743.f0), (74, .bool x1791)] a ∧ Wd w W1792 [(b1707, .cells #[.string a0] 9 (0, 0)), (b1709, .cells #[.int .i64 0, .int .i64 0, .int .i64 0, .bool false, .int .i64 0, .int .i64 0, .int .i64 0] 39 (0, 0)), (b1740, .cells #[.int .i64 x1743.f0, .int .i64 x1743.f1, .int .i64 x1743.f2.f0, .int .i64 x1743.f2.f1, .int .i64 x1743.f3.f0, .int .i64 x1743.f3.f1, .int .i64 x1743.f4.f0, .int .i64 x1743.f4.f1] 75 (0, 0)), (b1748, .cells #[.int .i64 x1743.f0, .int .i64 t1755, .int .i64 t1759, .bool false, .int .i64 0, .int .i64 t1763, .int .i64 0] 39 (0, 0))] []) ?_ ?_
                · skip
                  refine wp_seq_k (fun K1788 hK1789 => ?_)
                  refine wp_region_lit ?_
                  refine stepp ha 75 (.bool (x1743.f0 == 42)) KR KR ?_; clear ha a; intro a ha
                  refine stepp ha 74 (.bool (x1743.f0 == 42)) KR KR ?_; clear ha a; intro a ha
                  refine endl ?_
                  refine thenN (hK1789 _ _ ?_); clear hK1789
                  by_cases hp1790 : x1743.f0 = 42
                  · skip
                    replace h := ite_pos' h hp1790
                    refine condT ha KR KR (t := (x1743.f0 == 42)) (ieq_t hp1790) ?_
                    refine wp_skip ?_
                    exact thenN ⟨(x1743.f0 == 42), h, ha.sub (subs_cons KR (subs_cons KR (subs_cons KR (subs_cons KR (subs_cons KR (subs_cons KR (subs_cons KR (subs_nil _)))))))), HW.pick [3, 2, 1, 0] [] (by decide) (by decide) KR KR⟩
                  · skip
                    replace h := ite_neg' h hp1790
                    refine condF ha KR KR (t := (x1743.f0 == 42)) (ieq_f hp1790) ?_
                    refine wp_region_lit ?_
                    refine stepp ha 76 (.bool (x1743.f0 == 138)) KR KR ?_; clear ha a; intro a ha
                    refine stepp ha 74 (.bool (x1743.f0 == 138)) KR KR ?_; clear ha a; intro a ha
                    refine endl ?_
                    exact thenN ⟨(x1743.f0 == 138), h, ha.sub (subs_cons KR (subs_cons KR (subs_cons KR (subs_cons KR (subs_cons KR (subs_cons KR (subs_cons KR (subs_nil _)))))))), HW.pick [3, 2, 1, 0] [] (by decide) (by decide) KR KR⟩
                · skip
                  intro a W1792 hJ
                  obtain ⟨x1791, h, ha, HW⟩ := hJ
                  replace h : cdb_Parse.j0 K a0 x1743 t1755 t1759 t1763 x1791 = some r := h
                  unfold cdb_Parse.j0 at h
                  refine hK1787 _ _ ?_; clear hK1787
                  by_cases hp1793 : x1791 = true
                  · skip
                    replace h := ite_pos' h hp1793
                    refine condT ha KR KR (t := x1791) (hp1793) ?_
                    refine wp_region_lit ?_
                    refine stepl ha 77 (HW.ca (i := 0) (b := b1707) (C := #[.string a0]) (T := 9) (fr := (0, 0)) KR) 9 0 (.tmp 1) (.string a0) rfl KR KR KR ?_; clear ha a; intro a ha
                    obtain ⟨hA1794, h_⟩ := asrt_some h; clear h; have h := h_; clear h_
                    refine stepsi ha 78 9 (.tmp 77) (.const (.int .i64 1)) a0 .i64 1 rfl KR KR KR (by decide) (show (1 : Int) < ((a0).size : Int) from hA1794) KR ?_; clear ha a; intro a ha
                    refine stepp ha 79 (.int .u8 ((bt a0 1).fdiv 8)) KR KR ?_; clear ha a; intro a ha
                    refine stepp ha 80 (.int .u8 (band .u8 ((bt a0 1).fdiv 8) 1)) KR KR ?_; clear ha a; intro a ha
                    refine stepp ha 81 (.bool ((band .u8 ((bt a0 1).fdiv 8) 1) == 1)) KR KR ?_; clear ha a; intro a ha
                    refine stepp ha 82 (.pointer (some ⟨b1748, 3, none⟩)) KR KR ?_; clear ha a; intro a ha
                    refine stepst ha HW 3 (b := b1748) (C := #[.int .i64 x1743.f0, .int .i64 t1755, .int .i64 t1759, .bool false, .int .i64 0, .int .i64 t1763, .int .i64 0]) (T := 39) KR 4 3 (.tmp 82) (.tmp 81) (.bool ((band .u8 ((bt a0 1).fdiv 8) 1) == 1)) #[.int .i64 x1743.f0, .int .i64 t1755, .int .i64 t1759, .bool ((band .u8 ((bt a0 1).fdiv 8) 1) == 1), .int .i64 0, .int .i64 t1763, .int .i64 0] rfl KR KR KR KR KR KR KR ?_; clear ha HW a; intro a W1795 HW ha
                    refine endl ?_
                    refine blkN ?_
                    exact thenN ⟨true, x1743.f0, ((band .u8 ((bt a0 1).fdiv 8) 1) == 1), 0, 0, h, ha.sub (subs_cons KR (subs_cons KR (subs_cons KR (subs_cons KR (subs_nil _))))), HW.pick [1, 2, 3] [] (by decide) (by decide) KR KR⟩
                  · skip
                    replace h := ite_neg' h hp1793
                    refine condF ha KR KR (t := x1791) (bool_f hp1793) ?_
                    refine wp_seq_k (fun K1796 hK1797 => ?_)
                    refine wp_region_lit ?_
                    refine stepp ha 84 (.bool (x1743.f0 == 147)) KR KR ?_; clear ha a; intro a ha
                    refine stepp ha 83 (.bool (x1743.f0 == 147)) KR KR ?_; clear ha a; intro a ha
                    refine endl ?_
                    refine thenN (hK1797 _ _ ?_); clear hK1797
                    by_cases hp1798 : x1743.f0 = 147
                    · skip
                      replace h := ite_pos' h hp1798
                      refine condT ha KR KR (t := (x1743.f0 == 147)) (ieq_t hp1798) ?_
                      refine wp_region_lit ?_
                      refine stepl ha 85 (HW.ca (i := 0) (b := b1707) (C := #[.string a0]) (T := 9) (fr := (0, 0)) KR) 9 0 (.tmp 1) (.string a0) rfl KR KR KR ?_; clear ha a; intro a ha
                      obtain ⟨hA1799, h_⟩ := asrt_some h; clear h; have h := h_; clear h_
                      refine stepsi ha 86 9 (.tmp 85) (.const (.int .i64 1)) a0 .i64 1 rfl KR KR KR (by decide) (show (1 : Int) < ((a0).size : Int) from hA1799) KR ?_; clear ha a; intro a ha
                      refine stepp ha 87 (.int .u8 (band .u8 (bt a0 1) 1)) KR KR ?_; clear ha a; intro a ha
                      refine stepp ha 88 (.bool ((band .u8 (bt a0 1) 1) == 1)) KR KR ?_; clear ha a; intro a ha
                      refine stepp ha 8 (.bool ((band .u8 (bt a0 1) 1) == 1)) KR KR ?_; clear ha a; intro a ha
                      refine endl ?_
                      refine blkN ?_
                      exact thenN ⟨((band .u8 (bt a0 1) 1) == 1), x1743.f0, false, 0, 0, h, ha.sub (subs_cons KR (subs_cons KR (subs_cons KR (subs_cons KR (subs_nil _))))), HW.pick [1, 2, 3] [] (by decide) (by decide) KR KR⟩
                    · skip
                      replace h := ite_neg' h hp1798
                      refine condF ha KR KR (t := (x1743.f0 == 147)) (ieq_f hp1798) ?_
                      refine wp_seq_k (fun K1800 hK1801 => ?_)
                      refine cutn (fun a W1806 => ∃ (x1805 : Bool), cdb_Parse.j1 K a0 x1743 t1755 t1759 t1763 x1805 = some r ∧ Has 162 [(1, .pointer (some ⟨b1707, 0, none⟩)), (2, .pointer (some ⟨b1709, 0, none⟩)), (5, .pointer (some ⟨b1740, 0, none⟩)), (6, .pointer (some ⟨b1748, 0, none⟩)), (8, .bool true), (89, .bool x1805)] a ∧ Wd w W1806 [(b1707, .cells #[.string a0] 9 (0, 0)), (b1709, .cells #[.int .i64 0, .int .i64 0, .int .i64 0, .bool false, .int .i64 0, .int .i64 0, .int .i64 0] 39 (0, 0)), (b1740, .cells #[.int .i64 x1743.f0, .int .i64 x1743.f1, .int .i64 x1743.f2.f0, .int .i64 x1743.f2.f1, .int .i64 x1743.f3.f0, .int .i64 x1743.f3.f1, .int .i64 x1743.f4.f0, .int .i64 x1743.f4.f1] 75 (0, 0)), (b1748, .cells #[.int .i64 x1743.f0, .int .i64 t1755, .int .i64 t1759, .bool false, .int .i64 0, .int .i64 t1763, .int .i64 0] 39 (0, 0))] []) ?_ ?_
                      · skip
                        refine wp_seq_k (fun K1802 hK1803 => ?_)
                        refine wp_region_lit ?_
                        refine stepp ha 90 (.bool (x1743.f0 == 94)) KR KR ?_; clear ha a; intro a ha
                        refine stepp ha 89 (.bool (x1743.f0 == 94)) KR KR ?_; clear ha a; intro a ha
                        refine endl ?_
                        refine thenN (hK1803 _ _ ?_); clear hK1803
                        by_cases hp1804 : x1743.f0 = 94
                        · skip
                          replace h := ite_pos' h hp1804
                          refine condT ha KR KR (t := (x1743.f0 == 94)) (ieq_t hp1804) ?_
                          refine wp_skip ?_
                          exact thenN ⟨(x1743.f0 == 94), h, ha.sub (subs_cons KR (subs_cons KR (subs_cons KR (subs_cons KR (subs_cons KR (subs_cons KR (subs_nil _))))))), HW.pick [0, 1, 2, 3] [] (by decide) (by decide) KR KR⟩
                        · skip
                          replace h := ite_neg' h hp1804
                          refine condF ha KR KR (t := (x1743.f0 == 94)) (ieq_f hp1804) ?_
                          refine wp_region_lit ?_
                          refine stepp ha 91 (.bool (x1743.f0 == 95)) KR KR ?_; clear ha a; intro a ha
                          refine stepp ha 89 (.bool (x1743.f0 == 95)) KR KR ?_; clear ha a; intro a ha
                          refine endl ?_
                          exact thenN ⟨(x1743.f0 == 95), h, ha.sub (subs_cons KR (subs_cons KR (subs_cons KR (subs_cons KR (subs_cons KR (subs_cons KR (subs_nil _))))))), HW.pick [0, 1, 2, 3] [] (by decide) (by decide) KR KR⟩
                      · skip
                        intro a W1806 hJ
                        obtain ⟨x1805, h, ha, HW⟩ := hJ
                        replace h : cdb_Parse.j1 K a0 x1743 t1755 t1759 t1763 x1805 = some r := h
                        unfold cdb_Parse.j1 at h
                        refine hK1801 _ _ ?_; clear hK1801
                        by_cases hp1807 : x1805 = true
                        · skip
                          replace h := ite_pos' h hp1807
                          refine condT ha KR KR (t := x1805) (hp1807) ?_
                          refine wp_seq_k (fun K1808 hK1809 => ?_)
                          refine wp_region_lit ?_
                          refine stepl ha 92 (HW.ca (i := 0) (b := b1707) (C := #[.string a0]) (T := 9) (fr := (0, 0)) KR) 9 0 (.tmp 1) (.string a0) rfl KR KR KR ?_; clear ha a; intro a ha
                          obtain ⟨hA1810, h_⟩ := asrt_some h; clear h; have h := h_; clear h_
                          refine stepsi ha 93 9 (.tmp 92) (.const (.int .i64 1)) a0 .i64 1 rfl KR KR KR (by decide) (show (1 : Int) < ((a0).size : Int) from hA1810) KR ?_; clear ha a; intro a ha
                          refine stepp ha 94 (.int .u8 (band .u8 (bt a0 1) 31)) KR KR ?_; clear ha a; intro a ha
                          refine stepp ha 95 (.int .i64 (IntKind.wrap .i64 (band .u8 (bt a0 1) 31))) KR KR ?_; clear ha a; intro a ha
                          refine stepp ha 9 (.int .i64 (IntKind.wrap .i64 (band .u8 (bt a0 1) 31))) KR KR ?_; clear ha a; intro a ha
                          refine endl ?_
                          refine thenN (hK1809 _ _ ?_); clear hK1809
                          refine wp_seq_k (fun K1811 hK1812 => ?_)
                          refine wp_region_lit ?_
                          refine stepp ha 96 (.pointer (some ⟨b1740, 0, none⟩)) KR KR ?_; clear ha a; intro a ha
                          refine stepp ha 97 (.pointer (some ⟨b1740, 0, none⟩)) KR KR ?_; clear ha a; intro a ha
                          refine stepp ha 98 (.pointer (some ⟨b1740, 0, none⟩)) KR KR ?_; clear ha a; intro a ha
                          refine stepl ha 99 (HW.ca (i := 2) (b := b1740) (C := #[.int .i64 x1743.f0, .int .i64 x1743.f1, .int .i64 x1743.f2.f0, .int .i64 x1743.f2.f1, .int .i64 x1743.f3.f0, .int .i64 x1743.f3.f1, .int .i64 x1743.f4.f0, .int .i64 x1743.f4.f1]) (T := 75) (fr := (0, 0)) KR) 3 0 (.tmp 98) (.int .i64 x1743.f0) rfl KR KR KR ?_; clear ha a; intro a ha
                          refine stepp ha 100 (.int .i64 (IntKind.wrap .i64 (256 * x1743.f0))) KR KR ?_; clear ha a; intro a ha
                          refine stepp ha 101 (.int .i64 (IntKind.wrap .i64 (band .u8 (bt a0 1) 31))) KR KR ?_; clear ha a; intro a ha
                          refine stepp ha 102 (.int .i64 (IntKind.wrap .i64 ((IntKind.wrap .i64 (256 * x1743.f0)) + (IntKind.wrap .i64 (band .u8 (bt a0 1) 31))))) KR KR ?_; clear ha a; intro a ha
                          refine stepp ha 103 (.pointer (some ⟨b1748, 0, none⟩)) KR KR ?_; clear ha a; intro a ha
                          refine stepst ha HW 3 (b := b1748) (C := #[.int .i64 x1743.f0, .int .i64 t1755, .int .i64 t1759, .bool false, .int .i64 0, .int .i64 t1763, .int .i64 0]) (T := 39) KR 3 0 (.tmp 103) (.tmp 102) (.int .i64 (IntKind.wrap .i64 ((IntKind.wrap .i64 (256 * x1743.f0)) + (IntKind.wrap .i64 (band .u8 (bt a0 1) 31))))) #[.int .i64 (IntKind.wrap .i64 ((IntKind.wrap .i64 (256 * x1743.f0)) + (IntKind.wrap .i64 (band .u8 (bt a0 1) 31)))), .int .i64 t1755, .int .i64 t1759, .bool false, .int .i64 0, .int .i64 t1763, .int .i64 0] rfl KR KR KR KR KR KR KR ?_; clear ha HW a; intro a W1813 HW ha
                          refine endl ?_
                          refine thenN (hK1812 _ _ ?_); clear hK1812
                          refine wp_seq_k (fun K1814 hK1815 => ?_)
                          refine wp_region_lit ?_
                          refine stepp ha 104 (.pointer (some ⟨b1740, 0, none⟩)) KR KR ?_; clear ha a; intro a ha
                          refine stepp ha 105 (.pointer (some ⟨b1740, 0, none⟩)) KR KR ?_; clear ha a; intro a ha
                          refine stepp ha 106 (.pointer (some ⟨b1740, 0, none⟩)) KR KR ?_; clear ha a; intro a ha
                          refine stepl ha 107 (HW.ca (i := 2) (b := b1740) (C := #[.int .i64 x1743.f0, .int .i64 x1743.f1, .int .i64 x1743.f2.f0, .int .i64 x1743.f2.f1, .int .i64 x1743.f3.f0, .int .i64 x1743.f3.f1, .int .i64 x1743.f4.f0, .int .i64 x1743.f4.f1]) (T := 75) (fr := (0, 0)) KR) 3 0 (.tmp 106) (.int .i64 x1743.f0) rfl KR KR KR ?_; clear ha a; intro a ha
                          refine stepp ha 108 (.int .i64 (IntKind.wrap .i64 (band .u8 (bt a0 1) 31))) KR KR ?_; clear ha a; intro a ha
                          obtain ⟨t1816, ht1817, h_⟩ := bind_some' h; clear h; have h := h_; clear h_
                          refine stepc ha 109 KR KR (cdb_known.calls x1743.f0 (IntKind.wrap .i64 (band .u8 (bt a0 1) 31)) t1816 _ ht1817) ?_; clear ha a; rintro e W1818 ⟨rfl, HX1819⟩
                          refine ⟨_, rfl, ?_⟩; intro a ha; replace HW := HW.callw HX1819; clear HX1819
                          refine stepp ha 8 (.bool t1816) KR KR ?_; clear ha a; intro a ha
                          refine endl ?_
                          refine thenN (hK1815 _ _ ?_); clear hK1815
                          refine wp_seq_k (fun K1820 hK1821 => ?_)
                          refine wp_region_lit ?_
                          refine stepp ha 110 (.pointer (some ⟨b1740, 0, none⟩)) KR KR ?_; clear ha a; intro a ha
                          refine stepp ha 111 (.pointer (some ⟨b1740, 0, none⟩)) KR KR ?_; clear ha a; intro a ha
                          refine stepp ha 112 (.pointer (some ⟨b1740, 0, none⟩)) KR KR ?_; clear ha a; intro a ha
                          refine stepl ha 113 (HW.ca (i := 2) (b := b1740) (C := #[.int .i64 x1743.f0, .int .i64 x1743.f1, .int .i64 x1743.f2.f0, .int .i64 x1743.f2.f1, .int .i64 x1743.f3.f0, .int .i64 x1743.f3.f1, .int .i64 x1743.f4.f0, .int .i64 x1743.f4.f1]) (T := 75) (fr := (0, 0)) KR) 3 0 (.tmp 112) (.int .i64 x1743.f0) rfl KR KR KR ?_; clear ha a; intro a ha
                          refine stepp ha 114 (.bool (x1743.f0 == 95)) KR KR ?_; clear ha a; intro a ha
                          refine endl ?_
                          refine thenN (hK1821 _ _ ?_); clear hK1821
                          by_cases hp1822 : x1743.f0 = 95
                          · skip
                            replace h := ite_pos' h hp1822
                            refine condT ha KR KR (t := (x1743.f0 == 95)) (ieq_t hp1822) ?_
                            refine wp_seq_k (fun K1823 hK1824 => ?_)
                            refine cutn (fun a W1829 => ∃ (x1828 : Bool), cdb_Parse.j2 K a0 x1743 t1755 t1759 t1763 x1828 = some r ∧ Has 162 [(1, .pointer (some ⟨b1707, 0, none⟩)), (2, .pointer (some ⟨b1709, 0, none⟩)), (5, .pointer (some ⟨b1740, 0, none⟩)), (6, .pointer (some ⟨b1748, 0, none⟩)), (8, .bool x1828), (9, .int .i64 (IntKind.wrap .i64 (band .u8 (bt a0 1) 31)))] a ∧ Wd w W1829 [(b1707, .cells #[.string a0] 9 (0, 0)), (b1709, .cells #[.int .i64 0, .int .i64 0, .int .i64 0, .bool false, .int .i64 0, .int .i64 0, .int .i64 0] 39 (0, 0)), (b1740, .cells #[.int .i64 x1743.f0, .int .i64 x1743.f1, .int .i64 x1743.f2.f0, .int .i64 x1743.f2.f1, .int .i64 x1743.f3.f0, .int .i64 x1743.f3.f1, .int .i64 x1743.f4.f0, .int .i64 x1743.f4.f1] 75 (0, 0)), (b1748, .cells #[.int .i64 (IntKind.wrap .i64 ((IntKind.wrap .i64 (256 * x1743.f0)) + (IntKind.wrap .i64 (band .u8 (bt a0 1) 31)))), .int .i64 t1755, .int .i64 t1759, .bool false, .int .i64 0, .int .i64 t1763, .int .i64 0] 39 (0, 0))] []) ?_ ?_
                            · skip
                              refine wp_region_lit ?_
                              refine stepp ha 115 (.bool t1816) KR KR ?_; clear ha a; intro a ha
                              refine stepp ha 116 (.bool t1816) KR KR ?_; clear ha a; intro a ha
                              by_cases hp1825 : t1816 = true
                              · skip
                                replace h := ite_pos' h hp1825
                                replace ha := ha.bool 116 KR (hp1825)
                                refine stepl ha 117 (HW.ca (i := 0) (b := b1707) (C := #[.string a0]) (T := 9) (fr := (0, 0)) KR) 9 0 (.tmp 1) (.string a0) rfl KR KR KR ?_; clear ha a; intro a ha
                                obtain ⟨hA1826, h_⟩ := asrt_some h; clear h; have h := h_; clear h_
                                refine stepsi ha 118 9 (.tmp 117) (.const (.int .i64 2)) a0 .i64 2 rfl KR KR KR (by decide) (show (2 : Int) < ((a0).size : Int) from hA1826) KR ?_; clear ha a; intro a ha
                                refine stepp ha 119 (.int .u8 ((bt a0 2).fdiv 16)) KR KR ?_; clear ha a; intro a ha
                                refine stepp ha 120 (.bool (((bt a0 2).fdiv 16) == 0)) KR KR ?_; clear ha a; intro a ha
                                refine stepp ha 121 (.bool (((bt a0 2).fdiv 16) == 0)) KR KR ?_; clear ha a; intro a ha
                                refine stepp ha 122 (.bool (((bt a0 2).fdiv 16) == 0)) KR KR ?_; clear ha a; intro a ha
                                by_cases hp1827 : ((bt a0 2).fdiv 16) = 0
                                · skip
                                  replace h := ite_pos' h hp1827
                                  replace ha := ha.bool 122 KR (ieq_t hp1827)
                                  refine stepp ha 123 (.pointer (some ⟨b1748, 5, none⟩)) KR KR ?_; clear ha a; intro a ha
                                  refine stepl ha 124 (HW.ca (i := 3) (b := b1748) (C := #[.int .i64 (IntKind.wrap .i64 ((IntKind.wrap .i64 (256 * x1743.f0)) + (IntKind.wrap .i64 (band .u8 (bt a0 1) 31)))), .int .i64 t1755, .int .i64 t1759, .bool false, .int .i64 0, .int .i64 t1763, .int .i64 0]) (T := 39) (fr := (0, 0)) KR) 3 5 (.tmp 123) (.int .i64 t1763) rfl KR KR KR ?_; clear ha a; intro a ha
                                  refine stepp ha 125 (.bool (t1763 == 24)) KR KR ?_; clear ha a; intro a ha
                                  refine stepp ha 126 (.bool (t1763 == 24)) KR KR ?_; clear ha a; intro a ha
                                  refine stepp ha 8 (.bool (t1763 == 24)) KR KR ?_; clear ha a; intro a ha
                                  refine endl ?_
                                  exact thenN ⟨(t1763 == 24), h, ha.sub (subs_cons KR (subs_cons KR (subs_cons KR (subs_cons KR (subs_cons KR (subs_cons KR (subs_nil _))))))), HW.pick [0, 1, 2, 3] [] (by decide) (by decide) KR KR⟩
                                · skip
                                  replace h := ite_neg' h hp1827
                                  replace ha := ha.bool 122 KR (ieq_f hp1827)
                                  refine stepo ha 123 KR ?_; clear ha a; intro a ha
                                  refine stepo ha 124 KR ?_; clear ha a; intro a ha
                                  refine stepo ha 125 KR ?_; clear ha a; intro a ha
                                  refine stepp ha 126 (.bool false) KR KR ?_; clear ha a; intro a ha
                                  refine stepp ha 8 (.bool false) KR KR ?_; clear ha a; intro a ha
                                  refine endl ?_
                                  exact thenN ⟨false, h, ha.sub (subs_cons KR (subs_cons KR (subs_cons KR (subs_cons KR (subs_cons KR (subs_cons KR (subs_nil _))))))), HW.pick [0, 1, 2, 3] [] (by decide) (by decide) KR KR⟩
                              · skip
                                replace h := ite_neg' h hp1825
                                replace ha := ha.bool 116 KR (bool_f hp1825)
                                refine stepo ha 117 KR ?_; clear ha a; intro a ha
                                refine stepo ha 118 KR ?_; clear ha a; intro a ha
                                refine stepo ha 119 KR ?_; clear ha a; intro a ha
                                refine stepo ha 120 KR ?_; clear ha a; intro a ha
                                refine stepp ha 121 (.bool false) KR KR ?_; clear ha a; intro a ha
                                refine stepp ha 122 (.bool false) KR KR ?_; clear ha a; intro a ha
                                refine stepo ha 123 KR ?_; clear ha a; intro a ha
                                refine stepo ha 124 KR ?_; clear ha a; intro a ha
                                refine stepo ha 125 KR ?_; clear ha a; intro a ha
                                refine stepp ha 126 (.bool false) KR KR ?_; clear ha a; intro a ha
                                refine stepp ha 8 (.bool false) KR KR ?_; clear ha a; intro a ha
                                refine endl ?_
                                exact thenN ⟨false, h, ha.sub (subs_cons KR (subs_cons KR (subs_cons KR (subs_cons KR (subs_cons KR (subs_cons KR (subs_nil _))))))), HW.pick [0, 1, 2, 3] [] (by decide) (by decide) KR KR⟩
                            · skip
                              intro a W1829 hJ
                              obtain ⟨x1828, h, ha, HW⟩ := hJ
                              replace h : cdb_Parse.j2 K a0 x1743 t1755 t1759 t1763 x1828 = some r := h
                              unfold cdb_Parse.j2 at h
                              refine hK1824 _ _ ?_; clear hK1824
                              refine wp_seq_k (fun K1830 hK1831 => ?_)
                              refine wp_region_lit ?_
                              refine stepp ha 127 (.int .i64 (IntKind.wrap .i64 (band .u8 (bt a0 1) 31))) KR KR ?_; clear ha a; intro a ha
                              obtain ⟨t1832, ht1833, h_⟩ := bind_some' h; clear h; have h := h_; clear h_
                              refine stepc ha 128 KR KR (cdb_typed.calls (IntKind.wrap .i64 (band .u8 (bt a0 1) 31)) t1832 _ ht1833) ?_; clear ha a; rintro e W1834 ⟨rfl, HX1835⟩
                              refine ⟨_, rfl, ?_⟩; intro a ha; replace HW := HW.callw HX1835; clear HX1835
                              refine endl ?_
                              refine thenN (hK1831 _ _ ?_); clear hK1831
                              by_cases hp1836 : t1832 = true
                              · skip
                                replace h := ite_pos' h hp1836
                                refine condT ha KR KR (t := t1832) (hp1836) ?_
                                refine wp_seq_k (fun K1837 hK1838 => ?_)
                                refine wp_region_lit ?_
                                refine stepl ha 129 (HW.ca (i := 0) (b := b1707) (C := #[.string a0]) (T := 9) (fr := (0, 0)) KR) 9 0 (.tmp 1) (.string a0) rfl KR KR KR ?_; clear ha a; intro a ha
                                obtain ⟨hA1839, h_⟩ := asrt_some h; clear h; have h := h_; clear h_
                                refine stepsi ha 130 9 (.tmp 129) (.const (.int .i64 2)) a0 .i64 2 rfl KR KR KR (by decide) (show (2 : Int) < ((a0).size : Int) from hA1839) KR ?_; clear ha a; intro a ha
                                refine stepp ha 131 (.int .u8 (band .u8 (bt a0 2) 15)) KR KR ?_; clear ha a; intro a ha
                                refine stepp ha 132 (.int .i64 (IntKind.wrap .i64 (band .u8 (bt a0 2) 15))) KR KR ?_; clear ha a; intro a ha
                                obtain ⟨t1840, ht1841, h_⟩ := bind_some' h; clear h; have h := h_; clear h_
                                refine stepc ha 133 KR KR (cdb_Type.calls K (IntKind.wrap .i64 (band .u8 (bt a0 2) 15)) t1840 _ (HW.ca0 hG0) ht1841) ?_; clear ha a; rintro e W1842 ⟨rfl, HX1843⟩
                                refine ⟨_, rfl, ?_⟩; intro a ha; replace HW := HW.callw HX1843; clear HX1843
                                refine stepp ha 134 (.pointer (some ⟨b1748, 6, none⟩)) KR KR ?_; clear ha a; intro a ha
                                refine stepst ha HW 3 (b := b1748) (C := #[.int .i64 (IntKind.wrap .i64 ((IntKind.wrap .i64 (256 * x1743.f0)) + (IntKind.wrap .i64 (band .u8 (bt a0 1) 31)))), .int .i64 t1755, .int .i64 t1759, .bool false, .int .i64 0, .int .i64 t1763, .int .i64 0]) (T := 39) KR 3 6 (.tmp 134) (.tmp 133) (.int .i64 t1840) #[.int .i64 (IntKind.wrap .i64 ((IntKind.wrap .i64 (256 * x1743.f0)) + (IntKind.wrap .i64 (band .u8 (bt a0 1) 31)))), .int .i64 t1755, .int .i64 t1759, .bool false, .int .i64 0, .int .i64 t1763, .int .i64 t1840] rfl KR KR KR KR KR KR KR ?_; clear ha HW a; intro a W1844 HW ha
                                refine endl ?_
                                refine thenN (hK1838 _ _ ?_); clear hK1838
                                refine wp_region_lit ?_
                                refine stepp ha 135 (.bool x1828) KR KR ?_; clear ha a; intro a ha
                                refine stepp ha 136 (.bool x1828) KR KR ?_; clear ha a; intro a ha
                                by_cases hp1845 : x1828 = true
                                · skip
                                  replace h := ite_pos' h hp1845
                                  replace ha := ha.bool 136 KR (hp1845)
                                  refine stepp ha 137 (.pointer (some ⟨b1748, 6, none⟩)) KR KR ?_; clear ha a; intro a ha
                                  refine stepl ha 138 (HW.ca (i := 3) (b := b1748) (C := #[.int .i64 (IntKind.wrap .i64 ((IntKind.wrap .i64 (256 * x1743.f0)) + (IntKind.wrap .i64 (band .u8 (bt a0 1) 31)))), .int .i64 t1755, .int .i64 t1759, .bool false, .int .i64 0, .int .i64 t1763, .int .i64 t1840]) (T := 39) (fr := (0, 0)) KR) 3 6 (.tmp 137) (.int .i64 t1840) rfl KR KR KR ?_; clear ha a; intro a ha
                                  refine stepp ha 139 (.bool (t1840 != 0)) KR KR ?_; clear ha a; intro a ha
                                  refine stepp ha 140 (.bool (t1840 != 0)) KR KR ?_; clear ha a; intro a ha
                                  refine stepp ha 8 (.bool (t1840 != 0)) KR KR ?_; clear ha a; intro a ha
                                  refine endl ?_
                                  refine blkN ?_
                                  exact thenN ⟨(t1840 != 0), IntKind.wrap .i64 ((IntKind.wrap .i64 (256 * x1743.f0)) + (IntKind.wrap .i64 (band .u8 (bt a0 1) 31))), false, 0, t1840, h, ha.sub (subs_cons KR (subs_cons KR (subs_cons KR (subs_cons KR (subs_nil _))))), HW.pick [1, 2, 3] [] (by decide) (by decide) KR KR⟩
                                · skip
                                  replace h := ite_neg' h hp1845
                                  replace ha := ha.bool 136 KR (bool_f hp1845)
                                  refine stepo ha 137 KR ?_; clear ha a; intro a ha
                                  refine stepo ha 138 KR ?_; clear ha a; intro a ha
                                  refine stepo ha 139 KR ?_; clear ha a; intro a ha
                                  refine stepp ha 140 (.bool false) KR KR ?_; clear ha a; intro a ha
                                  refine stepp ha 8 (.bool false) KR KR ?_; clear ha a; intro a ha
                                  refine endl ?_
                                  refine blkN ?_
                                  exact thenN ⟨false, IntKind.wrap .i64 ((IntKind.wrap .i64 (256 * x1743.f0)) + (IntKind.wrap .i64 (band .u8 (bt a0 1) 31))), false, 0, t1840, h, ha.sub (subs_cons KR (subs_cons KR (subs_cons KR (subs_cons KR (subs_nil _))))), HW.pick [1, 2, 3] [] (by decide) (by decide) KR KR⟩
                              · skip
                                replace h := ite_neg' h hp1836
                                refine condF ha KR KR (t := t1832) (bool_f hp1836) ?_
                                refine wp_skip ?_
                                refine blkN ?_
                                exact thenN ⟨x1828, IntKind.wrap .i64 ((IntKind.wrap .i64 (256 * x1743.f0)) + (IntKind.wrap .i64 (band .u8 (bt a0 1) 31))), false, 0, 0, h, ha.sub (subs_cons KR (subs_cons KR (subs_cons KR (subs_cons KR (subs_nil _))))), HW.pick [1, 2, 3] [] (by decide) (by decide) KR KR⟩
                          · skip
                            replace h := ite_neg' h hp1822
                            refine condF ha KR KR (t := (x1743.f0 == 95)) (ieq_f hp1822) ?_
                            refine wp_skip ?_
                            refine blkN ?_
                            exact thenN ⟨t1816, IntKind.wrap .i64 ((IntKind.wrap .i64 (256 * x1743.f0)) + (IntKind.wrap .i64 (band .u8 (bt a0 1) 31))), false, 0, 0, h, ha.sub (subs_cons KR (subs_cons KR (subs_cons KR (subs_cons KR (subs_nil _))))), HW.pick [1, 2, 3] [] (by decide) (by decide) KR KR⟩
                        · skip
                          replace h := ite_neg' h hp1807
                          refine condF ha KR KR (t := x1805) (bool_f hp1807) ?_
                          refine wp_skip ?_
                          refine blkN ?_
                          exact thenN ⟨true, x1743.f0, false, 0, 0, h, ha.sub (subs_cons KR (subs_cons KR (subs_cons KR (subs_cons KR (subs_nil _))))), HW.pick [1, 2, 3] [] (by decide) (by decide) KR KR⟩
            · skip
              intro a W1851 hJ
              obtain ⟨x1846, x1847, x1848, x1849, x1850, h, ha, HW⟩ := hJ
              replace h : cdb_Parse.j3 K x1743 t1755 t1759 t1763 x1846 x1847 x1848 x1849 x1850 = some r := h
              unfold cdb_Parse.j3 at h
              refine hK1774 _ _ ?_; clear hK1774
              refine wp_seq_k (fun K1852 hK1853 => ?_)
              refine wp_seq_k (fun K1854 hK1855 => ?_)
              refine wp_region_lit ?_
              refine stepp ha 141 (.bool x1846) KR KR ?_; clear ha a; intro a ha
              refine stepp ha 142 (.bool (!x1846)) KR KR ?_; clear ha a; intro a ha
              refine stepp ha 143 (.bool (!x1846)) KR KR ?_; clear ha a; intro a ha
              by_cases hp1856 : x1846 = true
              · skip
                replace h := ite_pos' h hp1856
                replace ha := ha.bool 143 KR (not_f (hp1856))
                refine stepp ha 144 (.pointer (some ⟨b1740, 0, none⟩)) KR KR ?_; clear ha a; intro a ha
                refine stepp ha 145 (.pointer (some ⟨b1740, 0, none⟩)) KR KR ?_; clear ha a; intro a ha
                refine stepp ha 146 (.pointer (some ⟨b1740, 1, none⟩)) KR KR ?_; clear ha a; intro a ha
                refine stepl ha 147 (HW.ca (i := 1) (b := b1740) (C := #[.int .i64 x1743.f0, .int .i64 x1743.f1, .int .i64 x1743.f2.f0, .int .i64 x1743.f2.f1, .int .i64 x1743.f3.f0, .int .i64 x1743.f3.f1, .int .i64 x1743.f4.f0, .int .i64 x1743.f4.f1]) (T := 75) (fr := (0, 0)) KR) 3 1 (.tmp 146) (.int .i64 x1743.f1) rfl KR KR KR ?_; clear ha a; intro a ha
                refine stepp ha 148 (.bool (x1743.f1 == 16)) KR KR ?_; clear ha a; intro a ha
                refine stepp ha 149 (.bool (x1743.f1 == 16)) KR KR ?_; clear ha a; intro a ha
                by_cases hp1857 : x1743.f1 = 16
                · skip
                  replace h := ite_pos' h hp1857
                  replace ha := ha.bool 149 KR (ieq_t hp1857)
                  refine stepp ha 150 (.pointer (some ⟨b1748, 1, none⟩)) KR KR ?_; clear ha a; intro a ha
                  refine stepl ha 151 (HW.ca (i := 2) (b := b1748) (C := #[.int .i64 x1847, .int .i64 t1755, .int .i64 t1759, .bool x1848, .int .i64 x1849, .int .i64 t1763, .int .i64 x1850]) (T := 39) (fr := (0, 0)) KR) 3 1 (.tmp 150) (.int .i64 t1755) rfl KR KR KR ?_; clear ha a; intro a ha
                  refine stepp ha 152 (.bool (decide (t1755 ≥ 2147483648))) KR KR ?_; clear ha a; intro a ha
                  refine stepp ha 153 (.bool (decide (t1755 ≥ 2147483648))) KR KR ?_; clear ha a; intro a ha
                  by_cases hp1858 : t1755 ≥ 2147483648
                  · skip
                    replace h := ite_pos' h hp1858
                    replace ha := ha.bool 153 KR (decide_eq_true hp1858)
                    refine stepo ha 154 KR ?_; clear ha a; intro a ha
                    refine stepo ha 155 KR ?_; clear ha a; intro a ha
                    refine stepo ha 156 KR ?_; clear ha a; intro a ha
                    refine stepp ha 157 (.bool true) KR KR ?_; clear ha a; intro a ha
                    refine stepp ha 158 (.bool true) KR KR ?_; clear ha a; intro a ha
                    refine stepp ha 159 (.bool true) KR KR ?_; clear ha a; intro a ha
                    refine endl ?_
                    refine thenN (hK1855 _ _ ?_); clear hK1855
                    refine condT ha KR KR (t := true) (rfl) ?_
                    refine wp_seq_k (fun K1859 hK1860 => ?_)
                    refine wp_region_lit ?_
                    refine stepp ha 160 (.agg #[.int .i64 0, .int .i64 0, .int .i64 0, .bool false, .int .i64 0, .int .i64 0, .int .i64 0]) KR KR ?_; clear ha a; intro a ha
                    refine stepst ha HW 0 (b := b1709) (C := #[.int .i64 0, .int .i64 0, .int .i64 0, .bool false, .int .i64 0, .int .i64 0, .int .i64 0]) (T := 39) KR 39 0 (.tmp 2) (.tmp 160) (.agg #[.int .i64 0, .int .i64 0, .int .i64 0, .bool false, .int .i64 0, .int .i64 0, .int .i64 0]) #[.int .i64 0, .int .i64 0, .int .i64 0, .bool false, .int .i64 0, .int .i64 0, .int .i64 0] rfl KR KR KR KR KR KR KR ?_; clear ha HW a; intro a W1861 HW ha
                    refine stepp ha 3 (.int .i64 150) KR KR ?_; clear ha a; intro a ha
                    refine endl ?_
                    refine thenN (hK1860 _ _ ?_); clear hK1860
                    refine wp_ret ?_
                    refine thenR ?_
                    obtain rfl := Option.some.inj h
                    exact finv ha _ _ rfl (.cell (ad := ⟨b1709, 0, none⟩) (v := .agg #[.int .i64 0, .int .i64 0, .int .i64 0, .bool false, .int .i64 0, .int .i64 0, .int .i64 0]) KR (run_loadVar_ca0 (HW.ca (i := 0) (b := b1709) (C := #[.int .i64 0, .int .i64 0, .int .i64 0, .bool false, .int .i64 0, .int .i64 0, .int .i64 0]) (T := 39) (fr := (0, 0)) KR) 39 0 (.agg #[.int .i64 0, .int .i64 0, .int .i64 0, .bool false, .int .i64 0, .int .i64 0, .int .i64 0]) KR) (.tmp (v := .int .i64 150) KR .nil)) (.tuple #[.agg #[.int .i64 0, .int .i64 0, .int .i64 0, .bool false, .int .i64 0, .int .i64 0, .int .i64 0], .int .i64 150]) rfl ⟨rfl, HW.pick [] [] (by decide) (by decide) rfl KR⟩
                  · skip
                    replace h := ite_neg' h hp1858
                    replace ha := ha.bool 153 KR (decide_eq_false hp1858)
                    refine stepp ha 154 (.pointer (some ⟨b1748, 2, none⟩)) KR KR ?_; clear ha a; intro a ha
                    refine stepl ha 155 (HW.ca (i := 2) (b := b1748) (C := #[.int .i64 x1847, .int .i64 t1755, .int .i64 t1759, .bool x1848, .int .i64 x1849, .int .i64 t1763, .int .i64 x1850]) (T := 39) (fr := (0, 0)) KR) 3 2 (.tmp 154) (.int .i64 t1759) rfl KR KR KR ?_; clear ha a; intro a ha
                    refine stepp ha 156 (.bool (decide (t1759 ≥ 2147483648))) KR KR ?_; clear ha a; intro a ha
                    refine stepp ha 157 (.bool (decide (t1759 ≥ 2147483648))) KR KR ?_; clear ha a; intro a ha
                    refine stepp ha 158 (.bool (decide (t1759 ≥ 2147483648))) KR KR ?_; clear ha a; intro a ha
                    refine stepp ha 159 (.bool (decide (t1759 ≥ 2147483648))) KR KR ?_; clear ha a; intro a ha
                    refine endl ?_
                    refine thenN (hK1855 _ _ ?_); clear hK1855
                    by_cases hp1862 : t1759 ≥ 2147483648
                    · skip
                      replace h := ite_pos' h hp1862
                      refine condT ha KR KR (t := decide (t1759 ≥ 2147483648)) (decide_eq_true hp1862) ?_
                      refine wp_seq_k (fun K1863 hK1864 => ?_)
                      refine wp_region_lit ?_
                      refine stepp ha 160 (.agg #[.int .i64 0, .int .i64 0, .int .i64 0, .bool false, .int .i64 0, .int .i64 0, .int .i64 0]) KR KR ?_; clear ha a; intro a ha
                      refine stepst ha HW 0 (b := b1709) (C := #[.int .i64 0, .int .i64 0, .int .i64 0, .bool false, .int .i64 0, .int .i64 0, .int .i64 0]) (T := 39) KR 39 0 (.tmp 2) (.tmp 160) (.agg #[.int .i64 0, .int .i64 0, .int .i64 0, .bool false, .int .i64 0, .int .i64 0, .int .i64 0]) #[.int .i64 0, .int .i64 0, .int .i64 0, .bool false, .int .i64 0, .int .i64 0, .int .i64 0] rfl KR KR KR KR KR KR KR ?_; clear ha HW a; intro a W1865 HW ha
                      refine stepp ha 3 (.int .i64 150) KR KR ?_; clear ha a; intro a ha
                      refine endl ?_
                      refine thenN (hK1864 _ _ ?_); clear hK1864
                      refine wp_ret ?_
                      refine thenR ?_
                      obtain rfl := Option.some.inj h
                      exact finv ha _ _ rfl (.cell (ad := ⟨b1709, 0, none⟩) (v := .agg #[.int .i64 0, .int .i64 0, .int .i64 0, .bool false, .int .i64 0, .int .i64 0, .int .i64 0]) KR (run_loadVar_ca0 (HW.ca (i := 0) (b := b1709) (C := #[.int .i64 0, .int .i64 0, .int .i64 0, .bool false, .int .i64 0, .int .i64 0, .int .i64 0]) (T := 39) (fr := (0, 0)) KR) 39 0 (.agg #[.int .i64 0, .int .i64 0, .int .i64 0, .bool false, .int .i64 0, .int .i64 0, .int .i64 0]) KR) (.tmp (v := .int .i64 150) KR .nil)) (.tuple #[.agg #[.int .i64 0, .int .i64 0, .int .i64 0, .bool false, .int .i64 0, .int .i64 0, .int .i64 0], .int .i64 150]) rfl ⟨rfl, HW.pick [] [] (by decide) (by decide) rfl KR⟩
                    · skip
                      replace h := ite_neg' h hp1862
                      refine condF ha KR KR (t := decide (t1759 ≥ 2147483648)) (decide_eq_false hp1862) ?_
                      refine wp_skip ?_
                      refine thenN (hK1853 _ _ ?_); clear hK1853
                      refine wp_seq_k (fun K1869 hK1870 => ?_)
                      refine wp_region_lit ?_
                      refine stepl ha 161 (HW.ca (i := 2) (b := b1748) (C := #[.int .i64 x1847, .int .i64 t1755, .int .i64 t1759, .bool x1848, .int .i64 x1849, .int .i64 t1763, .int .i64 x1850]) (T := 39) (fr := (0, 0)) KR) 39 0 (.tmp 6) (.agg #[.int .i64 x1847, .int .i64 t1755, .int .i64 t1759, .bool x1848, .int .i64 x1849, .int .i64 t1763, .int .i64 x1850]) rfl KR KR KR ?_; clear ha a; intro a ha
                      refine stepst ha HW 0 (b := b1709) (C := #[.int .i64 0, .int .i64 0, .int .i64 0, .bool false, .int .i64 0, .int .i64 0, .int .i64 0]) (T := 39) KR 39 0 (.tmp 2) (.tmp 161) (.agg #[.int .i64 x1847, .int .i64 t1755, .int .i64 t1759, .bool x1848, .int .i64 x1849, .int .i64 t1763, .int .i64 x1850]) #[.int .i64 x1847, .int .i64 t1755, .int .i64 t1759, .bool x1848, .int .i64 x1849, .int .i64 t1763, .int .i64 x1850] rfl KR KR KR KR KR KR KR ?_; clear ha HW a; intro a W1871 HW ha
                      refine stepp ha 3 (.int .i64 0) KR KR ?_; clear ha a; intro a ha
                      refine endl ?_
                      refine thenN (hK1870 _ _ ?_); clear hK1870
                      refine wp_ret ?_
                      obtain rfl := Option.some.inj h
                      exact finv ha _ _ rfl (.cell (ad := ⟨b1709, 0, none⟩) (v := .agg #[.int .i64 x1847, .int .i64 t1755, .int .i64 t1759, .bool x1848, .int .i64 x1849, .int .i64 t1763, .int .i64 x1850]) KR (run_loadVar_ca0 (HW.ca (i := 0) (b := b1709) (C := #[.int .i64 x1847, .int .i64 t1755, .int .i64 t1759, .bool x1848, .int .i64 x1849, .int .i64 t1763, .int .i64 x1850]) (T := 39) (fr := (0, 0)) KR) 39 0 (.agg #[.int .i64 x1847, .int .i64 t1755, .int .i64 t1759, .bool x1848, .int .i64 x1849, .int .i64 t1763, .int .i64 x1850]) KR) (.tmp (v := .int .i64 0) KR .nil)) (.tuple #[.agg #[.int .i64 x1847, .int .i64 t1755, .int .i64 t1759, .bool x1848, .int .i64 x1849, .int .i64 t1763, .int .i64 x1850], .int .i64 0]) rfl ⟨rfl, HW.pick [] [] (by decide) (by decide) rfl KR⟩
                · skip
                  replace h := ite_neg' h hp1857
                  replace ha := ha.bool 149 KR (ieq_f hp1857)
                  refine stepo ha 150 KR ?_; clear ha a; intro a ha
                  refine stepo ha 151 KR ?_; clear ha a; intro a ha
                  refine stepo ha 152 KR ?_; clear ha a; intro a ha
                  refine stepo ha 153 KR ?_; clear ha a; intro a ha
                  refine stepo ha 154 KR ?_; clear ha a; intro a ha
                  refine stepo ha 155 KR ?_; clear ha a; intro a ha
                  refine stepo ha 156 KR ?_; clear ha a; intro a ha
                  refine stepo ha 157 KR ?_; clear ha a; intro a ha
                  refine stepp ha 158 (.bool false) KR KR ?_; clear ha a; intro a ha
                  refine stepp ha 159 (.bool false) KR KR ?_; clear ha a; intro a ha
                  refine endl ?_
                  refine thenN (hK1855 _ _ ?_); clear hK1855
                  refine condF ha KR KR (t := false) (rfl) ?_
                  refine wp_skip ?_
                  refine thenN (hK1853 _ _ ?_); clear hK1853
                  refine wp_seq_k (fun K1872 hK1873 => ?_)
                  refine wp_region_lit ?_
                  refine stepl ha 161 (HW.ca (i := 2) (b := b1748) (C := #[.int .i64 x1847, .int .i64 t1755, .int .i64 t1759, .bool x1848, .int .i64 x1849, .int .i64 t1763, .int .i64 x1850]) (T := 39) (fr := (0, 0)) KR) 39 0 (.tmp 6) (.agg #[.int .i64 x1847, .int .i64 t1755, .int .i64 t1759, .bool x1848, .int .i64 x1849, .int .i64 t1763, .int .i64 x1850]) rfl KR KR KR ?_; clear ha a; intro a ha
                  refine stepst ha HW 0 (b := b1709) (C := #[.int .i64 0, .int .i64 0, .int .i64 0, .bool false, .int .i64 0, .int .i64 0, .int .i64 0]) (T := 39) KR 39 0 (.tmp 2) (.tmp 161) (.agg #[.int .i64 x1847, .int .i64 t1755, .int .i64 t1759, .bool x1848, .int .i64 x1849, .int .i64 t1763, .int .i64 x1850]) #[.int .i64 x1847, .int .i64 t1755, .int .i64 t1759, .bool x1848, .int .i64 x1849, .int .i64 t1763, .int .i64 x1850] rfl KR KR KR KR KR KR KR ?_; clear ha HW a; intro a W1874 HW ha
                  refine stepp ha 3 (.int .i64 0) KR KR ?_; clear ha a; intro a ha
                  refine endl ?_
                  refine thenN (hK1873 _ _ ?_); clear hK1873
                  refine wp_ret ?_
                  obtain rfl := Option.some.inj h
                  exact finv ha _ _ rfl (.cell (ad := ⟨b1709, 0, none⟩) (v := .agg #[.int .i64 x1847, .int .i64 t1755, .int .i64 t1759, .bool x1848, .int .i64 x1849, .int .i64 t1763, .int .i64 x1850]) KR (run_loadVar_ca0 (HW.ca (i := 0) (b := b1709) (C := #[.int .i64 x1847, .int .i64 t1755, .int .i64 t1759, .bool x1848, .int .i64 x1849, .int .i64 t1763, .int .i64 x1850]) (T := 39) (fr := (0, 0)) KR) 39 0 (.agg #[.int .i64 x1847, .int .i64 t1755, .int .i64 t1759, .bool x1848, .int .i64 x1849, .int .i64 t1763, .int .i64 x1850]) KR) (.tmp (v := .int .i64 0) KR .nil)) (.tuple #[.agg #[.int .i64 x1847, .int .i64 t1755, .int .i64 t1759, .bool x1848, .int .i64 x1849, .int .i64 t1763, .int .i64 x1850], .int .i64 0]) rfl ⟨rfl, HW.pick [] [] (by decide) (by decide) rfl KR⟩
              · skip
                replace h := ite_neg' h hp1856
                replace ha := ha.bool 143 KR (not_t (bool_f hp1856))
                refine stepo ha 144 KR ?_; clear ha a; intro a ha
                refine stepo ha 145 KR ?_; clear ha a; intro a ha
                refine stepo ha 146 KR ?_; clear ha a; intro a ha
                refine stepo ha 147 KR ?_; clear ha a; intro a ha
                refine stepo ha 148 KR ?_; clear ha a; intro a ha
                refine stepo ha 149 KR ?_; clear ha a; intro a ha
                refine stepo ha 150 KR ?_; clear ha a; intro a ha
                refine stepo ha 151 KR ?_; clear ha a; intro a ha
                refine stepo ha 152 KR ?_; clear ha a; intro a ha
                refine stepo ha 153 KR ?_; clear ha a; intro a ha
                refine stepo ha 154 KR ?_; clear ha a; intro a ha
                refine stepo ha 155 KR ?_; clear ha a; intro a ha
                refine stepo ha 156 KR ?_; clear ha a; intro a ha
                refine stepo ha 157 KR ?_; clear ha a; intro a ha
                refine stepo ha 158 KR ?_; clear ha a; intro a ha
                refine stepp ha 159 (.bool true) KR KR ?_; clear ha a; intro a ha
                refine endl ?_
                refine thenN (hK1855 _ _ ?_); clear hK1855
                refine condT ha KR KR (t := true) (rfl) ?_
                refine wp_seq_k (fun K1866 hK1867 => ?_)
                refine wp_region_lit ?_
                refine stepp ha 160 (.agg #[.int .i64 0, .int .i64 0, .int .i64 0, .bool false, .int .i64 0, .int .i64 0, .int .i64 0]) KR KR ?_; clear ha a; intro a ha
                refine stepst ha HW 0 (b := b1709) (C := #[.int .i64 0, .int .i64 0, .int .i64 0, .bool false, .int .i64 0, .int .i64 0, .int .i64 0]) (T := 39) KR 39 0 (.tmp 2) (.tmp 160) (.agg #[.int .i64 0, .int .i64 0, .int .i64 0, .bool false, .int .i64 0, .int .i64 0, .int .i64 0]) #[.int .i64 0, .int .i64 0, .int .i64 0, .bool false, .int .i64 0, .int .i64 0, .int .i64 0] rfl KR KR KR KR KR KR KR ?_; clear ha HW a; intro a W1868 HW ha
                refine stepp ha 3 (.int .i64 150) KR KR ?_; clear ha a; intro a ha
                refine endl ?_
                refine thenN (hK1867 _ _ ?_); clear hK1867
                refine wp_ret ?_
                refine thenR ?_
                obtain rfl := Option.some.inj h
                exact finv ha _ _ rfl (.cell (ad := ⟨b1709, 0, none⟩) (v := .agg #[.int .i64 0, .int .i64 0, .int .i64 0, .bool false, .int .i64 0, .int .i64 0, .int .i64 0]) KR (run_loadVar_ca0 (HW.ca (i := 0) (b := b1709) (C := #[.int .i64 0, .int .i64 0, .int .i64 0, .bool false, .int .i64 0, .int .i64 0, .int .i64 0]) (T := 39) (fr := (0, 0)) KR) 39 0 (.agg #[.int .i64 0, .int .i64 0, .int .i64 0, .bool false, .int .i64 0, .int .i64 0, .int .i64 0]) KR) (.tmp (v := .int .i64 150) KR .nil)) (.tuple #[.agg #[.int .i64 0, .int .i64 0, .int .i64 0, .bool false, .int .i64 0, .int .i64 0, .int .i64 0], .int .i64 150]) rfl ⟨rfl, HW.pick [] [] (by decide) (by decide) rfl KR⟩
      · skip
        replace h := ite_neg' h hp1728
        refine condT ha KR KR (t := ((bt a0 (IntKind.wrap .i64 (t1713 - 1))) != 0)) (ineq_t hp1728) ?_
        refine wp_seq_k (fun K1729 hK1730 => ?_)
        refine wp_region_lit ?_
        refine stepp ha 27 (.agg #[.int .i64 0, .int .i64 0, .int .i64 0, .bool false, .int .i64 0, .int .i64 0, .int .i64 0]) KR KR ?_; clear ha a; intro a ha
        refine stepst ha HW 0 (b := b1709) (C := #[.int .i64 0, .int .i64 0, .int .i64 0, .bool false, .int .i64 0, .int .i64 0, .int .i64 0]) (T := 39) KR 39 0 (.tmp 2) (.tmp 27) (.agg #[.int .i64 0, .int .i64 0, .int .i64 0, .bool false, .int .i64 0, .int .i64 0, .int .i64 0]) #[.int .i64 0, .int .i64 0, .int .i64 0, .bool false, .int .i64 0, .int .i64 0, .int .i64 0] rfl KR KR KR KR KR KR KR ?_; clear ha HW a; intro a W1731 HW ha
        refine stepp ha 3 (.int .i64 150) KR KR ?_; clear ha a; intro a ha
        refine endl ?_
        refine thenN (hK1730 _ _ ?_); clear hK1730
        refine wp_ret ?_
        refine thenR ?_
        obtain rfl := Option.some.inj h
        exact finv ha _ _ rfl (.cell (ad := ⟨b1709, 0, none⟩) (v := .agg #[.int .i64 0, .int .i64 0, .int .i64 0, .bool false, .int .i64 0, .int .i64 0, .int .i64 0]) KR (run_loadVar_ca0 (HW.ca (i := 0) (b := b1709) (C := #[.int .i64 0, .int .i64 0, .int .i64 0, .bool false, .int .i64 0, .int .i64 0, .int .i64 0]) (T := 39) (fr := (0, 0)) KR) 39 0 (.agg #[.int .i64 0, .int .i64 0, .int .i64 0, .bool false, .int .i64 0, .int .i64 0, .int .i64 0]) KR) (.tmp (v := .int .i64 150) KR .nil)) (.tuple #[.agg #[.int .i64 0, .int .i64 0, .int .i64 0, .bool false, .int .i64 0, .int .i64 0, .int .i64 0], .int .i64 150]) rfl ⟨rfl, HW.pick [] [] (by decide) (by decide) rfl KR⟩
    · skip
      replace h := ite_neg' h hp1722
      replace ha := ha.bool 20 KR (ineq_t hp1722)
      refine stepo ha 21 KR ?_; clear ha a; intro a ha
      refine stepo ha 22 KR ?_; clear ha a; intro a ha
      refine stepo ha 23 KR ?_; clear ha a; intro a ha
      refine stepo ha 24 KR ?_; clear ha a; intro a ha
      refine stepo ha 25 KR ?_; clear ha a; intro a ha
      refine stepp ha 26 (.bool true) KR KR ?_; clear ha a; intro a ha
      refine endl ?_
      refine thenN (hK1720 _ _ ?_); clear hK1720
      refine condT ha KR KR (t := true) (rfl) ?_
      refine wp_seq_k (fun K1732 hK1733 => ?_)
      refine wp_region_lit ?_
      refine stepp ha 27 (.agg #[.int .i64 0, .int .i64 0, .int .i64 0, .bool false, .int .i64 0, .int .i64 0, .int .i64 0]) KR KR ?_; clear ha a; intro a ha
      refine stepst ha HW 0 (b := b1709) (C := #[.int .i64 0, .int .i64 0, .int .i64 0, .bool false, .int .i64 0, .int .i64 0, .int .i64 0]) (T := 39) KR 39 0 (.tmp 2) (.tmp 27) (.agg #[.int .i64 0, .int .i64 0, .int .i64 0, .bool false, .int .i64 0, .int .i64 0, .int .i64 0]) #[.int .i64 0, .int .i64 0, .int .i64 0, .bool false, .int .i64 0, .int .i64 0, .int .i64 0] rfl KR KR KR KR KR KR KR ?_; clear ha HW a; intro a W1734 HW ha
      refine stepp ha 3 (.int .i64 150) KR KR ?_; clear ha a; intro a ha
      refine endl ?_
      refine thenN (hK1733 _ _ ?_); clear hK1733
      refine wp_ret ?_
      refine thenR ?_
      obtain rfl := Option.some.inj h
      exact finv ha _ _ rfl (.cell (ad := ⟨b1709, 0, none⟩) (v := .agg #[.int .i64 0, .int .i64 0, .int .i64 0, .bool false, .int .i64 0, .int .i64 0, .int .i64 0]) KR (run_loadVar_ca0 (HW.ca (i := 0) (b := b1709) (C := #[.int .i64 0, .int .i64 0, .int .i64 0, .bool false, .int .i64 0, .int .i64 0, .int .i64 0]) (T := 39) (fr := (0, 0)) KR) 39 0 (.agg #[.int .i64 0, .int .i64 0, .int .i64 0, .bool false, .int .i64 0, .int .i64 0, .int .i64 0]) KR) (.tmp (v := .int .i64 150) KR .nil)) (.tuple #[.agg #[.int .i64 0, .int .i64 0, .int .i64 0, .bool false, .int .i64 0, .int .i64 0, .int .i64 0], .int .i64 150]) rfl ⟨rfl, HW.pick [] [] (by decide) (by decide) rfl KR⟩
/-! ### headgate/fields.Set: function 39 -/
def fields_Set.f (a0 : ByteArray) (a1 : Int) (a2 : ByteArray) : Option (ByteArray × Bool) :=
  if a1 < 0 then (some ((⟨#[]⟩ : ByteArray), false)) else (if (a2.size : Int) > (a0.size : Int) then (some ((⟨#[]⟩ : ByteArray), false)) else (if a1 > (IntKind.wrap .i64 ((a0.size : Int) - (a2.size : Int))) then (some ((⟨#[]⟩ : ByteArray), false)) else (asrt (0 ≤ a1) (asrt (a1 ≤ (a0.size : Int)) (asrt ((a0.extract 0 (a1 : Int).toNat).size + a2.size ≤ 9223372036854775807) (asrt (0 ≤ (IntKind.wrap .i64 (a1 + (a2.size : Int)))) (asrt ((IntKind.wrap .i64 (a1 + (a2.size : Int))) ≤ (a0.size : Int)) (asrt (((a0.extract 0 (a1 : Int).toNat) ++ a2).size + (a0.extract (IntKind.wrap .i64 (a1 + (a2.size : Int)) : Int).toNat (a0).size).size ≤ 9223372036854775807) (some (((a0.extract 0 (a1 : Int).toNat) ++ a2) ++ (a0.extract (IntKind.wrap .i64 (a1 + (a2.size : Int)) : Int).toNat (a0).size), true))))))))))
set_option maxRecDepth 100000 in
set_option maxHeartbeats 4000000 in
theorem fields_Set.calls (a0 : ByteArray) (a1 : Int) (a2 : ByteArray)  (r : ByteArray × Bool) (w : World)  (h : fields_Set.f a0 a1 a2 = some r) :
    Calls Tryd.prog 39 #[.string a0, .int .i64 a1, .string a2] w (fun e W' => e = .returned (.tuple #[.string r.1, .bool r.2]) ∧ Wd w W' [] [] ) := by
  refine sxstart (n := 38) (l := [(0, .string a0), (1, .int .i64 a1), (2, .string a2)]) Tryd.func39 rfl rfl (Nat.le_of_ble_eq_true KR) (subsA_cons rfl (subsA_cons rfl (subsA_cons rfl (subsA_nil _)))) ?_
  intro a ha
  have HW := Wd.refl w
  unfold fields_Set.f at h
  refine wp_seq_k (fun K1875 hK1876 => ?_)
  refine wp_region_lit ?_
  refine stepp ha 6 (.string (⟨#[]⟩ : ByteArray)) KR KR ?_; clear ha a; intro a ha
  refine stepp ha 7 (.bool false) KR KR ?_; clear ha a; intro a ha
  refine endl ?_
  refine thenN (hK1876 _ _ ?_); clear hK1876
  refine wp_seq_k (fun K1877 hK1878 => ?_)
  refine wp_seq_k (fun K1879 hK1880 => ?_)
  refine wp_region_lit ?_
  refine stepp ha 8 (.int .i64 a1) KR KR ?_; clear ha a; intro a ha
  refine stepp ha 9 (.bool (decide (a1 < 0))) KR KR ?_; clear ha a; intro a ha
  refine stepp ha 10 (.bool (decide (a1 < 0))) KR KR ?_; clear ha a; intro a ha
  by_cases hp1881 : a1 < 0
  · skip
    replace h := ite_pos' h hp1881
    replace ha := ha.bool 10 KR (decide_eq_true hp1881)
    refine stepo ha 11 KR ?_; clear ha a; intro a ha
    refine stepo ha 12 KR ?_; clear ha a; intro a ha
    refine stepo ha 13 KR ?_; clear ha a; intro a ha
    refine stepo ha 14 KR ?_; clear ha a; intro a ha
    refine stepo ha 15 KR ?_; clear ha a; intro a ha
    refine stepp ha 16 (.bool true) KR KR ?_; clear ha a; intro a ha
    refine stepp ha 17 (.bool true) KR KR ?_; clear ha a; intro a ha
    refine stepo ha 18 KR ?_; clear ha a; intro a ha
    refine stepo ha 19 KR ?_; clear ha a; intro a ha
    refine stepo ha 20 KR ?_; clear ha a; intro a ha
    refine stepo ha 21 KR ?_; clear ha a; intro a ha
    refine stepo ha 22 KR ?_; clear ha a; intro a ha
    refine stepo ha 23 KR ?_; clear ha a; intro a ha
    refine stepo ha 24 KR ?_; clear ha a; intro a ha
    refine stepp ha 25 (.bool true) KR KR ?_; clear ha a; intro a ha
    refine endl ?_
    refine thenN (hK1880 _ _ ?_); clear hK1880
    refine condT ha KR KR (t := true) (rfl) ?_
    refine wp_seq_k (fun K1883 hK1884 => ?_)
    refine wp_region_lit ?_
    refine stepp ha 6 (.string (⟨#[]⟩ : ByteArray)) KR KR ?_; clear ha a; intro a ha
    refine stepp ha 7 (.bool false) KR KR ?_; clear ha a; intro a ha
    refine endl ?_
    refine thenN (hK1884 _ _ ?_); clear hK1884
    refine wp_ret ?_
    refine thenR ?_
    obtain rfl := Option.some.inj h
    exact finv ha _ _ rfl (.tmp (v := .string (⟨#[]⟩ : ByteArray)) KR (.tmp (v := .bool false) KR .nil)) (.tuple #[.string (⟨#[]⟩ : ByteArray), .bool false]) rfl ⟨rfl, HW.pick [] [] (by decide) (by decide) rfl KR⟩
  · skip
    replace h := ite_neg' h hp1881
    replace ha := ha.bool 10 KR (decide_eq_false hp1881)
    refine stepp ha 11 (.string a2) KR KR ?_; clear ha a; intro a ha
    refine stepp ha 12 (.int .i64 (a2.size : Int)) KR KR ?_; clear ha a; intro a ha
    refine stepp ha 13 (.string a0) KR KR ?_; clear ha a; intro a ha
    refine stepp ha 14 (.int .i64 (a0.size : Int)) KR KR ?_; clear ha a; intro a ha
    refine stepp ha 15 (.bool (decide ((a2.size : Int) > (a0.size : Int)))) KR KR ?_; clear ha a; intro a ha
    refine stepp ha 16 (.bool (decide ((a2.size : Int) > (a0.size : Int)))) KR KR ?_; clear ha a; intro a ha
    refine stepp ha 17 (.bool (decide ((a2.size : Int) > (a0.size : Int)))) KR KR ?_; clear ha a; intro a ha
    by_cases hp1882 : (a2.size : Int) > (a0.size : Int)
    · skip
      replace h := ite_pos' h hp1882
      replace ha := ha.bool 17 KR (decide_eq_true hp1882)
      refine stepo ha 18 KR ?_; clear ha a; intro a ha
      refine stepo ha 19 KR ?_; clear ha a; intro a ha
      refine stepo ha 20 KR ?_; clear ha a; intro a ha
      refine stepo ha 21 KR ?_; clear ha a; intro a ha
      refine stepo ha 22 KR ?_; clear ha a; intro a ha
      refine stepo ha 23 KR ?_; clear ha a; intro a ha
      refine stepo ha 24 KR ?_; clear ha a; intro a ha
      refine stepp ha 25 (.bool true) KR KR ?_; clear ha a; intro a ha
      refine endl ?_
      refine thenN (hK1880 _ _ ?_); clear hK1880
      refine condT ha KR KR (t := true) (rfl) ?_
      refine wp_seq_k (fun K1885 hK1886 => ?_)
      refine wp_region_lit ?_
      refine stepp ha 6 (.string (⟨#[]⟩ : ByteArray)) KR KR ?_; clear ha a; intro a ha
      refine stepp ha 7 (.bool false) KR KR ?_; clear ha a; intro a ha
      refine endl ?_
      refine thenN (hK1886 _ _ ?_); clear hK1886
      refine wp_ret ?_
      refine thenR ?_
      obtain rfl := Option.some.inj h
      exact finv ha _ _ rfl (.tmp (v := .string (⟨#[]⟩ : ByteArray)) KR (.tmp (v := .bool false) KR .nil)) (.tuple #[.string (⟨#[]⟩ : ByteArray), .bool false]) rfl ⟨rfl, HW.pick [] [] (by decide) (by decide) rfl KR⟩
    · skip
      replace h := ite_neg' h hp1882
      replace ha := ha.bool 17 KR (decide_eq_false hp1882)
      refine stepp ha 18 (.int .i64 a1) KR KR ?_; clear ha a; intro a ha
      refine stepp ha 19 (.string a0) KR KR ?_; clear ha a; intro a ha
      refine stepp ha 20 (.int .i64 (a0.size : Int)) KR KR ?_; clear ha a; intro a ha
      refine stepp ha 21 (.string a2) KR KR ?_; clear ha a; intro a ha
      refine stepp ha 22 (.int .i64 (a2.size : Int)) KR KR ?_; clear ha a; intro a ha
      refine stepp ha 23 (.int .i64 (IntKind.wrap .i64 ((a0.size : Int) - (a2.size : Int)))) KR KR ?_; clear ha a; intro a ha
      refine stepp ha 24 (.bool (decide (a1 > (IntKind.wrap .i64 ((a0.size : Int) - (a2.size : Int)))))) KR KR ?_; clear ha a; intro a ha
      refine stepp ha 25 (.bool (decide (a1 > (IntKind.wrap .i64 ((a0.size : Int) - (a2.size : Int)))))) KR KR ?_; clear ha a; intro a ha
      refine endl ?_
      refine thenN (hK1880 _ _ ?_); clear hK1880
      by_cases hp1887 : a1 > (IntKind.wrap .i64 ((a0.size : Int) - (a2.size : Int)))
      · skip
        replace h := ite_pos' h hp1887
        refine condT ha KR KR (t := decide (a1 > (IntKind.wrap .i64 ((a0.size : Int) - (a2.size : Int))))) (decide_eq_true hp1887) ?_
        refine wp_seq_k (fun K1888 hK1889 => ?_)
        refine wp_region_lit ?_
        refine stepp ha 6 (.string (⟨#[]⟩ : ByteArray)) KR KR ?_; clear ha a; intro a ha
        refine stepp ha 7 (.bool false) KR KR ?_; clear ha a; intro a ha
        refine endl ?_
        refine thenN (hK1889 _ _ ?_); clear hK1889
        refine wp_ret ?_
        refine thenR ?_
        obtain rfl := Option.some.inj h
        exact finv ha _ _ rfl (.tmp (v := .string (⟨#[]⟩ : ByteArray)) KR (.tmp (v := .bool false) KR .nil)) (.tuple #[.string (⟨#[]⟩ : ByteArray), .bool false]) rfl ⟨rfl, HW.pick [] [] (by decide) (by decide) rfl KR⟩
      · skip
        replace h := ite_neg' h hp1887
        refine condF ha KR KR (t := decide (a1 > (IntKind.wrap .i64 ((a0.size : Int) - (a2.size : Int))))) (decide_eq_false hp1887) ?_
        refine wp_skip ?_
        refine thenN (hK1878 _ _ ?_); clear hK1878
        refine wp_seq_k (fun K1890 hK1891 => ?_)
        obtain ⟨hA1892, h_⟩ := asrt_some h; clear h; have h := h_; clear h_
        obtain ⟨hA1893, h_⟩ := asrt_some h; clear h; have h := h_; clear h_
        obtain ⟨hA1894, h_⟩ := asrt_some h; clear h; have h := h_; clear h_
        obtain ⟨hA1895, h_⟩ := asrt_some h; clear h; have h := h_; clear h_
        obtain ⟨hA1896, h_⟩ := asrt_some h; clear h; have h := h_; clear h_
        obtain ⟨hA1897, h_⟩ := asrt_some h; clear h; have h := h_; clear h_
        refine regionG 12 KR KR ha HW [.fix (.string a0), .fix (.int .i64 a1), .fix (.string (a0.extract 0 (a1 : Int).toNat)), .fix (.string a2), .fix (.string ((a0.extract 0 (a1 : Int).toNat) ++ a2)), .fix (.string a0), .fix (.int .i64 a1), .fix (.string a2), .fix (.int .i64 (a2.size : Int)), .fix (.int .i64 (IntKind.wrap .i64 (a1 + (a2.size : Int)))), .fix (.string (a0.extract (IntKind.wrap .i64 (a1 + (a2.size : Int)) : Int).toNat (a0).size)), .fix (.string (((a0.extract 0 (a1 : Int).toNat) ++ a2) ++ (a0.extract (IntKind.wrap .i64 (a1 + (a2.size : Int)) : Int).toNat (a0).size)))] ?_ ?_
        · skip
          refine ⟨?_, ?_, ?_, ?_, ?_, ?_, ?_, ?_, ?_, ?_, ?_, ?_, trivial⟩
          · skip
            intro a wr hn hd HW hs; have ha := hasNil hn hd
            have ha := ha.add (seeE hs 0 (.string a0) KR KR)
            refine yStep ha 26 KR ?_; intro l_ ha HK
            refine stepp ha 26 (.string a0) KR KR ?_; intro ax hax; exact HK _ _ _ hax rfl (Below.refl _ _)
          · skip
            intro a wr hn hd HW hs; have ha := hasNil hn hd
            have ha := ha.add (seeE hs 1 (.int .i64 a1) KR KR)
            refine yStep ha 27 KR ?_; intro l_ ha HK
            refine stepp ha 27 (.int .i64 a1) KR KR ?_; intro ax hax; exact HK _ _ _ hax rfl (Below.refl _ _)
          · skip
            intro a wr hn hd HW hs; have ha := hasNil hn hd
            have ha := ha.add (seeF hs 26 0 (.string a0) KR KR)
            have ha := ha.add (seeF hs 27 1 (.int .i64 a1) KR KR)
            refine yStep ha 28 KR ?_; intro l_ ha HK
            refine stepssh ha 28 9 (.tmp 26) (.tmp 27) a0 .i64 a1 rfl KR KR KR hA1892 (show (a1 : Int) ≤ ((a0).size : Int) from hA1893) KR ?_; intro ax hax; exact HK _ _ _ hax rfl (Below.refl _ _)
          · skip
            intro a wr hn hd HW hs; have ha := hasNil hn hd
            have ha := ha.add (seeE hs 2 (.string a2) KR KR)
            refine yStep ha 29 KR ?_; intro l_ ha HK
            refine stepp ha 29 (.string a2) KR KR ?_; intro ax hax; exact HK _ _ _ hax rfl (Below.refl _ _)
          · skip
            intro a wr hn hd HW hs; have ha := hasNil hn hd
            have ha := ha.add (seeF hs 28 2 (.string (a0.extract 0 (a1 : Int).toNat)) KR KR)
            have ha := ha.add (seeF hs 29 3 (.string a2) KR KR)
            refine yStep ha 30 KR ?_; intro l_ ha HK
            refine stepsa ha 30 9 9 (.tmp 28) (.tmp 29) (a0.extract 0 (a1 : Int).toNat) a2 rfl KR KR (show (a0.extract 0 (a1 : Int).toNat).size + (a2).size ≤ 9223372036854775807 from hA1894) KR ?_; intro ax hax; exact HK _ _ _ hax rfl (Below.refl _ _)
          · skip
            intro a wr hn hd HW hs; have ha := hasNil hn hd
            have ha := ha.add (seeE hs 0 (.string a0) KR KR)
            refine yStep ha 31 KR ?_; intro l_ ha HK
            refine stepp ha 31 (.string a0) KR KR ?_; intro ax hax; exact HK _ _ _ hax rfl (Below.refl _ _)
          · skip
            intro a wr hn hd HW hs; have ha := hasNil hn hd
            have ha := ha.add (seeE hs 1 (.int .i64 a1) KR KR)
            refine yStep ha 32 KR ?_; intro l_ ha HK
            refine stepp ha 32 (.int .i64 a1) KR KR ?_; intro ax hax; exact HK _ _ _ hax rfl (Below.refl _ _)
          · skip
            intro a wr hn hd HW hs; have ha := hasNil hn hd
            have ha := ha.add (seeE hs 2 (.string a2) KR KR)
            refine yStep ha 33 KR ?_; intro l_ ha HK
            refine stepp ha 33 (.string a2) KR KR ?_; intro ax hax; exact HK _ _ _ hax rfl (Below.refl _ _)
          · skip
            intro a wr hn hd HW hs; have ha := hasNil hn hd
            have ha := ha.add (seeF hs 33 7 (.string a2) KR KR)
            refine yStep ha 34 KR ?_; intro l_ ha HK
            refine stepp ha 34 (.int .i64 (a2.size : Int)) KR KR ?_; intro ax hax; exact HK _ _ _ hax rfl (Below.refl _ _)
          · skip
            intro a wr hn hd HW hs; have ha := hasNil hn hd
            have ha := ha.add (seeF hs 32 6 (.int .i64 a1) KR KR)
            have ha := ha.add (seeF hs 34 8 (.int .i64 (a2.size : Int)) KR KR)
            refine yStep ha 35 KR ?_; intro l_ ha HK
            refine stepp ha 35 (.int .i64 (IntKind.wrap .i64 (a1 + (a2.size : Int)))) KR KR ?_; intro ax hax; exact HK _ _ _ hax rfl (Below.refl _ _)
          · skip
            intro a wr hn hd HW hs; have ha := hasNil hn hd
            have ha := ha.add (seeF hs 31 5 (.string a0) KR KR)
            have ha := ha.add (seeF hs 35 9 (.int .i64 (IntKind.wrap .i64 (a1 + (a2.size : Int)))) KR KR)
            refine yStep ha 36 KR ?_; intro l_ ha HK
            refine stepssl ha 36 9 (.tmp 31) (.tmp 35) a0 .i64 (IntKind.wrap .i64 (a1 + (a2.size : Int))) rfl KR KR KR hA1895 (show (IntKind.wrap .i64 (a1 + (a2.size : Int)) : Int) ≤ ((a0).size : Int) from hA1896) KR ?_; intro ax hax; exact HK _ _ _ hax rfl (Below.refl _ _)
          · skip
            intro a wr hn hd HW hs; have ha := hasNil hn hd
            have ha := ha.add (seeF hs 30 4 (.string ((a0.extract 0 (a1 : Int).toNat) ++ a2)) KR KR)
            have ha := ha.add (seeF hs 36 10 (.string (a0.extract (IntKind.wrap .i64 (a1 + (a2.size : Int)) : Int).toNat (a0).size)) KR KR)
            refine yStep ha 37 KR ?_; intro l_ ha HK
            refine stepsa ha 37 9 9 (.tmp 30) (.tmp 36) ((a0.extract 0 (a1 : Int).toNat) ++ a2) (a0.extract (IntKind.wrap .i64 (a1 + (a2.size : Int)) : Int).toNat (a0).size) rfl KR KR (show ((a0.extract 0 (a1 : Int).toNat) ++ a2).size + (a0.extract (IntKind.wrap .i64 (a1 + (a2.size : Int)) : Int).toNat (a0).size).size ≤ 9223372036854775807 from hA1897) KR ?_; intro ax hax; exact HK _ _ _ hax rfl (Below.refl _ _)
        · skip
          intro a W1898 ha HW he hf
          replace ha := ha.add (gotF (m := 12) (j := 11) (d := 37) (v := .string (((a0.extract 0 (a1 : Int).toNat) ++ a2) ++ (a0.extract (IntKind.wrap .i64 (a1 + (a2.size : Int)) : Int).toNat (a0).size))) hf KR KR KR)
          clear he hf
          refine stepp ha 6 (.string (((a0.extract 0 (a1 : Int).toNat) ++ a2) ++ (a0.extract (IntKind.wrap .i64 (a1 + (a2.size : Int)) : Int).toNat (a0).size))) KR KR ?_; clear ha a; intro a ha
          refine stepp ha 7 (.bool true) KR KR ?_; clear ha a; intro a ha
          refine endl ?_
          refine thenN (hK1891 _ _ ?_); clear hK1891
          refine wp_ret ?_
          obtain rfl := Option.some.inj h
          exact finv ha _ _ rfl (.tmp (v := .string (((a0.extract 0 (a1 : Int).toNat) ++ a2) ++ (a0.extract (IntKind.wrap .i64 (a1 + (a2.size : Int)) : Int).toNat (a0).size))) KR (.tmp (v := .bool true) KR .nil)) (.tuple #[.string (((a0.extract 0 (a1 : Int).toNat) ++ a2) ++ (a0.extract (IntKind.wrap .i64 (a1 + (a2.size : Int)) : Int).toNat (a0).size)), .bool true]) rfl ⟨rfl, HW.pick [] [] (by decide) (by decide) rfl KR⟩
end Go.Proofs.YtpjcipadjegmlaaDoor.F
