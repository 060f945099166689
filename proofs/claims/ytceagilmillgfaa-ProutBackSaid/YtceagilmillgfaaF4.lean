/- headgate/headgatelaw18.ProutBack: a plain function, and that the call comes to what it says. No condition. -/
import Derived.Test.YtceagilmillgfaaFT
import Derived.Test.YtceagilmillgfaaF5
import Derived.Test.YtceagilmillgfaaF6
import Derived.Test.YtceagilmillgfaaF7
import Derived.Test.YtceagilmillgfaaF9
import Derived.Test.YtceagilmillgfaaF11
namespace Go.Proofs.Ytceagilmillgfaa.F
open Go Go.RowKit Go.Proofs.Ytceagilmillgfaa.X
set_option linter.unusedVariables false
set_option linter.unusedSimpArgs false
/-! ### headgate/headgatelaw18.ProutBack: function 4 -/
def headgatelaw18_ProutBack.j1 (K : Nat) (a1 : T_arr2_3) (a2 : ByteArray) : Option Bool :=
  (prout_Change.f K a1.f0 a1.f1 a2).bind fun t1774 => (if t1774.2 = 0 then ((prout_List.f K (⟨t1774.1.f0, t1774.1.f1, t1774.1.f2, t1774.1.f3, t1774.1.f4, t1774.1.f5, t1774.1.f6, t1774.1.f7, t1774.1.f8, t1774.1.f9, t1774.1.f10, t1774.1.f11, t1774.1.f12, t1774.1.f13⟩ : T_api_Cmd)).bind fun t1803 => ((prout_Change.f K t1803.1 t1774.1.f11 t1803.2.1).bind fun t1809 => (if t1803.2.2 = 0 then (if t1809.2 = 0 then (if t1803.1 = a1.f0 then ((headgatekeep_Cmds.f K (⟨t1774.1.f0, t1774.1.f1, t1774.1.f2, t1774.1.f3, t1774.1.f4, t1774.1.f5, t1774.1.f6, t1774.1.f7, t1774.1.f8, t1774.1.f9, t1774.1.f10, t1774.1.f11, t1774.1.f12, t1774.1.f13⟩ : T_api_Cmd) (⟨t1809.1.f0, t1809.1.f1, t1809.1.f2, t1809.1.f3, t1809.1.f4, t1809.1.f5, t1809.1.f6, t1809.1.f7, t1809.1.f8, t1809.1.f9, t1809.1.f10, t1809.1.f11, t1809.1.f12, t1809.1.f13⟩ : T_api_Cmd)).bind fun t1824 => (if t1824 = true then ((headgatelaw18_wakes.f K).bind fun t1829 => (some t1829)) else (some false))) else (some false)) else (some false)) else (some false)))) else (if t1774.2 = 180 then ((headgatekeep_Cmds.f K (⟨t1774.1.f0, t1774.1.f1, t1774.1.f2, t1774.1.f3, t1774.1.f4, t1774.1.f5, t1774.1.f6, t1774.1.f7, t1774.1.f8, t1774.1.f9, t1774.1.f10, t1774.1.f11, t1774.1.f12, t1774.1.f13⟩ : T_api_Cmd) (⟨0, 0, (⟨#[]⟩ : ByteArray), 0, 0, (⟨#[]⟩ : ByteArray), false, ([] : List T_api_Range), 0, 0, 0, 0, false, 0⟩ : T_api_Cmd)).bind fun t1792 => (if t1792 = true then ((headgatelaw18_wakes.f K).bind fun t1797 => (some t1797)) else (some false))) else (some false)))
def headgatelaw18_ProutBack.j0 (K : Nat) (a0 : T_api_Cmd) (a1 : T_arr2_3) (a2 : ByteArray) (x1727 : Bool) : Option Bool :=
  if x1727 = true then ((headgatelaw18_wakes.f K).bind fun t1732 => (some t1732)) else ((prout_List.f K a0).bind fun t1738 => (if t1738.2.2 = 0 then ((prout_Change.f K t1738.1 a0.f11 t1738.2.1).bind fun t1749 => (if t1749.2 = 0 then ((headgatekeep_Cmds.f K a0 (⟨t1749.1.f0, t1749.1.f1, t1749.1.f2, t1749.1.f3, t1749.1.f4, t1749.1.f5, t1749.1.f6, t1749.1.f7, t1749.1.f8, t1749.1.f9, t1749.1.f10, t1749.1.f11, t1749.1.f12, t1749.1.f13⟩ : T_api_Cmd)).bind fun t1762 => (if t1762 = true then (headgatelaw18_ProutBack.j1 K a1 a2) else (some false))) else (some false))) else (headgatelaw18_ProutBack.j1 K a1 a2)))
def headgatelaw18_ProutBack.f (K : Nat) (a0 : T_api_Cmd) (a1 : T_arr2_3) (a2 : ByteArray) : Option Bool :=
  if (a2.size : Int) > 5000 then (headgatelaw18_ProutBack.j0 K a0 a1 a2 true) else ((headgatelaw18_large.f a0).bind fun t1723 => (headgatelaw18_ProutBack.j0 K a0 a1 a2 t1723))
set_option maxRecDepth 100000 in
set_option maxHeartbeats 4000000 in
theorem headgatelaw18_ProutBack.calls (K : Nat) (a0 : T_api_Cmd) (a1 : T_arr2_3) (a2 : ByteArray) (A0_0 : Option Addr) (c0_0 : Nat) (r : Bool) (w : World) (hr0_0 : Rd 2 w (.slice A0_0 a0.f7.length c0_0) a0.f7.length (encs T_api_Range.enc a0.f7)) (h : headgatelaw18_ProutBack.f K a0 a1 a2 = some r) :
    Calls Try.prog 4 #[.agg #[.int .i64 a0.f0, .int .i64 a0.f1, .string a0.f2, .int .i64 a0.f3, .int .i64 a0.f4, .string a0.f5, .bool a0.f6, .slice A0_0 a0.f7.length c0_0, .int .u64 a0.f8, .int .u64 a0.f9, .int .u64 a0.f10, .int .i64 a0.f11, .bool a0.f12, .int .i64 a0.f13], .agg #[.int .i64 a1.f0, .int .i64 a1.f1], .string a2] w (fun e W' => e = .returned (.bool r) ∧ Wd w W' [] [] ) := by
  refine sxstart (n := 106) (l := [(0, .agg #[.int .i64 a0.f0, .int .i64 a0.f1, .string a0.f2, .int .i64 a0.f3, .int .i64 a0.f4, .string a0.f5, .bool a0.f6, .slice A0_0 a0.f7.length c0_0, .int .u64 a0.f8, .int .u64 a0.f9, .int .u64 a0.f10, .int .i64 a0.f11, .bool a0.f12, .int .i64 a0.f13]), (1, .agg #[.int .i64 a1.f0, .int .i64 a1.f1]), (2, .string a2)]) Try.func4 rfl rfl (Nat.le_of_ble_eq_true (by kernel_rfl)) (subsA_cons rfl (subsA_cons rfl (subsA_cons rfl (subsA_nil _)))) ?_
  intro a ha
  have HW := Wd.refl w
  unfold headgatelaw18_ProutBack.f at h
  refine wp_seq_k (fun K1712 hK1713 => ?_)
  refine wp_region_lit ?_
  refine stepnew ha HW 3 #[.int .i64 a0.f0, .int .i64 a0.f1, .string a0.f2, .int .i64 a0.f3, .int .i64 a0.f4, .string a0.f5, .bool a0.f6, .slice A0_0 a0.f7.length c0_0, .int .u64 a0.f8, .int .u64 a0.f9, .int .u64 a0.f10, .int .i64 a0.f11, .bool a0.f12, .int .i64 a0.f13] 26 (by kernel_rfl) (by kernel_rfl) ?_; clear ha HW a; intro b1714 a W1715 HW ha
  refine stepnew ha HW 4 #[.int .i64 a1.f0, .int .i64 a1.f1] 22 (by kernel_rfl) (by kernel_rfl) ?_; clear ha HW a; intro b1716 a W1717 HW ha
  refine stepp ha 6 (.bool false) (by kernel_rfl) (by kernel_rfl) ?_; clear ha a; intro a ha
  refine endl ?_
  refine thenN (hK1713 _ _ ?_); clear hK1713
  refine wp_seq_k (fun K1718 hK1719 => ?_)
  refine wp_seq_k (fun K1720 hK1721 => ?_)
  refine cutn (fun a W1728 => ∃ (x1727 : Bool), headgatelaw18_ProutBack.j0 K a0 a1 a2 x1727 = some r ∧ Has 106 [(2, .string a2), (3, .pointer (some ⟨b1714, 0, none⟩)), (4, .pointer (some ⟨b1716, 0, none⟩)), (25, .bool x1727)] a ∧ Wd w W1728 [(b1714, .cells #[.int .i64 a0.f0, .int .i64 a0.f1, .string a0.f2, .int .i64 a0.f3, .int .i64 a0.f4, .string a0.f5, .bool a0.f6, .slice A0_0 a0.f7.length c0_0, .int .u64 a0.f8, .int .u64 a0.f9, .int .u64 a0.f10, .int .i64 a0.f11, .bool a0.f12, .int .i64 a0.f13] 26 (0, 0)), (b1716, .cells #[.int .i64 a1.f0, .int .i64 a1.f1] 22 (0, 0))] []) ?_ ?_
  · skip
    refine wp_region_lit ?_
    refine stepp ha 19 (.string a2) (by kernel_rfl) (by kernel_rfl) ?_; clear ha a; intro a ha
    refine stepp ha 20 (.int .i64 (a2.size : Int)) (by kernel_rfl) (by kernel_rfl) ?_; clear ha a; intro a ha
    refine stepp ha 21 (.bool (decide ((a2.size : Int) > 5000))) (by kernel_rfl) (by kernel_rfl) ?_; clear ha a; intro a ha
    refine stepp ha 22 (.bool (decide ((a2.size : Int) > 5000))) (by kernel_rfl) (by kernel_rfl) ?_; clear ha a; intro a ha
    by_cases hp1722 : (a2.size : Int) > 5000
    · skip
      replace h := ite_pos' h hp1722
      replace ha := ha.bool 22 (by kernel_rfl) (decide_eq_true hp1722)
      refine stepo ha 23 (by kernel_rfl) ?_; clear ha a; intro a ha
      refine stepo ha 24 (by kernel_rfl) ?_; clear ha a; intro a ha
      refine stepp ha 25 (.bool true) (by kernel_rfl) (by kernel_rfl) ?_; clear ha a; intro a ha
      refine endl ?_
      exact thenN ⟨true, h, ha.sub (subs_cons (by kernel_rfl) (subs_cons (by kernel_rfl) (subs_cons (by kernel_rfl) (subs_cons (by kernel_rfl) (subs_nil _))))), HW.pick [1, 0] [] (by decide) (by decide) (by kernel_rfl) (by kernel_rfl)⟩
    · skip
      replace h := ite_neg' h hp1722
      replace ha := ha.bool 22 (by kernel_rfl) (decide_eq_false hp1722)
      refine stepl ha 23 (HW.ca (i := 1) (b := b1714) (C := #[.int .i64 a0.f0, .int .i64 a0.f1, .string a0.f2, .int .i64 a0.f3, .int .i64 a0.f4, .string a0.f5, .bool a0.f6, .slice A0_0 a0.f7.length c0_0, .int .u64 a0.f8, .int .u64 a0.f9, .int .u64 a0.f10, .int .i64 a0.f11, .bool a0.f12, .int .i64 a0.f13]) (T := 26) (fr := (0, 0)) (by kernel_rfl)) 26 0 (.tmp 3) (.agg #[.int .i64 a0.f0, .int .i64 a0.f1, .string a0.f2, .int .i64 a0.f3, .int .i64 a0.f4, .string a0.f5, .bool a0.f6, .slice A0_0 a0.f7.length c0_0, .int .u64 a0.f8, .int .u64 a0.f9, .int .u64 a0.f10, .int .i64 a0.f11, .bool a0.f12, .int .i64 a0.f13]) rfl (by kernel_rfl) (by kernel_rfl) (by kernel_rfl) ?_; clear ha a; intro a ha
      obtain ⟨t1723, ht1724, h_⟩ := bind_some' h; clear h; have h := h_; clear h_
      refine stepc ha 24 (by kernel_rfl) (by kernel_rfl) (headgatelaw18_large.calls a0 A0_0 c0_0 t1723 _ ((HW.rd0 hr0_0)) ht1724) ?_; clear ha a; rintro e W1725 ⟨rfl, HX1726⟩
      refine ⟨_, rfl, ?_⟩; intro a ha; replace HW := HW.callw HX1726; clear HX1726
      refine stepp ha 25 (.bool t1723) (by kernel_rfl) (by kernel_rfl) ?_; clear ha a; intro a ha
      refine endl ?_
      exact thenN ⟨t1723, h, ha.sub (subs_cons (by kernel_rfl) (subs_cons (by kernel_rfl) (subs_cons (by kernel_rfl) (subs_cons (by kernel_rfl) (subs_nil _))))), HW.pick [1, 0] [] (by decide) (by decide) (by kernel_rfl) (by kernel_rfl)⟩
  · skip
    intro a W1728 hJ
    obtain ⟨x1727, h, ha, HW⟩ := hJ
    replace h : headgatelaw18_ProutBack.j0 K a0 a1 a2 x1727 = some r := h
    unfold headgatelaw18_ProutBack.j0 at h
    refine hK1721 _ _ ?_; clear hK1721
    by_cases hp1729 : x1727 = true
    · skip
      replace h := ite_pos' h hp1729
      refine condT ha (by kernel_rfl) (by kernel_rfl) (t := x1727) (hp1729) ?_
      refine wp_seq_k (fun K1730 hK1731 => ?_)
      refine wp_region_lit ?_
      obtain ⟨t1732, ht1733, h_⟩ := bind_some' h; clear h; have h := h_; clear h_
      refine stepc ha 26 (by kernel_rfl) (by kernel_rfl) (headgatelaw18_wakes.calls K t1732 _ ht1733) ?_; clear ha a; rintro e W1734 ⟨rfl, HX1735⟩
      refine ⟨_, rfl, ?_⟩; intro a ha; replace HW := HW.callw HX1735; clear HX1735
      refine stepp ha 6 (.bool t1732) (by kernel_rfl) (by kernel_rfl) ?_; clear ha a; intro a ha
      refine endl ?_
      refine thenN (hK1731 _ _ ?_); clear hK1731
      refine wp_ret ?_
      refine thenR ?_
      obtain rfl := Option.some.inj h
      exact finv ha _ _ rfl (.tmp (v := .bool t1732) (by kernel_rfl) .nil) (.bool t1732) rfl ⟨rfl, HW.pick [] [] (by decide) (by decide) rfl (by kernel_rfl)⟩
    · skip
      replace h := ite_neg' h hp1729
      refine condF ha (by kernel_rfl) (by kernel_rfl) (t := x1727) (bool_f hp1729) ?_
      refine wp_skip ?_
      refine thenN (hK1719 _ _ ?_); clear hK1719
      refine wp_seq_k (fun K1736 hK1737 => ?_)
      refine wp_region_lit ?_
      refine stepl ha 28 (HW.ca (i := 0) (b := b1714) (C := #[.int .i64 a0.f0, .int .i64 a0.f1, .string a0.f2, .int .i64 a0.f3, .int .i64 a0.f4, .string a0.f5, .bool a0.f6, .slice A0_0 a0.f7.length c0_0, .int .u64 a0.f8, .int .u64 a0.f9, .int .u64 a0.f10, .int .i64 a0.f11, .bool a0.f12, .int .i64 a0.f13]) (T := 26) (fr := (0, 0)) (by kernel_rfl)) 26 0 (.tmp 3) (.agg #[.int .i64 a0.f0, .int .i64 a0.f1, .string a0.f2, .int .i64 a0.f3, .int .i64 a0.f4, .string a0.f5, .bool a0.f6, .slice A0_0 a0.f7.length c0_0, .int .u64 a0.f8, .int .u64 a0.f9, .int .u64 a0.f10, .int .i64 a0.f11, .bool a0.f12, .int .i64 a0.f13]) rfl (by kernel_rfl) (by kernel_rfl) (by kernel_rfl) ?_; clear ha a; intro a ha
      obtain ⟨t1738, ht1739, h_⟩ := bind_some' h; clear h; have h := h_; clear h_
      refine stepc ha 29 (by kernel_rfl) (by kernel_rfl) (prout_List.calls K a0 A0_0 c0_0 t1738 _ ((HW.rd0 hr0_0)) ht1739) ?_; clear ha a; rintro e W1740 ⟨rfl, HX1741⟩
      refine ⟨_, rfl, ?_⟩; intro a ha; replace HW := HW.callw HX1741; clear HX1741
      refine stepp ha 27 (.tuple #[.int .i64 t1738.1, .string t1738.2.1, .int .i64 t1738.2.2]) (by kernel_rfl) (by kernel_rfl) ?_; clear ha a; intro a ha
      refine stepp ha 30 (.int .i64 t1738.1) (by kernel_rfl) (by kernel_rfl) ?_; clear ha a; intro a ha
      refine stepp ha 31 (.string t1738.2.1) (by kernel_rfl) (by kernel_rfl) ?_; clear ha a; intro a ha
      refine stepp ha 32 (.int .i64 t1738.2.2) (by kernel_rfl) (by kernel_rfl) ?_; clear ha a; intro a ha
      refine stepp ha 7 (.int .i64 t1738.1) (by kernel_rfl) (by kernel_rfl) ?_; clear ha a; intro a ha
      refine stepp ha 8 (.string t1738.2.1) (by kernel_rfl) (by kernel_rfl) ?_; clear ha a; intro a ha
      refine stepp ha 9 (.int .i64 t1738.2.2) (by kernel_rfl) (by kernel_rfl) ?_; clear ha a; intro a ha
      refine endl ?_
      refine thenN (hK1737 _ _ ?_); clear hK1737
      refine wp_seq_k (fun K1742 hK1743 => ?_)
      refine cutn (fun a W1771 => headgatelaw18_ProutBack.j1 K a1 a2 = some r ∧ Has 106 [(2, .string a2), (4, .pointer (some ⟨b1716, 0, none⟩))] a ∧ Wd w W1771 [(b1716, .cells #[.int .i64 a1.f0, .int .i64 a1.f1] 22 (0, 0))] []) ?_ ?_
      · skip
        refine wp_seq_k (fun K1744 hK1745 => ?_)
        refine wp_region_lit ?_
        refine stepp ha 33 (.int .i64 t1738.2.2) (by kernel_rfl) (by kernel_rfl) ?_; clear ha a; intro a ha
        refine stepp ha 34 (.bool (t1738.2.2 == 0)) (by kernel_rfl) (by kernel_rfl) ?_; clear ha a; intro a ha
        refine endl ?_
        refine thenN (hK1745 _ _ ?_); clear hK1745
        by_cases hp1746 : t1738.2.2 = 0
        · skip
          replace h := ite_pos' h hp1746
          refine condT ha (by kernel_rfl) (by kernel_rfl) (t := (t1738.2.2 == 0)) (ieq_t hp1746) ?_
          refine wp_seq_k (fun K1747 hK1748 => ?_)
          refine wp_region_lit ?_
          refine stepp ha 36 (.int .i64 t1738.1) (by kernel_rfl) (by kernel_rfl) ?_; clear ha a; intro a ha
          refine stepp ha 37 (.pointer (some ⟨b1714, 11, none⟩)) (by kernel_rfl) (by kernel_rfl) ?_; clear ha a; intro a ha
          refine stepl ha 38 (HW.ca (i := 0) (b := b1714) (C := #[.int .i64 a0.f0, .int .i64 a0.f1, .string a0.f2, .int .i64 a0.f3, .int .i64 a0.f4, .string a0.f5, .bool a0.f6, .slice A0_0 a0.f7.length c0_0, .int .u64 a0.f8, .int .u64 a0.f9, .int .u64 a0.f10, .int .i64 a0.f11, .bool a0.f12, .int .i64 a0.f13]) (T := 26) (fr := (0, 0)) (by kernel_rfl)) 3 11 (.tmp 37) (.int .i64 a0.f11) rfl (by kernel_rfl) (by kernel_rfl) (by kernel_rfl) ?_; clear ha a; intro a ha
          refine stepp ha 39 (.string t1738.2.1) (by kernel_rfl) (by kernel_rfl) ?_; clear ha a; intro a ha
          obtain ⟨t1749, ht1750, h_⟩ := bind_some' h; clear h; have h := h_; clear h_
          refine stepc ha 40 (by kernel_rfl) (by kernel_rfl) (prout_Change.calls K t1738.1 a0.f11 t1738.2.1 t1749 _ ht1750) ?_; clear ha a; rintro e W1754 ⟨A1751, c1752, rfl, HX1755⟩
          refine ⟨_, rfl, ?_⟩; intro a ha; replace HW := HW.callw HX1755; clear HX1755
          refine stepp ha 35 (.tuple #[.agg #[.int .i64 t1749.1.f0, .int .i64 t1749.1.f1, .string t1749.1.f2, .int .i64 t1749.1.f3, .int .i64 t1749.1.f4, .string t1749.1.f5, .bool t1749.1.f6, .slice A1751 t1749.1.f7.length c1752, .int .u64 t1749.1.f8, .int .u64 t1749.1.f9, .int .u64 t1749.1.f10, .int .i64 t1749.1.f11, .bool t1749.1.f12, .int .i64 t1749.1.f13], .int .i64 t1749.2]) (by kernel_rfl) (by kernel_rfl) ?_; clear ha a; intro a ha
          refine stepp ha 41 (.agg #[.int .i64 t1749.1.f0, .int .i64 t1749.1.f1, .string t1749.1.f2, .int .i64 t1749.1.f3, .int .i64 t1749.1.f4, .string t1749.1.f5, .bool t1749.1.f6, .slice A1751 t1749.1.f7.length c1752, .int .u64 t1749.1.f8, .int .u64 t1749.1.f9, .int .u64 t1749.1.f10, .int .i64 t1749.1.f11, .bool t1749.1.f12, .int .i64 t1749.1.f13]) (by kernel_rfl) (by kernel_rfl) ?_; clear ha a; intro a ha
          refine stepp ha 42 (.int .i64 t1749.2) (by kernel_rfl) (by kernel_rfl) ?_; clear ha a; intro a ha
          refine stepnew ha HW 10 #[.int .i64 0, .int .i64 0, .string (⟨#[]⟩ : ByteArray), .int .i64 0, .int .i64 0, .string (⟨#[]⟩ : ByteArray), .bool false, .slice none 0 0, .int .u64 0, .int .u64 0, .int .u64 0, .int .i64 0, .bool false, .int .i64 0] 26 (by kernel_rfl) (by kernel_rfl) ?_; clear ha HW a; intro b1756 a W1757 HW ha
          refine stepst ha HW 0 (b := b1756) (C := #[.int .i64 0, .int .i64 0, .string (⟨#[]⟩ : ByteArray), .int .i64 0, .int .i64 0, .string (⟨#[]⟩ : ByteArray), .bool false, .slice none 0 0, .int .u64 0, .int .u64 0, .int .u64 0, .int .i64 0, .bool false, .int .i64 0]) (T := 26) (by kernel_rfl) 26 0 (.tmp 10) (.tmp 41) (.agg #[.int .i64 t1749.1.f0, .int .i64 t1749.1.f1, .string t1749.1.f2, .int .i64 t1749.1.f3, .int .i64 t1749.1.f4, .string t1749.1.f5, .bool t1749.1.f6, .slice A1751 t1749.1.f7.length c1752, .int .u64 t1749.1.f8, .int .u64 t1749.1.f9, .int .u64 t1749.1.f10, .int .i64 t1749.1.f11, .bool t1749.1.f12, .int .i64 t1749.1.f13]) #[.int .i64 t1749.1.f0, .int .i64 t1749.1.f1, .string t1749.1.f2, .int .i64 t1749.1.f3, .int .i64 t1749.1.f4, .string t1749.1.f5, .bool t1749.1.f6, .slice A1751 t1749.1.f7.length c1752, .int .u64 t1749.1.f8, .int .u64 t1749.1.f9, .int .u64 t1749.1.f10, .int .i64 t1749.1.f11, .bool t1749.1.f12, .int .i64 t1749.1.f13] rfl (by kernel_rfl) (by kernel_rfl) (by kernel_rfl) (by kernel_rfl) (by kernel_rfl) (by kernel_rfl) (by kernel_rfl) ?_; clear ha HW a; intro a W1758 HW ha
          refine stepp ha 11 (.int .i64 t1749.2) (by kernel_rfl) (by kernel_rfl) ?_; clear ha a; intro a ha
          refine endl ?_
          refine thenN (hK1748 _ _ ?_); clear hK1748
          refine wp_seq_k (fun K1759 hK1760 => ?_)
          refine wp_region_lit ?_
          refine stepp ha 43 (.int .i64 t1749.2) (by kernel_rfl) (by kernel_rfl) ?_; clear ha a; intro a ha
          refine stepp ha 44 (.bool (t1749.2 != 0)) (by kernel_rfl) (by kernel_rfl) ?_; clear ha a; intro a ha
          refine stepp ha 45 (.bool (t1749.2 != 0)) (by kernel_rfl) (by kernel_rfl) ?_; clear ha a; intro a ha
          by_cases hp1761 : t1749.2 = 0
          · skip
            replace h := ite_pos' h hp1761
            replace ha := ha.bool 45 (by kernel_rfl) (ineq_f hp1761)
            refine stepl ha 46 (HW.ca (i := 1) (b := b1714) (C := #[.int .i64 a0.f0, .int .i64 a0.f1, .string a0.f2, .int .i64 a0.f3, .int .i64 a0.f4, .string a0.f5, .bool a0.f6, .slice A0_0 a0.f7.length c0_0, .int .u64 a0.f8, .int .u64 a0.f9, .int .u64 a0.f10, .int .i64 a0.f11, .bool a0.f12, .int .i64 a0.f13]) (T := 26) (fr := (0, 0)) (by kernel_rfl)) 26 0 (.tmp 3) (.agg #[.int .i64 a0.f0, .int .i64 a0.f1, .string a0.f2, .int .i64 a0.f3, .int .i64 a0.f4, .string a0.f5, .bool a0.f6, .slice A0_0 a0.f7.length c0_0, .int .u64 a0.f8, .int .u64 a0.f9, .int .u64 a0.f10, .int .i64 a0.f11, .bool a0.f12, .int .i64 a0.f13]) rfl (by kernel_rfl) (by kernel_rfl) (by kernel_rfl) ?_; clear ha a; intro a ha
            refine stepl ha 47 (HW.ca (i := 0) (b := b1756) (C := #[.int .i64 t1749.1.f0, .int .i64 t1749.1.f1, .string t1749.1.f2, .int .i64 t1749.1.f3, .int .i64 t1749.1.f4, .string t1749.1.f5, .bool t1749.1.f6, .slice A1751 t1749.1.f7.length c1752, .int .u64 t1749.1.f8, .int .u64 t1749.1.f9, .int .u64 t1749.1.f10, .int .i64 t1749.1.f11, .bool t1749.1.f12, .int .i64 t1749.1.f13]) (T := 26) (fr := (0, 0)) (by kernel_rfl)) 26 0 (.tmp 10) (.agg #[.int .i64 t1749.1.f0, .int .i64 t1749.1.f1, .string t1749.1.f2, .int .i64 t1749.1.f3, .int .i64 t1749.1.f4, .string t1749.1.f5, .bool t1749.1.f6, .slice A1751 t1749.1.f7.length c1752, .int .u64 t1749.1.f8, .int .u64 t1749.1.f9, .int .u64 t1749.1.f10, .int .i64 t1749.1.f11, .bool t1749.1.f12, .int .i64 t1749.1.f13]) rfl (by kernel_rfl) (by kernel_rfl) (by kernel_rfl) ?_; clear ha a; intro a ha
            obtain ⟨t1762, ht1763, h_⟩ := bind_some' h; clear h; have h := h_; clear h_
            refine stepc ha 48 (by kernel_rfl) (by kernel_rfl) (headgatekeep_Cmds.calls K a0 (⟨t1749.1.f0, t1749.1.f1, t1749.1.f2, t1749.1.f3, t1749.1.f4, t1749.1.f5, t1749.1.f6, t1749.1.f7, t1749.1.f8, t1749.1.f9, t1749.1.f10, t1749.1.f11, t1749.1.f12, t1749.1.f13⟩ : T_api_Cmd) A0_0 c0_0 A1751 c1752 t1762 _ ((HW.rd0 hr0_0)) (HW.rdo (i := 0) (q := ⟨61, 2, .slice A1751 t1749.1.f7.length c1752, t1749.1.f7.length, encs T_api_Range.enc t1749.1.f7⟩) (by kernel_rfl)) ht1763) ?_; clear ha a; rintro e W1764 ⟨rfl, HX1765⟩
            refine ⟨_, rfl, ?_⟩; intro a ha; replace HW := HW.callw HX1765; clear HX1765
            refine stepp ha 49 (.bool (!t1762)) (by kernel_rfl) (by kernel_rfl) ?_; clear ha a; intro a ha
            refine stepp ha 50 (.bool (!t1762)) (by kernel_rfl) (by kernel_rfl) ?_; clear ha a; intro a ha
            refine endl ?_
            refine thenN (hK1760 _ _ ?_); clear hK1760
            by_cases hp1766 : t1762 = true
            · skip
              replace h := ite_pos' h hp1766
              refine condF ha (by kernel_rfl) (by kernel_rfl) (t := (!t1762)) (not_f (hp1766)) ?_
              refine wp_skip ?_
              exact thenN ⟨h, ha.sub (subs_cons (by kernel_rfl) (subs_cons (by kernel_rfl) (subs_nil _))), HW.pick [2] [] (by decide) (by decide) (by kernel_rfl) (by kernel_rfl)⟩
            · skip
              replace h := ite_neg' h hp1766
              refine condT ha (by kernel_rfl) (by kernel_rfl) (t := (!t1762)) (not_t (bool_f hp1766)) ?_
              refine wp_seq_k (fun K1767 hK1768 => ?_)
              refine wp_region_lit ?_
              refine stepp ha 6 (.bool false) (by kernel_rfl) (by kernel_rfl) ?_; clear ha a; intro a ha
              refine endl ?_
              refine thenN (hK1768 _ _ ?_); clear hK1768
              refine wp_ret ?_
              refine thenR ?_
              obtain rfl := Option.some.inj h
              exact finv ha _ _ rfl (.tmp (v := .bool false) (by kernel_rfl) .nil) (.bool false) rfl ⟨rfl, HW.pick [] [] (by decide) (by decide) rfl (by kernel_rfl)⟩
          · skip
            replace h := ite_neg' h hp1761
            replace ha := ha.bool 45 (by kernel_rfl) (ineq_t hp1761)
            refine stepo ha 46 (by kernel_rfl) ?_; clear ha a; intro a ha
            refine stepo ha 47 (by kernel_rfl) ?_; clear ha a; intro a ha
            refine stepo ha 48 (by kernel_rfl) ?_; clear ha a; intro a ha
            refine stepo ha 49 (by kernel_rfl) ?_; clear ha a; intro a ha
            refine stepp ha 50 (.bool true) (by kernel_rfl) (by kernel_rfl) ?_; clear ha a; intro a ha
            refine endl ?_
            refine thenN (hK1760 _ _ ?_); clear hK1760
            refine condT ha (by kernel_rfl) (by kernel_rfl) (t := true) (rfl) ?_
            refine wp_seq_k (fun K1769 hK1770 => ?_)
            refine wp_region_lit ?_
            refine stepp ha 6 (.bool false) (by kernel_rfl) (by kernel_rfl) ?_; clear ha a; intro a ha
            refine endl ?_
            refine thenN (hK1770 _ _ ?_); clear hK1770
            refine wp_ret ?_
            refine thenR ?_
            obtain rfl := Option.some.inj h
            exact finv ha _ _ rfl (.tmp (v := .bool false) (by kernel_rfl) .nil) (.bool false) rfl ⟨rfl, HW.pick [] [] (by decide) (by decide) rfl (by kernel_rfl)⟩
        · skip
          replace h := ite_neg' h hp1746
          refine condF ha (by kernel_rfl) (by kernel_rfl) (t := (t1738.2.2 == 0)) (ieq_f hp1746) ?_
          refine wp_skip ?_
          exact thenN ⟨h, ha.sub (subs_cons (by kernel_rfl) (subs_cons (by kernel_rfl) (subs_nil _))), HW.pick [1] [] (by decide) (by decide) (by kernel_rfl) (by kernel_rfl)⟩
      · skip
        intro a W1771 hJ
        obtain ⟨h, ha, HW⟩ := hJ
        replace h : headgatelaw18_ProutBack.j1 K a1 a2 = some r := h
        unfold headgatelaw18_ProutBack.j1 at h
        refine hK1743 _ _ ?_; clear hK1743
        refine wp_seq_k (fun K1772 hK1773 => ?_)
        refine wp_region_lit ?_
        refine stepp ha 52 (.pointer (some ⟨b1716, 0, none⟩)) (by kernel_rfl) (by kernel_rfl) ?_; clear ha a; intro a ha
        refine stepl ha 53 (HW.ca (i := 0) (b := b1716) (C := #[.int .i64 a1.f0, .int .i64 a1.f1]) (T := 22) (fr := (0, 0)) (by kernel_rfl)) 3 0 (.tmp 52) (.int .i64 a1.f0) rfl (by kernel_rfl) (by kernel_rfl) (by kernel_rfl) ?_; clear ha a; intro a ha
        refine stepp ha 54 (.pointer (some ⟨b1716, 1, none⟩)) (by kernel_rfl) (by kernel_rfl) ?_; clear ha a; intro a ha
        refine stepl ha 55 (HW.ca (i := 0) (b := b1716) (C := #[.int .i64 a1.f0, .int .i64 a1.f1]) (T := 22) (fr := (0, 0)) (by kernel_rfl)) 3 1 (.tmp 54) (.int .i64 a1.f1) rfl (by kernel_rfl) (by kernel_rfl) (by kernel_rfl) ?_; clear ha a; intro a ha
        refine stepp ha 56 (.string a2) (by kernel_rfl) (by kernel_rfl) ?_; clear ha a; intro a ha
        obtain ⟨t1774, ht1775, h_⟩ := bind_some' h; clear h; have h := h_; clear h_
        refine stepc ha 57 (by kernel_rfl) (by kernel_rfl) (prout_Change.calls K a1.f0 a1.f1 a2 t1774 _ ht1775) ?_; clear ha a; rintro e W1779 ⟨A1776, c1777, rfl, HX1780⟩
        refine ⟨_, rfl, ?_⟩; intro a ha; replace HW := HW.callw HX1780; clear HX1780
        refine stepp ha 51 (.tuple #[.agg #[.int .i64 t1774.1.f0, .int .i64 t1774.1.f1, .string t1774.1.f2, .int .i64 t1774.1.f3, .int .i64 t1774.1.f4, .string t1774.1.f5, .bool t1774.1.f6, .slice A1776 t1774.1.f7.length c1777, .int .u64 t1774.1.f8, .int .u64 t1774.1.f9, .int .u64 t1774.1.f10, .int .i64 t1774.1.f11, .bool t1774.1.f12, .int .i64 t1774.1.f13], .int .i64 t1774.2]) (by kernel_rfl) (by kernel_rfl) ?_; clear ha a; intro a ha
        refine stepp ha 58 (.agg #[.int .i64 t1774.1.f0, .int .i64 t1774.1.f1, .string t1774.1.f2, .int .i64 t1774.1.f3, .int .i64 t1774.1.f4, .string t1774.1.f5, .bool t1774.1.f6, .slice A1776 t1774.1.f7.length c1777, .int .u64 t1774.1.f8, .int .u64 t1774.1.f9, .int .u64 t1774.1.f10, .int .i64 t1774.1.f11, .bool t1774.1.f12, .int .i64 t1774.1.f13]) (by kernel_rfl) (by kernel_rfl) ?_; clear ha a; intro a ha
        refine stepp ha 59 (.int .i64 t1774.2) (by kernel_rfl) (by kernel_rfl) ?_; clear ha a; intro a ha
        refine stepnew ha HW 12 #[.int .i64 0, .int .i64 0, .string (⟨#[]⟩ : ByteArray), .int .i64 0, .int .i64 0, .string (⟨#[]⟩ : ByteArray), .bool false, .slice none 0 0, .int .u64 0, .int .u64 0, .int .u64 0, .int .i64 0, .bool false, .int .i64 0] 26 (by kernel_rfl) (by kernel_rfl) ?_; clear ha HW a; intro b1781 a W1782 HW ha
        refine stepst ha HW 0 (b := b1781) (C := #[.int .i64 0, .int .i64 0, .string (⟨#[]⟩ : ByteArray), .int .i64 0, .int .i64 0, .string (⟨#[]⟩ : ByteArray), .bool false, .slice none 0 0, .int .u64 0, .int .u64 0, .int .u64 0, .int .i64 0, .bool false, .int .i64 0]) (T := 26) (by kernel_rfl) 26 0 (.tmp 12) (.tmp 58) (.agg #[.int .i64 t1774.1.f0, .int .i64 t1774.1.f1, .string t1774.1.f2, .int .i64 t1774.1.f3, .int .i64 t1774.1.f4, .string t1774.1.f5, .bool t1774.1.f6, .slice A1776 t1774.1.f7.length c1777, .int .u64 t1774.1.f8, .int .u64 t1774.1.f9, .int .u64 t1774.1.f10, .int .i64 t1774.1.f11, .bool t1774.1.f12, .int .i64 t1774.1.f13]) #[.int .i64 t1774.1.f0, .int .i64 t1774.1.f1, .string t1774.1.f2, .int .i64 t1774.1.f3, .int .i64 t1774.1.f4, .string t1774.1.f5, .bool t1774.1.f6, .slice A1776 t1774.1.f7.length c1777, .int .u64 t1774.1.f8, .int .u64 t1774.1.f9, .int .u64 t1774.1.f10, .int .i64 t1774.1.f11, .bool t1774.1.f12, .int .i64 t1774.1.f13] rfl (by kernel_rfl) (by kernel_rfl) (by kernel_rfl) (by kernel_rfl) (by kernel_rfl) (by kernel_rfl) (by kernel_rfl) ?_; clear ha HW a; intro a W1783 HW ha
        refine stepp ha 13 (.int .i64 t1774.2) (by kernel_rfl) (by kernel_rfl) ?_; clear ha a; intro a ha
        refine endl ?_
        refine thenN (hK1773 _ _ ?_); clear hK1773
        refine wp_seq_k (fun K1784 hK1785 => ?_)
        refine wp_seq_k (fun K1786 hK1787 => ?_)
        refine wp_region_lit ?_
        refine stepp ha 60 (.int .i64 t1774.2) (by kernel_rfl) (by kernel_rfl) ?_; clear ha a; intro a ha
        refine stepp ha 61 (.bool (t1774.2 != 0)) (by kernel_rfl) (by kernel_rfl) ?_; clear ha a; intro a ha
        refine endl ?_
        refine thenN (hK1787 _ _ ?_); clear hK1787
        by_cases hp1788 : t1774.2 = 0
        · skip
          replace h := ite_pos' h hp1788
          refine condF ha (by kernel_rfl) (by kernel_rfl) (t := (t1774.2 != 0)) (ineq_f hp1788) ?_
          refine wp_skip ?_
          refine thenN (hK1785 _ _ ?_); clear hK1785
          refine wp_seq_k (fun K1801 hK1802 => ?_)
          refine wp_region_lit ?_
          refine stepl ha 73 (HW.ca (i := 0) (b := b1781) (C := #[.int .i64 t1774.1.f0, .int .i64 t1774.1.f1, .string t1774.1.f2, .int .i64 t1774.1.f3, .int .i64 t1774.1.f4, .string t1774.1.f5, .bool t1774.1.f6, .slice A1776 t1774.1.f7.length c1777, .int .u64 t1774.1.f8, .int .u64 t1774.1.f9, .int .u64 t1774.1.f10, .int .i64 t1774.1.f11, .bool t1774.1.f12, .int .i64 t1774.1.f13]) (T := 26) (fr := (0, 0)) (by kernel_rfl)) 26 0 (.tmp 12) (.agg #[.int .i64 t1774.1.f0, .int .i64 t1774.1.f1, .string t1774.1.f2, .int .i64 t1774.1.f3, .int .i64 t1774.1.f4, .string t1774.1.f5, .bool t1774.1.f6, .slice A1776 t1774.1.f7.length c1777, .int .u64 t1774.1.f8, .int .u64 t1774.1.f9, .int .u64 t1774.1.f10, .int .i64 t1774.1.f11, .bool t1774.1.f12, .int .i64 t1774.1.f13]) rfl (by kernel_rfl) (by kernel_rfl) (by kernel_rfl) ?_; clear ha a; intro a ha
          obtain ⟨t1803, ht1804, h_⟩ := bind_some' h; clear h; have h := h_; clear h_
          refine stepc ha 74 (by kernel_rfl) (by kernel_rfl) (prout_List.calls K (⟨t1774.1.f0, t1774.1.f1, t1774.1.f2, t1774.1.f3, t1774.1.f4, t1774.1.f5, t1774.1.f6, t1774.1.f7, t1774.1.f8, t1774.1.f9, t1774.1.f10, t1774.1.f11, t1774.1.f12, t1774.1.f13⟩ : T_api_Cmd) A1776 c1777 t1803 _ (HW.rdo (i := 0) (q := ⟨61, 2, .slice A1776 t1774.1.f7.length c1777, t1774.1.f7.length, encs T_api_Range.enc t1774.1.f7⟩) (by kernel_rfl)) ht1804) ?_; clear ha a; rintro e W1805 ⟨rfl, HX1806⟩
          refine ⟨_, rfl, ?_⟩; intro a ha; replace HW := HW.callw HX1806; clear HX1806
          refine stepp ha 72 (.tuple #[.int .i64 t1803.1, .string t1803.2.1, .int .i64 t1803.2.2]) (by kernel_rfl) (by kernel_rfl) ?_; clear ha a; intro a ha
          refine stepp ha 75 (.int .i64 t1803.1) (by kernel_rfl) (by kernel_rfl) ?_; clear ha a; intro a ha
          refine stepp ha 76 (.string t1803.2.1) (by kernel_rfl) (by kernel_rfl) ?_; clear ha a; intro a ha
          refine stepp ha 77 (.int .i64 t1803.2.2) (by kernel_rfl) (by kernel_rfl) ?_; clear ha a; intro a ha
          refine stepp ha 14 (.int .i64 t1803.1) (by kernel_rfl) (by kernel_rfl) ?_; clear ha a; intro a ha
          refine stepp ha 15 (.string t1803.2.1) (by kernel_rfl) (by kernel_rfl) ?_; clear ha a; intro a ha
          refine stepp ha 16 (.int .i64 t1803.2.2) (by kernel_rfl) (by kernel_rfl) ?_; clear ha a; intro a ha
          refine endl ?_
          refine thenN (hK1802 _ _ ?_); clear hK1802
          refine wp_seq_k (fun K1807 hK1808 => ?_)
          refine wp_region_lit ?_
          refine stepp ha 79 (.int .i64 t1803.1) (by kernel_rfl) (by kernel_rfl) ?_; clear ha a; intro a ha
          refine stepp ha 80 (.pointer (some ⟨b1781, 11, none⟩)) (by kernel_rfl) (by kernel_rfl) ?_; clear ha a; intro a ha
          refine stepl ha 81 (HW.ca (i := 0) (b := b1781) (C := #[.int .i64 t1774.1.f0, .int .i64 t1774.1.f1, .string t1774.1.f2, .int .i64 t1774.1.f3, .int .i64 t1774.1.f4, .string t1774.1.f5, .bool t1774.1.f6, .slice A1776 t1774.1.f7.length c1777, .int .u64 t1774.1.f8, .int .u64 t1774.1.f9, .int .u64 t1774.1.f10, .int .i64 t1774.1.f11, .bool t1774.1.f12, .int .i64 t1774.1.f13]) (T := 26) (fr := (0, 0)) (by kernel_rfl)) 3 11 (.tmp 80) (.int .i64 t1774.1.f11) rfl (by kernel_rfl) (by kernel_rfl) (by kernel_rfl) ?_; clear ha a; intro a ha
          refine stepp ha 82 (.string t1803.2.1) (by kernel_rfl) (by kernel_rfl) ?_; clear ha a; intro a ha
          obtain ⟨t1809, ht1810, h_⟩ := bind_some' h; clear h; have h := h_; clear h_
          refine stepc ha 83 (by kernel_rfl) (by kernel_rfl) (prout_Change.calls K t1803.1 t1774.1.f11 t1803.2.1 t1809 _ ht1810) ?_; clear ha a; rintro e W1814 ⟨A1811, c1812, rfl, HX1815⟩
          refine ⟨_, rfl, ?_⟩; intro a ha; replace HW := HW.callw HX1815; clear HX1815
          refine stepp ha 78 (.tuple #[.agg #[.int .i64 t1809.1.f0, .int .i64 t1809.1.f1, .string t1809.1.f2, .int .i64 t1809.1.f3, .int .i64 t1809.1.f4, .string t1809.1.f5, .bool t1809.1.f6, .slice A1811 t1809.1.f7.length c1812, .int .u64 t1809.1.f8, .int .u64 t1809.1.f9, .int .u64 t1809.1.f10, .int .i64 t1809.1.f11, .bool t1809.1.f12, .int .i64 t1809.1.f13], .int .i64 t1809.2]) (by kernel_rfl) (by kernel_rfl) ?_; clear ha a; intro a ha
          refine stepp ha 84 (.agg #[.int .i64 t1809.1.f0, .int .i64 t1809.1.f1, .string t1809.1.f2, .int .i64 t1809.1.f3, .int .i64 t1809.1.f4, .string t1809.1.f5, .bool t1809.1.f6, .slice A1811 t1809.1.f7.length c1812, .int .u64 t1809.1.f8, .int .u64 t1809.1.f9, .int .u64 t1809.1.f10, .int .i64 t1809.1.f11, .bool t1809.1.f12, .int .i64 t1809.1.f13]) (by kernel_rfl) (by kernel_rfl) ?_; clear ha a; intro a ha
          refine stepp ha 85 (.int .i64 t1809.2) (by kernel_rfl) (by kernel_rfl) ?_; clear ha a; intro a ha
          refine stepnew ha HW 17 #[.int .i64 0, .int .i64 0, .string (⟨#[]⟩ : ByteArray), .int .i64 0, .int .i64 0, .string (⟨#[]⟩ : ByteArray), .bool false, .slice none 0 0, .int .u64 0, .int .u64 0, .int .u64 0, .int .i64 0, .bool false, .int .i64 0] 26 (by kernel_rfl) (by kernel_rfl) ?_; clear ha HW a; intro b1816 a W1817 HW ha
          refine stepst ha HW 0 (b := b1816) (C := #[.int .i64 0, .int .i64 0, .string (⟨#[]⟩ : ByteArray), .int .i64 0, .int .i64 0, .string (⟨#[]⟩ : ByteArray), .bool false, .slice none 0 0, .int .u64 0, .int .u64 0, .int .u64 0, .int .i64 0, .bool false, .int .i64 0]) (T := 26) (by kernel_rfl) 26 0 (.tmp 17) (.tmp 84) (.agg #[.int .i64 t1809.1.f0, .int .i64 t1809.1.f1, .string t1809.1.f2, .int .i64 t1809.1.f3, .int .i64 t1809.1.f4, .string t1809.1.f5, .bool t1809.1.f6, .slice A1811 t1809.1.f7.length c1812, .int .u64 t1809.1.f8, .int .u64 t1809.1.f9, .int .u64 t1809.1.f10, .int .i64 t1809.1.f11, .bool t1809.1.f12, .int .i64 t1809.1.f13]) #[.int .i64 t1809.1.f0, .int .i64 t1809.1.f1, .string t1809.1.f2, .int .i64 t1809.1.f3, .int .i64 t1809.1.f4, .string t1809.1.f5, .bool t1809.1.f6, .slice A1811 t1809.1.f7.length c1812, .int .u64 t1809.1.f8, .int .u64 t1809.1.f9, .int .u64 t1809.1.f10, .int .i64 t1809.1.f11, .bool t1809.1.f12, .int .i64 t1809.1.f13] rfl (by kernel_rfl) (by kernel_rfl) (by kernel_rfl) (by kernel_rfl) (by kernel_rfl) (by kernel_rfl) (by kernel_rfl) ?_; clear ha HW a; intro a W1818 HW ha
          refine stepp ha 18 (.int .i64 t1809.2) (by kernel_rfl) (by kernel_rfl) ?_; clear ha a; intro a ha
          refine endl ?_
          refine thenN (hK1808 _ _ ?_); clear hK1808
          refine wp_seq_k (fun K1819 hK1820 => ?_)
          refine wp_region_lit ?_
          refine stepp ha 86 (.int .i64 t1803.2.2) (by kernel_rfl) (by kernel_rfl) ?_; clear ha a; intro a ha
          refine stepp ha 87 (.bool (t1803.2.2 == 0)) (by kernel_rfl) (by kernel_rfl) ?_; clear ha a; intro a ha
          refine stepp ha 88 (.bool (t1803.2.2 == 0)) (by kernel_rfl) (by kernel_rfl) ?_; clear ha a; intro a ha
          by_cases hp1821 : t1803.2.2 = 0
          · skip
            replace h := ite_pos' h hp1821
            replace ha := ha.bool 88 (by kernel_rfl) (ieq_t hp1821)
            refine stepp ha 89 (.int .i64 t1809.2) (by kernel_rfl) (by kernel_rfl) ?_; clear ha a; intro a ha
            refine stepp ha 90 (.bool (t1809.2 == 0)) (by kernel_rfl) (by kernel_rfl) ?_; clear ha a; intro a ha
            refine stepp ha 91 (.bool (t1809.2 == 0)) (by kernel_rfl) (by kernel_rfl) ?_; clear ha a; intro a ha
            refine stepp ha 92 (.bool (t1809.2 == 0)) (by kernel_rfl) (by kernel_rfl) ?_; clear ha a; intro a ha
            by_cases hp1822 : t1809.2 = 0
            · skip
              replace h := ite_pos' h hp1822
              replace ha := ha.bool 92 (by kernel_rfl) (ieq_t hp1822)
              refine stepp ha 93 (.int .i64 t1803.1) (by kernel_rfl) (by kernel_rfl) ?_; clear ha a; intro a ha
              refine stepp ha 94 (.pointer (some ⟨b1716, 0, none⟩)) (by kernel_rfl) (by kernel_rfl) ?_; clear ha a; intro a ha
              refine stepl ha 95 (HW.ca (i := 2) (b := b1716) (C := #[.int .i64 a1.f0, .int .i64 a1.f1]) (T := 22) (fr := (0, 0)) (by kernel_rfl)) 3 0 (.tmp 94) (.int .i64 a1.f0) rfl (by kernel_rfl) (by kernel_rfl) (by kernel_rfl) ?_; clear ha a; intro a ha
              refine stepp ha 96 (.bool (t1803.1 == a1.f0)) (by kernel_rfl) (by kernel_rfl) ?_; clear ha a; intro a ha
              refine stepp ha 97 (.bool (t1803.1 == a1.f0)) (by kernel_rfl) (by kernel_rfl) ?_; clear ha a; intro a ha
              refine stepp ha 98 (.bool (t1803.1 == a1.f0)) (by kernel_rfl) (by kernel_rfl) ?_; clear ha a; intro a ha
              by_cases hp1823 : t1803.1 = a1.f0
              · skip
                replace h := ite_pos' h hp1823
                replace ha := ha.bool 98 (by kernel_rfl) (ieq_t hp1823)
                refine stepl ha 99 (HW.ca (i := 1) (b := b1781) (C := #[.int .i64 t1774.1.f0, .int .i64 t1774.1.f1, .string t1774.1.f2, .int .i64 t1774.1.f3, .int .i64 t1774.1.f4, .string t1774.1.f5, .bool t1774.1.f6, .slice A1776 t1774.1.f7.length c1777, .int .u64 t1774.1.f8, .int .u64 t1774.1.f9, .int .u64 t1774.1.f10, .int .i64 t1774.1.f11, .bool t1774.1.f12, .int .i64 t1774.1.f13]) (T := 26) (fr := (0, 0)) (by kernel_rfl)) 26 0 (.tmp 12) (.agg #[.int .i64 t1774.1.f0, .int .i64 t1774.1.f1, .string t1774.1.f2, .int .i64 t1774.1.f3, .int .i64 t1774.1.f4, .string t1774.1.f5, .bool t1774.1.f6, .slice A1776 t1774.1.f7.length c1777, .int .u64 t1774.1.f8, .int .u64 t1774.1.f9, .int .u64 t1774.1.f10, .int .i64 t1774.1.f11, .bool t1774.1.f12, .int .i64 t1774.1.f13]) rfl (by kernel_rfl) (by kernel_rfl) (by kernel_rfl) ?_; clear ha a; intro a ha
                refine stepl ha 100 (HW.ca (i := 0) (b := b1816) (C := #[.int .i64 t1809.1.f0, .int .i64 t1809.1.f1, .string t1809.1.f2, .int .i64 t1809.1.f3, .int .i64 t1809.1.f4, .string t1809.1.f5, .bool t1809.1.f6, .slice A1811 t1809.1.f7.length c1812, .int .u64 t1809.1.f8, .int .u64 t1809.1.f9, .int .u64 t1809.1.f10, .int .i64 t1809.1.f11, .bool t1809.1.f12, .int .i64 t1809.1.f13]) (T := 26) (fr := (0, 0)) (by kernel_rfl)) 26 0 (.tmp 17) (.agg #[.int .i64 t1809.1.f0, .int .i64 t1809.1.f1, .string t1809.1.f2, .int .i64 t1809.1.f3, .int .i64 t1809.1.f4, .string t1809.1.f5, .bool t1809.1.f6, .slice A1811 t1809.1.f7.length c1812, .int .u64 t1809.1.f8, .int .u64 t1809.1.f9, .int .u64 t1809.1.f10, .int .i64 t1809.1.f11, .bool t1809.1.f12, .int .i64 t1809.1.f13]) rfl (by kernel_rfl) (by kernel_rfl) (by kernel_rfl) ?_; clear ha a; intro a ha
                obtain ⟨t1824, ht1825, h_⟩ := bind_some' h; clear h; have h := h_; clear h_
                refine stepc ha 101 (by kernel_rfl) (by kernel_rfl) (headgatekeep_Cmds.calls K (⟨t1774.1.f0, t1774.1.f1, t1774.1.f2, t1774.1.f3, t1774.1.f4, t1774.1.f5, t1774.1.f6, t1774.1.f7, t1774.1.f8, t1774.1.f9, t1774.1.f10, t1774.1.f11, t1774.1.f12, t1774.1.f13⟩ : T_api_Cmd) (⟨t1809.1.f0, t1809.1.f1, t1809.1.f2, t1809.1.f3, t1809.1.f4, t1809.1.f5, t1809.1.f6, t1809.1.f7, t1809.1.f8, t1809.1.f9, t1809.1.f10, t1809.1.f11, t1809.1.f12, t1809.1.f13⟩ : T_api_Cmd) A1776 c1777 A1811 c1812 t1824 _ (HW.rdo (i := 1) (q := ⟨61, 2, .slice A1776 t1774.1.f7.length c1777, t1774.1.f7.length, encs T_api_Range.enc t1774.1.f7⟩) (by kernel_rfl)) (HW.rdo (i := 0) (q := ⟨61, 2, .slice A1811 t1809.1.f7.length c1812, t1809.1.f7.length, encs T_api_Range.enc t1809.1.f7⟩) (by kernel_rfl)) ht1825) ?_; clear ha a; rintro e W1826 ⟨rfl, HX1827⟩
                refine ⟨_, rfl, ?_⟩; intro a ha; replace HW := HW.callw HX1827; clear HX1827
                refine stepp ha 102 (.bool t1824) (by kernel_rfl) (by kernel_rfl) ?_; clear ha a; intro a ha
                refine stepp ha 103 (.bool t1824) (by kernel_rfl) (by kernel_rfl) ?_; clear ha a; intro a ha
                by_cases hp1828 : t1824 = true
                · skip
                  replace h := ite_pos' h hp1828
                  replace ha := ha.bool 103 (by kernel_rfl) (hp1828)
                  obtain ⟨t1829, ht1830, h_⟩ := bind_some' h; clear h; have h := h_; clear h_
                  refine stepc ha 104 (by kernel_rfl) (by kernel_rfl) (headgatelaw18_wakes.calls K t1829 _ ht1830) ?_; clear ha a; rintro e W1831 ⟨rfl, HX1832⟩
                  refine ⟨_, rfl, ?_⟩; intro a ha; replace HW := HW.callw HX1832; clear HX1832
                  refine stepp ha 105 (.bool t1829) (by kernel_rfl) (by kernel_rfl) ?_; clear ha a; intro a ha
                  refine stepp ha 6 (.bool t1829) (by kernel_rfl) (by kernel_rfl) ?_; clear ha a; intro a ha
                  refine endl ?_
                  refine thenN (hK1820 _ _ ?_); clear hK1820
                  refine wp_ret ?_
                  obtain rfl := Option.some.inj h
                  exact finv ha _ _ rfl (.tmp (v := .bool t1829) (by kernel_rfl) .nil) (.bool t1829) rfl ⟨rfl, HW.pick [] [] (by decide) (by decide) rfl (by kernel_rfl)⟩
                · skip
                  replace h := ite_neg' h hp1828
                  replace ha := ha.bool 103 (by kernel_rfl) (bool_f hp1828)
                  refine stepo ha 104 (by kernel_rfl) ?_; clear ha a; intro a ha
                  refine stepp ha 105 (.bool false) (by kernel_rfl) (by kernel_rfl) ?_; clear ha a; intro a ha
                  refine stepp ha 6 (.bool false) (by kernel_rfl) (by kernel_rfl) ?_; clear ha a; intro a ha
                  refine endl ?_
                  refine thenN (hK1820 _ _ ?_); clear hK1820
                  refine wp_ret ?_
                  obtain rfl := Option.some.inj h
                  exact finv ha _ _ rfl (.tmp (v := .bool false) (by kernel_rfl) .nil) (.bool false) rfl ⟨rfl, HW.pick [] [] (by decide) (by decide) rfl (by kernel_rfl)⟩
              · skip
                replace h := ite_neg' h hp1823
                replace ha := ha.bool 98 (by kernel_rfl) (ieq_f hp1823)
                refine stepo ha 99 (by kernel_rfl) ?_; clear ha a; intro a ha
                refine stepo ha 100 (by kernel_rfl) ?_; clear ha a; intro a ha
                refine stepo ha 101 (by kernel_rfl) ?_; clear ha a; intro a ha
                refine stepp ha 102 (.bool false) (by kernel_rfl) (by kernel_rfl) ?_; clear ha a; intro a ha
                refine stepp ha 103 (.bool false) (by kernel_rfl) (by kernel_rfl) ?_; clear ha a; intro a ha
                refine stepo ha 104 (by kernel_rfl) ?_; clear ha a; intro a ha
                refine stepp ha 105 (.bool false) (by kernel_rfl) (by kernel_rfl) ?_; clear ha a; intro a ha
                refine stepp ha 6 (.bool false) (by kernel_rfl) (by kernel_rfl) ?_; clear ha a; intro a ha
                refine endl ?_
                refine thenN (hK1820 _ _ ?_); clear hK1820
                refine wp_ret ?_
                obtain rfl := Option.some.inj h
                exact finv ha _ _ rfl (.tmp (v := .bool false) (by kernel_rfl) .nil) (.bool false) rfl ⟨rfl, HW.pick [] [] (by decide) (by decide) rfl (by kernel_rfl)⟩
            · skip
              replace h := ite_neg' h hp1822
              replace ha := ha.bool 92 (by kernel_rfl) (ieq_f hp1822)
              refine stepo ha 93 (by kernel_rfl) ?_; clear ha a; intro a ha
              refine stepo ha 94 (by kernel_rfl) ?_; clear ha a; intro a ha
              refine stepo ha 95 (by kernel_rfl) ?_; clear ha a; intro a ha
              refine stepo ha 96 (by kernel_rfl) ?_; clear ha a; intro a ha
              refine stepp ha 97 (.bool false) (by kernel_rfl) (by kernel_rfl) ?_; clear ha a; intro a ha
              refine stepp ha 98 (.bool false) (by kernel_rfl) (by kernel_rfl) ?_; clear ha a; intro a ha
              refine stepo ha 99 (by kernel_rfl) ?_; clear ha a; intro a ha
              refine stepo ha 100 (by kernel_rfl) ?_; clear ha a; intro a ha
              refine stepo ha 101 (by kernel_rfl) ?_; clear ha a; intro a ha
              refine stepp ha 102 (.bool false) (by kernel_rfl) (by kernel_rfl) ?_; clear ha a; intro a ha
              refine stepp ha 103 (.bool false) (by kernel_rfl) (by kernel_rfl) ?_; clear ha a; intro a ha
              refine stepo ha 104 (by kernel_rfl) ?_; clear ha a; intro a ha
              refine stepp ha 105 (.bool false) (by kernel_rfl) (by kernel_rfl) ?_; clear ha a; intro a ha
              refine stepp ha 6 (.bool false) (by kernel_rfl) (by kernel_rfl) ?_; clear ha a; intro a ha
              refine endl ?_
              refine thenN (hK1820 _ _ ?_); clear hK1820
              refine wp_ret ?_
              obtain rfl := Option.some.inj h
              exact finv ha _ _ rfl (.tmp (v := .bool false) (by kernel_rfl) .nil) (.bool false) rfl ⟨rfl, HW.pick [] [] (by decide) (by decide) rfl (by kernel_rfl)⟩
          · skip
            replace h := ite_neg' h hp1821
            replace ha := ha.bool 88 (by kernel_rfl) (ieq_f hp1821)
            refine stepo ha 89 (by kernel_rfl) ?_; clear ha a; intro a ha
            refine stepo ha 90 (by kernel_rfl) ?_; clear ha a; intro a ha
            refine stepp ha 91 (.bool false) (by kernel_rfl) (by kernel_rfl) ?_; clear ha a; intro a ha
            refine stepp ha 92 (.bool false) (by kernel_rfl) (by kernel_rfl) ?_; clear ha a; intro a ha
            refine stepo ha 93 (by kernel_rfl) ?_; clear ha a; intro a ha
            refine stepo ha 94 (by kernel_rfl) ?_; clear ha a; intro a ha
            refine stepo ha 95 (by kernel_rfl) ?_; clear ha a; intro a ha
            refine stepo ha 96 (by kernel_rfl) ?_; clear ha a; intro a ha
            refine stepp ha 97 (.bool false) (by kernel_rfl) (by kernel_rfl) ?_; clear ha a; intro a ha
            refine stepp ha 98 (.bool false) (by kernel_rfl) (by kernel_rfl) ?_; clear ha a; intro a ha
            refine stepo ha 99 (by kernel_rfl) ?_; clear ha a; intro a ha
            refine stepo ha 100 (by kernel_rfl) ?_; clear ha a; intro a ha
            refine stepo ha 101 (by kernel_rfl) ?_; clear ha a; intro a ha
            refine stepp ha 102 (.bool false) (by kernel_rfl) (by kernel_rfl) ?_; clear ha a; intro a ha
            refine stepp ha 103 (.bool false) (by kernel_rfl) (by kernel_rfl) ?_; clear ha a; intro a ha
            refine stepo ha 104 (by kernel_rfl) ?_; clear ha a; intro a ha
            refine stepp ha 105 (.bool false) (by kernel_rfl) (by kernel_rfl) ?_; clear ha a; intro a ha
            refine stepp ha 6 (.bool false) (by kernel_rfl) (by kernel_rfl) ?_; clear ha a; intro a ha
            refine endl ?_
            refine thenN (hK1820 _ _ ?_); clear hK1820
            refine wp_ret ?_
            obtain rfl := Option.some.inj h
            exact finv ha _ _ rfl (.tmp (v := .bool false) (by kernel_rfl) .nil) (.bool false) rfl ⟨rfl, HW.pick [] [] (by decide) (by decide) rfl (by kernel_rfl)⟩
        · skip
          replace h := ite_neg' h hp1788
          refine condT ha (by kernel_rfl) (by kernel_rfl) (t := (t1774.2 != 0)) (ineq_t hp1788) ?_
          refine wp_seq_k (fun K1789 hK1790 => ?_)
          refine wp_region_lit ?_
          refine stepp ha 62 (.int .i64 t1774.2) (by kernel_rfl) (by kernel_rfl) ?_; clear ha a; intro a ha
          refine stepp ha 63 (.bool (t1774.2 == 180)) (by kernel_rfl) (by kernel_rfl) ?_; clear ha a; intro a ha
          refine stepp ha 64 (.bool (t1774.2 == 180)) (by kernel_rfl) (by kernel_rfl) ?_; clear ha a; intro a ha
          by_cases hp1791 : t1774.2 = 180
          · skip
            replace h := ite_pos' h hp1791
            replace ha := ha.bool 64 (by kernel_rfl) (ieq_t hp1791)
            refine stepl ha 65 (HW.ca (i := 0) (b := b1781) (C := #[.int .i64 t1774.1.f0, .int .i64 t1774.1.f1, .string t1774.1.f2, .int .i64 t1774.1.f3, .int .i64 t1774.1.f4, .string t1774.1.f5, .bool t1774.1.f6, .slice A1776 t1774.1.f7.length c1777, .int .u64 t1774.1.f8, .int .u64 t1774.1.f9, .int .u64 t1774.1.f10, .int .i64 t1774.1.f11, .bool t1774.1.f12, .int .i64 t1774.1.f13]) (T := 26) (fr := (0, 0)) (by kernel_rfl)) 26 0 (.tmp 12) (.agg #[.int .i64 t1774.1.f0, .int .i64 t1774.1.f1, .string t1774.1.f2, .int .i64 t1774.1.f3, .int .i64 t1774.1.f4, .string t1774.1.f5, .bool t1774.1.f6, .slice A1776 t1774.1.f7.length c1777, .int .u64 t1774.1.f8, .int .u64 t1774.1.f9, .int .u64 t1774.1.f10, .int .i64 t1774.1.f11, .bool t1774.1.f12, .int .i64 t1774.1.f13]) rfl (by kernel_rfl) (by kernel_rfl) (by kernel_rfl) ?_; clear ha a; intro a ha
            refine stepp ha 66 (.agg #[.int .i64 0, .int .i64 0, .string (⟨#[]⟩ : ByteArray), .int .i64 0, .int .i64 0, .string (⟨#[]⟩ : ByteArray), .bool false, .slice none 0 0, .int .u64 0, .int .u64 0, .int .u64 0, .int .i64 0, .bool false, .int .i64 0]) (by kernel_rfl) (by kernel_rfl) ?_; clear ha a; intro a ha
            obtain ⟨t1792, ht1793, h_⟩ := bind_some' h; clear h; have h := h_; clear h_
            refine stepc ha 67 (by kernel_rfl) (by kernel_rfl) (headgatekeep_Cmds.calls K (⟨t1774.1.f0, t1774.1.f1, t1774.1.f2, t1774.1.f3, t1774.1.f4, t1774.1.f5, t1774.1.f6, t1774.1.f7, t1774.1.f8, t1774.1.f9, t1774.1.f10, t1774.1.f11, t1774.1.f12, t1774.1.f13⟩ : T_api_Cmd) (⟨0, 0, (⟨#[]⟩ : ByteArray), 0, 0, (⟨#[]⟩ : ByteArray), false, ([] : List T_api_Range), 0, 0, 0, 0, false, 0⟩ : T_api_Cmd) A1776 c1777 none 0 t1792 _ (HW.rdo (i := 0) (q := ⟨61, 2, .slice A1776 t1774.1.f7.length c1777, t1774.1.f7.length, encs T_api_Range.enc t1774.1.f7⟩) (by kernel_rfl)) (Rd.nil _ _) ht1793) ?_; clear ha a; rintro e W1794 ⟨rfl, HX1795⟩
            refine ⟨_, rfl, ?_⟩; intro a ha; replace HW := HW.callw HX1795; clear HX1795
            refine stepp ha 68 (.bool t1792) (by kernel_rfl) (by kernel_rfl) ?_; clear ha a; intro a ha
            refine stepp ha 69 (.bool t1792) (by kernel_rfl) (by kernel_rfl) ?_; clear ha a; intro a ha
            by_cases hp1796 : t1792 = true
            · skip
              replace h := ite_pos' h hp1796
              replace ha := ha.bool 69 (by kernel_rfl) (hp1796)
              obtain ⟨t1797, ht1798, h_⟩ := bind_some' h; clear h; have h := h_; clear h_
              refine stepc ha 70 (by kernel_rfl) (by kernel_rfl) (headgatelaw18_wakes.calls K t1797 _ ht1798) ?_; clear ha a; rintro e W1799 ⟨rfl, HX1800⟩
              refine ⟨_, rfl, ?_⟩; intro a ha; replace HW := HW.callw HX1800; clear HX1800
              refine stepp ha 71 (.bool t1797) (by kernel_rfl) (by kernel_rfl) ?_; clear ha a; intro a ha
              refine stepp ha 6 (.bool t1797) (by kernel_rfl) (by kernel_rfl) ?_; clear ha a; intro a ha
              refine endl ?_
              refine thenN (hK1790 _ _ ?_); clear hK1790
              refine wp_ret ?_
              refine thenR ?_
              obtain rfl := Option.some.inj h
              exact finv ha _ _ rfl (.tmp (v := .bool t1797) (by kernel_rfl) .nil) (.bool t1797) rfl ⟨rfl, HW.pick [] [] (by decide) (by decide) rfl (by kernel_rfl)⟩
            · skip
              replace h := ite_neg' h hp1796
              replace ha := ha.bool 69 (by kernel_rfl) (bool_f hp1796)
              refine stepo ha 70 (by kernel_rfl) ?_; clear ha a; intro a ha
              refine stepp ha 71 (.bool false) (by kernel_rfl) (by kernel_rfl) ?_; clear ha a; intro a ha
              refine stepp ha 6 (.bool false) (by kernel_rfl) (by kernel_rfl) ?_; clear ha a; intro a ha
              refine endl ?_
              refine thenN (hK1790 _ _ ?_); clear hK1790
              refine wp_ret ?_
              refine thenR ?_
              obtain rfl := Option.some.inj h
              exact finv ha _ _ rfl (.tmp (v := .bool false) (by kernel_rfl) .nil) (.bool false) rfl ⟨rfl, HW.pick [] [] (by decide) (by decide) rfl (by kernel_rfl)⟩
          · skip
            replace h := ite_neg' h hp1791
            replace ha := ha.bool 64 (by kernel_rfl) (ieq_f hp1791)
            refine stepo ha 65 (by kernel_rfl) ?_; clear ha a; intro a ha
            refine stepo ha 66 (by kernel_rfl) ?_; clear ha a; intro a ha
            refine stepo ha 67 (by kernel_rfl) ?_; clear ha a; intro a ha
            refine stepp ha 68 (.bool false) (by kernel_rfl) (by kernel_rfl) ?_; clear ha a; intro a ha
            refine stepp ha 69 (.bool false) (by kernel_rfl) (by kernel_rfl) ?_; clear ha a; intro a ha
            refine stepo ha 70 (by kernel_rfl) ?_; clear ha a; intro a ha
            refine stepp ha 71 (.bool false) (by kernel_rfl) (by kernel_rfl) ?_; clear ha a; intro a ha
            refine stepp ha 6 (.bool false) (by kernel_rfl) (by kernel_rfl) ?_; clear ha a; intro a ha
            refine endl ?_
            refine thenN (hK1790 _ _ ?_); clear hK1790
            refine wp_ret ?_
            refine thenR ?_
            obtain rfl := Option.some.inj h
            exact finv ha _ _ rfl (.tmp (v := .bool false) (by kernel_rfl) .nil) (.bool false) rfl ⟨rfl, HW.pick [] [] (by decide) (by decide) rfl (by kernel_rfl)⟩
end Go.Proofs.Ytceagilmillgfaa.F
