/- headgate/headgatelaw18.ProutChanges: a plain function, and that the call comes to what it says. No condition. -/
import Derived.Test.YtceagilmillgfaaFT
import Derived.Test.YtceagilmillgfaaF5
import Derived.Test.YtceagilmillgfaaF6
import Derived.Test.YtceagilmillgfaaF7
import Derived.Test.YtceagilmillgfaaF8
import Derived.Test.YtceagilmillgfaaF9
import Derived.Test.YtceagilmillgfaaF10
import Derived.Test.YtceagilmillgfaaF11
namespace Go.Proofs.Ytceagilmillgfaa.F
open Go Go.RowKit Go.Proofs.Ytceagilmillgfaa.X
set_option linter.unusedVariables false
set_option linter.unusedSimpArgs false
/-! ### headgate/headgatelaw18.ProutChanges: function 3 -/
def headgatelaw18_ProutChanges.j0 (K : Nat) (a0 : T_arr2_3) (a1 : ByteArray) (a2 : T_api_Cmd) (x1649 : Bool) : Option Bool :=
  if x1649 = true then ((headgatelaw18_wakes.f K).bind fun t1654 => (some t1654)) else ((prout_Change.f K a0.f0 a0.f1 a1).bind fun t1660 => ((headgateref18_Change.f K a0.f0 a0.f1 a1).bind fun t1672 => ((prout_List.f K a2).bind fun t1684 => ((headgateref18_List.f K a2).bind fun t1690 => ((headgatekeep_Cmds.f K (⟨t1660.1.f0, t1660.1.f1, t1660.1.f2, t1660.1.f3, t1660.1.f4, t1660.1.f5, t1660.1.f6, t1660.1.f7, t1660.1.f8, t1660.1.f9, t1660.1.f10, t1660.1.f11, t1660.1.f12, t1660.1.f13⟩ : T_api_Cmd) (⟨t1672.1.f0, t1672.1.f1, t1672.1.f2, t1672.1.f3, t1672.1.f4, t1672.1.f5, t1672.1.f6, t1672.1.f7, t1672.1.f8, t1672.1.f9, t1672.1.f10, t1672.1.f11, t1672.1.f12, t1672.1.f13⟩ : T_api_Cmd)).bind fun t1699 => (if t1699 = true then (if t1660.2 = t1672.2 then (if t1684.1 = t1690.1.f0 then (if t1684.2.1 = t1690.1.f1 then (if t1684.2.2 = t1690.2 then ((headgatelaw18_wakes.f K).bind fun t1708 => (some t1708)) else (some false)) else (some false)) else (some false)) else (some false)) else (some false)))))))
def headgatelaw18_ProutChanges.f (K : Nat) (a0 : T_arr2_3) (a1 : ByteArray) (a2 : T_api_Cmd) : Option Bool :=
  if (a1.size : Int) > 5000 then (headgatelaw18_ProutChanges.j0 K a0 a1 a2 true) else ((headgatelaw18_large.f a2).bind fun t1645 => (headgatelaw18_ProutChanges.j0 K a0 a1 a2 t1645))
set_option maxRecDepth 100000 in
set_option maxHeartbeats 4000000 in
theorem headgatelaw18_ProutChanges.calls (K : Nat) (a0 : T_arr2_3) (a1 : ByteArray) (a2 : T_api_Cmd) (A2_0 : Option Addr) (c2_0 : Nat) (r : Bool) (w : World) (hr2_0 : Rd 2 w (.slice A2_0 a2.f7.length c2_0) a2.f7.length (encs T_api_Range.enc a2.f7)) (h : headgatelaw18_ProutChanges.f K a0 a1 a2 = some r) :
    Calls Try.prog 3 #[.agg #[.int .i64 a0.f0, .int .i64 a0.f1], .string a1, .agg #[.int .i64 a2.f0, .int .i64 a2.f1, .string a2.f2, .int .i64 a2.f3, .int .i64 a2.f4, .string a2.f5, .bool a2.f6, .slice A2_0 a2.f7.length c2_0, .int .u64 a2.f8, .int .u64 a2.f9, .int .u64 a2.f10, .int .i64 a2.f11, .bool a2.f12, .int .i64 a2.f13]] w (fun e W' => e = .returned (.bool r) ∧ Wd w W' [] [] ) := by
  refine sxstart (n := 81) (l := [(0, .agg #[.int .i64 a0.f0, .int .i64 a0.f1]), (1, .string a1), (2, .agg #[.int .i64 a2.f0, .int .i64 a2.f1, .string a2.f2, .int .i64 a2.f3, .int .i64 a2.f4, .string a2.f5, .bool a2.f6, .slice A2_0 a2.f7.length c2_0, .int .u64 a2.f8, .int .u64 a2.f9, .int .u64 a2.f10, .int .i64 a2.f11, .bool a2.f12, .int .i64 a2.f13])]) Try.func3 rfl rfl (Nat.le_of_ble_eq_true (by kernel_rfl)) (subsA_cons rfl (subsA_cons rfl (subsA_cons rfl (subsA_nil _)))) ?_
  intro a ha
  have HW := Wd.refl w
  unfold headgatelaw18_ProutChanges.f at h
  refine wp_seq_k (fun K1634 hK1635 => ?_)
  refine wp_region_lit ?_
  refine stepnew ha HW 3 #[.int .i64 a0.f0, .int .i64 a0.f1] 22 (by kernel_rfl) (by kernel_rfl) ?_; clear ha HW a; intro b1636 a W1637 HW ha
  refine stepnew ha HW 5 #[.int .i64 a2.f0, .int .i64 a2.f1, .string a2.f2, .int .i64 a2.f3, .int .i64 a2.f4, .string a2.f5, .bool a2.f6, .slice A2_0 a2.f7.length c2_0, .int .u64 a2.f8, .int .u64 a2.f9, .int .u64 a2.f10, .int .i64 a2.f11, .bool a2.f12, .int .i64 a2.f13] 26 (by kernel_rfl) (by kernel_rfl) ?_; clear ha HW a; intro b1638 a W1639 HW ha
  refine stepp ha 6 (.bool false) (by kernel_rfl) (by kernel_rfl) ?_; clear ha a; intro a ha
  refine endl ?_
  refine thenN (hK1635 _ _ ?_); clear hK1635
  refine wp_seq_k (fun K1640 hK1641 => ?_)
  refine wp_seq_k (fun K1642 hK1643 => ?_)
  refine cutn (fun a W1650 => ∃ (x1649 : Bool), headgatelaw18_ProutChanges.j0 K a0 a1 a2 x1649 = some r ∧ Has 81 [(1, .string a1), (3, .pointer (some ⟨b1636, 0, none⟩)), (5, .pointer (some ⟨b1638, 0, none⟩)), (22, .bool x1649)] a ∧ Wd w W1650 [(b1636, .cells #[.int .i64 a0.f0, .int .i64 a0.f1] 22 (0, 0)), (b1638, .cells #[.int .i64 a2.f0, .int .i64 a2.f1, .string a2.f2, .int .i64 a2.f3, .int .i64 a2.f4, .string a2.f5, .bool a2.f6, .slice A2_0 a2.f7.length c2_0, .int .u64 a2.f8, .int .u64 a2.f9, .int .u64 a2.f10, .int .i64 a2.f11, .bool a2.f12, .int .i64 a2.f13] 26 (0, 0))] []) ?_ ?_
  · skip
    refine wp_region_lit ?_
    refine stepp ha 16 (.string a1) (by kernel_rfl) (by kernel_rfl) ?_; clear ha a; intro a ha
    refine stepp ha 17 (.int .i64 (a1.size : Int)) (by kernel_rfl) (by kernel_rfl) ?_; clear ha a; intro a ha
    refine stepp ha 18 (.bool (decide ((a1.size : Int) > 5000))) (by kernel_rfl) (by kernel_rfl) ?_; clear ha a; intro a ha
    refine stepp ha 19 (.bool (decide ((a1.size : Int) > 5000))) (by kernel_rfl) (by kernel_rfl) ?_; clear ha a; intro a ha
    by_cases hp1644 : (a1.size : Int) > 5000
    · skip
      replace h := ite_pos' h hp1644
      replace ha := ha.bool 19 (by kernel_rfl) (decide_eq_true hp1644)
      refine stepo ha 20 (by kernel_rfl) ?_; clear ha a; intro a ha
      refine stepo ha 21 (by kernel_rfl) ?_; clear ha a; intro a ha
      refine stepp ha 22 (.bool true) (by kernel_rfl) (by kernel_rfl) ?_; clear ha a; intro a ha
      refine endl ?_
      exact thenN ⟨true, h, ha.sub (subs_cons (by kernel_rfl) (subs_cons (by kernel_rfl) (subs_cons (by kernel_rfl) (subs_cons (by kernel_rfl) (subs_nil _))))), HW.pick [1, 0] [] (by decide) (by decide) (by kernel_rfl) (by kernel_rfl)⟩
    · skip
      replace h := ite_neg' h hp1644
      replace ha := ha.bool 19 (by kernel_rfl) (decide_eq_false hp1644)
      refine stepl ha 20 (HW.ca (i := 0) (b := b1638) (C := #[.int .i64 a2.f0, .int .i64 a2.f1, .string a2.f2, .int .i64 a2.f3, .int .i64 a2.f4, .string a2.f5, .bool a2.f6, .slice A2_0 a2.f7.length c2_0, .int .u64 a2.f8, .int .u64 a2.f9, .int .u64 a2.f10, .int .i64 a2.f11, .bool a2.f12, .int .i64 a2.f13]) (T := 26) (fr := (0, 0)) (by kernel_rfl)) 26 0 (.tmp 5) (.agg #[.int .i64 a2.f0, .int .i64 a2.f1, .string a2.f2, .int .i64 a2.f3, .int .i64 a2.f4, .string a2.f5, .bool a2.f6, .slice A2_0 a2.f7.length c2_0, .int .u64 a2.f8, .int .u64 a2.f9, .int .u64 a2.f10, .int .i64 a2.f11, .bool a2.f12, .int .i64 a2.f13]) rfl (by kernel_rfl) (by kernel_rfl) (by kernel_rfl) ?_; clear ha a; intro a ha
      obtain ⟨t1645, ht1646, h_⟩ := bind_some' h; clear h; have h := h_; clear h_
      refine stepc ha 21 (by kernel_rfl) (by kernel_rfl) (headgatelaw18_large.calls a2 A2_0 c2_0 t1645 _ ((HW.rd0 hr2_0)) ht1646) ?_; clear ha a; rintro e W1647 ⟨rfl, HX1648⟩
      refine ⟨_, rfl, ?_⟩; intro a ha; replace HW := HW.callw HX1648; clear HX1648
      refine stepp ha 22 (.bool t1645) (by kernel_rfl) (by kernel_rfl) ?_; clear ha a; intro a ha
      refine endl ?_
      exact thenN ⟨t1645, h, ha.sub (subs_cons (by kernel_rfl) (subs_cons (by kernel_rfl) (subs_cons (by kernel_rfl) (subs_cons (by kernel_rfl) (subs_nil _))))), HW.pick [1, 0] [] (by decide) (by decide) (by kernel_rfl) (by kernel_rfl)⟩
  · skip
    intro a W1650 hJ
    obtain ⟨x1649, h, ha, HW⟩ := hJ
    replace h : headgatelaw18_ProutChanges.j0 K a0 a1 a2 x1649 = some r := h
    unfold headgatelaw18_ProutChanges.j0 at h
    refine hK1643 _ _ ?_; clear hK1643
    by_cases hp1651 : x1649 = true
    · skip
      replace h := ite_pos' h hp1651
      refine condT ha (by kernel_rfl) (by kernel_rfl) (t := x1649) (hp1651) ?_
      refine wp_seq_k (fun K1652 hK1653 => ?_)
      refine wp_region_lit ?_
      obtain ⟨t1654, ht1655, h_⟩ := bind_some' h; clear h; have h := h_; clear h_
      refine stepc ha 23 (by kernel_rfl) (by kernel_rfl) (headgatelaw18_wakes.calls K t1654 _ ht1655) ?_; clear ha a; rintro e W1656 ⟨rfl, HX1657⟩
      refine ⟨_, rfl, ?_⟩; intro a ha; replace HW := HW.callw HX1657; clear HX1657
      refine stepp ha 6 (.bool t1654) (by kernel_rfl) (by kernel_rfl) ?_; clear ha a; intro a ha
      refine endl ?_
      refine thenN (hK1653 _ _ ?_); clear hK1653
      refine wp_ret ?_
      refine thenR ?_
      obtain rfl := Option.some.inj h
      exact finv ha _ _ rfl (.tmp (v := .bool t1654) (by kernel_rfl) .nil) (.bool t1654) rfl ⟨rfl, HW.pick [] [] (by decide) (by decide) rfl (by kernel_rfl)⟩
    · skip
      replace h := ite_neg' h hp1651
      refine condF ha (by kernel_rfl) (by kernel_rfl) (t := x1649) (bool_f hp1651) ?_
      refine wp_skip ?_
      refine thenN (hK1641 _ _ ?_); clear hK1641
      refine wp_seq_k (fun K1658 hK1659 => ?_)
      refine wp_region_lit ?_
      refine stepp ha 25 (.pointer (some ⟨b1636, 0, none⟩)) (by kernel_rfl) (by kernel_rfl) ?_; clear ha a; intro a ha
      refine stepl ha 26 (HW.ca (i := 0) (b := b1636) (C := #[.int .i64 a0.f0, .int .i64 a0.f1]) (T := 22) (fr := (0, 0)) (by kernel_rfl)) 3 0 (.tmp 25) (.int .i64 a0.f0) rfl (by kernel_rfl) (by kernel_rfl) (by kernel_rfl) ?_; clear ha a; intro a ha
      refine stepp ha 27 (.pointer (some ⟨b1636, 1, none⟩)) (by kernel_rfl) (by kernel_rfl) ?_; clear ha a; intro a ha
      refine stepl ha 28 (HW.ca (i := 0) (b := b1636) (C := #[.int .i64 a0.f0, .int .i64 a0.f1]) (T := 22) (fr := (0, 0)) (by kernel_rfl)) 3 1 (.tmp 27) (.int .i64 a0.f1) rfl (by kernel_rfl) (by kernel_rfl) (by kernel_rfl) ?_; clear ha a; intro a ha
      refine stepp ha 29 (.string a1) (by kernel_rfl) (by kernel_rfl) ?_; clear ha a; intro a ha
      obtain ⟨t1660, ht1661, h_⟩ := bind_some' h; clear h; have h := h_; clear h_
      refine stepc ha 30 (by kernel_rfl) (by kernel_rfl) (prout_Change.calls K a0.f0 a0.f1 a1 t1660 _ ht1661) ?_; clear ha a; rintro e W1665 ⟨A1662, c1663, rfl, HX1666⟩
      refine ⟨_, rfl, ?_⟩; intro a ha; replace HW := HW.callw HX1666; clear HX1666
      refine stepp ha 24 (.tuple #[.agg #[.int .i64 t1660.1.f0, .int .i64 t1660.1.f1, .string t1660.1.f2, .int .i64 t1660.1.f3, .int .i64 t1660.1.f4, .string t1660.1.f5, .bool t1660.1.f6, .slice A1662 t1660.1.f7.length c1663, .int .u64 t1660.1.f8, .int .u64 t1660.1.f9, .int .u64 t1660.1.f10, .int .i64 t1660.1.f11, .bool t1660.1.f12, .int .i64 t1660.1.f13], .int .i64 t1660.2]) (by kernel_rfl) (by kernel_rfl) ?_; clear ha a; intro a ha
      refine stepp ha 31 (.agg #[.int .i64 t1660.1.f0, .int .i64 t1660.1.f1, .string t1660.1.f2, .int .i64 t1660.1.f3, .int .i64 t1660.1.f4, .string t1660.1.f5, .bool t1660.1.f6, .slice A1662 t1660.1.f7.length c1663, .int .u64 t1660.1.f8, .int .u64 t1660.1.f9, .int .u64 t1660.1.f10, .int .i64 t1660.1.f11, .bool t1660.1.f12, .int .i64 t1660.1.f13]) (by kernel_rfl) (by kernel_rfl) ?_; clear ha a; intro a ha
      refine stepp ha 32 (.int .i64 t1660.2) (by kernel_rfl) (by kernel_rfl) ?_; clear ha a; intro a ha
      refine stepnew ha HW 7 #[.int .i64 0, .int .i64 0, .string (⟨#[]⟩ : ByteArray), .int .i64 0, .int .i64 0, .string (⟨#[]⟩ : ByteArray), .bool false, .slice none 0 0, .int .u64 0, .int .u64 0, .int .u64 0, .int .i64 0, .bool false, .int .i64 0] 26 (by kernel_rfl) (by kernel_rfl) ?_; clear ha HW a; intro b1667 a W1668 HW ha
      refine stepst ha HW 0 (b := b1667) (C := #[.int .i64 0, .int .i64 0, .string (⟨#[]⟩ : ByteArray), .int .i64 0, .int .i64 0, .string (⟨#[]⟩ : ByteArray), .bool false, .slice none 0 0, .int .u64 0, .int .u64 0, .int .u64 0, .int .i64 0, .bool false, .int .i64 0]) (T := 26) (by kernel_rfl) 26 0 (.tmp 7) (.tmp 31) (.agg #[.int .i64 t1660.1.f0, .int .i64 t1660.1.f1, .string t1660.1.f2, .int .i64 t1660.1.f3, .int .i64 t1660.1.f4, .string t1660.1.f5, .bool t1660.1.f6, .slice A1662 t1660.1.f7.length c1663, .int .u64 t1660.1.f8, .int .u64 t1660.1.f9, .int .u64 t1660.1.f10, .int .i64 t1660.1.f11, .bool t1660.1.f12, .int .i64 t1660.1.f13]) #[.int .i64 t1660.1.f0, .int .i64 t1660.1.f1, .string t1660.1.f2, .int .i64 t1660.1.f3, .int .i64 t1660.1.f4, .string t1660.1.f5, .bool t1660.1.f6, .slice A1662 t1660.1.f7.length c1663, .int .u64 t1660.1.f8, .int .u64 t1660.1.f9, .int .u64 t1660.1.f10, .int .i64 t1660.1.f11, .bool t1660.1.f12, .int .i64 t1660.1.f13] rfl (by kernel_rfl) (by kernel_rfl) (by kernel_rfl) (by kernel_rfl) (by kernel_rfl) (by kernel_rfl) (by kernel_rfl) ?_; clear ha HW a; intro a W1669 HW ha
      refine stepp ha 8 (.int .i64 t1660.2) (by kernel_rfl) (by kernel_rfl) ?_; clear ha a; intro a ha
      refine endl ?_
      refine thenN (hK1659 _ _ ?_); clear hK1659
      refine wp_seq_k (fun K1670 hK1671 => ?_)
      refine wp_region_lit ?_
      refine stepp ha 34 (.pointer (some ⟨b1636, 0, none⟩)) (by kernel_rfl) (by kernel_rfl) ?_; clear ha a; intro a ha
      refine stepl ha 35 (HW.ca (i := 1) (b := b1636) (C := #[.int .i64 a0.f0, .int .i64 a0.f1]) (T := 22) (fr := (0, 0)) (by kernel_rfl)) 3 0 (.tmp 34) (.int .i64 a0.f0) rfl (by kernel_rfl) (by kernel_rfl) (by kernel_rfl) ?_; clear ha a; intro a ha
      refine stepp ha 36 (.pointer (some ⟨b1636, 1, none⟩)) (by kernel_rfl) (by kernel_rfl) ?_; clear ha a; intro a ha
      refine stepl ha 37 (HW.ca (i := 1) (b := b1636) (C := #[.int .i64 a0.f0, .int .i64 a0.f1]) (T := 22) (fr := (0, 0)) (by kernel_rfl)) 3 1 (.tmp 36) (.int .i64 a0.f1) rfl (by kernel_rfl) (by kernel_rfl) (by kernel_rfl) ?_; clear ha a; intro a ha
      refine stepp ha 38 (.string a1) (by kernel_rfl) (by kernel_rfl) ?_; clear ha a; intro a ha
      obtain ⟨t1672, ht1673, h_⟩ := bind_some' h; clear h; have h := h_; clear h_
      refine stepc ha 39 (by kernel_rfl) (by kernel_rfl) (headgateref18_Change.calls K a0.f0 a0.f1 a1 t1672 _ ht1673) ?_; clear ha a; rintro e W1677 ⟨A1674, c1675, rfl, HX1678⟩
      refine ⟨_, rfl, ?_⟩; intro a ha; replace HW := HW.callw HX1678; clear HX1678
      refine stepp ha 33 (.tuple #[.agg #[.int .i64 t1672.1.f0, .int .i64 t1672.1.f1, .string t1672.1.f2, .int .i64 t1672.1.f3, .int .i64 t1672.1.f4, .string t1672.1.f5, .bool t1672.1.f6, .slice A1674 t1672.1.f7.length c1675, .int .u64 t1672.1.f8, .int .u64 t1672.1.f9, .int .u64 t1672.1.f10, .int .i64 t1672.1.f11, .bool t1672.1.f12, .int .i64 t1672.1.f13], .int .i64 t1672.2]) (by kernel_rfl) (by kernel_rfl) ?_; clear ha a; intro a ha
      refine stepp ha 40 (.agg #[.int .i64 t1672.1.f0, .int .i64 t1672.1.f1, .string t1672.1.f2, .int .i64 t1672.1.f3, .int .i64 t1672.1.f4, .string t1672.1.f5, .bool t1672.1.f6, .slice A1674 t1672.1.f7.length c1675, .int .u64 t1672.1.f8, .int .u64 t1672.1.f9, .int .u64 t1672.1.f10, .int .i64 t1672.1.f11, .bool t1672.1.f12, .int .i64 t1672.1.f13]) (by kernel_rfl) (by kernel_rfl) ?_; clear ha a; intro a ha
      refine stepp ha 41 (.int .i64 t1672.2) (by kernel_rfl) (by kernel_rfl) ?_; clear ha a; intro a ha
      refine stepnew ha HW 9 #[.int .i64 0, .int .i64 0, .string (⟨#[]⟩ : ByteArray), .int .i64 0, .int .i64 0, .string (⟨#[]⟩ : ByteArray), .bool false, .slice none 0 0, .int .u64 0, .int .u64 0, .int .u64 0, .int .i64 0, .bool false, .int .i64 0] 26 (by kernel_rfl) (by kernel_rfl) ?_; clear ha HW a; intro b1679 a W1680 HW ha
      refine stepst ha HW 0 (b := b1679) (C := #[.int .i64 0, .int .i64 0, .string (⟨#[]⟩ : ByteArray), .int .i64 0, .int .i64 0, .string (⟨#[]⟩ : ByteArray), .bool false, .slice none 0 0, .int .u64 0, .int .u64 0, .int .u64 0, .int .i64 0, .bool false, .int .i64 0]) (T := 26) (by kernel_rfl) 26 0 (.tmp 9) (.tmp 40) (.agg #[.int .i64 t1672.1.f0, .int .i64 t1672.1.f1, .string t1672.1.f2, .int .i64 t1672.1.f3, .int .i64 t1672.1.f4, .string t1672.1.f5, .bool t1672.1.f6, .slice A1674 t1672.1.f7.length c1675, .int .u64 t1672.1.f8, .int .u64 t1672.1.f9, .int .u64 t1672.1.f10, .int .i64 t1672.1.f11, .bool t1672.1.f12, .int .i64 t1672.1.f13]) #[.int .i64 t1672.1.f0, .int .i64 t1672.1.f1, .string t1672.1.f2, .int .i64 t1672.1.f3, .int .i64 t1672.1.f4, .string t1672.1.f5, .bool t1672.1.f6, .slice A1674 t1672.1.f7.length c1675, .int .u64 t1672.1.f8, .int .u64 t1672.1.f9, .int .u64 t1672.1.f10, .int .i64 t1672.1.f11, .bool t1672.1.f12, .int .i64 t1672.1.f13] rfl (by kernel_rfl) (by kernel_rfl) (by kernel_rfl) (by kernel_rfl) (by kernel_rfl) (by kernel_rfl) (by kernel_rfl) ?_; clear ha HW a; intro a W1681 HW ha
      refine stepp ha 10 (.int .i64 t1672.2) (by kernel_rfl) (by kernel_rfl) ?_; clear ha a; intro a ha
      refine endl ?_
      refine thenN (hK1671 _ _ ?_); clear hK1671
      refine wp_seq_k (fun K1682 hK1683 => ?_)
      refine wp_region_lit ?_
      refine stepl ha 43 (HW.ca (i := 3) (b := b1638) (C := #[.int .i64 a2.f0, .int .i64 a2.f1, .string a2.f2, .int .i64 a2.f3, .int .i64 a2.f4, .string a2.f5, .bool a2.f6, .slice A2_0 a2.f7.length c2_0, .int .u64 a2.f8, .int .u64 a2.f9, .int .u64 a2.f10, .int .i64 a2.f11, .bool a2.f12, .int .i64 a2.f13]) (T := 26) (fr := (0, 0)) (by kernel_rfl)) 26 0 (.tmp 5) (.agg #[.int .i64 a2.f0, .int .i64 a2.f1, .string a2.f2, .int .i64 a2.f3, .int .i64 a2.f4, .string a2.f5, .bool a2.f6, .slice A2_0 a2.f7.length c2_0, .int .u64 a2.f8, .int .u64 a2.f9, .int .u64 a2.f10, .int .i64 a2.f11, .bool a2.f12, .int .i64 a2.f13]) rfl (by kernel_rfl) (by kernel_rfl) (by kernel_rfl) ?_; clear ha a; intro a ha
      obtain ⟨t1684, ht1685, h_⟩ := bind_some' h; clear h; have h := h_; clear h_
      refine stepc ha 44 (by kernel_rfl) (by kernel_rfl) (prout_List.calls K a2 A2_0 c2_0 t1684 _ ((HW.rd0 hr2_0)) ht1685) ?_; clear ha a; rintro e W1686 ⟨rfl, HX1687⟩
      refine ⟨_, rfl, ?_⟩; intro a ha; replace HW := HW.callw HX1687; clear HX1687
      refine stepp ha 42 (.tuple #[.int .i64 t1684.1, .string t1684.2.1, .int .i64 t1684.2.2]) (by kernel_rfl) (by kernel_rfl) ?_; clear ha a; intro a ha
      refine stepp ha 45 (.int .i64 t1684.1) (by kernel_rfl) (by kernel_rfl) ?_; clear ha a; intro a ha
      refine stepp ha 46 (.string t1684.2.1) (by kernel_rfl) (by kernel_rfl) ?_; clear ha a; intro a ha
      refine stepp ha 47 (.int .i64 t1684.2.2) (by kernel_rfl) (by kernel_rfl) ?_; clear ha a; intro a ha
      refine stepp ha 11 (.int .i64 t1684.1) (by kernel_rfl) (by kernel_rfl) ?_; clear ha a; intro a ha
      refine stepp ha 12 (.string t1684.2.1) (by kernel_rfl) (by kernel_rfl) ?_; clear ha a; intro a ha
      refine stepp ha 13 (.int .i64 t1684.2.2) (by kernel_rfl) (by kernel_rfl) ?_; clear ha a; intro a ha
      refine endl ?_
      refine thenN (hK1683 _ _ ?_); clear hK1683
      refine wp_seq_k (fun K1688 hK1689 => ?_)
      refine wp_region_lit ?_
      refine stepl ha 49 (HW.ca (i := 3) (b := b1638) (C := #[.int .i64 a2.f0, .int .i64 a2.f1, .string a2.f2, .int .i64 a2.f3, .int .i64 a2.f4, .string a2.f5, .bool a2.f6, .slice A2_0 a2.f7.length c2_0, .int .u64 a2.f8, .int .u64 a2.f9, .int .u64 a2.f10, .int .i64 a2.f11, .bool a2.f12, .int .i64 a2.f13]) (T := 26) (fr := (0, 0)) (by kernel_rfl)) 26 0 (.tmp 5) (.agg #[.int .i64 a2.f0, .int .i64 a2.f1, .string a2.f2, .int .i64 a2.f3, .int .i64 a2.f4, .string a2.f5, .bool a2.f6, .slice A2_0 a2.f7.length c2_0, .int .u64 a2.f8, .int .u64 a2.f9, .int .u64 a2.f10, .int .i64 a2.f11, .bool a2.f12, .int .i64 a2.f13]) rfl (by kernel_rfl) (by kernel_rfl) (by kernel_rfl) ?_; clear ha a; intro a ha
      obtain ⟨t1690, ht1691, h_⟩ := bind_some' h; clear h; have h := h_; clear h_
      refine stepc ha 50 (by kernel_rfl) (by kernel_rfl) (headgateref18_List.calls K a2 A2_0 c2_0 t1690 _ ((HW.rd0 hr2_0)) ht1691) ?_; clear ha a; rintro e W1692 ⟨rfl, HX1693⟩
      refine ⟨_, rfl, ?_⟩; intro a ha; replace HW := HW.callw HX1693; clear HX1693
      refine stepp ha 48 (.tuple #[.agg #[.int .i64 t1690.1.f0, .string t1690.1.f1], .int .i64 t1690.2]) (by kernel_rfl) (by kernel_rfl) ?_; clear ha a; intro a ha
      refine stepp ha 51 (.agg #[.int .i64 t1690.1.f0, .string t1690.1.f1]) (by kernel_rfl) (by kernel_rfl) ?_; clear ha a; intro a ha
      refine stepp ha 52 (.int .i64 t1690.2) (by kernel_rfl) (by kernel_rfl) ?_; clear ha a; intro a ha
      refine stepnew ha HW 14 #[.int .i64 0, .string (⟨#[]⟩ : ByteArray)] 37 (by kernel_rfl) (by kernel_rfl) ?_; clear ha HW a; intro b1694 a W1695 HW ha
      refine stepst ha HW 0 (b := b1694) (C := #[.int .i64 0, .string (⟨#[]⟩ : ByteArray)]) (T := 37) (by kernel_rfl) 37 0 (.tmp 14) (.tmp 51) (.agg #[.int .i64 t1690.1.f0, .string t1690.1.f1]) #[.int .i64 t1690.1.f0, .string t1690.1.f1] rfl (by kernel_rfl) (by kernel_rfl) (by kernel_rfl) (by kernel_rfl) (by kernel_rfl) (by kernel_rfl) (by kernel_rfl) ?_; clear ha HW a; intro a W1696 HW ha
      refine stepp ha 15 (.int .i64 t1690.2) (by kernel_rfl) (by kernel_rfl) ?_; clear ha a; intro a ha
      refine endl ?_
      refine thenN (hK1689 _ _ ?_); clear hK1689
      refine wp_seq_k (fun K1697 hK1698 => ?_)
      refine wp_region_lit ?_
      refine stepl ha 53 (HW.ca (i := 2) (b := b1667) (C := #[.int .i64 t1660.1.f0, .int .i64 t1660.1.f1, .string t1660.1.f2, .int .i64 t1660.1.f3, .int .i64 t1660.1.f4, .string t1660.1.f5, .bool t1660.1.f6, .slice A1662 t1660.1.f7.length c1663, .int .u64 t1660.1.f8, .int .u64 t1660.1.f9, .int .u64 t1660.1.f10, .int .i64 t1660.1.f11, .bool t1660.1.f12, .int .i64 t1660.1.f13]) (T := 26) (fr := (0, 0)) (by kernel_rfl)) 26 0 (.tmp 7) (.agg #[.int .i64 t1660.1.f0, .int .i64 t1660.1.f1, .string t1660.1.f2, .int .i64 t1660.1.f3, .int .i64 t1660.1.f4, .string t1660.1.f5, .bool t1660.1.f6, .slice A1662 t1660.1.f7.length c1663, .int .u64 t1660.1.f8, .int .u64 t1660.1.f9, .int .u64 t1660.1.f10, .int .i64 t1660.1.f11, .bool t1660.1.f12, .int .i64 t1660.1.f13]) rfl (by kernel_rfl) (by kernel_rfl) (by kernel_rfl) ?_; clear ha a; intro a ha
      refine stepl ha 54 (HW.ca (i := 1) (b := b1679) (C := #[.int .i64 t1672.1.f0, .int .i64 t1672.1.f1, .string t1672.1.f2, .int .i64 t1672.1.f3, .int .i64 t1672.1.f4, .string t1672.1.f5, .bool t1672.1.f6, .slice A1674 t1672.1.f7.length c1675, .int .u64 t1672.1.f8, .int .u64 t1672.1.f9, .int .u64 t1672.1.f10, .int .i64 t1672.1.f11, .bool t1672.1.f12, .int .i64 t1672.1.f13]) (T := 26) (fr := (0, 0)) (by kernel_rfl)) 26 0 (.tmp 9) (.agg #[.int .i64 t1672.1.f0, .int .i64 t1672.1.f1, .string t1672.1.f2, .int .i64 t1672.1.f3, .int .i64 t1672.1.f4, .string t1672.1.f5, .bool t1672.1.f6, .slice A1674 t1672.1.f7.length c1675, .int .u64 t1672.1.f8, .int .u64 t1672.1.f9, .int .u64 t1672.1.f10, .int .i64 t1672.1.f11, .bool t1672.1.f12, .int .i64 t1672.1.f13]) rfl (by kernel_rfl) (by kernel_rfl) (by kernel_rfl) ?_; clear ha a; intro a ha
      obtain ⟨t1699, ht1700, h_⟩ := bind_some' h; clear h; have h := h_; clear h_
      refine stepc ha 55 (by kernel_rfl) (by kernel_rfl) (headgatekeep_Cmds.calls K (⟨t1660.1.f0, t1660.1.f1, t1660.1.f2, t1660.1.f3, t1660.1.f4, t1660.1.f5, t1660.1.f6, t1660.1.f7, t1660.1.f8, t1660.1.f9, t1660.1.f10, t1660.1.f11, t1660.1.f12, t1660.1.f13⟩ : T_api_Cmd) (⟨t1672.1.f0, t1672.1.f1, t1672.1.f2, t1672.1.f3, t1672.1.f4, t1672.1.f5, t1672.1.f6, t1672.1.f7, t1672.1.f8, t1672.1.f9, t1672.1.f10, t1672.1.f11, t1672.1.f12, t1672.1.f13⟩ : T_api_Cmd) A1662 c1663 A1674 c1675 t1699 _ (HW.rdo (i := 1) (q := ⟨61, 2, .slice A1662 t1660.1.f7.length c1663, t1660.1.f7.length, encs T_api_Range.enc t1660.1.f7⟩) (by kernel_rfl)) (HW.rdo (i := 0) (q := ⟨61, 2, .slice A1674 t1672.1.f7.length c1675, t1672.1.f7.length, encs T_api_Range.enc t1672.1.f7⟩) (by kernel_rfl)) ht1700) ?_; clear ha a; rintro e W1701 ⟨rfl, HX1702⟩
      refine ⟨_, rfl, ?_⟩; intro a ha; replace HW := HW.callw HX1702; clear HX1702
      refine stepp ha 56 (.bool t1699) (by kernel_rfl) (by kernel_rfl) ?_; clear ha a; intro a ha
      by_cases hp1703 : t1699 = true
      · skip
        replace h := ite_pos' h hp1703
        replace ha := ha.bool 56 (by kernel_rfl) (hp1703)
        refine stepp ha 57 (.int .i64 t1660.2) (by kernel_rfl) (by kernel_rfl) ?_; clear ha a; intro a ha
        refine stepp ha 58 (.int .i64 t1672.2) (by kernel_rfl) (by kernel_rfl) ?_; clear ha a; intro a ha
        refine stepp ha 59 (.bool (t1660.2 == t1672.2)) (by kernel_rfl) (by kernel_rfl) ?_; clear ha a; intro a ha
        refine stepp ha 60 (.bool (t1660.2 == t1672.2)) (by kernel_rfl) (by kernel_rfl) ?_; clear ha a; intro a ha
        refine stepp ha 61 (.bool (t1660.2 == t1672.2)) (by kernel_rfl) (by kernel_rfl) ?_; clear ha a; intro a ha
        by_cases hp1704 : t1660.2 = t1672.2
        · skip
          replace h := ite_pos' h hp1704
          replace ha := ha.bool 61 (by kernel_rfl) (ieq_t hp1704)
          refine stepp ha 62 (.int .i64 t1684.1) (by kernel_rfl) (by kernel_rfl) ?_; clear ha a; intro a ha
          refine stepp ha 63 (.pointer (some ⟨b1694, 0, none⟩)) (by kernel_rfl) (by kernel_rfl) ?_; clear ha a; intro a ha
          refine stepl ha 64 (HW.ca (i := 0) (b := b1694) (C := #[.int .i64 t1690.1.f0, .string t1690.1.f1]) (T := 37) (fr := (0, 0)) (by kernel_rfl)) 3 0 (.tmp 63) (.int .i64 t1690.1.f0) rfl (by kernel_rfl) (by kernel_rfl) (by kernel_rfl) ?_; clear ha a; intro a ha
          refine stepp ha 65 (.bool (t1684.1 == t1690.1.f0)) (by kernel_rfl) (by kernel_rfl) ?_; clear ha a; intro a ha
          refine stepp ha 66 (.bool (t1684.1 == t1690.1.f0)) (by kernel_rfl) (by kernel_rfl) ?_; clear ha a; intro a ha
          refine stepp ha 67 (.bool (t1684.1 == t1690.1.f0)) (by kernel_rfl) (by kernel_rfl) ?_; clear ha a; intro a ha
          by_cases hp1705 : t1684.1 = t1690.1.f0
          · skip
            replace h := ite_pos' h hp1705
            replace ha := ha.bool 67 (by kernel_rfl) (ieq_t hp1705)
            refine stepp ha 68 (.string t1684.2.1) (by kernel_rfl) (by kernel_rfl) ?_; clear ha a; intro a ha
            refine stepp ha 69 (.pointer (some ⟨b1694, 1, none⟩)) (by kernel_rfl) (by kernel_rfl) ?_; clear ha a; intro a ha
            refine stepl ha 70 (HW.ca (i := 0) (b := b1694) (C := #[.int .i64 t1690.1.f0, .string t1690.1.f1]) (T := 37) (fr := (0, 0)) (by kernel_rfl)) 9 1 (.tmp 69) (.string t1690.1.f1) rfl (by kernel_rfl) (by kernel_rfl) (by kernel_rfl) ?_; clear ha a; intro a ha
            refine stepp ha 71 (.bool (t1684.2.1.toList == t1690.1.f1.toList)) (by kernel_rfl) (by kernel_rfl) ?_; clear ha a; intro a ha
            refine stepp ha 72 (.bool (t1684.2.1.toList == t1690.1.f1.toList)) (by kernel_rfl) (by kernel_rfl) ?_; clear ha a; intro a ha
            refine stepp ha 73 (.bool (t1684.2.1.toList == t1690.1.f1.toList)) (by kernel_rfl) (by kernel_rfl) ?_; clear ha a; intro a ha
            by_cases hp1706 : t1684.2.1 = t1690.1.f1
            · skip
              replace h := ite_pos' h hp1706
              replace ha := ha.bool 73 (by kernel_rfl) (str_eq_t hp1706)
              refine stepp ha 74 (.int .i64 t1684.2.2) (by kernel_rfl) (by kernel_rfl) ?_; clear ha a; intro a ha
              refine stepp ha 75 (.int .i64 t1690.2) (by kernel_rfl) (by kernel_rfl) ?_; clear ha a; intro a ha
              refine stepp ha 76 (.bool (t1684.2.2 == t1690.2)) (by kernel_rfl) (by kernel_rfl) ?_; clear ha a; intro a ha
              refine stepp ha 77 (.bool (t1684.2.2 == t1690.2)) (by kernel_rfl) (by kernel_rfl) ?_; clear ha a; intro a ha
              refine stepp ha 78 (.bool (t1684.2.2 == t1690.2)) (by kernel_rfl) (by kernel_rfl) ?_; clear ha a; intro a ha
              by_cases hp1707 : t1684.2.2 = t1690.2
              · skip
                replace h := ite_pos' h hp1707
                replace ha := ha.bool 78 (by kernel_rfl) (ieq_t hp1707)
                obtain ⟨t1708, ht1709, h_⟩ := bind_some' h; clear h; have h := h_; clear h_
                refine stepc ha 79 (by kernel_rfl) (by kernel_rfl) (headgatelaw18_wakes.calls K t1708 _ ht1709) ?_; clear ha a; rintro e W1710 ⟨rfl, HX1711⟩
                refine ⟨_, rfl, ?_⟩; intro a ha; replace HW := HW.callw HX1711; clear HX1711
                refine stepp ha 80 (.bool t1708) (by kernel_rfl) (by kernel_rfl) ?_; clear ha a; intro a ha
                refine stepp ha 6 (.bool t1708) (by kernel_rfl) (by kernel_rfl) ?_; clear ha a; intro a ha
                refine endl ?_
                refine thenN (hK1698 _ _ ?_); clear hK1698
                refine wp_ret ?_
                obtain rfl := Option.some.inj h
                exact finv ha _ _ rfl (.tmp (v := .bool t1708) (by kernel_rfl) .nil) (.bool t1708) rfl ⟨rfl, HW.pick [] [] (by decide) (by decide) rfl (by kernel_rfl)⟩
              · skip
                replace h := ite_neg' h hp1707
                replace ha := ha.bool 78 (by kernel_rfl) (ieq_f hp1707)
                refine stepo ha 79 (by kernel_rfl) ?_; clear ha a; intro a ha
                refine stepp ha 80 (.bool false) (by kernel_rfl) (by kernel_rfl) ?_; clear ha a; intro a ha
                refine stepp ha 6 (.bool false) (by kernel_rfl) (by kernel_rfl) ?_; clear ha a; intro a ha
                refine endl ?_
                refine thenN (hK1698 _ _ ?_); clear hK1698
                refine wp_ret ?_
                obtain rfl := Option.some.inj h
                exact finv ha _ _ rfl (.tmp (v := .bool false) (by kernel_rfl) .nil) (.bool false) rfl ⟨rfl, HW.pick [] [] (by decide) (by decide) rfl (by kernel_rfl)⟩
            · skip
              replace h := ite_neg' h hp1706
              replace ha := ha.bool 73 (by kernel_rfl) (str_eq_f hp1706)
              refine stepo ha 74 (by kernel_rfl) ?_; clear ha a; intro a ha
              refine stepo ha 75 (by kernel_rfl) ?_; clear ha a; intro a ha
              refine stepo ha 76 (by kernel_rfl) ?_; clear ha a; intro a ha
              refine stepp ha 77 (.bool false) (by kernel_rfl) (by kernel_rfl) ?_; clear ha a; intro a ha
              refine stepp ha 78 (.bool false) (by kernel_rfl) (by kernel_rfl) ?_; clear ha a; intro a ha
              refine stepo ha 79 (by kernel_rfl) ?_; clear ha a; intro a ha
              refine stepp ha 80 (.bool false) (by kernel_rfl) (by kernel_rfl) ?_; clear ha a; intro a ha
              refine stepp ha 6 (.bool false) (by kernel_rfl) (by kernel_rfl) ?_; clear ha a; intro a ha
              refine endl ?_
              refine thenN (hK1698 _ _ ?_); clear hK1698
              refine wp_ret ?_
              obtain rfl := Option.some.inj h
              exact finv ha _ _ rfl (.tmp (v := .bool false) (by kernel_rfl) .nil) (.bool false) rfl ⟨rfl, HW.pick [] [] (by decide) (by decide) rfl (by kernel_rfl)⟩
          · skip
            replace h := ite_neg' h hp1705
            replace ha := ha.bool 67 (by kernel_rfl) (ieq_f hp1705)
            refine stepo ha 68 (by kernel_rfl) ?_; clear ha a; intro a ha
            refine stepo ha 69 (by kernel_rfl) ?_; clear ha a; intro a ha
            refine stepo ha 70 (by kernel_rfl) ?_; clear ha a; intro a ha
            refine stepo ha 71 (by kernel_rfl) ?_; clear ha a; intro a ha
            refine stepp ha 72 (.bool false) (by kernel_rfl) (by kernel_rfl) ?_; clear ha a; intro a ha
            refine stepp ha 73 (.bool false) (by kernel_rfl) (by kernel_rfl) ?_; clear ha a; intro a ha
            refine stepo ha 74 (by kernel_rfl) ?_; clear ha a; intro a ha
            refine stepo ha 75 (by kernel_rfl) ?_; clear ha a; intro a ha
            refine stepo ha 76 (by kernel_rfl) ?_; clear ha a; intro a ha
            refine stepp ha 77 (.bool false) (by kernel_rfl) (by kernel_rfl) ?_; clear ha a; intro a ha
            refine stepp ha 78 (.bool false) (by kernel_rfl) (by kernel_rfl) ?_; clear ha a; intro a ha
            refine stepo ha 79 (by kernel_rfl) ?_; clear ha a; intro a ha
            refine stepp ha 80 (.bool false) (by kernel_rfl) (by kernel_rfl) ?_; clear ha a; intro a ha
            refine stepp ha 6 (.bool false) (by kernel_rfl) (by kernel_rfl) ?_; clear ha a; intro a ha
            refine endl ?_
            refine thenN (hK1698 _ _ ?_); clear hK1698
            refine wp_ret ?_
            obtain rfl := Option.some.inj h
            exact finv ha _ _ rfl (.tmp (v := .bool false) (by kernel_rfl) .nil) (.bool false) rfl ⟨rfl, HW.pick [] [] (by decide) (by decide) rfl (by kernel_rfl)⟩
        · skip
          replace h := ite_neg' h hp1704
          replace ha := ha.bool 61 (by kernel_rfl) (ieq_f hp1704)
          refine stepo ha 62 (by kernel_rfl) ?_; clear ha a; intro a ha
          refine stepo ha 63 (by kernel_rfl) ?_; clear ha a; intro a ha
          refine stepo ha 64 (by kernel_rfl) ?_; clear ha a; intro a ha
          refine stepo ha 65 (by kernel_rfl) ?_; clear ha a; intro a ha
          refine stepp ha 66 (.bool false) (by kernel_rfl) (by kernel_rfl) ?_; clear ha a; intro a ha
          refine stepp ha 67 (.bool false) (by kernel_rfl) (by kernel_rfl) ?_; clear ha a; intro a ha
          refine stepo ha 68 (by kernel_rfl) ?_; clear ha a; intro a ha
          refine stepo ha 69 (by kernel_rfl) ?_; clear ha a; intro a ha
          refine stepo ha 70 (by kernel_rfl) ?_; clear ha a; intro a ha
          refine stepo ha 71 (by kernel_rfl) ?_; clear ha a; intro a ha
          refine stepp ha 72 (.bool false) (by kernel_rfl) (by kernel_rfl) ?_; clear ha a; intro a ha
          refine stepp ha 73 (.bool false) (by kernel_rfl) (by kernel_rfl) ?_; clear ha a; intro a ha
          refine stepo ha 74 (by kernel_rfl) ?_; clear ha a; intro a ha
          refine stepo ha 75 (by kernel_rfl) ?_; clear ha a; intro a ha
          refine stepo ha 76 (by kernel_rfl) ?_; clear ha a; intro a ha
          refine stepp ha 77 (.bool false) (by kernel_rfl) (by kernel_rfl) ?_; clear ha a; intro a ha
          refine stepp ha 78 (.bool false) (by kernel_rfl) (by kernel_rfl) ?_; clear ha a; intro a ha
          refine stepo ha 79 (by kernel_rfl) ?_; clear ha a; intro a ha
          refine stepp ha 80 (.bool false) (by kernel_rfl) (by kernel_rfl) ?_; clear ha a; intro a ha
          refine stepp ha 6 (.bool false) (by kernel_rfl) (by kernel_rfl) ?_; clear ha a; intro a ha
          refine endl ?_
          refine thenN (hK1698 _ _ ?_); clear hK1698
          refine wp_ret ?_
          obtain rfl := Option.some.inj h
          exact finv ha _ _ rfl (.tmp (v := .bool false) (by kernel_rfl) .nil) (.bool false) rfl ⟨rfl, HW.pick [] [] (by decide) (by decide) rfl (by kernel_rfl)⟩
      · skip
        replace h := ite_neg' h hp1703
        replace ha := ha.bool 56 (by kernel_rfl) (bool_f hp1703)
        refine stepo ha 57 (by kernel_rfl) ?_; clear ha a; intro a ha
        refine stepo ha 58 (by kernel_rfl) ?_; clear ha a; intro a ha
        refine stepo ha 59 (by kernel_rfl) ?_; clear ha a; intro a ha
        refine stepp ha 60 (.bool false) (by kernel_rfl) (by kernel_rfl) ?_; clear ha a; intro a ha
        refine stepp ha 61 (.bool false) (by kernel_rfl) (by kernel_rfl) ?_; clear ha a; intro a ha
        refine stepo ha 62 (by kernel_rfl) ?_; clear ha a; intro a ha
        refine stepo ha 63 (by kernel_rfl) ?_; clear ha a; intro a ha
        refine stepo ha 64 (by kernel_rfl) ?_; clear ha a; intro a ha
        refine stepo ha 65 (by kernel_rfl) ?_; clear ha a; intro a ha
        refine stepp ha 66 (.bool false) (by kernel_rfl) (by kernel_rfl) ?_; clear ha a; intro a ha
        refine stepp ha 67 (.bool false) (by kernel_rfl) (by kernel_rfl) ?_; clear ha a; intro a ha
        refine stepo ha 68 (by kernel_rfl) ?_; clear ha a; intro a ha
        refine stepo ha 69 (by kernel_rfl) ?_; clear ha a; intro a ha
        refine stepo ha 70 (by kernel_rfl) ?_; clear ha a; intro a ha
        refine stepo ha 71 (by kernel_rfl) ?_; clear ha a; intro a ha
        refine stepp ha 72 (.bool false) (by kernel_rfl) (by kernel_rfl) ?_; clear ha a; intro a ha
        refine stepp ha 73 (.bool false) (by kernel_rfl) (by kernel_rfl) ?_; clear ha a; intro a ha
        refine stepo ha 74 (by kernel_rfl) ?_; clear ha a; intro a ha
        refine stepo ha 75 (by kernel_rfl) ?_; clear ha a; intro a ha
        refine stepo ha 76 (by kernel_rfl) ?_; clear ha a; intro a ha
        refine stepp ha 77 (.bool false) (by kernel_rfl) (by kernel_rfl) ?_; clear ha a; intro a ha
        refine stepp ha 78 (.bool false) (by kernel_rfl) (by kernel_rfl) ?_; clear ha a; intro a ha
        refine stepo ha 79 (by kernel_rfl) ?_; clear ha a; intro a ha
        refine stepp ha 80 (.bool false) (by kernel_rfl) (by kernel_rfl) ?_; clear ha a; intro a ha
        refine stepp ha 6 (.bool false) (by kernel_rfl) (by kernel_rfl) ?_; clear ha a; intro a ha
        refine endl ?_
        refine thenN (hK1698 _ _ ?_); clear hK1698
        refine wp_ret ?_
        obtain rfl := Option.some.inj h
        exact finv ha _ _ rfl (.tmp (v := .bool false) (by kernel_rfl) .nil) (.bool false) rfl ⟨rfl, HW.pick [] [] (by decide) (by decide) rfl (by kernel_rfl)⟩
end Go.Proofs.Ytceagilmillgfaa.F
