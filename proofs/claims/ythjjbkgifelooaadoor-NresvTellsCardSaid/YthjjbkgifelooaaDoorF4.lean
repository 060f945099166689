/- headgate/headgatelaw27.NresvTells: plain functions, and that the calls come to what they say. No condition. -/
import Derived.Test.YthjjbkgifelooaaDoorFT
import Derived.Test.YthjjbkgifelooaaDoorF12
import Derived.Test.YthjjbkgifelooaaDoorF48
import Derived.Test.YthjjbkgifelooaaDoorF77
import Derived.Test.YthjjbkgifelooaaDoorF79
namespace Go.Proofs.YthjjbkgifelooaaDoor.F
open Go Go.RowKit Go.Proofs.YthjjbkgifelooaaDoor.X
set_option linter.unusedVariables false
set_option linter.unusedSimpArgs false
/-! ### headgate/headgatelaw27.NresvTells: function 4 -/
def headgatelaw27_NresvTells.b0 (K : Nat) (a0 : T_api_Table) (t2794 : Int × Int × (List T_api_Reg) × Int × Int) (again2907 : Int → Int → Option Bool) (x2908 : Int) (x2909 : Int) : Option Bool :=
  if x2909 ≥ 0 then (asrt (0 ≤ x2909) (asrt (x2909 < (t2794.2.2.1.length : Int)) (asrt (x2909 < (a0.f0.length : Int)) (if ((rdL T_api_Reg.z t2794.2.2.1 x2909).f1) = ((rdL T_api_Reg.z a0.f0 x2909).f1) then (if ((rdL T_api_Reg.z t2794.2.2.1 x2909).f0) = (⟨#[]⟩ : ByteArray) then ((access_Holds.f K (⟨a0.f0, (⟨a0.f1.f0, a0.f1.f1⟩ : T_api_Hold), a0.f2, a0.f3⟩ : T_api_Table) ((rdL T_api_Reg.z a0.f0 x2909).f0)).bind fun t2947 => (if t2947 = true then (again2907 x2909 (IntKind.wrap .i64 (x2909 - 1))) else (again2907 x2908 (IntKind.wrap .i64 (x2909 - 1))))) else (some false)) else (some false))))) else (if t2794.2.2.2.1 = x2908 then ((headgatelaw27_wakes.f K).bind fun t2956 => (some t2956)) else (some false))
def headgatelaw27_NresvTells.l0 (K : Nat) (a0 : T_api_Table) (t2794 : Int × Int × (List T_api_Reg) × Int × Int) : Nat → Int → Int → Option Bool
  | 0, _, _ => none
  | k_ + 1, x2908, x2909 => headgatelaw27_NresvTells.b0 K a0 t2794 (headgatelaw27_NresvTells.l0 K a0 t2794 k_) x2908 x2909
def headgatelaw27_NresvTells.j0 (K : Nat) (a0 : T_api_Table) (x2772 : Bool) : Option Bool :=
  if x2772 = true then ((headgatelaw27_wakes.f K).bind fun t2777 => (some t2777)) else ((headgatekeep_CopyTable.f (⟨a0.f0, (⟨a0.f1.f0, a0.f1.f1⟩ : T_api_Hold), a0.f2, a0.f3⟩ : T_api_Table)).bind fun t2783 => ((nresv_Report.f K (⟨t2783.f0, (⟨t2783.f1.f0, t2783.f1.f1⟩ : T_api_Hold), t2783.f2, t2783.f3⟩ : T_api_Table)).bind fun t2790 => ((nresv_Reported.f K t2790).bind fun t2794 => (if t2794.2.2.2.2 = 0 then (if t2794.1 = a0.f2 then (if t2794.2.1 = a0.f1.f0 then (if (t2794.2.2.1.length : Int) = (a0.f0.length : Int) then (headgatelaw27_NresvTells.l0 K a0 t2794 K (-1) (IntKind.wrap .i64 ((t2794.2.2.1.length : Int) - 1))) else (some false)) else (some false)) else (some false)) else (some false)))))
def headgatelaw27_NresvTells.f (K : Nat) (a0 : T_api_Table) : Option Bool :=
  (headgatelaw10_Large.f K (⟨a0.f0, (⟨a0.f1.f0, a0.f1.f1⟩ : T_api_Hold), a0.f2, a0.f3⟩ : T_api_Table)).bind fun t2763 => (if t2763 = true then (headgatelaw27_NresvTells.j0 K a0 true) else ((headgateref11_Good.f K (⟨a0.f0, (⟨a0.f1.f0, a0.f1.f1⟩ : T_api_Hold), a0.f2, a0.f3⟩ : T_api_Table)).bind fun t2768 => (headgatelaw27_NresvTells.j0 K a0 (!t2768))))
set_option maxRecDepth 100000 in
set_option maxHeartbeats 4000000 in
theorem headgatelaw27_NresvTells.calls (K : Nat) (a0 : T_api_Table) (A0_0 : Option Addr) (c0_0 : Nat) (r : Bool) (w : World) (hG0 : CA w 0 0 (encs (encI .i64) G_access_lets).toArray) (hG1 : CA w 1 0 (encs T_nresv_action.enc G_nresv_actions).toArray) (hG2 : CA w 2 0 (encs (encI .i64) G_nresv_aptpls).toArray) (hr0_0 : Rd 2 w (.slice A0_0 a0.f0.length c0_0) a0.f0.length (encs T_api_Reg.enc a0.f0)) (h : headgatelaw27_NresvTells.f K a0 = some r) :
    Calls Tryd.prog 4 #[.agg #[.slice A0_0 a0.f0.length c0_0, .int .i64 a0.f1.f0, .string a0.f1.f1, .int .u32 a0.f2, .bool a0.f3]] w (fun e W' => e = .returned (.bool r) ∧ Wd w W' [] [] ) := by
  refine sxstart (n := 93) (l := [(0, .agg #[.slice A0_0 a0.f0.length c0_0, .int .i64 a0.f1.f0, .string a0.f1.f1, .int .u32 a0.f2, .bool a0.f3])]) Tryd.func4 rfl rfl (Nat.le_of_ble_eq_true KR) (subsA_cons rfl (subsA_nil _)) ?_
  intro a ha
  have HW := Wd.refl w
  unfold headgatelaw27_NresvTells.f at h
  refine wp_seq_k (fun K2755 hK2756 => ?_)
  refine wp_region_lit ?_
  refine stepnew ha HW 1 #[.slice A0_0 a0.f0.length c0_0, .int .i64 a0.f1.f0, .string a0.f1.f1, .int .u32 a0.f2, .bool a0.f3] 27 KR KR ?_; clear ha HW a; intro b2757 a W2758 HW ha
  refine stepp ha 2 (.bool false) KR KR ?_; clear ha a; intro a ha
  refine endl ?_
  refine thenN (hK2756 _ _ ?_); clear hK2756
  refine wp_seq_k (fun K2759 hK2760 => ?_)
  refine wp_seq_k (fun K2761 hK2762 => ?_)
  refine cutn (fun a W2773 => ∃ (x2772 : Bool), headgatelaw27_NresvTells.j0 K a0 x2772 = some r ∧ Has 93 [(1, .pointer (some ⟨b2757, 0, none⟩)), (16, .bool x2772)] a ∧ Wd w W2773 [(b2757, .cells #[.slice A0_0 a0.f0.length c0_0, .int .i64 a0.f1.f0, .string a0.f1.f1, .int .u32 a0.f2, .bool a0.f3] 27 (0, 0))] []) ?_ ?_
  · skip
    refine wp_region_lit ?_
    refine stepl ha 10 (HW.ca (i := 0) (b := b2757) (C := #[.slice A0_0 a0.f0.length c0_0, .int .i64 a0.f1.f0, .string a0.f1.f1, .int .u32 a0.f2, .bool a0.f3]) (T := 27) (fr := (0, 0)) KR) 27 0 (.tmp 1) (.agg #[.slice A0_0 a0.f0.length c0_0, .int .i64 a0.f1.f0, .string a0.f1.f1, .int .u32 a0.f2, .bool a0.f3]) rfl KR KR KR ?_; clear ha a; intro a ha
    obtain ⟨t2763, ht2764, h_⟩ := bind_some' h; clear h; have h := h_; clear h_
    refine stepc ha 11 KR KR (headgatelaw10_Large.calls K (⟨a0.f0, (⟨a0.f1.f0, a0.f1.f1⟩ : T_api_Hold), a0.f2, a0.f3⟩ : T_api_Table) A0_0 c0_0 t2763 _ ((HW.rd0 hr0_0)) ht2764) ?_; clear ha a; rintro e W2765 ⟨rfl, HX2766⟩
    refine ⟨_, rfl, ?_⟩; intro a ha; replace HW := HW.callw HX2766; clear HX2766
    refine stepp ha 12 (.bool t2763) KR KR ?_; clear ha a; intro a ha
    by_cases hp2767 : t2763 = true
    · skip
      replace h := ite_pos' h hp2767
      replace ha := ha.bool 12 KR (hp2767)
      refine stepo ha 13 KR ?_; clear ha a; intro a ha
      refine stepo ha 14 KR ?_; clear ha a; intro a ha
      refine stepo ha 15 KR ?_; clear ha a; intro a ha
      refine stepp ha 16 (.bool true) KR KR ?_; clear ha a; intro a ha
      refine endl ?_
      exact thenN ⟨true, h, ha.sub (subs_cons KR (subs_cons KR (subs_nil _))), HW.pick [0] [] (by decide) (by decide) KR KR⟩
    · skip
      replace h := ite_neg' h hp2767
      replace ha := ha.bool 12 KR (bool_f hp2767)
      refine stepl ha 13 (HW.ca (i := 0) (b := b2757) (C := #[.slice A0_0 a0.f0.length c0_0, .int .i64 a0.f1.f0, .string a0.f1.f1, .int .u32 a0.f2, .bool a0.f3]) (T := 27) (fr := (0, 0)) KR) 27 0 (.tmp 1) (.agg #[.slice A0_0 a0.f0.length c0_0, .int .i64 a0.f1.f0, .string a0.f1.f1, .int .u32 a0.f2, .bool a0.f3]) rfl KR KR KR ?_; clear ha a; intro a ha
      obtain ⟨t2768, ht2769, h_⟩ := bind_some' h; clear h; have h := h_; clear h_
      refine stepc ha 14 KR KR (headgateref11_Good.calls K (⟨a0.f0, (⟨a0.f1.f0, a0.f1.f1⟩ : T_api_Hold), a0.f2, a0.f3⟩ : T_api_Table) A0_0 c0_0 t2768 _ ((HW.rd0 hr0_0)) ht2769) ?_; clear ha a; rintro e W2770 ⟨rfl, HX2771⟩
      refine ⟨_, rfl, ?_⟩; intro a ha; replace HW := HW.callw HX2771; clear HX2771
      refine stepp ha 15 (.bool (!t2768)) KR KR ?_; clear ha a; intro a ha
      refine stepp ha 16 (.bool (!t2768)) KR KR ?_; clear ha a; intro a ha
      refine endl ?_
      exact thenN ⟨(!t2768), h, ha.sub (subs_cons KR (subs_cons KR (subs_nil _))), HW.pick [0] [] (by decide) (by decide) KR KR⟩
  · skip
    intro a W2773 hJ
    obtain ⟨x2772, h, ha, HW⟩ := hJ
    replace h : headgatelaw27_NresvTells.j0 K a0 x2772 = some r := h
    unfold headgatelaw27_NresvTells.j0 at h
    refine hK2762 _ _ ?_; clear hK2762
    by_cases hp2774 : x2772 = true
    · skip
      replace h := ite_pos' h hp2774
      refine condT ha KR KR (t := x2772) (hp2774) ?_
      refine wp_seq_k (fun K2775 hK2776 => ?_)
      refine wp_region_lit ?_
      obtain ⟨t2777, ht2778, h_⟩ := bind_some' h; clear h; have h := h_; clear h_
      refine stepc ha 17 KR KR (headgatelaw27_wakes.calls K t2777 _ (HW.ca0 hG0) (HW.ca0 hG1) (HW.ca0 hG2) ht2778) ?_; clear ha a; rintro e W2779 ⟨rfl, HX2780⟩
      refine ⟨_, rfl, ?_⟩; intro a ha; replace HW := HW.callw HX2780; clear HX2780
      refine stepp ha 2 (.bool t2777) KR KR ?_; clear ha a; intro a ha
      refine endl ?_
      refine thenN (hK2776 _ _ ?_); clear hK2776
      refine wp_ret ?_
      refine thenR ?_
      obtain rfl := Option.some.inj h
      exact finv ha _ _ rfl (.tmp (v := .bool t2777) KR .nil) (.bool t2777) rfl ⟨rfl, HW.pick [] [] (by decide) (by decide) rfl KR⟩
    · skip
      replace h := ite_neg' h hp2774
      refine condF ha KR KR (t := x2772) (bool_f hp2774) ?_
      refine wp_skip ?_
      refine thenN (hK2760 _ _ ?_); clear hK2760
      refine wp_seq_k (fun K2781 hK2782 => ?_)
      refine wp_region_lit ?_
      refine stepl ha 19 (HW.ca (i := 0) (b := b2757) (C := #[.slice A0_0 a0.f0.length c0_0, .int .i64 a0.f1.f0, .string a0.f1.f1, .int .u32 a0.f2, .bool a0.f3]) (T := 27) (fr := (0, 0)) KR) 27 0 (.tmp 1) (.agg #[.slice A0_0 a0.f0.length c0_0, .int .i64 a0.f1.f0, .string a0.f1.f1, .int .u32 a0.f2, .bool a0.f3]) rfl KR KR KR ?_; clear ha a; intro a ha
      obtain ⟨t2783, ht2784, h_⟩ := bind_some' h; clear h; have h := h_; clear h_
      refine stepc ha 20 KR KR (headgatekeep_CopyTable.calls (⟨a0.f0, (⟨a0.f1.f0, a0.f1.f1⟩ : T_api_Hold), a0.f2, a0.f3⟩ : T_api_Table) A0_0 c0_0 t2783 _ ((HW.rd0 hr0_0)) ht2784) ?_; clear ha a; rintro e W2788 ⟨A2785, c2786, rfl, HX2789⟩
      refine ⟨_, rfl, ?_⟩; intro a ha; replace HW := HW.callw HX2789; clear HX2789
      obtain ⟨t2790, ht2791, h_⟩ := bind_some' h; clear h; have h := h_; clear h_
      refine stepc ha 21 KR KR (nresv_Report.calls K (⟨t2783.f0, (⟨t2783.f1.f0, t2783.f1.f1⟩ : T_api_Hold), t2783.f2, t2783.f3⟩ : T_api_Table) A2785 c2786 t2790 _ (HW.ca0 hG0) (HW.rdo (i := 0) (q := ⟨44, 2, .slice A2785 t2783.f0.length c2786, t2783.f0.length, encs T_api_Reg.enc t2783.f0⟩) KR) ht2791) ?_; clear ha a; rintro e W2792 ⟨rfl, HX2793⟩
      refine ⟨_, rfl, ?_⟩; intro a ha; replace HW := HW.callw HX2793; clear HX2793
      obtain ⟨t2794, ht2795, h_⟩ := bind_some' h; clear h; have h := h_; clear h_
      refine stepc ha 22 KR KR (nresv_Reported.calls K t2790 t2794 _ ht2795) ?_; clear ha a; rintro e W2799 ⟨A2796, c2797, rfl, HX2800⟩
      refine ⟨_, rfl, ?_⟩; intro a ha; replace HW := HW.callw HX2800; clear HX2800
      refine stepp ha 18 (.tuple #[.int .u32 t2794.1, .int .i64 t2794.2.1, .slice A2796 t2794.2.2.1.length c2797, .int .i64 t2794.2.2.2.1, .int .i64 t2794.2.2.2.2]) KR KR ?_; clear ha a; intro a ha
      refine stepp ha 23 (.int .u32 t2794.1) KR KR ?_; clear ha a; intro a ha
      refine stepp ha 24 (.int .i64 t2794.2.1) KR KR ?_; clear ha a; intro a ha
      refine stepp ha 25 (.slice A2796 t2794.2.2.1.length c2797) KR KR ?_; clear ha a; intro a ha
      refine stepp ha 26 (.int .i64 t2794.2.2.2.1) KR KR ?_; clear ha a; intro a ha
      refine stepp ha 27 (.int .i64 t2794.2.2.2.2) KR KR ?_; clear ha a; intro a ha
      refine stepp ha 3 (.int .u32 t2794.1) KR KR ?_; clear ha a; intro a ha
      refine stepp ha 4 (.int .i64 t2794.2.1) KR KR ?_; clear ha a; intro a ha
      refine stepp ha 5 (.slice A2796 t2794.2.2.1.length c2797) KR KR ?_; clear ha a; intro a ha
      refine stepp ha 6 (.int .i64 t2794.2.2.2.1) KR KR ?_; clear ha a; intro a ha
      refine stepp ha 7 (.int .i64 t2794.2.2.2.2) KR KR ?_; clear ha a; intro a ha
      refine endl ?_
      refine thenN (hK2782 _ _ ?_); clear hK2782
      refine wp_seq_k (fun K2801 hK2802 => ?_)
      refine wp_seq_k (fun K2803 hK2804 => ?_)
      refine wp_region_lit ?_
      refine stepp ha 28 (.int .i64 t2794.2.2.2.2) KR KR ?_; clear ha a; intro a ha
      refine stepp ha 29 (.bool (t2794.2.2.2.2 != 0)) KR KR ?_; clear ha a; intro a ha
      refine stepp ha 30 (.bool (t2794.2.2.2.2 != 0)) KR KR ?_; clear ha a; intro a ha
      by_cases hp2805 : t2794.2.2.2.2 = 0
      · skip
        replace h := ite_pos' h hp2805
        replace ha := ha.bool 30 KR (ineq_f hp2805)
        refine stepp ha 31 (.int .u32 t2794.1) KR KR ?_; clear ha a; intro a ha
        refine stepp ha 32 (.pointer (some ⟨b2757, 3, none⟩)) KR KR ?_; clear ha a; intro a ha
        refine stepl ha 33 (HW.ca (i := 0) (b := b2757) (C := #[.slice A0_0 a0.f0.length c0_0, .int .i64 a0.f1.f0, .string a0.f1.f1, .int .u32 a0.f2, .bool a0.f3]) (T := 27) (fr := (0, 0)) KR) 25 3 (.tmp 32) (.int .u32 a0.f2) rfl KR KR KR ?_; clear ha a; intro a ha
        refine stepp ha 34 (.bool (t2794.1 != a0.f2)) KR KR ?_; clear ha a; intro a ha
        refine stepp ha 35 (.bool (t2794.1 != a0.f2)) KR KR ?_; clear ha a; intro a ha
        refine stepp ha 36 (.bool (t2794.1 != a0.f2)) KR KR ?_; clear ha a; intro a ha
        by_cases hp2806 : t2794.1 = a0.f2
        · skip
          replace h := ite_pos' h hp2806
          replace ha := ha.bool 36 KR (ineq_f hp2806)
          refine stepp ha 37 (.int .i64 t2794.2.1) KR KR ?_; clear ha a; intro a ha
          refine stepp ha 38 (.pointer (some ⟨b2757, 1, none⟩)) KR KR ?_; clear ha a; intro a ha
          refine stepp ha 39 (.pointer (some ⟨b2757, 1, none⟩)) KR KR ?_; clear ha a; intro a ha
          refine stepl ha 40 (HW.ca (i := 0) (b := b2757) (C := #[.slice A0_0 a0.f0.length c0_0, .int .i64 a0.f1.f0, .string a0.f1.f1, .int .u32 a0.f2, .bool a0.f3]) (T := 27) (fr := (0, 0)) KR) 3 1 (.tmp 39) (.int .i64 a0.f1.f0) rfl KR KR KR ?_; clear ha a; intro a ha
          refine stepp ha 41 (.bool (t2794.2.1 != a0.f1.f0)) KR KR ?_; clear ha a; intro a ha
          refine stepp ha 42 (.bool (t2794.2.1 != a0.f1.f0)) KR KR ?_; clear ha a; intro a ha
          refine stepp ha 43 (.bool (t2794.2.1 != a0.f1.f0)) KR KR ?_; clear ha a; intro a ha
          by_cases hp2807 : t2794.2.1 = a0.f1.f0
          · skip
            replace h := ite_pos' h hp2807
            replace ha := ha.bool 43 KR (ineq_f hp2807)
            refine stepp ha 44 (.slice A2796 t2794.2.2.1.length c2797) KR KR ?_; clear ha a; intro a ha
            refine stepp ha 45 (.int .i64 (t2794.2.2.1.length : Int)) KR KR ?_; clear ha a; intro a ha
            refine stepp ha 46 (.pointer (some ⟨b2757, 0, none⟩)) KR KR ?_; clear ha a; intro a ha
            refine stepl ha 47 (HW.ca (i := 0) (b := b2757) (C := #[.slice A0_0 a0.f0.length c0_0, .int .i64 a0.f1.f0, .string a0.f1.f1, .int .u32 a0.f2, .bool a0.f3]) (T := 27) (fr := (0, 0)) KR) 22 0 (.tmp 46) (.slice A0_0 a0.f0.length c0_0) rfl KR KR KR ?_; clear ha a; intro a ha
            refine stepp ha 48 (.int .i64 (a0.f0.length : Int)) KR KR ?_; clear ha a; intro a ha
            refine stepp ha 49 (.bool ((t2794.2.2.1.length : Int) != (a0.f0.length : Int))) KR KR ?_; clear ha a; intro a ha
            refine stepp ha 50 (.bool ((t2794.2.2.1.length : Int) != (a0.f0.length : Int))) KR KR ?_; clear ha a; intro a ha
            refine endl ?_
            refine thenN (hK2804 _ _ ?_); clear hK2804
            by_cases hp2808 : (t2794.2.2.1.length : Int) = (a0.f0.length : Int)
            · skip
              replace h := ite_pos' h hp2808
              refine condF ha KR KR (t := ((t2794.2.2.1.length : Int) != (a0.f0.length : Int))) (ineq_f hp2808) ?_
              refine wp_skip ?_
              refine thenN (hK2802 _ _ ?_); clear hK2802
              refine wp_seq_k (fun K2817 hK2818 => ?_)
              refine wp_region_lit ?_
              refine stepp ha 8 (.int .i64 (-1)) KR KR ?_; clear ha a; intro a ha
              refine endl ?_
              refine thenN (hK2818 _ _ ?_); clear hK2818
              refine wp_seq_k (fun K2819 hK2820 => ?_)
              refine wp_seq_k (fun K2821 hK2822 => ?_)
              refine wp_region_lit ?_
              refine stepp ha 51 (.slice A2796 t2794.2.2.1.length c2797) KR KR ?_; clear ha a; intro a ha
              refine stepp ha 52 (.int .i64 (t2794.2.2.1.length : Int)) KR KR ?_; clear ha a; intro a ha
              refine stepp ha 53 (.int .i64 (IntKind.wrap .i64 ((t2794.2.2.1.length : Int) - 1))) KR KR ?_; clear ha a; intro a ha
              refine stepp ha 9 (.int .i64 (IntKind.wrap .i64 ((t2794.2.2.1.length : Int) - 1))) KR KR ?_; clear ha a; intro a ha
              refine endl ?_
              refine thenN (hK2822 _ _ ?_); clear hK2822
              refine wp_block ?_
              refine loopk (fun k => fun a W2910 => ∃ (x2908 : Int), ∃ (x2909 : Int), headgatelaw27_NresvTells.l0 K a0 t2794 k x2908 x2909 = some r ∧ Has 93 [(1, .pointer (some ⟨b2757, 0, none⟩)), (5, .slice A2796 t2794.2.2.1.length c2797), (6, .int .i64 t2794.2.2.2.1), (8, .int .i64 x2908), (9, .int .i64 x2909)] a ∧ Wd w W2910 [(b2757, .cells #[.slice A0_0 a0.f0.length c0_0, .int .i64 a0.f1.f0, .string a0.f1.f1, .int .u32 a0.f2, .bool a0.f3] 27 (0, 0))] [⟨44, 2, .slice A2796 t2794.2.2.1.length c2797, t2794.2.2.1.length, encs T_api_Reg.enc t2794.2.2.1⟩]) K ?_ ?_
              · skip
                exact ⟨(-1), IntKind.wrap .i64 ((t2794.2.2.1.length : Int) - 1), h, ha.sub (subs_cons KR (subs_cons KR (subs_cons KR (subs_cons KR (subs_cons KR (subs_nil _)))))), HW.pick [0] [0] (by decide) (by decide) KR KR⟩
              · skip
                intro k a W2910 hI
                obtain ⟨x2908, x2909, h, ha, HW⟩ := hI
                cases k with
                | zero => exact (none_some (show none = some r from h)).elim
                | succ k2911 =>
                  replace h : headgatelaw27_NresvTells.b0 K a0 t2794 (headgatelaw27_NresvTells.l0 K a0 t2794 k2911) x2908 x2909 = some r := h
                  obtain ⟨again2907, hag2912⟩ : ∃ g_, g_ = headgatelaw27_NresvTells.l0 K a0 t2794 k2911 := ⟨_, rfl⟩
                  rw [← hag2912] at h
                  unfold headgatelaw27_NresvTells.b0 at h
                  refine wp_seq_k (fun K2913 hK2914 => ?_)
                  refine wp_seq_k (fun K2915 hK2916 => ?_)
                  refine wp_region_lit ?_
                  refine stepp ha 54 (.int .i64 x2909) KR KR ?_; clear ha a; intro a ha
                  refine stepp ha 55 (.bool (decide (x2909 ≥ 0))) KR KR ?_; clear ha a; intro a ha
                  refine endl ?_
                  refine thenN (hK2916 _ _ ?_); clear hK2916
                  by_cases hp2917 : x2909 ≥ 0
                  · skip
                    replace h := ite_pos' h hp2917
                    refine condT ha KR KR (t := decide (x2909 ≥ 0)) (decide_eq_true hp2917) ?_
                    refine wp_skip ?_
                    refine thenN (hK2914 _ _ ?_); clear hK2914
                    refine wp_seq_k (fun K2918 hK2919 => ?_)
                    refine wp_block ?_
                    refine wp_seq_k (fun K2920 hK2921 => ?_)
                    refine wp_seq_k (fun K2922 hK2923 => ?_)
                    obtain ⟨hA2924, h_⟩ := asrt_some h; clear h; have h := h_; clear h_
                    obtain ⟨hA2925, h_⟩ := asrt_some h; clear h; have h := h_; clear h_
                    obtain ⟨b2927, off2928, hA2929⟩ := Rd.addr (HW.rdo (i := 0) (q := ⟨44, 2, .slice A2796 t2794.2.2.1.length c2797, t2794.2.2.1.length, encs T_api_Reg.enc t2794.2.2.1⟩) KR) hA2924 (show (x2909 : Int) < ((t2794.2.2.1).length : Int) from hA2925)
                    obtain ⟨hA2930, h_⟩ := asrt_some h; clear h; have h := h_; clear h_
                    obtain ⟨b2932, off2933, hA2934⟩ := Rd.addr ((HW.rd0 hr0_0)) hA2924 (show (x2909 : Int) < ((a0.f0).length : Int) from hA2930)
                    by_cases hp2935 : ((rdL T_api_Reg.z t2794.2.2.1 x2909).f1) = ((rdL T_api_Reg.z a0.f0 x2909).f1)
                    · skip
                      replace h := ite_pos' h hp2935
                      refine regionG 20 KR KR ha HW [.fix (.slice A2796 t2794.2.2.1.length c2797), .fix (.int .i64 x2909), .fix (.pointer (some ⟨b2927, off2928 + (x2909 : Int).toNat * 2, none⟩)), .fix (.pointer (some ⟨b2927, off2928 + (x2909 : Int).toNat * 2 + 1, none⟩)), .fix (.int .u64 ((rdL T_api_Reg.z t2794.2.2.1 x2909).f1)), .fix (.pointer (some ⟨b2757, 0, none⟩)), .fix (.slice A0_0 a0.f0.length c0_0), .fix (.int .i64 x2909), .fix (.pointer (some ⟨b2932, off2933 + (x2909 : Int).toNat * 2, none⟩)), .fix (.pointer (some ⟨b2932, off2933 + (x2909 : Int).toNat * 2 + 1, none⟩)), .fix (.int .u64 ((rdL T_api_Reg.z a0.f0 x2909).f1)), .fix (.bool (((rdL T_api_Reg.z t2794.2.2.1 x2909).f1) != ((rdL T_api_Reg.z a0.f0 x2909).f1))), .fix (.bool (((rdL T_api_Reg.z t2794.2.2.1 x2909).f1) != ((rdL T_api_Reg.z a0.f0 x2909).f1))), .fix (.slice A2796 t2794.2.2.1.length c2797), .fix (.int .i64 x2909), .fix (.pointer (some ⟨b2927, off2928 + (x2909 : Int).toNat * 2, none⟩)), .fix (.pointer (some ⟨b2927, off2928 + (x2909 : Int).toNat * 2, none⟩)), .fix (.string ((rdL T_api_Reg.z t2794.2.2.1 x2909).f0)), .fix (.bool (!(((rdL T_api_Reg.z t2794.2.2.1 x2909).f0).toList == (⟨#[]⟩ : ByteArray).toList))), .fix (.bool (!(((rdL T_api_Reg.z t2794.2.2.1 x2909).f0).toList == (⟨#[]⟩ : ByteArray).toList)))] ?_ ?_
                      · skip
                        refine ⟨?_, ?_, ?_, ?_, ?_, ?_, ?_, ?_, ?_, ?_, ?_, ?_, ?_, ?_, ?_, ?_, ?_, ?_, ?_, ?_, trivial⟩
                        · skip
                          intro a wr hn hd HW hs; have ha := hasNil hn hd
                          have ha := ha.add (seeE hs 5 (.slice A2796 t2794.2.2.1.length c2797) KR KR)
                          refine yStep ha 58 KR ?_; intro l_ ha HK
                          refine stepp ha 58 (.slice A2796 t2794.2.2.1.length c2797) KR KR ?_; intro ax hax; exact HK _ _ _ hax rfl (Below.refl _ _)
                        · skip
                          intro a wr hn hd HW hs; have ha := hasNil hn hd
                          have ha := ha.add (seeE hs 9 (.int .i64 x2909) KR KR)
                          refine yStep ha 59 KR ?_; intro l_ ha HK
                          refine stepp ha 59 (.int .i64 x2909) KR KR ?_; intro ax hax; exact HK _ _ _ hax rfl (Below.refl _ _)
                        · skip
                          intro a wr hn hd HW hs; have ha := hasNil hn hd
                          have ha := ha.add (seeF hs 58 0 (.slice A2796 t2794.2.2.1.length c2797) KR KR)
                          have ha := ha.add (seeF hs 59 1 (.int .i64 x2909) KR KR)
                          replace ha := ha.turn 58 (u := .slice A2796 t2794.2.2.1.length c2797) (v := .slice (some ⟨b2927, off2928, none⟩) t2794.2.2.1.length c2797) KR (by rw [hA2929])
                          refine yStep ha 60 KR ?_; intro l_ ha HK
                          refine stepif ha 60 (sz := 2) (len := t2794.2.2.1.length) (b := b2927) (off := off2928) (c := c2797) 22 44 (.tmp 58) (.tmp 59) .i64 x2909 rfl KR KR KR KR hA2924 (show (x2909 : Int) < ((t2794.2.2.1).length : Int) from hA2925) KR ?_; intro ax hax; exact HK _ _ _ hax rfl (Below.refl _ _)
                        · skip
                          intro a wr hn hd HW hs; have ha := hasNil hn hd
                          have ha := ha.add (seeF hs 60 2 (.pointer (some ⟨b2927, off2928 + (x2909 : Int).toNat * 2, none⟩)) KR KR)
                          refine yStep ha 61 KR ?_; intro l_ ha HK
                          refine stepp ha 61 (.pointer (some ⟨b2927, off2928 + (x2909 : Int).toNat * 2 + 1, none⟩)) KR KR ?_; intro ax hax; exact HK _ _ _ hax rfl (Below.refl _ _)
                        · skip
                          intro a wr hn hd HW hs; have ha := hasNil hn hd
                          have ha := ha.add (seeF hs 61 3 (.pointer (some ⟨b2927, off2928 + (x2909 : Int).toNat * 2 + 1, none⟩)) KR KR)
                          refine yStep ha 62 KR ?_; intro l_ ha HK
                          refine stepl ha 62 (Rd.ca T_api_Reg.enc T_api_Reg.z (fun _ => rfl) (by have h_ := (HW.rdo (i := 0) (q := ⟨44, 2, .slice A2796 t2794.2.2.1.length c2797, t2794.2.2.1.length, encs T_api_Reg.enc t2794.2.2.1⟩) KR); rw [hA2929] at h_; exact h_) hA2924 (show (x2909 : Int) < ((t2794.2.2.1).length : Int) from hA2925)) 42 1 (.tmp 61) (.int .u64 ((rdL T_api_Reg.z t2794.2.2.1 x2909).f1)) rfl KR KR KR ?_; intro ax hax; exact HK _ _ _ hax rfl (Below.refl _ _)
                        · skip
                          intro a wr hn hd HW hs; have ha := hasNil hn hd
                          have ha := ha.add (seeE hs 1 (.pointer (some ⟨b2757, 0, none⟩)) KR KR)
                          refine yStep ha 63 KR ?_; intro l_ ha HK
                          refine stepp ha 63 (.pointer (some ⟨b2757, 0, none⟩)) KR KR ?_; intro ax hax; exact HK _ _ _ hax rfl (Below.refl _ _)
                        · skip
                          intro a wr hn hd HW hs; have ha := hasNil hn hd
                          have ha := ha.add (seeF hs 63 5 (.pointer (some ⟨b2757, 0, none⟩)) KR KR)
                          refine yStep ha 64 KR ?_; intro l_ ha HK
                          refine stepl ha 64 (HW.ca (i := 0) (b := b2757) (C := #[.slice A0_0 a0.f0.length c0_0, .int .i64 a0.f1.f0, .string a0.f1.f1, .int .u32 a0.f2, .bool a0.f3]) (T := 27) (fr := (0, 0)) KR) 22 0 (.tmp 63) (.slice A0_0 a0.f0.length c0_0) rfl KR KR KR ?_; intro ax hax; exact HK _ _ _ hax rfl (Below.refl _ _)
                        · skip
                          intro a wr hn hd HW hs; have ha := hasNil hn hd
                          have ha := ha.add (seeE hs 9 (.int .i64 x2909) KR KR)
                          refine yStep ha 65 KR ?_; intro l_ ha HK
                          refine stepp ha 65 (.int .i64 x2909) KR KR ?_; intro ax hax; exact HK _ _ _ hax rfl (Below.refl _ _)
                        · skip
                          intro a wr hn hd HW hs; have ha := hasNil hn hd
                          have ha := ha.add (seeF hs 64 6 (.slice A0_0 a0.f0.length c0_0) KR KR)
                          have ha := ha.add (seeF hs 65 7 (.int .i64 x2909) KR KR)
                          replace ha := ha.turn 64 (u := .slice A0_0 a0.f0.length c0_0) (v := .slice (some ⟨b2932, off2933, none⟩) a0.f0.length c0_0) KR (by rw [hA2934])
                          refine yStep ha 66 KR ?_; intro l_ ha HK
                          refine stepif ha 66 (sz := 2) (len := a0.f0.length) (b := b2932) (off := off2933) (c := c0_0) 22 44 (.tmp 64) (.tmp 65) .i64 x2909 rfl KR KR KR KR hA2924 (show (x2909 : Int) < ((a0.f0).length : Int) from hA2930) KR ?_; intro ax hax; exact HK _ _ _ hax rfl (Below.refl _ _)
                        · skip
                          intro a wr hn hd HW hs; have ha := hasNil hn hd
                          have ha := ha.add (seeF hs 66 8 (.pointer (some ⟨b2932, off2933 + (x2909 : Int).toNat * 2, none⟩)) KR KR)
                          refine yStep ha 67 KR ?_; intro l_ ha HK
                          refine stepp ha 67 (.pointer (some ⟨b2932, off2933 + (x2909 : Int).toNat * 2 + 1, none⟩)) KR KR ?_; intro ax hax; exact HK _ _ _ hax rfl (Below.refl _ _)
                        · skip
                          intro a wr hn hd HW hs; have ha := hasNil hn hd
                          have ha := ha.add (seeF hs 67 9 (.pointer (some ⟨b2932, off2933 + (x2909 : Int).toNat * 2 + 1, none⟩)) KR KR)
                          refine yStep ha 68 KR ?_; intro l_ ha HK
                          refine stepl ha 68 (Rd.ca T_api_Reg.enc T_api_Reg.z (fun _ => rfl) (by have h_ := ((HW.rd0 hr0_0)); rw [hA2934] at h_; exact h_) hA2924 (show (x2909 : Int) < ((a0.f0).length : Int) from hA2930)) 42 1 (.tmp 67) (.int .u64 ((rdL T_api_Reg.z a0.f0 x2909).f1)) rfl KR KR KR ?_; intro ax hax; exact HK _ _ _ hax rfl (Below.refl _ _)
                        · skip
                          intro a wr hn hd HW hs; have ha := hasNil hn hd
                          have ha := ha.add (seeF hs 62 4 (.int .u64 ((rdL T_api_Reg.z t2794.2.2.1 x2909).f1)) KR KR)
                          have ha := ha.add (seeF hs 68 10 (.int .u64 ((rdL T_api_Reg.z a0.f0 x2909).f1)) KR KR)
                          refine yStep ha 69 KR ?_; intro l_ ha HK
                          refine stepp ha 69 (.bool (((rdL T_api_Reg.z t2794.2.2.1 x2909).f1) != ((rdL T_api_Reg.z a0.f0 x2909).f1))) KR KR ?_; intro ax hax; exact HK _ _ _ hax rfl (Below.refl _ _)
                        · skip
                          intro a wr hn hd HW hs; have ha := hasNil hn hd
                          have ha := ha.add (seeF hs 69 11 (.bool (((rdL T_api_Reg.z t2794.2.2.1 x2909).f1) != ((rdL T_api_Reg.z a0.f0 x2909).f1))) KR KR)
                          refine yStep ha 70 KR ?_; intro l_ ha HK
                          refine stepp ha 70 (.bool (((rdL T_api_Reg.z t2794.2.2.1 x2909).f1) != ((rdL T_api_Reg.z a0.f0 x2909).f1))) KR KR ?_; intro ax hax; exact HK _ _ _ hax rfl (Below.refl _ _)
                        · skip
                          intro a wr hn hd HW hs; have ha := hasNil hn hd
                          have ha := ha.add (seeE hs 5 (.slice A2796 t2794.2.2.1.length c2797) KR KR)
                          have ha := ha.add (seeF hs 70 12 (.bool (((rdL T_api_Reg.z t2794.2.2.1 x2909).f1) != ((rdL T_api_Reg.z a0.f0 x2909).f1))) KR KR)
                          have ha := ha.bool 70 KR (ineq_f hp2935)
                          refine yStep ha 71 KR ?_; intro l_ ha HK
                          refine stepp ha 71 (.slice A2796 t2794.2.2.1.length c2797) KR KR ?_; intro ax hax; exact HK _ _ _ hax rfl (Below.refl _ _)
                        · skip
                          intro a wr hn hd HW hs; have ha := hasNil hn hd
                          have ha := ha.add (seeE hs 9 (.int .i64 x2909) KR KR)
                          have ha := ha.add (seeF hs 70 12 (.bool (((rdL T_api_Reg.z t2794.2.2.1 x2909).f1) != ((rdL T_api_Reg.z a0.f0 x2909).f1))) KR KR)
                          have ha := ha.bool 70 KR (ineq_f hp2935)
                          refine yStep ha 72 KR ?_; intro l_ ha HK
                          refine stepp ha 72 (.int .i64 x2909) KR KR ?_; intro ax hax; exact HK _ _ _ hax rfl (Below.refl _ _)
                        · skip
                          intro a wr hn hd HW hs; have ha := hasNil hn hd
                          have ha := ha.add (seeF hs 71 13 (.slice A2796 t2794.2.2.1.length c2797) KR KR)
                          have ha := ha.add (seeF hs 72 14 (.int .i64 x2909) KR KR)
                          have ha := ha.add (seeF hs 70 12 (.bool (((rdL T_api_Reg.z t2794.2.2.1 x2909).f1) != ((rdL T_api_Reg.z a0.f0 x2909).f1))) KR KR)
                          have ha := ha.bool 70 KR (ineq_f hp2935)
                          replace ha := ha.turn 71 (u := .slice A2796 t2794.2.2.1.length c2797) (v := .slice (some ⟨b2927, off2928, none⟩) t2794.2.2.1.length c2797) KR (by rw [hA2929])
                          refine yStep ha 73 KR ?_; intro l_ ha HK
                          refine stepif ha 73 (sz := 2) (len := t2794.2.2.1.length) (b := b2927) (off := off2928) (c := c2797) 22 44 (.tmp 71) (.tmp 72) .i64 x2909 rfl KR KR KR KR hA2924 (show (x2909 : Int) < ((t2794.2.2.1).length : Int) from hA2925) KR ?_; intro ax hax; exact HK _ _ _ hax rfl (Below.refl _ _)
                        · skip
                          intro a wr hn hd HW hs; have ha := hasNil hn hd
                          have ha := ha.add (seeF hs 73 15 (.pointer (some ⟨b2927, off2928 + (x2909 : Int).toNat * 2, none⟩)) KR KR)
                          have ha := ha.add (seeF hs 70 12 (.bool (((rdL T_api_Reg.z t2794.2.2.1 x2909).f1) != ((rdL T_api_Reg.z a0.f0 x2909).f1))) KR KR)
                          have ha := ha.bool 70 KR (ineq_f hp2935)
                          refine yStep ha 74 KR ?_; intro l_ ha HK
                          refine stepp ha 74 (.pointer (some ⟨b2927, off2928 + (x2909 : Int).toNat * 2, none⟩)) KR KR ?_; intro ax hax; exact HK _ _ _ hax rfl (Below.refl _ _)
                        · skip
                          intro a wr hn hd HW hs; have ha := hasNil hn hd
                          have ha := ha.add (seeF hs 74 16 (.pointer (some ⟨b2927, off2928 + (x2909 : Int).toNat * 2, none⟩)) KR KR)
                          have ha := ha.add (seeF hs 70 12 (.bool (((rdL T_api_Reg.z t2794.2.2.1 x2909).f1) != ((rdL T_api_Reg.z a0.f0 x2909).f1))) KR KR)
                          have ha := ha.bool 70 KR (ineq_f hp2935)
                          refine yStep ha 75 KR ?_; intro l_ ha HK
                          refine stepl ha 75 (Rd.ca T_api_Reg.enc T_api_Reg.z (fun _ => rfl) (by have h_ := (HW.rdo (i := 0) (q := ⟨44, 2, .slice A2796 t2794.2.2.1.length c2797, t2794.2.2.1.length, encs T_api_Reg.enc t2794.2.2.1⟩) KR); rw [hA2929] at h_; exact h_) hA2924 (show (x2909 : Int) < ((t2794.2.2.1).length : Int) from hA2925)) 9 0 (.tmp 74) (.string ((rdL T_api_Reg.z t2794.2.2.1 x2909).f0)) rfl KR KR KR ?_; intro ax hax; exact HK _ _ _ hax rfl (Below.refl _ _)
                        · skip
                          intro a wr hn hd HW hs; have ha := hasNil hn hd
                          have ha := ha.add (seeF hs 75 17 (.string ((rdL T_api_Reg.z t2794.2.2.1 x2909).f0)) KR KR)
                          have ha := ha.add (seeF hs 70 12 (.bool (((rdL T_api_Reg.z t2794.2.2.1 x2909).f1) != ((rdL T_api_Reg.z a0.f0 x2909).f1))) KR KR)
                          have ha := ha.bool 70 KR (ineq_f hp2935)
                          refine yStep ha 76 KR ?_; intro l_ ha HK
                          refine stepp ha 76 (.bool (!(((rdL T_api_Reg.z t2794.2.2.1 x2909).f0).toList == (⟨#[]⟩ : ByteArray).toList))) KR KR ?_; intro ax hax; exact HK _ _ _ hax rfl (Below.refl _ _)
                        · skip
                          intro a wr hn hd HW hs; have ha := hasNil hn hd
                          have ha := ha.add (seeF hs 70 12 (.bool (((rdL T_api_Reg.z t2794.2.2.1 x2909).f1) != ((rdL T_api_Reg.z a0.f0 x2909).f1))) KR KR)
                          have ha := ha.bool 70 KR (ineq_f hp2935)
                          have ha := ha.add (seeF hs 76 18 (.bool (!(((rdL T_api_Reg.z t2794.2.2.1 x2909).f0).toList == (⟨#[]⟩ : ByteArray).toList))) KR KR)
                          refine yStep ha 77 KR ?_; intro l_ ha HK
                          refine stepp ha 77 (.bool (!(((rdL T_api_Reg.z t2794.2.2.1 x2909).f0).toList == (⟨#[]⟩ : ByteArray).toList))) KR KR ?_; intro ax hax; exact HK _ _ _ hax rfl (Below.refl _ _)
                      · skip
                        intro a W2937 ha HW he hf
                        replace ha := ha.add (he 1 (.pointer (some ⟨b2757, 0, none⟩)) KR KR)
                        replace ha := ha.add (he 5 (.slice A2796 t2794.2.2.1.length c2797) KR KR)
                        replace ha := ha.add (he 6 (.int .i64 t2794.2.2.2.1) KR KR)
                        replace ha := ha.add (he 8 (.int .i64 x2908) KR KR)
                        replace ha := ha.add (he 9 (.int .i64 x2909) KR KR)
                        replace ha := ha.add (gotF (m := 20) (j := 13) (d := 71) (v := .slice A2796 t2794.2.2.1.length c2797) hf KR KR KR)
                        replace ha := ha.add (gotF (m := 20) (j := 14) (d := 72) (v := .int .i64 x2909) hf KR KR KR)
                        replace ha := ha.add (gotF (m := 20) (j := 17) (d := 75) (v := .string ((rdL T_api_Reg.z t2794.2.2.1 x2909).f0)) hf KR KR KR)
                        replace ha := ha.add (gotF (m := 20) (j := 18) (d := 76) (v := .bool (!(((rdL T_api_Reg.z t2794.2.2.1 x2909).f0).toList == (⟨#[]⟩ : ByteArray).toList))) hf KR KR KR)
                        replace ha := ha.add (gotF (m := 20) (j := 19) (d := 77) (v := .bool (!(((rdL T_api_Reg.z t2794.2.2.1 x2909).f0).toList == (⟨#[]⟩ : ByteArray).toList))) hf KR KR KR)
                        clear he hf
                        refine endl ?_
                        refine thenN (hK2923 _ _ ?_); clear hK2923
                        by_cases hp2939 : ((rdL T_api_Reg.z t2794.2.2.1 x2909).f0) = (⟨#[]⟩ : ByteArray)
                        · skip
                          replace h := ite_pos' h hp2939
                          refine condF ha KR KR (t := (!(((rdL T_api_Reg.z t2794.2.2.1 x2909).f0).toList == (⟨#[]⟩ : ByteArray).toList))) (str_ne_f hp2939) ?_
                          refine wp_skip ?_
                          refine thenN (hK2921 _ _ ?_); clear hK2921
                          refine wp_seq_k (fun K2944 hK2945 => ?_)
                          obtain ⟨t2947, ht2948, h_⟩ := bind_some' h; clear h; have h := h_; clear h_
                          refine regionG 8 KR KR ha HW [.fix (.agg #[.slice A0_0 a0.f0.length c0_0, .int .i64 a0.f1.f0, .string a0.f1.f1, .int .u32 a0.f2, .bool a0.f3]), .fix (.pointer (some ⟨b2757, 0, none⟩)), .fix (.slice A0_0 a0.f0.length c0_0), .fix (.int .i64 x2909), .fix (.pointer (some ⟨b2932, off2933 + (x2909 : Int).toNat * 2, none⟩)), .fix (.pointer (some ⟨b2932, off2933 + (x2909 : Int).toNat * 2, none⟩)), .fix (.string ((rdL T_api_Reg.z a0.f0 x2909).f0)), .fix (.bool t2947)] ?_ ?_
                          · skip
                            refine ⟨?_, ?_, ?_, ?_, ?_, ?_, ?_, ?_, trivial⟩
                            · skip
                              intro a wr hn hd HW hs; have ha := hasNil hn hd
                              have ha := ha.add (seeE hs 1 (.pointer (some ⟨b2757, 0, none⟩)) KR KR)
                              refine yStep ha 78 KR ?_; intro l_ ha HK
                              refine stepl ha 78 (HW.ca (i := 0) (b := b2757) (C := #[.slice A0_0 a0.f0.length c0_0, .int .i64 a0.f1.f0, .string a0.f1.f1, .int .u32 a0.f2, .bool a0.f3]) (T := 27) (fr := (0, 0)) KR) 27 0 (.tmp 1) (.agg #[.slice A0_0 a0.f0.length c0_0, .int .i64 a0.f1.f0, .string a0.f1.f1, .int .u32 a0.f2, .bool a0.f3]) rfl KR KR KR ?_; intro ax hax; exact HK _ _ _ hax rfl (Below.refl _ _)
                            · skip
                              intro a wr hn hd HW hs; have ha := hasNil hn hd
                              have ha := ha.add (seeE hs 1 (.pointer (some ⟨b2757, 0, none⟩)) KR KR)
                              refine yStep ha 79 KR ?_; intro l_ ha HK
                              refine stepp ha 79 (.pointer (some ⟨b2757, 0, none⟩)) KR KR ?_; intro ax hax; exact HK _ _ _ hax rfl (Below.refl _ _)
                            · skip
                              intro a wr hn hd HW hs; have ha := hasNil hn hd
                              have ha := ha.add (seeF hs 79 1 (.pointer (some ⟨b2757, 0, none⟩)) KR KR)
                              refine yStep ha 80 KR ?_; intro l_ ha HK
                              refine stepl ha 80 (HW.ca (i := 0) (b := b2757) (C := #[.slice A0_0 a0.f0.length c0_0, .int .i64 a0.f1.f0, .string a0.f1.f1, .int .u32 a0.f2, .bool a0.f3]) (T := 27) (fr := (0, 0)) KR) 22 0 (.tmp 79) (.slice A0_0 a0.f0.length c0_0) rfl KR KR KR ?_; intro ax hax; exact HK _ _ _ hax rfl (Below.refl _ _)
                            · skip
                              intro a wr hn hd HW hs; have ha := hasNil hn hd
                              have ha := ha.add (seeE hs 9 (.int .i64 x2909) KR KR)
                              refine yStep ha 81 KR ?_; intro l_ ha HK
                              refine stepp ha 81 (.int .i64 x2909) KR KR ?_; intro ax hax; exact HK _ _ _ hax rfl (Below.refl _ _)
                            · skip
                              intro a wr hn hd HW hs; have ha := hasNil hn hd
                              have ha := ha.add (seeF hs 80 2 (.slice A0_0 a0.f0.length c0_0) KR KR)
                              have ha := ha.add (seeF hs 81 3 (.int .i64 x2909) KR KR)
                              replace ha := ha.turn 80 (u := .slice A0_0 a0.f0.length c0_0) (v := .slice (some ⟨b2932, off2933, none⟩) a0.f0.length c0_0) KR (by rw [hA2934])
                              refine yStep ha 82 KR ?_; intro l_ ha HK
                              refine stepif ha 82 (sz := 2) (len := a0.f0.length) (b := b2932) (off := off2933) (c := c0_0) 22 44 (.tmp 80) (.tmp 81) .i64 x2909 rfl KR KR KR KR hA2924 (show (x2909 : Int) < ((a0.f0).length : Int) from hA2930) KR ?_; intro ax hax; exact HK _ _ _ hax rfl (Below.refl _ _)
                            · skip
                              intro a wr hn hd HW hs; have ha := hasNil hn hd
                              have ha := ha.add (seeF hs 82 4 (.pointer (some ⟨b2932, off2933 + (x2909 : Int).toNat * 2, none⟩)) KR KR)
                              refine yStep ha 83 KR ?_; intro l_ ha HK
                              refine stepp ha 83 (.pointer (some ⟨b2932, off2933 + (x2909 : Int).toNat * 2, none⟩)) KR KR ?_; intro ax hax; exact HK _ _ _ hax rfl (Below.refl _ _)
                            · skip
                              intro a wr hn hd HW hs; have ha := hasNil hn hd
                              have ha := ha.add (seeF hs 83 5 (.pointer (some ⟨b2932, off2933 + (x2909 : Int).toNat * 2, none⟩)) KR KR)
                              refine yStep ha 84 KR ?_; intro l_ ha HK
                              refine stepl ha 84 (Rd.ca T_api_Reg.enc T_api_Reg.z (fun _ => rfl) (by have h_ := ((HW.rd0 hr0_0)); rw [hA2934] at h_; exact h_) hA2924 (show (x2909 : Int) < ((a0.f0).length : Int) from hA2930)) 9 0 (.tmp 83) (.string ((rdL T_api_Reg.z a0.f0 x2909).f0)) rfl KR KR KR ?_; intro ax hax; exact HK _ _ _ hax rfl (Below.refl _ _)
                            · skip
                              intro a wr hn hd HW hs; have ha := hasNil hn hd
                              have ha := ha.add (seeF hs 78 0 (.agg #[.slice A0_0 a0.f0.length c0_0, .int .i64 a0.f1.f0, .string a0.f1.f1, .int .u32 a0.f2, .bool a0.f3]) KR KR)
                              have ha := ha.add (seeF hs 84 6 (.string ((rdL T_api_Reg.z a0.f0 x2909).f0)) KR KR)
                              refine yStep ha 85 KR ?_; intro l_ ha HK
                              refine stepc ha 85 KR KR (access_Holds.calls K (⟨a0.f0, (⟨a0.f1.f0, a0.f1.f1⟩ : T_api_Hold), a0.f2, a0.f3⟩ : T_api_Table) ((rdL T_api_Reg.z a0.f0 x2909).f0) A0_0 c0_0 t2947 _ (HW.ca0 hG0) ((HW.rd0 hr0_0)) ht2948) ?_; rintro e W2949 ⟨rfl, HX2950⟩
                              refine ⟨_, rfl, ?_⟩; intro ax hax; exact HK _ _ _ hax rfl HX2950.below
                          · skip
                            intro a W2951 ha HW he hf
                            replace ha := ha.add (he 1 (.pointer (some ⟨b2757, 0, none⟩)) KR KR)
                            replace ha := ha.add (he 5 (.slice A2796 t2794.2.2.1.length c2797) KR KR)
                            replace ha := ha.add (he 6 (.int .i64 t2794.2.2.2.1) KR KR)
                            replace ha := ha.add (he 8 (.int .i64 x2908) KR KR)
                            replace ha := ha.add (he 9 (.int .i64 x2909) KR KR)
                            replace ha := ha.add (he 71 (.slice A2796 t2794.2.2.1.length c2797) KR KR)
                            replace ha := ha.add (he 72 (.int .i64 x2909) KR KR)
                            replace ha := ha.add (he 75 (.string ((rdL T_api_Reg.z t2794.2.2.1 x2909).f0)) KR KR)
                            replace ha := ha.add (he 76 (.bool (!(((rdL T_api_Reg.z t2794.2.2.1 x2909).f0).toList == (⟨#[]⟩ : ByteArray).toList))) KR KR)
                            replace ha := ha.add (gotF (m := 8) (j := 7) (d := 85) (v := .bool t2947) hf KR KR KR)
                            clear he hf
                            refine endl ?_
                            refine thenN (hK2945 _ _ ?_); clear hK2945
                            by_cases hp2952 : t2947 = true
                            · skip
                              replace h := ite_pos' h hp2952
                              refine condT ha KR KR (t := t2947) (hp2952) ?_
                              refine wp_region_lit ?_
                              refine stepp ha 86 (.int .i64 x2909) KR KR ?_; clear ha a; intro a ha
                              refine stepp ha 8 (.int .i64 x2909) KR KR ?_; clear ha a; intro a ha
                              refine endl ?_
                              refine blkN ?_
                              refine thenN (hK2919 _ _ ?_); clear hK2919
                              refine wp_region_lit ?_
                              refine stepp ha 56 (.int .i64 x2909) KR KR ?_; clear ha a; intro a ha
                              refine stepp ha 57 (.int .i64 (IntKind.wrap .i64 (x2909 - 1))) KR KR ?_; clear ha a; intro a ha
                              refine stepp ha 9 (.int .i64 (IntKind.wrap .i64 (x2909 - 1))) KR KR ?_; clear ha a; intro a ha
                              refine endl ?_
                              exact thenN ⟨k2911, Nat.lt_succ_self k2911, x2909, IntKind.wrap .i64 (x2909 - 1), (by rw [← hag2912]; exact h), ha.sub (subs_cons KR (subs_cons KR (subs_cons KR (subs_cons KR (subs_cons KR (subs_nil _)))))), HW.pick [0] [0] (by decide) (by decide) KR KR⟩
                            · skip
                              replace h := ite_neg' h hp2952
                              refine condF ha KR KR (t := t2947) (bool_f hp2952) ?_
                              refine wp_skip ?_
                              refine blkN ?_
                              refine thenN (hK2919 _ _ ?_); clear hK2919
                              refine wp_region_lit ?_
                              refine stepp ha 56 (.int .i64 x2909) KR KR ?_; clear ha a; intro a ha
                              refine stepp ha 57 (.int .i64 (IntKind.wrap .i64 (x2909 - 1))) KR KR ?_; clear ha a; intro a ha
                              refine stepp ha 9 (.int .i64 (IntKind.wrap .i64 (x2909 - 1))) KR KR ?_; clear ha a; intro a ha
                              refine endl ?_
                              exact thenN ⟨k2911, Nat.lt_succ_self k2911, x2908, IntKind.wrap .i64 (x2909 - 1), (by rw [← hag2912]; exact h), ha.sub (subs_cons KR (subs_cons KR (subs_cons KR (subs_cons KR (subs_cons KR (subs_nil _)))))), HW.pick [0] [0] (by decide) (by decide) KR KR⟩
                        · skip
                          replace h := ite_neg' h hp2939
                          refine condT ha KR KR (t := (!(((rdL T_api_Reg.z t2794.2.2.1 x2909).f0).toList == (⟨#[]⟩ : ByteArray).toList))) (str_ne_t hp2939) ?_
                          refine wp_seq_k (fun K2940 hK2941 => ?_)
                          refine wp_region_lit ?_
                          refine stepp ha 2 (.bool false) KR KR ?_; clear ha a; intro a ha
                          refine endl ?_
                          refine thenN (hK2941 _ _ ?_); clear hK2941
                          refine wp_ret ?_
                          refine thenR ?_
                          refine blkR ?_
                          refine thenR ?_
                          refine thenR ?_
                          refine blkR ?_
                          refine thenR ?_
                          obtain rfl := Option.some.inj h
                          exact finv ha _ _ rfl (.tmp (v := .bool false) KR .nil) (.bool false) rfl ⟨rfl, HW.pick [] [] (by decide) (by decide) rfl KR⟩
                    · skip
                      replace h := ite_neg' h hp2935
                      refine regionG 20 KR KR ha HW [.fix (.slice A2796 t2794.2.2.1.length c2797), .fix (.int .i64 x2909), .fix (.pointer (some ⟨b2927, off2928 + (x2909 : Int).toNat * 2, none⟩)), .fix (.pointer (some ⟨b2927, off2928 + (x2909 : Int).toNat * 2 + 1, none⟩)), .fix (.int .u64 ((rdL T_api_Reg.z t2794.2.2.1 x2909).f1)), .fix (.pointer (some ⟨b2757, 0, none⟩)), .fix (.slice A0_0 a0.f0.length c0_0), .fix (.int .i64 x2909), .fix (.pointer (some ⟨b2932, off2933 + (x2909 : Int).toNat * 2, none⟩)), .fix (.pointer (some ⟨b2932, off2933 + (x2909 : Int).toNat * 2 + 1, none⟩)), .fix (.int .u64 ((rdL T_api_Reg.z a0.f0 x2909).f1)), .fix (.bool (((rdL T_api_Reg.z t2794.2.2.1 x2909).f1) != ((rdL T_api_Reg.z a0.f0 x2909).f1))), .fix (.bool (((rdL T_api_Reg.z t2794.2.2.1 x2909).f1) != ((rdL T_api_Reg.z a0.f0 x2909).f1))), .fix undef, .fix undef, .fix undef, .fix undef, .fix undef, .fix undef, .fix (.bool true)] ?_ ?_
                      · skip
                        refine ⟨?_, ?_, ?_, ?_, ?_, ?_, ?_, ?_, ?_, ?_, ?_, ?_, ?_, ?_, ?_, ?_, ?_, ?_, ?_, ?_, trivial⟩
                        · skip
                          intro a wr hn hd HW hs; have ha := hasNil hn hd
                          have ha := ha.add (seeE hs 5 (.slice A2796 t2794.2.2.1.length c2797) KR KR)
                          refine yStep ha 58 KR ?_; intro l_ ha HK
                          refine stepp ha 58 (.slice A2796 t2794.2.2.1.length c2797) KR KR ?_; intro ax hax; exact HK _ _ _ hax rfl (Below.refl _ _)
                        · skip
                          intro a wr hn hd HW hs; have ha := hasNil hn hd
                          have ha := ha.add (seeE hs 9 (.int .i64 x2909) KR KR)
                          refine yStep ha 59 KR ?_; intro l_ ha HK
                          refine stepp ha 59 (.int .i64 x2909) KR KR ?_; intro ax hax; exact HK _ _ _ hax rfl (Below.refl _ _)
                        · skip
                          intro a wr hn hd HW hs; have ha := hasNil hn hd
                          have ha := ha.add (seeF hs 58 0 (.slice A2796 t2794.2.2.1.length c2797) KR KR)
                          have ha := ha.add (seeF hs 59 1 (.int .i64 x2909) KR KR)
                          replace ha := ha.turn 58 (u := .slice A2796 t2794.2.2.1.length c2797) (v := .slice (some ⟨b2927, off2928, none⟩) t2794.2.2.1.length c2797) KR (by rw [hA2929])
                          refine yStep ha 60 KR ?_; intro l_ ha HK
                          refine stepif ha 60 (sz := 2) (len := t2794.2.2.1.length) (b := b2927) (off := off2928) (c := c2797) 22 44 (.tmp 58) (.tmp 59) .i64 x2909 rfl KR KR KR KR hA2924 (show (x2909 : Int) < ((t2794.2.2.1).length : Int) from hA2925) KR ?_; intro ax hax; exact HK _ _ _ hax rfl (Below.refl _ _)
                        · skip
                          intro a wr hn hd HW hs; have ha := hasNil hn hd
                          have ha := ha.add (seeF hs 60 2 (.pointer (some ⟨b2927, off2928 + (x2909 : Int).toNat * 2, none⟩)) KR KR)
                          refine yStep ha 61 KR ?_; intro l_ ha HK
                          refine stepp ha 61 (.pointer (some ⟨b2927, off2928 + (x2909 : Int).toNat * 2 + 1, none⟩)) KR KR ?_; intro ax hax; exact HK _ _ _ hax rfl (Below.refl _ _)
                        · skip
                          intro a wr hn hd HW hs; have ha := hasNil hn hd
                          have ha := ha.add (seeF hs 61 3 (.pointer (some ⟨b2927, off2928 + (x2909 : Int).toNat * 2 + 1, none⟩)) KR KR)
                          refine yStep ha 62 KR ?_; intro l_ ha HK
                          refine stepl ha 62 (Rd.ca T_api_Reg.enc T_api_Reg.z (fun _ => rfl) (by have h_ := (HW.rdo (i := 0) (q := ⟨44, 2, .slice A2796 t2794.2.2.1.length c2797, t2794.2.2.1.length, encs T_api_Reg.enc t2794.2.2.1⟩) KR); rw [hA2929] at h_; exact h_) hA2924 (show (x2909 : Int) < ((t2794.2.2.1).length : Int) from hA2925)) 42 1 (.tmp 61) (.int .u64 ((rdL T_api_Reg.z t2794.2.2.1 x2909).f1)) rfl KR KR KR ?_; intro ax hax; exact HK _ _ _ hax rfl (Below.refl _ _)
                        · skip
                          intro a wr hn hd HW hs; have ha := hasNil hn hd
                          have ha := ha.add (seeE hs 1 (.pointer (some ⟨b2757, 0, none⟩)) KR KR)
                          refine yStep ha 63 KR ?_; intro l_ ha HK
                          refine stepp ha 63 (.pointer (some ⟨b2757, 0, none⟩)) KR KR ?_; intro ax hax; exact HK _ _ _ hax rfl (Below.refl _ _)
                        · skip
                          intro a wr hn hd HW hs; have ha := hasNil hn hd
                          have ha := ha.add (seeF hs 63 5 (.pointer (some ⟨b2757, 0, none⟩)) KR KR)
                          refine yStep ha 64 KR ?_; intro l_ ha HK
                          refine stepl ha 64 (HW.ca (i := 0) (b := b2757) (C := #[.slice A0_0 a0.f0.length c0_0, .int .i64 a0.f1.f0, .string a0.f1.f1, .int .u32 a0.f2, .bool a0.f3]) (T := 27) (fr := (0, 0)) KR) 22 0 (.tmp 63) (.slice A0_0 a0.f0.length c0_0) rfl KR KR KR ?_; intro ax hax; exact HK _ _ _ hax rfl (Below.refl _ _)
                        · skip
                          intro a wr hn hd HW hs; have ha := hasNil hn hd
                          have ha := ha.add (seeE hs 9 (.int .i64 x2909) KR KR)
                          refine yStep ha 65 KR ?_; intro l_ ha HK
                          refine stepp ha 65 (.int .i64 x2909) KR KR ?_; intro ax hax; exact HK _ _ _ hax rfl (Below.refl _ _)
                        · skip
                          intro a wr hn hd HW hs; have ha := hasNil hn hd
                          have ha := ha.add (seeF hs 64 6 (.slice A0_0 a0.f0.length c0_0) KR KR)
                          have ha := ha.add (seeF hs 65 7 (.int .i64 x2909) KR KR)
                          replace ha := ha.turn 64 (u := .slice A0_0 a0.f0.length c0_0) (v := .slice (some ⟨b2932, off2933, none⟩) a0.f0.length c0_0) KR (by rw [hA2934])
                          refine yStep ha 66 KR ?_; intro l_ ha HK
                          refine stepif ha 66 (sz := 2) (len := a0.f0.length) (b := b2932) (off := off2933) (c := c0_0) 22 44 (.tmp 64) (.tmp 65) .i64 x2909 rfl KR KR KR KR hA2924 (show (x2909 : Int) < ((a0.f0).length : Int) from hA2930) KR ?_; intro ax hax; exact HK _ _ _ hax rfl (Below.refl _ _)
                        · skip
                          intro a wr hn hd HW hs; have ha := hasNil hn hd
                          have ha := ha.add (seeF hs 66 8 (.pointer (some ⟨b2932, off2933 + (x2909 : Int).toNat * 2, none⟩)) KR KR)
                          refine yStep ha 67 KR ?_; intro l_ ha HK
                          refine stepp ha 67 (.pointer (some ⟨b2932, off2933 + (x2909 : Int).toNat * 2 + 1, none⟩)) KR KR ?_; intro ax hax; exact HK _ _ _ hax rfl (Below.refl _ _)
                        · skip
                          intro a wr hn hd HW hs; have ha := hasNil hn hd
                          have ha := ha.add (seeF hs 67 9 (.pointer (some ⟨b2932, off2933 + (x2909 : Int).toNat * 2 + 1, none⟩)) KR KR)
                          refine yStep ha 68 KR ?_; intro l_ ha HK
                          refine stepl ha 68 (Rd.ca T_api_Reg.enc T_api_Reg.z (fun _ => rfl) (by have h_ := ((HW.rd0 hr0_0)); rw [hA2934] at h_; exact h_) hA2924 (show (x2909 : Int) < ((a0.f0).length : Int) from hA2930)) 42 1 (.tmp 67) (.int .u64 ((rdL T_api_Reg.z a0.f0 x2909).f1)) rfl KR KR KR ?_; intro ax hax; exact HK _ _ _ hax rfl (Below.refl _ _)
                        · skip
                          intro a wr hn hd HW hs; have ha := hasNil hn hd
                          have ha := ha.add (seeF hs 62 4 (.int .u64 ((rdL T_api_Reg.z t2794.2.2.1 x2909).f1)) KR KR)
                          have ha := ha.add (seeF hs 68 10 (.int .u64 ((rdL T_api_Reg.z a0.f0 x2909).f1)) KR KR)
                          refine yStep ha 69 KR ?_; intro l_ ha HK
                          refine stepp ha 69 (.bool (((rdL T_api_Reg.z t2794.2.2.1 x2909).f1) != ((rdL T_api_Reg.z a0.f0 x2909).f1))) KR KR ?_; intro ax hax; exact HK _ _ _ hax rfl (Below.refl _ _)
                        · skip
                          intro a wr hn hd HW hs; have ha := hasNil hn hd
                          have ha := ha.add (seeF hs 69 11 (.bool (((rdL T_api_Reg.z t2794.2.2.1 x2909).f1) != ((rdL T_api_Reg.z a0.f0 x2909).f1))) KR KR)
                          refine yStep ha 70 KR ?_; intro l_ ha HK
                          refine stepp ha 70 (.bool (((rdL T_api_Reg.z t2794.2.2.1 x2909).f1) != ((rdL T_api_Reg.z a0.f0 x2909).f1))) KR KR ?_; intro ax hax; exact HK _ _ _ hax rfl (Below.refl _ _)
                        · skip
                          intro a wr hn hd HW hs; have ha := hasNil hn hd
                          have ha := ha.add (seeE hs 5 (.slice A2796 t2794.2.2.1.length c2797) KR KR)
                          have ha := ha.add (seeF hs 70 12 (.bool (((rdL T_api_Reg.z t2794.2.2.1 x2909).f1) != ((rdL T_api_Reg.z a0.f0 x2909).f1))) KR KR)
                          have ha := ha.bool 70 KR (ineq_t hp2935)
                          exact yo ha KR rfl
                        · skip
                          intro a wr hn hd HW hs; have ha := hasNil hn hd
                          have ha := ha.add (seeE hs 9 (.int .i64 x2909) KR KR)
                          have ha := ha.add (seeF hs 70 12 (.bool (((rdL T_api_Reg.z t2794.2.2.1 x2909).f1) != ((rdL T_api_Reg.z a0.f0 x2909).f1))) KR KR)
                          have ha := ha.bool 70 KR (ineq_t hp2935)
                          exact yo ha KR rfl
                        · skip
                          intro a wr hn hd HW hs; have ha := hasNil hn hd
                          have ha := ha.add (seeF hs 71 13 (undef) KR KR)
                          have ha := ha.add (seeF hs 72 14 (undef) KR KR)
                          have ha := ha.add (seeF hs 70 12 (.bool (((rdL T_api_Reg.z t2794.2.2.1 x2909).f1) != ((rdL T_api_Reg.z a0.f0 x2909).f1))) KR KR)
                          have ha := ha.bool 70 KR (ineq_t hp2935)
                          exact yo ha KR rfl
                        · skip
                          intro a wr hn hd HW hs; have ha := hasNil hn hd
                          have ha := ha.add (seeF hs 73 15 (undef) KR KR)
                          have ha := ha.add (seeF hs 70 12 (.bool (((rdL T_api_Reg.z t2794.2.2.1 x2909).f1) != ((rdL T_api_Reg.z a0.f0 x2909).f1))) KR KR)
                          have ha := ha.bool 70 KR (ineq_t hp2935)
                          exact yo ha KR rfl
                        · skip
                          intro a wr hn hd HW hs; have ha := hasNil hn hd
                          have ha := ha.add (seeF hs 74 16 (undef) KR KR)
                          have ha := ha.add (seeF hs 70 12 (.bool (((rdL T_api_Reg.z t2794.2.2.1 x2909).f1) != ((rdL T_api_Reg.z a0.f0 x2909).f1))) KR KR)
                          have ha := ha.bool 70 KR (ineq_t hp2935)
                          exact yo ha KR rfl
                        · skip
                          intro a wr hn hd HW hs; have ha := hasNil hn hd
                          have ha := ha.add (seeF hs 75 17 (undef) KR KR)
                          have ha := ha.add (seeF hs 70 12 (.bool (((rdL T_api_Reg.z t2794.2.2.1 x2909).f1) != ((rdL T_api_Reg.z a0.f0 x2909).f1))) KR KR)
                          have ha := ha.bool 70 KR (ineq_t hp2935)
                          exact yo ha KR rfl
                        · skip
                          intro a wr hn hd HW hs; have ha := hasNil hn hd
                          have ha := ha.add (seeF hs 70 12 (.bool (((rdL T_api_Reg.z t2794.2.2.1 x2909).f1) != ((rdL T_api_Reg.z a0.f0 x2909).f1))) KR KR)
                          have ha := ha.bool 70 KR (ineq_t hp2935)
                          have ha := ha.add (seeF hs 76 18 (undef) KR KR)
                          refine yStep ha 77 KR ?_; intro l_ ha HK
                          refine stepp ha 77 (.bool true) KR KR ?_; intro ax hax; exact HK _ _ _ hax rfl (Below.refl _ _)
                      · skip
                        intro a W2938 ha HW he hf
                        replace ha := ha.add (he 1 (.pointer (some ⟨b2757, 0, none⟩)) KR KR)
                        replace ha := ha.add (he 5 (.slice A2796 t2794.2.2.1.length c2797) KR KR)
                        replace ha := ha.add (he 6 (.int .i64 t2794.2.2.2.1) KR KR)
                        replace ha := ha.add (he 8 (.int .i64 x2908) KR KR)
                        replace ha := ha.add (he 9 (.int .i64 x2909) KR KR)
                        replace ha := ha.add (gotF (m := 20) (j := 19) (d := 77) (v := .bool true) hf KR KR KR)
                        clear he hf
                        refine endl ?_
                        refine thenN (hK2923 _ _ ?_); clear hK2923
                        refine condT ha KR KR (t := true) (rfl) ?_
                        refine wp_seq_k (fun K2942 hK2943 => ?_)
                        refine wp_region_lit ?_
                        refine stepp ha 2 (.bool false) KR KR ?_; clear ha a; intro a ha
                        refine endl ?_
                        refine thenN (hK2943 _ _ ?_); clear hK2943
                        refine wp_ret ?_
                        refine thenR ?_
                        refine blkR ?_
                        refine thenR ?_
                        refine thenR ?_
                        refine blkR ?_
                        refine thenR ?_
                        obtain rfl := Option.some.inj h
                        exact finv ha _ _ rfl (.tmp (v := .bool false) KR .nil) (.bool false) rfl ⟨rfl, HW.pick [] [] (by decide) (by decide) rfl KR⟩
                  · skip
                    replace h := ite_neg' h hp2917
                    refine condF ha KR KR (t := decide (x2909 ≥ 0)) (decide_eq_false hp2917) ?_
                    refine wp_exit ?_
                    refine thenE ?_
                    refine thenE ?_
                    refine inBlk ?_
                    refine thenN (hK2820 _ _ ?_); clear hK2820
                    refine wp_seq_k (fun K2953 hK2954 => ?_)
                    refine wp_region_lit ?_
                    refine stepp ha 87 (.int .i64 t2794.2.2.2.1) KR KR ?_; clear ha a; intro a ha
                    refine stepp ha 88 (.int .i64 x2908) KR KR ?_; clear ha a; intro a ha
                    refine stepp ha 89 (.bool (t2794.2.2.2.1 == x2908)) KR KR ?_; clear ha a; intro a ha
                    refine stepp ha 90 (.bool (t2794.2.2.2.1 == x2908)) KR KR ?_; clear ha a; intro a ha
                    by_cases hp2955 : t2794.2.2.2.1 = x2908
                    · skip
                      replace h := ite_pos' h hp2955
                      replace ha := ha.bool 90 KR (ieq_t hp2955)
                      obtain ⟨t2956, ht2957, h_⟩ := bind_some' h; clear h; have h := h_; clear h_
                      refine stepc ha 91 KR KR (headgatelaw27_wakes.calls K t2956 _ (HW.ca0 hG0) (HW.ca0 hG1) (HW.ca0 hG2) ht2957) ?_; clear ha a; rintro e W2958 ⟨rfl, HX2959⟩
                      refine ⟨_, rfl, ?_⟩; intro a ha; replace HW := HW.callw HX2959; clear HX2959
                      refine stepp ha 92 (.bool t2956) KR KR ?_; clear ha a; intro a ha
                      refine stepp ha 2 (.bool t2956) KR KR ?_; clear ha a; intro a ha
                      refine endl ?_
                      refine thenN (hK2954 _ _ ?_); clear hK2954
                      refine wp_ret ?_
                      obtain rfl := Option.some.inj h
                      exact finv ha _ _ rfl (.tmp (v := .bool t2956) KR .nil) (.bool t2956) rfl ⟨rfl, HW.pick [] [] (by decide) (by decide) rfl KR⟩
                    · skip
                      replace h := ite_neg' h hp2955
                      replace ha := ha.bool 90 KR (ieq_f hp2955)
                      refine stepo ha 91 KR ?_; clear ha a; intro a ha
                      refine stepp ha 92 (.bool false) KR KR ?_; clear ha a; intro a ha
                      refine stepp ha 2 (.bool false) KR KR ?_; clear ha a; intro a ha
                      refine endl ?_
                      refine thenN (hK2954 _ _ ?_); clear hK2954
                      refine wp_ret ?_
                      obtain rfl := Option.some.inj h
                      exact finv ha _ _ rfl (.tmp (v := .bool false) KR .nil) (.bool false) rfl ⟨rfl, HW.pick [] [] (by decide) (by decide) rfl KR⟩
            · skip
              replace h := ite_neg' h hp2808
              refine condT ha KR KR (t := ((t2794.2.2.1.length : Int) != (a0.f0.length : Int))) (ineq_t hp2808) ?_
              refine wp_seq_k (fun K2809 hK2810 => ?_)
              refine wp_region_lit ?_
              refine stepp ha 2 (.bool false) KR KR ?_; clear ha a; intro a ha
              refine endl ?_
              refine thenN (hK2810 _ _ ?_); clear hK2810
              refine wp_ret ?_
              refine thenR ?_
              obtain rfl := Option.some.inj h
              exact finv ha _ _ rfl (.tmp (v := .bool false) KR .nil) (.bool false) rfl ⟨rfl, HW.pick [] [] (by decide) (by decide) rfl KR⟩
          · skip
            replace h := ite_neg' h hp2807
            replace ha := ha.bool 43 KR (ineq_t hp2807)
            refine stepo ha 44 KR ?_; clear ha a; intro a ha
            refine stepo ha 45 KR ?_; clear ha a; intro a ha
            refine stepo ha 46 KR ?_; clear ha a; intro a ha
            refine stepo ha 47 KR ?_; clear ha a; intro a ha
            refine stepo ha 48 KR ?_; clear ha a; intro a ha
            refine stepo ha 49 KR ?_; clear ha a; intro a ha
            refine stepp ha 50 (.bool true) KR KR ?_; clear ha a; intro a ha
            refine endl ?_
            refine thenN (hK2804 _ _ ?_); clear hK2804
            refine condT ha KR KR (t := true) (rfl) ?_
            refine wp_seq_k (fun K2811 hK2812 => ?_)
            refine wp_region_lit ?_
            refine stepp ha 2 (.bool false) KR KR ?_; clear ha a; intro a ha
            refine endl ?_
            refine thenN (hK2812 _ _ ?_); clear hK2812
            refine wp_ret ?_
            refine thenR ?_
            obtain rfl := Option.some.inj h
            exact finv ha _ _ rfl (.tmp (v := .bool false) KR .nil) (.bool false) rfl ⟨rfl, HW.pick [] [] (by decide) (by decide) rfl KR⟩
        · skip
          replace h := ite_neg' h hp2806
          replace ha := ha.bool 36 KR (ineq_t hp2806)
          refine stepo ha 37 KR ?_; clear ha a; intro a ha
          refine stepo ha 38 KR ?_; clear ha a; intro a ha
          refine stepo ha 39 KR ?_; clear ha a; intro a ha
          refine stepo ha 40 KR ?_; clear ha a; intro a ha
          refine stepo ha 41 KR ?_; clear ha a; intro a ha
          refine stepp ha 42 (.bool true) KR KR ?_; clear ha a; intro a ha
          refine stepp ha 43 (.bool true) KR KR ?_; clear ha a; intro a ha
          refine stepo ha 44 KR ?_; clear ha a; intro a ha
          refine stepo ha 45 KR ?_; clear ha a; intro a ha
          refine stepo ha 46 KR ?_; clear ha a; intro a ha
          refine stepo ha 47 KR ?_; clear ha a; intro a ha
          refine stepo ha 48 KR ?_; clear ha a; intro a ha
          refine stepo ha 49 KR ?_; clear ha a; intro a ha
          refine stepp ha 50 (.bool true) KR KR ?_; clear ha a; intro a ha
          refine endl ?_
          refine thenN (hK2804 _ _ ?_); clear hK2804
          refine condT ha KR KR (t := true) (rfl) ?_
          refine wp_seq_k (fun K2813 hK2814 => ?_)
          refine wp_region_lit ?_
          refine stepp ha 2 (.bool false) KR KR ?_; clear ha a; intro a ha
          refine endl ?_
          refine thenN (hK2814 _ _ ?_); clear hK2814
          refine wp_ret ?_
          refine thenR ?_
          obtain rfl := Option.some.inj h
          exact finv ha _ _ rfl (.tmp (v := .bool false) KR .nil) (.bool false) rfl ⟨rfl, HW.pick [] [] (by decide) (by decide) rfl KR⟩
      · skip
        replace h := ite_neg' h hp2805
        replace ha := ha.bool 30 KR (ineq_t hp2805)
        refine stepo ha 31 KR ?_; clear ha a; intro a ha
        refine stepo ha 32 KR ?_; clear ha a; intro a ha
        refine stepo ha 33 KR ?_; clear ha a; intro a ha
        refine stepo ha 34 KR ?_; clear ha a; intro a ha
        refine stepp ha 35 (.bool true) KR KR ?_; clear ha a; intro a ha
        refine stepp ha 36 (.bool true) KR KR ?_; clear ha a; intro a ha
        refine stepo ha 37 KR ?_; clear ha a; intro a ha
        refine stepo ha 38 KR ?_; clear ha a; intro a ha
        refine stepo ha 39 KR ?_; clear ha a; intro a ha
        refine stepo ha 40 KR ?_; clear ha a; intro a ha
        refine stepo ha 41 KR ?_; clear ha a; intro a ha
        refine stepp ha 42 (.bool true) KR KR ?_; clear ha a; intro a ha
        refine stepp ha 43 (.bool true) KR KR ?_; clear ha a; intro a ha
        refine stepo ha 44 KR ?_; clear ha a; intro a ha
        refine stepo ha 45 KR ?_; clear ha a; intro a ha
        refine stepo ha 46 KR ?_; clear ha a; intro a ha
        refine stepo ha 47 KR ?_; clear ha a; intro a ha
        refine stepo ha 48 KR ?_; clear ha a; intro a ha
        refine stepo ha 49 KR ?_; clear ha a; intro a ha
        refine stepp ha 50 (.bool true) KR KR ?_; clear ha a; intro a ha
        refine endl ?_
        refine thenN (hK2804 _ _ ?_); clear hK2804
        refine condT ha KR KR (t := true) (rfl) ?_
        refine wp_seq_k (fun K2815 hK2816 => ?_)
        refine wp_region_lit ?_
        refine stepp ha 2 (.bool false) KR KR ?_; clear ha a; intro a ha
        refine endl ?_
        refine thenN (hK2816 _ _ ?_); clear hK2816
        refine wp_ret ?_
        refine thenR ?_
        obtain rfl := Option.some.inj h
        exact finv ha _ _ rfl (.tmp (v := .bool false) KR .nil) (.bool false) rfl ⟨rfl, HW.pick [] [] (by decide) (by decide) rfl KR⟩
end Go.Proofs.YthjjbkgifelooaaDoor.F
