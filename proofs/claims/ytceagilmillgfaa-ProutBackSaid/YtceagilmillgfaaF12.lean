/- headgate/prout.Keys: a plain function, and that the call comes to what it says. No condition. -/
import Derived.Test.YtceagilmillgfaaFT
import Derived.Test.YtceagilmillgfaaF16
import Derived.Test.YtceagilmillgfaaF20
import Derived.Test.YtceagilmillgfaaF21
namespace Go.Proofs.Ytceagilmillgfaa.F
open Go Go.RowKit Go.Proofs.Ytceagilmillgfaa.X
set_option linter.unusedVariables false
set_option linter.unusedSimpArgs false
/-! ### headgate/prout.Keys: function 12 -/
def prout_Keys.b0 (K : Nat) (t766 : List T_api_Reg) (again834 : ByteArray → Int → Option ByteArray) (x835 : ByteArray) (x836 : Int) : Option ByteArray :=
  if x836 < (t766.length : Int) then (asrt (0 ≤ x836) ((prout_key.f K ((rdL T_api_Reg.z t766 x836).f1)).bind fun t856 => (asrt (x835.size + t856.size ≤ 9223372036854775807) (again834 (x835 ++ t856) (IntKind.wrap .i64 (x836 + 1)))))) else (some x835)
def prout_Keys.l0 (K : Nat) (t766 : List T_api_Reg) : Nat → ByteArray → Int → Option ByteArray
  | 0, _, _ => none
  | k_ + 1, x835, x836 => prout_Keys.b0 K t766 (prout_Keys.l0 K t766 k_) x835 x836
def prout_Keys.f (K : Nat) (a0 : Int) (a1 : List T_api_Reg) : Option ByteArray :=
  (prout_few.f a1).bind fun t766 => ((fields_PutBig.f K (IntKind.wrap .u64 a0) 4).bind fun t775 => ((fields_PutBig.f K (IntKind.wrap .u64 (IntKind.wrap .i64 (8 * (t766.length : Int)))) 4).bind fun t779 => (asrt (t775.size + t779.size ≤ 9223372036854775807) (prout_Keys.l0 K t766 K (t775 ++ t779) 0))))
set_option maxRecDepth 100000 in
set_option maxHeartbeats 4000000 in
theorem prout_Keys.calls (K : Nat) (a0 : Int) (a1 : List T_api_Reg) (A1_0 : Option Addr) (c1_0 : Nat) (r : ByteArray) (w : World) (hr1_0 : Rd 2 w (.slice A1_0 a1.length c1_0) a1.length (encs T_api_Reg.enc a1)) (h : prout_Keys.f K a0 a1 = some r) :
    Calls Try.prog 12 #[.int .u32 a0, .slice A1_0 a1.length c1_0] w (fun e W' => e = .returned (.string r) ∧ Wd w W' [] [] ) := by
  refine sxstart (n := 32) (l := [(0, .int .u32 a0), (1, .slice A1_0 a1.length c1_0)]) Try.func12 rfl rfl (Nat.le_of_ble_eq_true (by kernel_rfl)) (subsA_cons rfl (subsA_cons rfl (subsA_nil _))) ?_
  intro a ha
  have HW := Wd.refl w
  unfold prout_Keys.f at h
  refine wp_seq_k (fun K762 hK763 => ?_)
  refine wp_region_lit ?_
  refine stepp ha 4 (.string (⟨#[]⟩ : ByteArray)) (by kernel_rfl) (by kernel_rfl) ?_; clear ha a; intro a ha
  refine endl ?_
  refine thenN (hK763 _ _ ?_); clear hK763
  refine wp_seq_k (fun K764 hK765 => ?_)
  refine wp_region_lit ?_
  refine stepp ha 8 (.slice A1_0 a1.length c1_0) (by kernel_rfl) (by kernel_rfl) ?_; clear ha a; intro a ha
  obtain ⟨t766, ht767, h_⟩ := bind_some' h; clear h; have h := h_; clear h_
  refine stepc ha 9 (by kernel_rfl) (by kernel_rfl) (prout_few.calls a1 A1_0 c1_0 t766 _ ((HW.rd0 hr1_0)) ht767) ?_; clear ha a; rintro e W771 ⟨A768, c769, rfl, HX772, hT770⟩
  refine ⟨_, rfl, ?_⟩; intro a ha; replace HW := HW.callw HX772; clear HX772
  refine stepp ha 1 (.slice A768 t766.length c769) (by kernel_rfl) (by kernel_rfl) ?_; clear ha a; intro a ha
  refine endl ?_
  refine thenN (hK765 _ _ ?_); clear hK765
  refine wp_seq_k (fun K773 hK774 => ?_)
  refine wp_region_lit ?_
  refine stepp ha 10 (.int .u32 a0) (by kernel_rfl) (by kernel_rfl) ?_; clear ha a; intro a ha
  refine stepp ha 11 (.int .u64 (IntKind.wrap .u64 a0)) (by kernel_rfl) (by kernel_rfl) ?_; clear ha a; intro a ha
  obtain ⟨t775, ht776, h_⟩ := bind_some' h; clear h; have h := h_; clear h_
  refine stepc ha 12 (by kernel_rfl) (by kernel_rfl) (fields_PutBig.calls K (IntKind.wrap .u64 a0) 4 t775 _ ht776) ?_; clear ha a; rintro e W777 ⟨rfl, HX778⟩
  refine ⟨_, rfl, ?_⟩; intro a ha; replace HW := HW.callw HX778; clear HX778
  refine stepp ha 13 (.slice A768 t766.length c769) (by kernel_rfl) (by kernel_rfl) ?_; clear ha a; intro a ha
  refine stepp ha 14 (.int .i64 (t766.length : Int)) (by kernel_rfl) (by kernel_rfl) ?_; clear ha a; intro a ha
  refine stepp ha 15 (.int .i64 (IntKind.wrap .i64 (8 * (t766.length : Int)))) (by kernel_rfl) (by kernel_rfl) ?_; clear ha a; intro a ha
  refine stepp ha 16 (.int .u64 (IntKind.wrap .u64 (IntKind.wrap .i64 (8 * (t766.length : Int))))) (by kernel_rfl) (by kernel_rfl) ?_; clear ha a; intro a ha
  obtain ⟨t779, ht780, h_⟩ := bind_some' h; clear h; have h := h_; clear h_
  refine stepc ha 17 (by kernel_rfl) (by kernel_rfl) (fields_PutBig.calls K (IntKind.wrap .u64 (IntKind.wrap .i64 (8 * (t766.length : Int)))) 4 t779 _ ht780) ?_; clear ha a; rintro e W781 ⟨rfl, HX782⟩
  refine ⟨_, rfl, ?_⟩; intro a ha; replace HW := HW.callw HX782; clear HX782
  obtain ⟨hA783, h_⟩ := asrt_some h; clear h; have h := h_; clear h_
  refine stepsa ha 18 9 9 (.tmp 12) (.tmp 17) t775 t779 rfl (by kernel_rfl) (by kernel_rfl) (show (t775).size + (t779).size ≤ 9223372036854775807 from hA783) (by kernel_rfl) ?_; clear ha a; intro a ha
  refine stepp ha 5 (.string (t775 ++ t779)) (by kernel_rfl) (by kernel_rfl) ?_; clear ha a; intro a ha
  refine endl ?_
  refine thenN (hK774 _ _ ?_); clear hK774
  refine wp_seq_k (fun K784 hK785 => ?_)
  refine wp_seq_k (fun K786 hK787 => ?_)
  refine wp_region_lit ?_
  refine stepp ha 19 (.slice A768 t766.length c769) (by kernel_rfl) (by kernel_rfl) ?_; clear ha a; intro a ha
  refine stepp ha 20 (.int .i64 (t766.length : Int)) (by kernel_rfl) (by kernel_rfl) ?_; clear ha a; intro a ha
  refine stepp ha 21 (.int .i64 0) (by kernel_rfl) (by kernel_rfl) ?_; clear ha a; intro a ha
  refine endl ?_
  refine thenN (hK787 _ _ ?_); clear hK787
  refine wp_block ?_
  refine loopk (fun k => fun a W837 => ∃ (x835 : ByteArray), ∃ (x836 : Int), prout_Keys.l0 K t766 k x835 x836 = some r ∧ Has 32 [(5, .string x835), (19, .slice A768 t766.length c769), (20, .int .i64 (t766.length : Int)), (21, .int .i64 x836)] a ∧ Wd w W837 [] []) K ?_ ?_
  · skip
    exact ⟨t775 ++ t779, 0, h, ha.sub (subs_cons (by kernel_rfl) (subs_cons (by kernel_rfl) (subs_cons (by kernel_rfl) (subs_cons (by kernel_rfl) (subs_nil _))))), HW.pick [] [] (by decide) (by decide) (by kernel_rfl) (by kernel_rfl)⟩
  · skip
    intro k a W837 hI
    obtain ⟨x835, x836, h, ha, HW⟩ := hI
    cases k with
    | zero => exact (none_some (show none = some r from h)).elim
    | succ k838 =>
      replace h : prout_Keys.b0 K t766 (prout_Keys.l0 K t766 k838) x835 x836 = some r := h
      obtain ⟨again834, hag839⟩ : ∃ g_, g_ = prout_Keys.l0 K t766 k838 := ⟨_, rfl⟩
      rw [← hag839] at h
      unfold prout_Keys.b0 at h
      refine wp_seq_k (fun K840 hK841 => ?_)
      refine wp_region_lit ?_
      refine stepp ha 22 (.bool (decide (x836 < (t766.length : Int)))) (by kernel_rfl) (by kernel_rfl) ?_; clear ha a; intro a ha
      refine endl ?_
      refine thenN (hK841 _ _ ?_); clear hK841
      refine wp_seq_k (fun K842 hK843 => ?_)
      by_cases hp844 : x836 < (t766.length : Int)
      · skip
        replace h := ite_pos' h hp844
        refine condT ha (by kernel_rfl) (by kernel_rfl) (t := decide (x836 < (t766.length : Int))) (decide_eq_true hp844) ?_
        refine wp_skip ?_
        refine thenN (hK843 _ _ ?_); clear hK843
        refine wp_seq_k (fun K845 hK846 => ?_)
        refine wp_block ?_
        refine wp_seq_k (fun K847 hK848 => ?_)
        refine wp_region_lit ?_
        obtain ⟨hA849, h_⟩ := asrt_some h; clear h; have h := h_; clear h_
        refine stepie T_api_Reg.enc T_api_Reg.z ha 23 (fun _ => rfl) (v := .slice A768 t766.length c769) (xs := t766) (hT770 _ (HW.rd0 hr1_0)) 47 46 (.tmp 19) (.tmp 21) .i64 x836 rfl (by kernel_rfl) (by kernel_rfl) (by kernel_rfl) (by kernel_rfl) hA849 (show (x836 : Int) < ((t766).length : Int) from hp844) (by kernel_rfl) ?_; clear ha a; intro b850 off851 a hC852 ha
        refine stepl ha 24 hC852 46 0 (.tmp 23) (.agg #[.string ((rdL T_api_Reg.z t766 x836).f0), .int .u64 ((rdL T_api_Reg.z t766 x836).f1)]) rfl (by kernel_rfl) (by kernel_rfl) (by kernel_rfl) ?_; clear ha a; intro a ha
        refine stepnew ha HW 7 #[.string (⟨#[]⟩ : ByteArray), .int .u64 0] 46 (by kernel_rfl) (by kernel_rfl) ?_; clear ha HW a; intro b853 a W854 HW ha
        refine stepst ha HW 0 (b := b853) (C := #[.string (⟨#[]⟩ : ByteArray), .int .u64 0]) (T := 46) (by kernel_rfl) 46 0 (.tmp 7) (.tmp 24) (.agg #[.string ((rdL T_api_Reg.z t766 x836).f0), .int .u64 ((rdL T_api_Reg.z t766 x836).f1)]) #[.string ((rdL T_api_Reg.z t766 x836).f0), .int .u64 ((rdL T_api_Reg.z t766 x836).f1)] rfl (by kernel_rfl) (by kernel_rfl) (by kernel_rfl) (by kernel_rfl) (by kernel_rfl) (by kernel_rfl) (by kernel_rfl) ?_; clear ha HW a; intro a W855 HW ha
        refine endl ?_
        refine thenN (hK848 _ _ ?_); clear hK848
        refine wp_region_lit ?_
        refine stepp ha 25 (.string x835) (by kernel_rfl) (by kernel_rfl) ?_; clear ha a; intro a ha
        refine stepp ha 26 (.pointer (some ⟨b853, 1, none⟩)) (by kernel_rfl) (by kernel_rfl) ?_; clear ha a; intro a ha
        refine stepl ha 27 (HW.ca (i := 0) (b := b853) (C := #[.string ((rdL T_api_Reg.z t766 x836).f0), .int .u64 ((rdL T_api_Reg.z t766 x836).f1)]) (T := 46) (fr := (0, 0)) (by kernel_rfl)) 24 1 (.tmp 26) (.int .u64 ((rdL T_api_Reg.z t766 x836).f1)) rfl (by kernel_rfl) (by kernel_rfl) (by kernel_rfl) ?_; clear ha a; intro a ha
        obtain ⟨t856, ht857, h_⟩ := bind_some' h; clear h; have h := h_; clear h_
        refine stepc ha 28 (by kernel_rfl) (by kernel_rfl) (prout_key.calls K ((rdL T_api_Reg.z t766 x836).f1) t856 _ ht857) ?_; clear ha a; rintro e W858 ⟨rfl, HX859⟩
        refine ⟨_, rfl, ?_⟩; intro a ha; replace HW := HW.callw HX859; clear HX859
        obtain ⟨hA860, h_⟩ := asrt_some h; clear h; have h := h_; clear h_
        refine stepsa ha 29 9 9 (.tmp 25) (.tmp 28) x835 t856 rfl (by kernel_rfl) (by kernel_rfl) (show (x835).size + (t856).size ≤ 9223372036854775807 from hA860) (by kernel_rfl) ?_; clear ha a; intro a ha
        refine stepp ha 5 (.string (x835 ++ t856)) (by kernel_rfl) (by kernel_rfl) ?_; clear ha a; intro a ha
        refine endl ?_
        refine blkN ?_
        refine thenN (hK846 _ _ ?_); clear hK846
        refine wp_region_lit ?_
        refine stepp ha 30 (.int .i64 (IntKind.wrap .i64 (x836 + 1))) (by kernel_rfl) (by kernel_rfl) ?_; clear ha a; intro a ha
        refine stepp ha 21 (.int .i64 (IntKind.wrap .i64 (x836 + 1))) (by kernel_rfl) (by kernel_rfl) ?_; clear ha a; intro a ha
        refine endl ?_
        exact thenN ⟨k838, Nat.lt_succ_self k838, x835 ++ t856, IntKind.wrap .i64 (x836 + 1), (by rw [← hag839]; exact h), ha.sub (subs_cons (by kernel_rfl) (subs_cons (by kernel_rfl) (subs_cons (by kernel_rfl) (subs_cons (by kernel_rfl) (subs_nil _))))), HW.pick [] [] (by decide) (by decide) (by kernel_rfl) (by kernel_rfl)⟩
      · skip
        replace h := ite_neg' h hp844
        refine condF ha (by kernel_rfl) (by kernel_rfl) (t := decide (x836 < (t766.length : Int))) (decide_eq_false hp844) ?_
        refine wp_exit ?_
        refine thenE ?_
        refine thenE ?_
        refine inBlk ?_
        refine thenN (hK785 _ _ ?_); clear hK785
        refine wp_seq_k (fun K861 hK862 => ?_)
        refine wp_region_lit ?_
        refine stepp ha 31 (.string x835) (by kernel_rfl) (by kernel_rfl) ?_; clear ha a; intro a ha
        refine stepp ha 4 (.string x835) (by kernel_rfl) (by kernel_rfl) ?_; clear ha a; intro a ha
        refine endl ?_
        refine thenN (hK862 _ _ ?_); clear hK862
        refine wp_ret ?_
        obtain rfl := Option.some.inj h
        exact finv ha _ _ rfl (.tmp (v := .string x835) (by kernel_rfl) .nil) (.string x835) rfl ⟨rfl, HW.pick [] [] (by decide) (by decide) rfl (by kernel_rfl)⟩
end Go.Proofs.Ytceagilmillgfaa.F
