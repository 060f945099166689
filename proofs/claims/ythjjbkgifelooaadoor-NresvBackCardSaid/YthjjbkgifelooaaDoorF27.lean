/- headgate/headgateref27.Words: plain functions, and that the calls come to what they say. No condition. -/
import Derived.Test.YthjjbkgifelooaaDoorFT
import Derived.Test.YthjjbkgifelooaaDoorF25
import Derived.Test.YthjjbkgifelooaaDoorF28
import Derived.Test.YthjjbkgifelooaaDoorF51
namespace Go.Proofs.YthjjbkgifelooaaDoor.F
open Go Go.RowKit Go.Proofs.YthjjbkgifelooaaDoor.X
set_option linter.unusedVariables false
set_option linter.unusedSimpArgs false
/-! ### headgate/headgateref27.Words: function 27 -/
def headgateref27_Words.j4 (K : Nat) (a0 : T_api_Cmd) (x3888 : Int) (x3889 : Int) (x3890 : Int) (x3891 : ByteArray) : Option (T_headgateref27_Word × Int) :=
  if a0.f11 < 0 then (some ((⟨0, 0, (⟨#[]⟩ : ByteArray)⟩ : T_headgateref27_Word), 180)) else (if a0.f11 > 255 then (some ((⟨0, 0, (⟨#[]⟩ : ByteArray)⟩ : T_headgateref27_Word), 180)) else ((headgateref27_Change.f K x3890 (IntKind.wrap .u32 (IntKind.wrap .i64 ((IntKind.wrap .i64 (x3888 + x3889)) + (IntKind.wrap .i64 (a0.f11 * 256))))) x3891).bind fun t3910 => (if t3910.2 = 0 then ((headgatekeep_Cmds.f K a0 (⟨t3910.1.f0, t3910.1.f1, t3910.1.f2, t3910.1.f3, t3910.1.f4, t3910.1.f5, t3910.1.f6, t3910.1.f7, t3910.1.f8, t3910.1.f9, t3910.1.f10, t3910.1.f11, t3910.1.f12, t3910.1.f13⟩ : T_api_Cmd)).bind fun t3925 => (if t3925 = true then (some ((⟨x3890, IntKind.wrap .u32 (IntKind.wrap .i64 ((IntKind.wrap .i64 (x3888 + x3889)) + (IntKind.wrap .i64 (a0.f11 * 256)))), x3891⟩ : T_headgateref27_Word), 0)) else (some ((⟨0, 0, (⟨#[]⟩ : ByteArray)⟩ : T_headgateref27_Word), 180)))) else (some ((⟨0, 0, (⟨#[]⟩ : ByteArray)⟩ : T_headgateref27_Word), 180)))))
def headgateref27_Words.j3 (K : Nat) (a0 : T_api_Cmd) (t3802 : ByteArray) (x3829 : Int) (x3846 : Int) : Option (T_headgateref27_Word × Int) :=
  (headgateref01_PutLittle.f K a0.f9 8).bind fun t3848 => (asrt (t3802.size + t3848.size ≤ 9223372036854775807) (headgateref27_Words.j4 K a0 x3829 x3846 13 (t3802 ++ t3848)))
def headgateref27_Words.j2 (K : Nat) (a0 : T_api_Cmd) (t3802 : ByteArray) (x3829 : Int) (x3836 : Int) (x3843 : Bool) : Option (T_headgateref27_Word × Int) :=
  if x3843 = true then (headgateref27_Words.j3 K a0 t3802 x3829 (IntKind.wrap .i64 (x3836 + (IntKind.wrap .i64 ((IntKind.wrap .i64 (a0.f13 + 1)) * 1073741824))))) else (headgateref27_Words.j3 K a0 t3802 x3829 x3836)
def headgateref27_Words.j1 (K : Nat) (a0 : T_api_Cmd) (t3802 : ByteArray) (x3829 : Int) (x3836 : Int) : Option (T_headgateref27_Word × Int) :=
  if a0.f13 = 1 then (headgateref27_Words.j2 K a0 t3802 x3829 x3836 true) else (headgateref27_Words.j2 K a0 t3802 x3829 x3836 (a0.f13 == 2))
def headgateref27_Words.j0 (K : Nat) (a0 : T_api_Cmd) (t3802 : ByteArray) (x3829 : Int) : Option (T_headgateref27_Word × Int) :=
  if a0.f12 = true then (headgateref27_Words.j1 K a0 t3802 x3829 8) else (headgateref27_Words.j1 K a0 t3802 x3829 0)
def headgateref27_Words.f (K : Nat) (a0 : T_api_Cmd) : Option (T_headgateref27_Word × Int) :=
  (headgateref01_PutLittle.f K a0.f8 8).bind fun t3802 => (if a0.f0 = 8 then (if a0.f9 = 0 then (headgateref27_Words.j0 K a0 t3802 1) else (if a0.f8 = 0 then (headgateref27_Words.j0 K a0 t3802 0) else (headgateref27_Words.j0 K a0 t3802 2))) else (if a0.f0 = 9 then ((headgateref01_PutLittle.f K 0 8).bind fun t3858 => (asrt (t3802.size + t3858.size ≤ 9223372036854775807) (headgateref27_Words.j4 K a0 0 0 17 (t3802 ++ t3858)))) else (if a0.f0 = 12 then ((headgateref01_PutLittle.f K a0.f10 8).bind fun t3870 => (asrt (t3802.size + t3870.size ≤ 9223372036854775807) (headgateref27_Words.j4 K a0 1 0 17 (t3802 ++ t3870)))) else (if a0.f0 = 10 then (headgateref27_Words.j4 K a0 0 0 21 t3802) else (if a0.f0 = 11 then (headgateref27_Words.j4 K a0 1 0 21 t3802) else (some ((⟨0, 0, (⟨#[]⟩ : ByteArray)⟩ : T_headgateref27_Word), 180)))))))
set_option maxRecDepth 100000 in
set_option maxHeartbeats 4000000 in
theorem headgateref27_Words.calls (K : Nat) (a0 : T_api_Cmd) (A0_0 : Option Addr) (c0_0 : Nat) (r : T_headgateref27_Word × Int) (w : World) (hr0_0 : Rd 2 w (.slice A0_0 a0.f7.length c0_0) a0.f7.length (encs T_api_Range.enc a0.f7)) (h : headgateref27_Words.f K a0 = some r) :
    Calls Tryd.prog 27 #[.agg #[.int .i64 a0.f0, .int .i64 a0.f1, .string a0.f2, .int .i64 a0.f3, .int .i64 a0.f4, .string a0.f5, .bool a0.f6, .slice A0_0 a0.f7.length c0_0, .int .u64 a0.f8, .int .u64 a0.f9, .int .u64 a0.f10, .int .i64 a0.f11, .bool a0.f12, .int .i64 a0.f13]] w (fun e W' => e = .returned (.tuple #[.agg #[.int .i64 r.1.f0, .int .u32 r.1.f1, .string r.1.f2], .int .i64 r.2]) ∧ Wd w W' [] [] ) := by
  refine sxstart (n := 110) (l := [(0, .agg #[.int .i64 a0.f0, .int .i64 a0.f1, .string a0.f2, .int .i64 a0.f3, .int .i64 a0.f4, .string a0.f5, .bool a0.f6, .slice A0_0 a0.f7.length c0_0, .int .u64 a0.f8, .int .u64 a0.f9, .int .u64 a0.f10, .int .i64 a0.f11, .bool a0.f12, .int .i64 a0.f13])]) Tryd.func27 rfl rfl (Nat.le_of_ble_eq_true KR) (subsA_cons rfl (subsA_nil _)) ?_
  intro a ha
  have HW := Wd.refl w
  unfold headgateref27_Words.f at h
  refine wp_seq_k (fun K3794 hK3795 => ?_)
  refine wp_region_lit ?_
  refine stepnew ha HW 1 #[.int .i64 a0.f0, .int .i64 a0.f1, .string a0.f2, .int .i64 a0.f3, .int .i64 a0.f4, .string a0.f5, .bool a0.f6, .slice A0_0 a0.f7.length c0_0, .int .u64 a0.f8, .int .u64 a0.f9, .int .u64 a0.f10, .int .i64 a0.f11, .bool a0.f12, .int .i64 a0.f13] 49 KR KR ?_; clear ha HW a; intro b3796 a W3797 HW ha
  refine stepnew ha HW 2 #[.int .i64 0, .int .u32 0, .string (⟨#[]⟩ : ByteArray)] 57 KR KR ?_; clear ha HW a; intro b3798 a W3799 HW ha
  refine stepp ha 3 (.int .i64 0) KR KR ?_; clear ha a; intro a ha
  refine endl ?_
  refine thenN (hK3795 _ _ ?_); clear hK3795
  refine wp_seq_k (fun K3800 hK3801 => ?_)
  refine wp_region_lit ?_
  refine stepp ha 9 (.pointer (some ⟨b3796, 8, none⟩)) KR KR ?_; clear ha a; intro a ha
  refine stepl ha 10 (HW.ca (i := 1) (b := b3796) (C := #[.int .i64 a0.f0, .int .i64 a0.f1, .string a0.f2, .int .i64 a0.f3, .int .i64 a0.f4, .string a0.f5, .bool a0.f6, .slice A0_0 a0.f7.length c0_0, .int .u64 a0.f8, .int .u64 a0.f9, .int .u64 a0.f10, .int .i64 a0.f11, .bool a0.f12, .int .i64 a0.f13]) (T := 49) (fr := (0, 0)) KR) 42 8 (.tmp 9) (.int .u64 a0.f8) rfl KR KR KR ?_; clear ha a; intro a ha
  obtain ⟨t3802, ht3803, h_⟩ := bind_some' h; clear h; have h := h_; clear h_
  refine stepc ha 11 KR KR (headgateref01_PutLittle.calls K a0.f8 8 t3802 _ ht3803) ?_; clear ha a; rintro e W3804 ⟨rfl, HX3805⟩
  refine ⟨_, rfl, ?_⟩; intro a ha; replace HW := HW.callw HX3805; clear HX3805
  refine stepp ha 12 (.agg #[.int .i64 17, .int .u32 0, .string t3802]) KR KR ?_; clear ha a; intro a ha
  refine stepnew ha HW 4 #[.int .i64 0, .int .u32 0, .string (⟨#[]⟩ : ByteArray)] 57 KR KR ?_; clear ha HW a; intro b3806 a W3807 HW ha
  refine stepst ha HW 0 (b := b3806) (C := #[.int .i64 0, .int .u32 0, .string (⟨#[]⟩ : ByteArray)]) (T := 57) KR 57 0 (.tmp 4) (.tmp 12) (.agg #[.int .i64 17, .int .u32 0, .string t3802]) #[.int .i64 17, .int .u32 0, .string t3802] rfl KR KR KR KR KR KR KR ?_; clear ha HW a; intro a W3808 HW ha
  refine endl ?_
  refine thenN (hK3801 _ _ ?_); clear hK3801
  refine wp_seq_k (fun K3809 hK3810 => ?_)
  refine wp_region_lit ?_
  refine stepp ha 5 (.int .i64 0) KR KR ?_; clear ha a; intro a ha
  refine stepp ha 6 (.int .i64 0) KR KR ?_; clear ha a; intro a ha
  refine endl ?_
  refine thenN (hK3810 _ _ ?_); clear hK3810
  refine wp_seq_k (fun K3811 hK3812 => ?_)
  refine cutn (fun a W3892 => ∃ (x3888 : Int), ∃ (x3889 : Int), ∃ (x3890 : Int), ∃ (x3891 : ByteArray), headgateref27_Words.j4 K a0 x3888 x3889 x3890 x3891 = some r ∧ Has 110 [(1, .pointer (some ⟨b3796, 0, none⟩)), (2, .pointer (some ⟨b3798, 0, none⟩)), (4, .pointer (some ⟨b3806, 0, none⟩)), (5, .int .i64 x3888), (6, .int .i64 x3889)] a ∧ Wd w W3892 [(b3796, .cells #[.int .i64 a0.f0, .int .i64 a0.f1, .string a0.f2, .int .i64 a0.f3, .int .i64 a0.f4, .string a0.f5, .bool a0.f6, .slice A0_0 a0.f7.length c0_0, .int .u64 a0.f8, .int .u64 a0.f9, .int .u64 a0.f10, .int .i64 a0.f11, .bool a0.f12, .int .i64 a0.f13] 49 (0, 0)), (b3798, .cells #[.int .i64 0, .int .u32 0, .string (⟨#[]⟩ : ByteArray)] 57 (0, 0)), (b3806, .cells #[.int .i64 x3890, .int .u32 0, .string x3891] 57 (0, 0))] []) ?_ ?_
  · skip
    refine wp_seq_k (fun K3813 hK3814 => ?_)
    refine wp_region_lit ?_
    refine stepp ha 13 (.pointer (some ⟨b3796, 0, none⟩)) KR KR ?_; clear ha a; intro a ha
    refine stepl ha 14 (HW.ca (i := 2) (b := b3796) (C := #[.int .i64 a0.f0, .int .i64 a0.f1, .string a0.f2, .int .i64 a0.f3, .int .i64 a0.f4, .string a0.f5, .bool a0.f6, .slice A0_0 a0.f7.length c0_0, .int .u64 a0.f8, .int .u64 a0.f9, .int .u64 a0.f10, .int .i64 a0.f11, .bool a0.f12, .int .i64 a0.f13]) (T := 49) (fr := (0, 0)) KR) 3 0 (.tmp 13) (.int .i64 a0.f0) rfl KR KR KR ?_; clear ha a; intro a ha
    refine endl ?_
    refine thenN (hK3814 _ _ ?_); clear hK3814
    refine wp_block ?_
    refine wp_seq_k (fun K3815 hK3816 => ?_)
    refine wp_region_lit ?_
    refine stepp ha 17 (.bool (a0.f0 == 8)) KR KR ?_; clear ha a; intro a ha
    refine stepp ha 16 (.bool (a0.f0 == 8)) KR KR ?_; clear ha a; intro a ha
    refine endl ?_
    refine thenN (hK3816 _ _ ?_); clear hK3816
    by_cases hp3817 : a0.f0 = 8
    · skip
      replace h := ite_pos' h hp3817
      refine condT ha KR KR (t := (a0.f0 == 8)) (ieq_t hp3817) ?_
      refine wp_seq_k (fun K3818 hK3819 => ?_)
      refine wp_region_lit ?_
      refine stepp ha 18 (.pointer (some ⟨b3806, 0, none⟩)) KR KR ?_; clear ha a; intro a ha
      refine stepst ha HW 0 (b := b3806) (C := #[.int .i64 17, .int .u32 0, .string t3802]) (T := 57) KR 3 0 (.tmp 18) (.const (.int .i64 13)) (.int .i64 13) #[.int .i64 13, .int .u32 0, .string t3802] rfl KR KR KR KR KR KR KR ?_; clear ha HW a; intro a W3820 HW ha
      refine endl ?_
      refine thenN (hK3819 _ _ ?_); clear hK3819
      refine wp_seq_k (fun K3821 hK3822 => ?_)
      refine cutn (fun a W3830 => ∃ (x3829 : Int), headgateref27_Words.j0 K a0 t3802 x3829 = some r ∧ Has 110 [(1, .pointer (some ⟨b3796, 0, none⟩)), (2, .pointer (some ⟨b3798, 0, none⟩)), (4, .pointer (some ⟨b3806, 0, none⟩)), (5, .int .i64 x3829), (6, .int .i64 0)] a ∧ Wd w W3830 [(b3796, .cells #[.int .i64 a0.f0, .int .i64 a0.f1, .string a0.f2, .int .i64 a0.f3, .int .i64 a0.f4, .string a0.f5, .bool a0.f6, .slice A0_0 a0.f7.length c0_0, .int .u64 a0.f8, .int .u64 a0.f9, .int .u64 a0.f10, .int .i64 a0.f11, .bool a0.f12, .int .i64 a0.f13] 49 (0, 0)), (b3798, .cells #[.int .i64 0, .int .u32 0, .string (⟨#[]⟩ : ByteArray)] 57 (0, 0)), (b3806, .cells #[.int .i64 13, .int .u32 0, .string t3802] 57 (0, 0))] []) ?_ ?_
      · skip
        refine wp_seq_k (fun K3823 hK3824 => ?_)
        refine wp_region_lit ?_
        refine stepp ha 19 (.pointer (some ⟨b3796, 9, none⟩)) KR KR ?_; clear ha a; intro a ha
        refine stepl ha 20 (HW.ca (i := 2) (b := b3796) (C := #[.int .i64 a0.f0, .int .i64 a0.f1, .string a0.f2, .int .i64 a0.f3, .int .i64 a0.f4, .string a0.f5, .bool a0.f6, .slice A0_0 a0.f7.length c0_0, .int .u64 a0.f8, .int .u64 a0.f9, .int .u64 a0.f10, .int .i64 a0.f11, .bool a0.f12, .int .i64 a0.f13]) (T := 49) (fr := (0, 0)) KR) 42 9 (.tmp 19) (.int .u64 a0.f9) rfl KR KR KR ?_; clear ha a; intro a ha
        refine stepp ha 21 (.bool (a0.f9 == 0)) KR KR ?_; clear ha a; intro a ha
        refine endl ?_
        refine thenN (hK3824 _ _ ?_); clear hK3824
        by_cases hp3825 : a0.f9 = 0
        · skip
          replace h := ite_pos' h hp3825
          refine condT ha KR KR (t := (a0.f9 == 0)) (ieq_t hp3825) ?_
          refine wp_region_lit ?_
          refine stepp ha 5 (.int .i64 1) KR KR ?_; clear ha a; intro a ha
          refine endl ?_
          exact thenN ⟨1, h, ha.sub (subs_cons KR (subs_cons KR (subs_cons KR (subs_cons KR (subs_cons KR (subs_nil _)))))), HW.pick [2, 1, 0] [] (by decide) (by decide) KR KR⟩
        · skip
          replace h := ite_neg' h hp3825
          refine condF ha KR KR (t := (a0.f9 == 0)) (ieq_f hp3825) ?_
          refine wp_seq_k (fun K3826 hK3827 => ?_)
          refine wp_region_lit ?_
          refine stepp ha 22 (.pointer (some ⟨b3796, 8, none⟩)) KR KR ?_; clear ha a; intro a ha
          refine stepl ha 23 (HW.ca (i := 2) (b := b3796) (C := #[.int .i64 a0.f0, .int .i64 a0.f1, .string a0.f2, .int .i64 a0.f3, .int .i64 a0.f4, .string a0.f5, .bool a0.f6, .slice A0_0 a0.f7.length c0_0, .int .u64 a0.f8, .int .u64 a0.f9, .int .u64 a0.f10, .int .i64 a0.f11, .bool a0.f12, .int .i64 a0.f13]) (T := 49) (fr := (0, 0)) KR) 42 8 (.tmp 22) (.int .u64 a0.f8) rfl KR KR KR ?_; clear ha a; intro a ha
          refine stepp ha 24 (.bool (a0.f8 != 0)) KR KR ?_; clear ha a; intro a ha
          refine endl ?_
          refine thenN (hK3827 _ _ ?_); clear hK3827
          by_cases hp3828 : a0.f8 = 0
          · skip
            replace h := ite_pos' h hp3828
            refine condF ha KR KR (t := (a0.f8 != 0)) (ineq_f hp3828) ?_
            refine wp_skip ?_
            exact thenN ⟨0, h, ha.sub (subs_cons KR (subs_cons KR (subs_cons KR (subs_cons KR (subs_cons KR (subs_nil _)))))), HW.pick [2, 1, 0] [] (by decide) (by decide) KR KR⟩
          · skip
            replace h := ite_neg' h hp3828
            refine condT ha KR KR (t := (a0.f8 != 0)) (ineq_t hp3828) ?_
            refine wp_region_lit ?_
            refine stepp ha 5 (.int .i64 2) KR KR ?_; clear ha a; intro a ha
            refine endl ?_
            exact thenN ⟨2, h, ha.sub (subs_cons KR (subs_cons KR (subs_cons KR (subs_cons KR (subs_cons KR (subs_nil _)))))), HW.pick [2, 1, 0] [] (by decide) (by decide) KR KR⟩
      · skip
        intro a W3830 hJ
        obtain ⟨x3829, h, ha, HW⟩ := hJ
        replace h : headgateref27_Words.j0 K a0 t3802 x3829 = some r := h
        unfold headgateref27_Words.j0 at h
        refine hK3822 _ _ ?_; clear hK3822
        refine wp_seq_k (fun K3831 hK3832 => ?_)
        refine cutn (fun a W3837 => ∃ (x3836 : Int), headgateref27_Words.j1 K a0 t3802 x3829 x3836 = some r ∧ Has 110 [(1, .pointer (some ⟨b3796, 0, none⟩)), (2, .pointer (some ⟨b3798, 0, none⟩)), (4, .pointer (some ⟨b3806, 0, none⟩)), (5, .int .i64 x3829), (6, .int .i64 x3836)] a ∧ Wd w W3837 [(b3796, .cells #[.int .i64 a0.f0, .int .i64 a0.f1, .string a0.f2, .int .i64 a0.f3, .int .i64 a0.f4, .string a0.f5, .bool a0.f6, .slice A0_0 a0.f7.length c0_0, .int .u64 a0.f8, .int .u64 a0.f9, .int .u64 a0.f10, .int .i64 a0.f11, .bool a0.f12, .int .i64 a0.f13] 49 (0, 0)), (b3798, .cells #[.int .i64 0, .int .u32 0, .string (⟨#[]⟩ : ByteArray)] 57 (0, 0)), (b3806, .cells #[.int .i64 13, .int .u32 0, .string t3802] 57 (0, 0))] []) ?_ ?_
        · skip
          refine wp_seq_k (fun K3833 hK3834 => ?_)
          refine wp_region_lit ?_
          refine stepp ha 25 (.pointer (some ⟨b3796, 12, none⟩)) KR KR ?_; clear ha a; intro a ha
          refine stepl ha 26 (HW.ca (i := 0) (b := b3796) (C := #[.int .i64 a0.f0, .int .i64 a0.f1, .string a0.f2, .int .i64 a0.f3, .int .i64 a0.f4, .string a0.f5, .bool a0.f6, .slice A0_0 a0.f7.length c0_0, .int .u64 a0.f8, .int .u64 a0.f9, .int .u64 a0.f10, .int .i64 a0.f11, .bool a0.f12, .int .i64 a0.f13]) (T := 49) (fr := (0, 0)) KR) 4 12 (.tmp 25) (.bool a0.f12) rfl KR KR KR ?_; clear ha a; intro a ha
          refine endl ?_
          refine thenN (hK3834 _ _ ?_); clear hK3834
          by_cases hp3835 : a0.f12 = true
          · skip
            replace h := ite_pos' h hp3835
            refine condT ha KR KR (t := a0.f12) (hp3835) ?_
            refine wp_region_lit ?_
            refine stepp ha 27 (.int .i64 0) KR KR ?_; clear ha a; intro a ha
            refine stepp ha 28 (.int .i64 8) KR KR ?_; clear ha a; intro a ha
            refine stepp ha 6 (.int .i64 8) KR KR ?_; clear ha a; intro a ha
            refine endl ?_
            exact thenN ⟨8, h, ha.sub (subs_cons KR (subs_cons KR (subs_cons KR (subs_cons KR (subs_cons KR (subs_nil _)))))), HW.pick [0, 1, 2] [] (by decide) (by decide) KR KR⟩
          · skip
            replace h := ite_neg' h hp3835
            refine condF ha KR KR (t := a0.f12) (bool_f hp3835) ?_
            refine wp_skip ?_
            exact thenN ⟨0, h, ha.sub (subs_cons KR (subs_cons KR (subs_cons KR (subs_cons KR (subs_cons KR (subs_nil _)))))), HW.pick [0, 1, 2] [] (by decide) (by decide) KR KR⟩
        · skip
          intro a W3837 hJ
          obtain ⟨x3836, h, ha, HW⟩ := hJ
          replace h : headgateref27_Words.j1 K a0 t3802 x3829 x3836 = some r := h
          unfold headgateref27_Words.j1 at h
          refine hK3832 _ _ ?_; clear hK3832
          refine wp_seq_k (fun K3838 hK3839 => ?_)
          refine cutn (fun a W3847 => ∃ (x3846 : Int), headgateref27_Words.j3 K a0 t3802 x3829 x3846 = some r ∧ Has 110 [(1, .pointer (some ⟨b3796, 0, none⟩)), (2, .pointer (some ⟨b3798, 0, none⟩)), (4, .pointer (some ⟨b3806, 0, none⟩)), (5, .int .i64 x3829), (6, .int .i64 x3846)] a ∧ Wd w W3847 [(b3796, .cells #[.int .i64 a0.f0, .int .i64 a0.f1, .string a0.f2, .int .i64 a0.f3, .int .i64 a0.f4, .string a0.f5, .bool a0.f6, .slice A0_0 a0.f7.length c0_0, .int .u64 a0.f8, .int .u64 a0.f9, .int .u64 a0.f10, .int .i64 a0.f11, .bool a0.f12, .int .i64 a0.f13] 49 (0, 0)), (b3798, .cells #[.int .i64 0, .int .u32 0, .string (⟨#[]⟩ : ByteArray)] 57 (0, 0)), (b3806, .cells #[.int .i64 13, .int .u32 0, .string t3802] 57 (0, 0))] []) ?_ ?_
          · skip
            refine wp_seq_k (fun K3840 hK3841 => ?_)
            refine cutn (fun a W3844 => ∃ (x3843 : Bool), headgateref27_Words.j2 K a0 t3802 x3829 x3836 x3843 = some r ∧ Has 110 [(1, .pointer (some ⟨b3796, 0, none⟩)), (2, .pointer (some ⟨b3798, 0, none⟩)), (4, .pointer (some ⟨b3806, 0, none⟩)), (5, .int .i64 x3829), (6, .int .i64 x3836), (36, .bool x3843)] a ∧ Wd w W3844 [(b3796, .cells #[.int .i64 a0.f0, .int .i64 a0.f1, .string a0.f2, .int .i64 a0.f3, .int .i64 a0.f4, .string a0.f5, .bool a0.f6, .slice A0_0 a0.f7.length c0_0, .int .u64 a0.f8, .int .u64 a0.f9, .int .u64 a0.f10, .int .i64 a0.f11, .bool a0.f12, .int .i64 a0.f13] 49 (0, 0)), (b3798, .cells #[.int .i64 0, .int .u32 0, .string (⟨#[]⟩ : ByteArray)] 57 (0, 0)), (b3806, .cells #[.int .i64 13, .int .u32 0, .string t3802] 57 (0, 0))] []) ?_ ?_
            · skip
              refine wp_region_lit ?_
              refine stepp ha 29 (.pointer (some ⟨b3796, 13, none⟩)) KR KR ?_; clear ha a; intro a ha
              refine stepl ha 30 (HW.ca (i := 0) (b := b3796) (C := #[.int .i64 a0.f0, .int .i64 a0.f1, .string a0.f2, .int .i64 a0.f3, .int .i64 a0.f4, .string a0.f5, .bool a0.f6, .slice A0_0 a0.f7.length c0_0, .int .u64 a0.f8, .int .u64 a0.f9, .int .u64 a0.f10, .int .i64 a0.f11, .bool a0.f12, .int .i64 a0.f13]) (T := 49) (fr := (0, 0)) KR) 3 13 (.tmp 29) (.int .i64 a0.f13) rfl KR KR KR ?_; clear ha a; intro a ha
              refine stepp ha 31 (.bool (a0.f13 == 1)) KR KR ?_; clear ha a; intro a ha
              refine stepp ha 32 (.bool (a0.f13 == 1)) KR KR ?_; clear ha a; intro a ha
              by_cases hp3842 : a0.f13 = 1
              · skip
                replace h := ite_pos' h hp3842
                replace ha := ha.bool 32 KR (ieq_t hp3842)
                refine stepo ha 33 KR ?_; clear ha a; intro a ha
                refine stepo ha 34 KR ?_; clear ha a; intro a ha
                refine stepo ha 35 KR ?_; clear ha a; intro a ha
                refine stepp ha 36 (.bool true) KR KR ?_; clear ha a; intro a ha
                refine endl ?_
                exact thenN ⟨true, h, ha.sub (subs_cons KR (subs_cons KR (subs_cons KR (subs_cons KR (subs_cons KR (subs_cons KR (subs_nil _))))))), HW.pick [0, 1, 2] [] (by decide) (by decide) KR KR⟩
              · skip
                replace h := ite_neg' h hp3842
                replace ha := ha.bool 32 KR (ieq_f hp3842)
                refine stepp ha 33 (.pointer (some ⟨b3796, 13, none⟩)) KR KR ?_; clear ha a; intro a ha
                refine stepl ha 34 (HW.ca (i := 0) (b := b3796) (C := #[.int .i64 a0.f0, .int .i64 a0.f1, .string a0.f2, .int .i64 a0.f3, .int .i64 a0.f4, .string a0.f5, .bool a0.f6, .slice A0_0 a0.f7.length c0_0, .int .u64 a0.f8, .int .u64 a0.f9, .int .u64 a0.f10, .int .i64 a0.f11, .bool a0.f12, .int .i64 a0.f13]) (T := 49) (fr := (0, 0)) KR) 3 13 (.tmp 33) (.int .i64 a0.f13) rfl KR KR KR ?_; clear ha a; intro a ha
                refine stepp ha 35 (.bool (a0.f13 == 2)) KR KR ?_; clear ha a; intro a ha
                refine stepp ha 36 (.bool (a0.f13 == 2)) KR KR ?_; clear ha a; intro a ha
                refine endl ?_
                exact thenN ⟨(a0.f13 == 2), h, ha.sub (subs_cons KR (subs_cons KR (subs_cons KR (subs_cons KR (subs_cons KR (subs_cons KR (subs_nil _))))))), HW.pick [0, 1, 2] [] (by decide) (by decide) KR KR⟩
            · skip
              intro a W3844 hJ
              obtain ⟨x3843, h, ha, HW⟩ := hJ
              replace h : headgateref27_Words.j2 K a0 t3802 x3829 x3836 x3843 = some r := h
              unfold headgateref27_Words.j2 at h
              refine hK3841 _ _ ?_; clear hK3841
              by_cases hp3845 : x3843 = true
              · skip
                replace h := ite_pos' h hp3845
                refine condT ha KR KR (t := x3843) (hp3845) ?_
                refine wp_region_lit ?_
                refine stepp ha 37 (.int .i64 x3836) KR KR ?_; clear ha a; intro a ha
                refine stepp ha 38 (.pointer (some ⟨b3796, 13, none⟩)) KR KR ?_; clear ha a; intro a ha
                refine stepl ha 39 (HW.ca (i := 0) (b := b3796) (C := #[.int .i64 a0.f0, .int .i64 a0.f1, .string a0.f2, .int .i64 a0.f3, .int .i64 a0.f4, .string a0.f5, .bool a0.f6, .slice A0_0 a0.f7.length c0_0, .int .u64 a0.f8, .int .u64 a0.f9, .int .u64 a0.f10, .int .i64 a0.f11, .bool a0.f12, .int .i64 a0.f13]) (T := 49) (fr := (0, 0)) KR) 3 13 (.tmp 38) (.int .i64 a0.f13) rfl KR KR KR ?_; clear ha a; intro a ha
                refine stepp ha 40 (.int .i64 (IntKind.wrap .i64 (a0.f13 + 1))) KR KR ?_; clear ha a; intro a ha
                refine stepp ha 41 (.int .i64 (IntKind.wrap .i64 ((IntKind.wrap .i64 (a0.f13 + 1)) * 1073741824))) KR KR ?_; clear ha a; intro a ha
                refine stepp ha 42 (.int .i64 (IntKind.wrap .i64 (x3836 + (IntKind.wrap .i64 ((IntKind.wrap .i64 (a0.f13 + 1)) * 1073741824))))) KR KR ?_; clear ha a; intro a ha
                refine stepp ha 6 (.int .i64 (IntKind.wrap .i64 (x3836 + (IntKind.wrap .i64 ((IntKind.wrap .i64 (a0.f13 + 1)) * 1073741824))))) KR KR ?_; clear ha a; intro a ha
                refine endl ?_
                exact thenN ⟨IntKind.wrap .i64 (x3836 + (IntKind.wrap .i64 ((IntKind.wrap .i64 (a0.f13 + 1)) * 1073741824))), h, ha.sub (subs_cons KR (subs_cons KR (subs_cons KR (subs_cons KR (subs_cons KR (subs_nil _)))))), HW.pick [0, 1, 2] [] (by decide) (by decide) KR KR⟩
              · skip
                replace h := ite_neg' h hp3845
                refine condF ha KR KR (t := x3843) (bool_f hp3845) ?_
                refine wp_skip ?_
                exact thenN ⟨x3836, h, ha.sub (subs_cons KR (subs_cons KR (subs_cons KR (subs_cons KR (subs_cons KR (subs_nil _)))))), HW.pick [0, 1, 2] [] (by decide) (by decide) KR KR⟩
          · skip
            intro a W3847 hJ
            obtain ⟨x3846, h, ha, HW⟩ := hJ
            replace h : headgateref27_Words.j3 K a0 t3802 x3829 x3846 = some r := h
            unfold headgateref27_Words.j3 at h
            refine hK3839 _ _ ?_; clear hK3839
            obtain ⟨t3848, ht3849, h_⟩ := bind_some' h; clear h; have h := h_; clear h_
            obtain ⟨hA3852, h_⟩ := asrt_some h; clear h; have h := h_; clear h_
            refine regionG 6 KR KR ha HW [.fix (.pointer (some ⟨b3806, 2, none⟩)), .fix (.string t3802), .fix (.pointer (some ⟨b3796, 9, none⟩)), .fix (.int .u64 a0.f9), .fix (.string t3848), .fix (.string (t3802 ++ t3848))] ?_ ?_
            · skip
              refine ⟨?_, ?_, ?_, ?_, ?_, ?_, trivial⟩
              · skip
                intro a wr hn hd HW hs; have ha := hasNil hn hd
                have ha := ha.add (seeE hs 4 (.pointer (some ⟨b3806, 0, none⟩)) KR KR)
                refine yStep ha 43 KR ?_; intro l_ ha HK
                refine stepp ha 43 (.pointer (some ⟨b3806, 2, none⟩)) KR KR ?_; intro ax hax; exact HK _ _ _ hax rfl (Below.refl _ _)
              · skip
                intro a wr hn hd HW hs; have ha := hasNil hn hd
                have ha := ha.add (seeF hs 43 0 (.pointer (some ⟨b3806, 2, none⟩)) KR KR)
                refine yStep ha 44 KR ?_; intro l_ ha HK
                refine stepl ha 44 (HW.ca (i := 2) (b := b3806) (C := #[.int .i64 13, .int .u32 0, .string t3802]) (T := 57) (fr := (0, 0)) KR) 9 2 (.tmp 43) (.string t3802) rfl KR KR KR ?_; intro ax hax; exact HK _ _ _ hax rfl (Below.refl _ _)
              · skip
                intro a wr hn hd HW hs; have ha := hasNil hn hd
                have ha := ha.add (seeE hs 1 (.pointer (some ⟨b3796, 0, none⟩)) KR KR)
                refine yStep ha 45 KR ?_; intro l_ ha HK
                refine stepp ha 45 (.pointer (some ⟨b3796, 9, none⟩)) KR KR ?_; intro ax hax; exact HK _ _ _ hax rfl (Below.refl _ _)
              · skip
                intro a wr hn hd HW hs; have ha := hasNil hn hd
                have ha := ha.add (seeF hs 45 2 (.pointer (some ⟨b3796, 9, none⟩)) KR KR)
                refine yStep ha 46 KR ?_; intro l_ ha HK
                refine stepl ha 46 (HW.ca (i := 0) (b := b3796) (C := #[.int .i64 a0.f0, .int .i64 a0.f1, .string a0.f2, .int .i64 a0.f3, .int .i64 a0.f4, .string a0.f5, .bool a0.f6, .slice A0_0 a0.f7.length c0_0, .int .u64 a0.f8, .int .u64 a0.f9, .int .u64 a0.f10, .int .i64 a0.f11, .bool a0.f12, .int .i64 a0.f13]) (T := 49) (fr := (0, 0)) KR) 42 9 (.tmp 45) (.int .u64 a0.f9) rfl KR KR KR ?_; intro ax hax; exact HK _ _ _ hax rfl (Below.refl _ _)
              · skip
                intro a wr hn hd HW hs; have ha := hasNil hn hd
                have ha := ha.add (seeF hs 46 3 (.int .u64 a0.f9) KR KR)
                refine yStep ha 47 KR ?_; intro l_ ha HK
                refine stepc ha 47 KR KR (headgateref01_PutLittle.calls K a0.f9 8 t3848 _ ht3849) ?_; rintro e W3850 ⟨rfl, HX3851⟩
                refine ⟨_, rfl, ?_⟩; intro ax hax; exact HK _ _ _ hax rfl HX3851.below
              · skip
                intro a wr hn hd HW hs; have ha := hasNil hn hd
                have ha := ha.add (seeF hs 44 1 (.string t3802) KR KR)
                have ha := ha.add (seeF hs 47 4 (.string t3848) KR KR)
                refine yStep ha 48 KR ?_; intro l_ ha HK
                refine stepsa ha 48 9 9 (.tmp 44) (.tmp 47) t3802 t3848 rfl KR KR (show (t3802).size + (t3848).size ≤ 9223372036854775807 from hA3852) KR ?_; intro ax hax; exact HK _ _ _ hax rfl (Below.refl _ _)
            · skip
              intro a W3853 ha HW he hf
              replace ha := ha.add (he 1 (.pointer (some ⟨b3796, 0, none⟩)) KR KR)
              replace ha := ha.add (he 2 (.pointer (some ⟨b3798, 0, none⟩)) KR KR)
              replace ha := ha.add (he 4 (.pointer (some ⟨b3806, 0, none⟩)) KR KR)
              replace ha := ha.add (he 5 (.int .i64 x3829) KR KR)
              replace ha := ha.add (he 6 (.int .i64 x3846) KR KR)
              replace ha := ha.add (gotF (m := 6) (j := 5) (d := 48) (v := .string (t3802 ++ t3848)) hf KR KR KR)
              clear he hf
              refine stepp ha 49 (.pointer (some ⟨b3806, 2, none⟩)) KR KR ?_; clear ha a; intro a ha
              refine stepst ha HW 2 (b := b3806) (C := #[.int .i64 13, .int .u32 0, .string t3802]) (T := 57) KR 9 2 (.tmp 49) (.tmp 48) (.string (t3802 ++ t3848)) #[.int .i64 13, .int .u32 0, .string (t3802 ++ t3848)] rfl KR KR KR KR KR KR KR ?_; clear ha HW a; intro a W3854 HW ha
              refine endl ?_
              refine blkN ?_
              exact thenN ⟨x3829, x3846, 13, t3802 ++ t3848, h, ha.sub (subs_cons KR (subs_cons KR (subs_cons KR (subs_cons KR (subs_cons KR (subs_nil _)))))), HW.pick [0, 1, 2] [] (by decide) (by decide) KR KR⟩
    · skip
      replace h := ite_neg' h hp3817
      refine condF ha KR KR (t := (a0.f0 == 8)) (ieq_f hp3817) ?_
      refine wp_seq_k (fun K3855 hK3856 => ?_)
      refine wp_region_lit ?_
      refine stepp ha 51 (.bool (a0.f0 == 9)) KR KR ?_; clear ha a; intro a ha
      refine stepp ha 50 (.bool (a0.f0 == 9)) KR KR ?_; clear ha a; intro a ha
      refine endl ?_
      refine thenN (hK3856 _ _ ?_); clear hK3856
      by_cases hp3857 : a0.f0 = 9
      · skip
        replace h := ite_pos' h hp3857
        refine condT ha KR KR (t := (a0.f0 == 9)) (ieq_t hp3857) ?_
        obtain ⟨t3858, ht3859, h_⟩ := bind_some' h; clear h; have h := h_; clear h_
        obtain ⟨hA3862, h_⟩ := asrt_some h; clear h; have h := h_; clear h_
        refine regionG 4 KR KR ha HW [.fix (.pointer (some ⟨b3806, 2, none⟩)), .fix (.string t3802), .fix (.string t3858), .fix (.string (t3802 ++ t3858))] ?_ ?_
        · skip
          refine ⟨?_, ?_, ?_, ?_, trivial⟩
          · skip
            intro a wr hn hd HW hs; have ha := hasNil hn hd
            have ha := ha.add (seeE hs 4 (.pointer (some ⟨b3806, 0, none⟩)) KR KR)
            refine yStep ha 52 KR ?_; intro l_ ha HK
            refine stepp ha 52 (.pointer (some ⟨b3806, 2, none⟩)) KR KR ?_; intro ax hax; exact HK _ _ _ hax rfl (Below.refl _ _)
          · skip
            intro a wr hn hd HW hs; have ha := hasNil hn hd
            have ha := ha.add (seeF hs 52 0 (.pointer (some ⟨b3806, 2, none⟩)) KR KR)
            refine yStep ha 53 KR ?_; intro l_ ha HK
            refine stepl ha 53 (HW.ca (i := 0) (b := b3806) (C := #[.int .i64 17, .int .u32 0, .string t3802]) (T := 57) (fr := (0, 0)) KR) 9 2 (.tmp 52) (.string t3802) rfl KR KR KR ?_; intro ax hax; exact HK _ _ _ hax rfl (Below.refl _ _)
          · skip
            intro a wr hn hd HW hs; have ha := hasNil hn hd
            refine yStep ha 54 KR ?_; intro l_ ha HK
            refine stepc ha 54 KR KR (headgateref01_PutLittle.calls K 0 8 t3858 _ ht3859) ?_; rintro e W3860 ⟨rfl, HX3861⟩
            refine ⟨_, rfl, ?_⟩; intro ax hax; exact HK _ _ _ hax rfl HX3861.below
          · skip
            intro a wr hn hd HW hs; have ha := hasNil hn hd
            have ha := ha.add (seeF hs 53 1 (.string t3802) KR KR)
            have ha := ha.add (seeF hs 54 2 (.string t3858) KR KR)
            refine yStep ha 55 KR ?_; intro l_ ha HK
            refine stepsa ha 55 9 9 (.tmp 53) (.tmp 54) t3802 t3858 rfl KR KR (show (t3802).size + (t3858).size ≤ 9223372036854775807 from hA3862) KR ?_; intro ax hax; exact HK _ _ _ hax rfl (Below.refl _ _)
        · skip
          intro a W3863 ha HW he hf
          replace ha := ha.add (he 1 (.pointer (some ⟨b3796, 0, none⟩)) KR KR)
          replace ha := ha.add (he 2 (.pointer (some ⟨b3798, 0, none⟩)) KR KR)
          replace ha := ha.add (he 4 (.pointer (some ⟨b3806, 0, none⟩)) KR KR)
          replace ha := ha.add (he 5 (.int .i64 0) KR KR)
          replace ha := ha.add (he 6 (.int .i64 0) KR KR)
          replace ha := ha.add (gotF (m := 4) (j := 3) (d := 55) (v := .string (t3802 ++ t3858)) hf KR KR KR)
          clear he hf
          refine stepp ha 56 (.pointer (some ⟨b3806, 2, none⟩)) KR KR ?_; clear ha a; intro a ha
          refine stepst ha HW 0 (b := b3806) (C := #[.int .i64 17, .int .u32 0, .string t3802]) (T := 57) KR 9 2 (.tmp 56) (.tmp 55) (.string (t3802 ++ t3858)) #[.int .i64 17, .int .u32 0, .string (t3802 ++ t3858)] rfl KR KR KR KR KR KR KR ?_; clear ha HW a; intro a W3864 HW ha
          refine endl ?_
          refine blkN ?_
          exact thenN ⟨0, 0, 17, t3802 ++ t3858, h, ha.sub (subs_cons KR (subs_cons KR (subs_cons KR (subs_cons KR (subs_cons KR (subs_nil _)))))), HW.pick [2, 1, 0] [] (by decide) (by decide) KR KR⟩
      · skip
        replace h := ite_neg' h hp3857
        refine condF ha KR KR (t := (a0.f0 == 9)) (ieq_f hp3857) ?_
        refine wp_seq_k (fun K3865 hK3866 => ?_)
        refine wp_region_lit ?_
        refine stepp ha 58 (.bool (a0.f0 == 12)) KR KR ?_; clear ha a; intro a ha
        refine stepp ha 57 (.bool (a0.f0 == 12)) KR KR ?_; clear ha a; intro a ha
        refine endl ?_
        refine thenN (hK3866 _ _ ?_); clear hK3866
        by_cases hp3867 : a0.f0 = 12
        · skip
          replace h := ite_pos' h hp3867
          refine condT ha KR KR (t := (a0.f0 == 12)) (ieq_t hp3867) ?_
          refine wp_seq_k (fun K3868 hK3869 => ?_)
          refine wp_region_lit ?_
          refine stepp ha 5 (.int .i64 1) KR KR ?_; clear ha a; intro a ha
          refine endl ?_
          refine thenN (hK3869 _ _ ?_); clear hK3869
          obtain ⟨t3870, ht3871, h_⟩ := bind_some' h; clear h; have h := h_; clear h_
          obtain ⟨hA3874, h_⟩ := asrt_some h; clear h; have h := h_; clear h_
          refine regionG 6 KR KR ha HW [.fix (.pointer (some ⟨b3806, 2, none⟩)), .fix (.string t3802), .fix (.pointer (some ⟨b3796, 10, none⟩)), .fix (.int .u64 a0.f10), .fix (.string t3870), .fix (.string (t3802 ++ t3870))] ?_ ?_
          · skip
            refine ⟨?_, ?_, ?_, ?_, ?_, ?_, trivial⟩
            · skip
              intro a wr hn hd HW hs; have ha := hasNil hn hd
              have ha := ha.add (seeE hs 4 (.pointer (some ⟨b3806, 0, none⟩)) KR KR)
              refine yStep ha 59 KR ?_; intro l_ ha HK
              refine stepp ha 59 (.pointer (some ⟨b3806, 2, none⟩)) KR KR ?_; intro ax hax; exact HK _ _ _ hax rfl (Below.refl _ _)
            · skip
              intro a wr hn hd HW hs; have ha := hasNil hn hd
              have ha := ha.add (seeF hs 59 0 (.pointer (some ⟨b3806, 2, none⟩)) KR KR)
              refine yStep ha 60 KR ?_; intro l_ ha HK
              refine stepl ha 60 (HW.ca (i := 0) (b := b3806) (C := #[.int .i64 17, .int .u32 0, .string t3802]) (T := 57) (fr := (0, 0)) KR) 9 2 (.tmp 59) (.string t3802) rfl KR KR KR ?_; intro ax hax; exact HK _ _ _ hax rfl (Below.refl _ _)
            · skip
              intro a wr hn hd HW hs; have ha := hasNil hn hd
              have ha := ha.add (seeE hs 1 (.pointer (some ⟨b3796, 0, none⟩)) KR KR)
              refine yStep ha 61 KR ?_; intro l_ ha HK
              refine stepp ha 61 (.pointer (some ⟨b3796, 10, none⟩)) KR KR ?_; intro ax hax; exact HK _ _ _ hax rfl (Below.refl _ _)
            · skip
              intro a wr hn hd HW hs; have ha := hasNil hn hd
              have ha := ha.add (seeF hs 61 2 (.pointer (some ⟨b3796, 10, none⟩)) KR KR)
              refine yStep ha 62 KR ?_; intro l_ ha HK
              refine stepl ha 62 (HW.ca (i := 2) (b := b3796) (C := #[.int .i64 a0.f0, .int .i64 a0.f1, .string a0.f2, .int .i64 a0.f3, .int .i64 a0.f4, .string a0.f5, .bool a0.f6, .slice A0_0 a0.f7.length c0_0, .int .u64 a0.f8, .int .u64 a0.f9, .int .u64 a0.f10, .int .i64 a0.f11, .bool a0.f12, .int .i64 a0.f13]) (T := 49) (fr := (0, 0)) KR) 42 10 (.tmp 61) (.int .u64 a0.f10) rfl KR KR KR ?_; intro ax hax; exact HK _ _ _ hax rfl (Below.refl _ _)
            · skip
              intro a wr hn hd HW hs; have ha := hasNil hn hd
              have ha := ha.add (seeF hs 62 3 (.int .u64 a0.f10) KR KR)
              refine yStep ha 63 KR ?_; intro l_ ha HK
              refine stepc ha 63 KR KR (headgateref01_PutLittle.calls K a0.f10 8 t3870 _ ht3871) ?_; rintro e W3872 ⟨rfl, HX3873⟩
              refine ⟨_, rfl, ?_⟩; intro ax hax; exact HK _ _ _ hax rfl HX3873.below
            · skip
              intro a wr hn hd HW hs; have ha := hasNil hn hd
              have ha := ha.add (seeF hs 60 1 (.string t3802) KR KR)
              have ha := ha.add (seeF hs 63 4 (.string t3870) KR KR)
              refine yStep ha 64 KR ?_; intro l_ ha HK
              refine stepsa ha 64 9 9 (.tmp 60) (.tmp 63) t3802 t3870 rfl KR KR (show (t3802).size + (t3870).size ≤ 9223372036854775807 from hA3874) KR ?_; intro ax hax; exact HK _ _ _ hax rfl (Below.refl _ _)
          · skip
            intro a W3875 ha HW he hf
            replace ha := ha.add (he 1 (.pointer (some ⟨b3796, 0, none⟩)) KR KR)
            replace ha := ha.add (he 2 (.pointer (some ⟨b3798, 0, none⟩)) KR KR)
            replace ha := ha.add (he 4 (.pointer (some ⟨b3806, 0, none⟩)) KR KR)
            replace ha := ha.add (he 5 (.int .i64 1) KR KR)
            replace ha := ha.add (he 6 (.int .i64 0) KR KR)
            replace ha := ha.add (gotF (m := 6) (j := 5) (d := 64) (v := .string (t3802 ++ t3870)) hf KR KR KR)
            clear he hf
            refine stepp ha 65 (.pointer (some ⟨b3806, 2, none⟩)) KR KR ?_; clear ha a; intro a ha
            refine stepst ha HW 0 (b := b3806) (C := #[.int .i64 17, .int .u32 0, .string t3802]) (T := 57) KR 9 2 (.tmp 65) (.tmp 64) (.string (t3802 ++ t3870)) #[.int .i64 17, .int .u32 0, .string (t3802 ++ t3870)] rfl KR KR KR KR KR KR KR ?_; clear ha HW a; intro a W3876 HW ha
            refine endl ?_
            refine blkN ?_
            exact thenN ⟨1, 0, 17, t3802 ++ t3870, h, ha.sub (subs_cons KR (subs_cons KR (subs_cons KR (subs_cons KR (subs_cons KR (subs_nil _)))))), HW.pick [2, 1, 0] [] (by decide) (by decide) KR KR⟩
        · skip
          replace h := ite_neg' h hp3867
          refine condF ha KR KR (t := (a0.f0 == 12)) (ieq_f hp3867) ?_
          refine wp_seq_k (fun K3877 hK3878 => ?_)
          refine wp_region_lit ?_
          refine stepp ha 67 (.bool (a0.f0 == 10)) KR KR ?_; clear ha a; intro a ha
          refine stepp ha 66 (.bool (a0.f0 == 10)) KR KR ?_; clear ha a; intro a ha
          refine endl ?_
          refine thenN (hK3878 _ _ ?_); clear hK3878
          by_cases hp3879 : a0.f0 = 10
          · skip
            replace h := ite_pos' h hp3879
            refine condT ha KR KR (t := (a0.f0 == 10)) (ieq_t hp3879) ?_
            refine wp_region_lit ?_
            refine stepp ha 68 (.pointer (some ⟨b3806, 0, none⟩)) KR KR ?_; clear ha a; intro a ha
            refine stepst ha HW 0 (b := b3806) (C := #[.int .i64 17, .int .u32 0, .string t3802]) (T := 57) KR 3 0 (.tmp 68) (.const (.int .i64 21)) (.int .i64 21) #[.int .i64 21, .int .u32 0, .string t3802] rfl KR KR KR KR KR KR KR ?_; clear ha HW a; intro a W3880 HW ha
            refine endl ?_
            refine blkN ?_
            exact thenN ⟨0, 0, 21, t3802, h, ha.sub (subs_cons KR (subs_cons KR (subs_cons KR (subs_cons KR (subs_cons KR (subs_nil _)))))), HW.pick [2, 1, 0] [] (by decide) (by decide) KR KR⟩
          · skip
            replace h := ite_neg' h hp3879
            refine condF ha KR KR (t := (a0.f0 == 10)) (ieq_f hp3879) ?_
            refine wp_seq_k (fun K3881 hK3882 => ?_)
            refine wp_region_lit ?_
            refine stepp ha 70 (.bool (a0.f0 == 11)) KR KR ?_; clear ha a; intro a ha
            refine stepp ha 69 (.bool (a0.f0 == 11)) KR KR ?_; clear ha a; intro a ha
            refine endl ?_
            refine thenN (hK3882 _ _ ?_); clear hK3882
            by_cases hp3883 : a0.f0 = 11
            · skip
              replace h := ite_pos' h hp3883
              refine condT ha KR KR (t := (a0.f0 == 11)) (ieq_t hp3883) ?_
              refine wp_region_lit ?_
              refine stepp ha 71 (.pointer (some ⟨b3806, 0, none⟩)) KR KR ?_; clear ha a; intro a ha
              refine stepst ha HW 0 (b := b3806) (C := #[.int .i64 17, .int .u32 0, .string t3802]) (T := 57) KR 3 0 (.tmp 71) (.const (.int .i64 21)) (.int .i64 21) #[.int .i64 21, .int .u32 0, .string t3802] rfl KR KR KR KR KR KR KR ?_; clear ha HW a; intro a W3884 HW ha
              refine stepp ha 5 (.int .i64 1) KR KR ?_; clear ha a; intro a ha
              refine endl ?_
              refine blkN ?_
              exact thenN ⟨1, 0, 21, t3802, h, ha.sub (subs_cons KR (subs_cons KR (subs_cons KR (subs_cons KR (subs_cons KR (subs_nil _)))))), HW.pick [2, 1, 0] [] (by decide) (by decide) KR KR⟩
            · skip
              replace h := ite_neg' h hp3883
              refine condF ha KR KR (t := (a0.f0 == 11)) (ieq_f hp3883) ?_
              refine wp_seq_k (fun K3885 hK3886 => ?_)
              refine wp_region_lit ?_
              refine stepp ha 15 (.agg #[.int .i64 0, .int .u32 0, .string (⟨#[]⟩ : ByteArray)]) KR KR ?_; clear ha a; intro a ha
              refine stepst ha HW 1 (b := b3798) (C := #[.int .i64 0, .int .u32 0, .string (⟨#[]⟩ : ByteArray)]) (T := 57) KR 57 0 (.tmp 2) (.tmp 15) (.agg #[.int .i64 0, .int .u32 0, .string (⟨#[]⟩ : ByteArray)]) #[.int .i64 0, .int .u32 0, .string (⟨#[]⟩ : ByteArray)] rfl KR KR KR KR KR KR KR ?_; clear ha HW a; intro a W3887 HW ha
              refine stepp ha 3 (.int .i64 180) KR KR ?_; clear ha a; intro a ha
              refine endl ?_
              refine thenN (hK3886 _ _ ?_); clear hK3886
              refine wp_ret ?_
              refine blkR ?_
              refine thenR ?_
              obtain rfl := Option.some.inj h
              exact finv ha _ _ rfl (.cell (ad := ⟨b3798, 0, none⟩) (v := .agg #[.int .i64 0, .int .u32 0, .string (⟨#[]⟩ : ByteArray)]) KR (run_loadVar_ca0 (HW.ca (i := 1) (b := b3798) (C := #[.int .i64 0, .int .u32 0, .string (⟨#[]⟩ : ByteArray)]) (T := 57) (fr := (0, 0)) KR) 57 0 (.agg #[.int .i64 0, .int .u32 0, .string (⟨#[]⟩ : ByteArray)]) KR) (.tmp (v := .int .i64 180) KR .nil)) (.tuple #[.agg #[.int .i64 0, .int .u32 0, .string (⟨#[]⟩ : ByteArray)], .int .i64 180]) rfl ⟨rfl, HW.pick [] [] (by decide) (by decide) rfl KR⟩
  · skip
    intro a W3892 hJ
    obtain ⟨x3888, x3889, x3890, x3891, h, ha, HW⟩ := hJ
    replace h : headgateref27_Words.j4 K a0 x3888 x3889 x3890 x3891 = some r := h
    unfold headgateref27_Words.j4 at h
    refine hK3812 _ _ ?_; clear hK3812
    refine wp_seq_k (fun K3893 hK3894 => ?_)
    refine wp_seq_k (fun K3895 hK3896 => ?_)
    refine wp_region_lit ?_
    refine stepp ha 72 (.pointer (some ⟨b3796, 11, none⟩)) KR KR ?_; clear ha a; intro a ha
    refine stepl ha 73 (HW.ca (i := 0) (b := b3796) (C := #[.int .i64 a0.f0, .int .i64 a0.f1, .string a0.f2, .int .i64 a0.f3, .int .i64 a0.f4, .string a0.f5, .bool a0.f6, .slice A0_0 a0.f7.length c0_0, .int .u64 a0.f8, .int .u64 a0.f9, .int .u64 a0.f10, .int .i64 a0.f11, .bool a0.f12, .int .i64 a0.f13]) (T := 49) (fr := (0, 0)) KR) 3 11 (.tmp 72) (.int .i64 a0.f11) rfl KR KR KR ?_; clear ha a; intro a ha
    refine stepp ha 74 (.bool (decide (a0.f11 < 0))) KR KR ?_; clear ha a; intro a ha
    refine stepp ha 75 (.bool (decide (a0.f11 < 0))) KR KR ?_; clear ha a; intro a ha
    by_cases hp3897 : a0.f11 < 0
    · skip
      replace h := ite_pos' h hp3897
      replace ha := ha.bool 75 KR (decide_eq_true hp3897)
      refine stepo ha 76 KR ?_; clear ha a; intro a ha
      refine stepo ha 77 KR ?_; clear ha a; intro a ha
      refine stepo ha 78 KR ?_; clear ha a; intro a ha
      refine stepp ha 79 (.bool true) KR KR ?_; clear ha a; intro a ha
      refine endl ?_
      refine thenN (hK3896 _ _ ?_); clear hK3896
      refine condT ha KR KR (t := true) (rfl) ?_
      refine wp_seq_k (fun K3898 hK3899 => ?_)
      refine wp_region_lit ?_
      refine stepp ha 80 (.agg #[.int .i64 0, .int .u32 0, .string (⟨#[]⟩ : ByteArray)]) KR KR ?_; clear ha a; intro a ha
      refine stepst ha HW 1 (b := b3798) (C := #[.int .i64 0, .int .u32 0, .string (⟨#[]⟩ : ByteArray)]) (T := 57) KR 57 0 (.tmp 2) (.tmp 80) (.agg #[.int .i64 0, .int .u32 0, .string (⟨#[]⟩ : ByteArray)]) #[.int .i64 0, .int .u32 0, .string (⟨#[]⟩ : ByteArray)] rfl KR KR KR KR KR KR KR ?_; clear ha HW a; intro a W3900 HW ha
      refine stepp ha 3 (.int .i64 180) KR KR ?_; clear ha a; intro a ha
      refine endl ?_
      refine thenN (hK3899 _ _ ?_); clear hK3899
      refine wp_ret ?_
      refine thenR ?_
      obtain rfl := Option.some.inj h
      exact finv ha _ _ rfl (.cell (ad := ⟨b3798, 0, none⟩) (v := .agg #[.int .i64 0, .int .u32 0, .string (⟨#[]⟩ : ByteArray)]) KR (run_loadVar_ca0 (HW.ca (i := 1) (b := b3798) (C := #[.int .i64 0, .int .u32 0, .string (⟨#[]⟩ : ByteArray)]) (T := 57) (fr := (0, 0)) KR) 57 0 (.agg #[.int .i64 0, .int .u32 0, .string (⟨#[]⟩ : ByteArray)]) KR) (.tmp (v := .int .i64 180) KR .nil)) (.tuple #[.agg #[.int .i64 0, .int .u32 0, .string (⟨#[]⟩ : ByteArray)], .int .i64 180]) rfl ⟨rfl, HW.pick [] [] (by decide) (by decide) rfl KR⟩
    · skip
      replace h := ite_neg' h hp3897
      replace ha := ha.bool 75 KR (decide_eq_false hp3897)
      refine stepp ha 76 (.pointer (some ⟨b3796, 11, none⟩)) KR KR ?_; clear ha a; intro a ha
      refine stepl ha 77 (HW.ca (i := 0) (b := b3796) (C := #[.int .i64 a0.f0, .int .i64 a0.f1, .string a0.f2, .int .i64 a0.f3, .int .i64 a0.f4, .string a0.f5, .bool a0.f6, .slice A0_0 a0.f7.length c0_0, .int .u64 a0.f8, .int .u64 a0.f9, .int .u64 a0.f10, .int .i64 a0.f11, .bool a0.f12, .int .i64 a0.f13]) (T := 49) (fr := (0, 0)) KR) 3 11 (.tmp 76) (.int .i64 a0.f11) rfl KR KR KR ?_; clear ha a; intro a ha
      refine stepp ha 78 (.bool (decide (a0.f11 > 255))) KR KR ?_; clear ha a; intro a ha
      refine stepp ha 79 (.bool (decide (a0.f11 > 255))) KR KR ?_; clear ha a; intro a ha
      refine endl ?_
      refine thenN (hK3896 _ _ ?_); clear hK3896
      by_cases hp3901 : a0.f11 > 255
      · skip
        replace h := ite_pos' h hp3901
        refine condT ha KR KR (t := decide (a0.f11 > 255)) (decide_eq_true hp3901) ?_
        refine wp_seq_k (fun K3902 hK3903 => ?_)
        refine wp_region_lit ?_
        refine stepp ha 80 (.agg #[.int .i64 0, .int .u32 0, .string (⟨#[]⟩ : ByteArray)]) KR KR ?_; clear ha a; intro a ha
        refine stepst ha HW 1 (b := b3798) (C := #[.int .i64 0, .int .u32 0, .string (⟨#[]⟩ : ByteArray)]) (T := 57) KR 57 0 (.tmp 2) (.tmp 80) (.agg #[.int .i64 0, .int .u32 0, .string (⟨#[]⟩ : ByteArray)]) #[.int .i64 0, .int .u32 0, .string (⟨#[]⟩ : ByteArray)] rfl KR KR KR KR KR KR KR ?_; clear ha HW a; intro a W3904 HW ha
        refine stepp ha 3 (.int .i64 180) KR KR ?_; clear ha a; intro a ha
        refine endl ?_
        refine thenN (hK3903 _ _ ?_); clear hK3903
        refine wp_ret ?_
        refine thenR ?_
        obtain rfl := Option.some.inj h
        exact finv ha _ _ rfl (.cell (ad := ⟨b3798, 0, none⟩) (v := .agg #[.int .i64 0, .int .u32 0, .string (⟨#[]⟩ : ByteArray)]) KR (run_loadVar_ca0 (HW.ca (i := 1) (b := b3798) (C := #[.int .i64 0, .int .u32 0, .string (⟨#[]⟩ : ByteArray)]) (T := 57) (fr := (0, 0)) KR) 57 0 (.agg #[.int .i64 0, .int .u32 0, .string (⟨#[]⟩ : ByteArray)]) KR) (.tmp (v := .int .i64 180) KR .nil)) (.tuple #[.agg #[.int .i64 0, .int .u32 0, .string (⟨#[]⟩ : ByteArray)], .int .i64 180]) rfl ⟨rfl, HW.pick [] [] (by decide) (by decide) rfl KR⟩
      · skip
        replace h := ite_neg' h hp3901
        refine condF ha KR KR (t := decide (a0.f11 > 255)) (decide_eq_false hp3901) ?_
        refine wp_skip ?_
        refine thenN (hK3894 _ _ ?_); clear hK3894
        refine wp_seq_k (fun K3905 hK3906 => ?_)
        refine wp_region_lit ?_
        refine stepp ha 81 (.int .i64 x3888) KR KR ?_; clear ha a; intro a ha
        refine stepp ha 82 (.int .i64 x3889) KR KR ?_; clear ha a; intro a ha
        refine stepp ha 83 (.int .i64 (IntKind.wrap .i64 (x3888 + x3889))) KR KR ?_; clear ha a; intro a ha
        refine stepp ha 84 (.pointer (some ⟨b3796, 11, none⟩)) KR KR ?_; clear ha a; intro a ha
        refine stepl ha 85 (HW.ca (i := 0) (b := b3796) (C := #[.int .i64 a0.f0, .int .i64 a0.f1, .string a0.f2, .int .i64 a0.f3, .int .i64 a0.f4, .string a0.f5, .bool a0.f6, .slice A0_0 a0.f7.length c0_0, .int .u64 a0.f8, .int .u64 a0.f9, .int .u64 a0.f10, .int .i64 a0.f11, .bool a0.f12, .int .i64 a0.f13]) (T := 49) (fr := (0, 0)) KR) 3 11 (.tmp 84) (.int .i64 a0.f11) rfl KR KR KR ?_; clear ha a; intro a ha
        refine stepp ha 86 (.int .i64 (IntKind.wrap .i64 (a0.f11 * 256))) KR KR ?_; clear ha a; intro a ha
        refine stepp ha 87 (.int .i64 (IntKind.wrap .i64 ((IntKind.wrap .i64 (x3888 + x3889)) + (IntKind.wrap .i64 (a0.f11 * 256))))) KR KR ?_; clear ha a; intro a ha
        refine stepp ha 88 (.int .u32 (IntKind.wrap .u32 (IntKind.wrap .i64 ((IntKind.wrap .i64 (x3888 + x3889)) + (IntKind.wrap .i64 (a0.f11 * 256)))))) KR KR ?_; clear ha a; intro a ha
        refine stepp ha 89 (.pointer (some ⟨b3806, 1, none⟩)) KR KR ?_; clear ha a; intro a ha
        refine stepst ha HW 2 (b := b3806) (C := #[.int .i64 x3890, .int .u32 0, .string x3891]) (T := 57) KR 25 1 (.tmp 89) (.tmp 88) (.int .u32 (IntKind.wrap .u32 (IntKind.wrap .i64 ((IntKind.wrap .i64 (x3888 + x3889)) + (IntKind.wrap .i64 (a0.f11 * 256)))))) #[.int .i64 x3890, .int .u32 (IntKind.wrap .u32 (IntKind.wrap .i64 ((IntKind.wrap .i64 (x3888 + x3889)) + (IntKind.wrap .i64 (a0.f11 * 256))))), .string x3891] rfl KR KR KR KR KR KR KR ?_; clear ha HW a; intro a W3907 HW ha
        refine endl ?_
        refine thenN (hK3906 _ _ ?_); clear hK3906
        refine wp_seq_k (fun K3908 hK3909 => ?_)
        refine wp_region_lit ?_
        refine stepp ha 91 (.pointer (some ⟨b3806, 0, none⟩)) KR KR ?_; clear ha a; intro a ha
        refine stepl ha 92 (HW.ca (i := 2) (b := b3806) (C := #[.int .i64 x3890, .int .u32 (IntKind.wrap .u32 (IntKind.wrap .i64 ((IntKind.wrap .i64 (x3888 + x3889)) + (IntKind.wrap .i64 (a0.f11 * 256))))), .string x3891]) (T := 57) (fr := (0, 0)) KR) 3 0 (.tmp 91) (.int .i64 x3890) rfl KR KR KR ?_; clear ha a; intro a ha
        refine stepp ha 93 (.pointer (some ⟨b3806, 1, none⟩)) KR KR ?_; clear ha a; intro a ha
        refine stepl ha 94 (HW.ca (i := 2) (b := b3806) (C := #[.int .i64 x3890, .int .u32 (IntKind.wrap .u32 (IntKind.wrap .i64 ((IntKind.wrap .i64 (x3888 + x3889)) + (IntKind.wrap .i64 (a0.f11 * 256))))), .string x3891]) (T := 57) (fr := (0, 0)) KR) 25 1 (.tmp 93) (.int .u32 (IntKind.wrap .u32 (IntKind.wrap .i64 ((IntKind.wrap .i64 (x3888 + x3889)) + (IntKind.wrap .i64 (a0.f11 * 256)))))) rfl KR KR KR ?_; clear ha a; intro a ha
        refine stepp ha 95 (.pointer (some ⟨b3806, 2, none⟩)) KR KR ?_; clear ha a; intro a ha
        refine stepl ha 96 (HW.ca (i := 2) (b := b3806) (C := #[.int .i64 x3890, .int .u32 (IntKind.wrap .u32 (IntKind.wrap .i64 ((IntKind.wrap .i64 (x3888 + x3889)) + (IntKind.wrap .i64 (a0.f11 * 256))))), .string x3891]) (T := 57) (fr := (0, 0)) KR) 9 2 (.tmp 95) (.string x3891) rfl KR KR KR ?_; clear ha a; intro a ha
        obtain ⟨t3910, ht3911, h_⟩ := bind_some' h; clear h; have h := h_; clear h_
        refine stepc ha 97 KR KR (headgateref27_Change.calls K x3890 (IntKind.wrap .u32 (IntKind.wrap .i64 ((IntKind.wrap .i64 (x3888 + x3889)) + (IntKind.wrap .i64 (a0.f11 * 256))))) x3891 t3910 _ ht3911) ?_; clear ha a; rintro e W3915 ⟨A3912, c3913, rfl, HX3916⟩
        refine ⟨_, rfl, ?_⟩; intro a ha; replace HW := HW.callw HX3916; clear HX3916
        refine stepp ha 90 (.tuple #[.agg #[.int .i64 t3910.1.f0, .int .i64 t3910.1.f1, .string t3910.1.f2, .int .i64 t3910.1.f3, .int .i64 t3910.1.f4, .string t3910.1.f5, .bool t3910.1.f6, .slice A3912 t3910.1.f7.length c3913, .int .u64 t3910.1.f8, .int .u64 t3910.1.f9, .int .u64 t3910.1.f10, .int .i64 t3910.1.f11, .bool t3910.1.f12, .int .i64 t3910.1.f13], .int .i64 t3910.2]) KR KR ?_; clear ha a; intro a ha
        refine stepp ha 98 (.agg #[.int .i64 t3910.1.f0, .int .i64 t3910.1.f1, .string t3910.1.f2, .int .i64 t3910.1.f3, .int .i64 t3910.1.f4, .string t3910.1.f5, .bool t3910.1.f6, .slice A3912 t3910.1.f7.length c3913, .int .u64 t3910.1.f8, .int .u64 t3910.1.f9, .int .u64 t3910.1.f10, .int .i64 t3910.1.f11, .bool t3910.1.f12, .int .i64 t3910.1.f13]) KR KR ?_; clear ha a; intro a ha
        refine stepp ha 99 (.int .i64 t3910.2) KR KR ?_; clear ha a; intro a ha
        refine stepnew ha HW 7 #[.int .i64 0, .int .i64 0, .string (⟨#[]⟩ : ByteArray), .int .i64 0, .int .i64 0, .string (⟨#[]⟩ : ByteArray), .bool false, .slice none 0 0, .int .u64 0, .int .u64 0, .int .u64 0, .int .i64 0, .bool false, .int .i64 0] 49 KR KR ?_; clear ha HW a; intro b3917 a W3918 HW ha
        refine stepst ha HW 0 (b := b3917) (C := #[.int .i64 0, .int .i64 0, .string (⟨#[]⟩ : ByteArray), .int .i64 0, .int .i64 0, .string (⟨#[]⟩ : ByteArray), .bool false, .slice none 0 0, .int .u64 0, .int .u64 0, .int .u64 0, .int .i64 0, .bool false, .int .i64 0]) (T := 49) KR 49 0 (.tmp 7) (.tmp 98) (.agg #[.int .i64 t3910.1.f0, .int .i64 t3910.1.f1, .string t3910.1.f2, .int .i64 t3910.1.f3, .int .i64 t3910.1.f4, .string t3910.1.f5, .bool t3910.1.f6, .slice A3912 t3910.1.f7.length c3913, .int .u64 t3910.1.f8, .int .u64 t3910.1.f9, .int .u64 t3910.1.f10, .int .i64 t3910.1.f11, .bool t3910.1.f12, .int .i64 t3910.1.f13]) #[.int .i64 t3910.1.f0, .int .i64 t3910.1.f1, .string t3910.1.f2, .int .i64 t3910.1.f3, .int .i64 t3910.1.f4, .string t3910.1.f5, .bool t3910.1.f6, .slice A3912 t3910.1.f7.length c3913, .int .u64 t3910.1.f8, .int .u64 t3910.1.f9, .int .u64 t3910.1.f10, .int .i64 t3910.1.f11, .bool t3910.1.f12, .int .i64 t3910.1.f13] rfl KR KR KR KR KR KR KR ?_; clear ha HW a; intro a W3919 HW ha
        refine stepp ha 8 (.int .i64 t3910.2) KR KR ?_; clear ha a; intro a ha
        refine endl ?_
        refine thenN (hK3909 _ _ ?_); clear hK3909
        refine wp_seq_k (fun K3920 hK3921 => ?_)
        refine wp_seq_k (fun K3922 hK3923 => ?_)
        refine wp_region_lit ?_
        refine stepp ha 100 (.int .i64 t3910.2) KR KR ?_; clear ha a; intro a ha
        refine stepp ha 101 (.bool (t3910.2 != 0)) KR KR ?_; clear ha a; intro a ha
        refine stepp ha 102 (.bool (t3910.2 != 0)) KR KR ?_; clear ha a; intro a ha
        by_cases hp3924 : t3910.2 = 0
        · skip
          replace h := ite_pos' h hp3924
          replace ha := ha.bool 102 KR (ineq_f hp3924)
          refine stepl ha 103 (HW.ca (i := 1) (b := b3796) (C := #[.int .i64 a0.f0, .int .i64 a0.f1, .string a0.f2, .int .i64 a0.f3, .int .i64 a0.f4, .string a0.f5, .bool a0.f6, .slice A0_0 a0.f7.length c0_0, .int .u64 a0.f8, .int .u64 a0.f9, .int .u64 a0.f10, .int .i64 a0.f11, .bool a0.f12, .int .i64 a0.f13]) (T := 49) (fr := (0, 0)) KR) 49 0 (.tmp 1) (.agg #[.int .i64 a0.f0, .int .i64 a0.f1, .string a0.f2, .int .i64 a0.f3, .int .i64 a0.f4, .string a0.f5, .bool a0.f6, .slice A0_0 a0.f7.length c0_0, .int .u64 a0.f8, .int .u64 a0.f9, .int .u64 a0.f10, .int .i64 a0.f11, .bool a0.f12, .int .i64 a0.f13]) rfl KR KR KR ?_; clear ha a; intro a ha
          refine stepl ha 104 (HW.ca (i := 0) (b := b3917) (C := #[.int .i64 t3910.1.f0, .int .i64 t3910.1.f1, .string t3910.1.f2, .int .i64 t3910.1.f3, .int .i64 t3910.1.f4, .string t3910.1.f5, .bool t3910.1.f6, .slice A3912 t3910.1.f7.length c3913, .int .u64 t3910.1.f8, .int .u64 t3910.1.f9, .int .u64 t3910.1.f10, .int .i64 t3910.1.f11, .bool t3910.1.f12, .int .i64 t3910.1.f13]) (T := 49) (fr := (0, 0)) KR) 49 0 (.tmp 7) (.agg #[.int .i64 t3910.1.f0, .int .i64 t3910.1.f1, .string t3910.1.f2, .int .i64 t3910.1.f3, .int .i64 t3910.1.f4, .string t3910.1.f5, .bool t3910.1.f6, .slice A3912 t3910.1.f7.length c3913, .int .u64 t3910.1.f8, .int .u64 t3910.1.f9, .int .u64 t3910.1.f10, .int .i64 t3910.1.f11, .bool t3910.1.f12, .int .i64 t3910.1.f13]) rfl KR KR KR ?_; clear ha a; intro a ha
          obtain ⟨t3925, ht3926, h_⟩ := bind_some' h; clear h; have h := h_; clear h_
          refine stepc ha 105 KR KR (headgatekeep_Cmds.calls K a0 (⟨t3910.1.f0, t3910.1.f1, t3910.1.f2, t3910.1.f3, t3910.1.f4, t3910.1.f5, t3910.1.f6, t3910.1.f7, t3910.1.f8, t3910.1.f9, t3910.1.f10, t3910.1.f11, t3910.1.f12, t3910.1.f13⟩ : T_api_Cmd) A0_0 c0_0 A3912 c3913 t3925 _ ((HW.rd0 hr0_0)) (HW.rdo (i := 0) (q := ⟨128, 2, .slice A3912 t3910.1.f7.length c3913, t3910.1.f7.length, encs T_api_Range.enc t3910.1.f7⟩) KR) ht3926) ?_; clear ha a; rintro e W3927 ⟨rfl, HX3928⟩
          refine ⟨_, rfl, ?_⟩; intro a ha; replace HW := HW.callw HX3928; clear HX3928
          refine stepp ha 106 (.bool (!t3925)) KR KR ?_; clear ha a; intro a ha
          refine stepp ha 107 (.bool (!t3925)) KR KR ?_; clear ha a; intro a ha
          refine endl ?_
          refine thenN (hK3923 _ _ ?_); clear hK3923
          by_cases hp3929 : t3925 = true
          · skip
            replace h := ite_pos' h hp3929
            refine condF ha KR KR (t := (!t3925)) (not_f (hp3929)) ?_
            refine wp_skip ?_
            refine thenN (hK3921 _ _ ?_); clear hK3921
            refine wp_seq_k (fun K3936 hK3937 => ?_)
            refine wp_region_lit ?_
            refine stepl ha 109 (HW.ca (i := 3) (b := b3806) (C := #[.int .i64 x3890, .int .u32 (IntKind.wrap .u32 (IntKind.wrap .i64 ((IntKind.wrap .i64 (x3888 + x3889)) + (IntKind.wrap .i64 (a0.f11 * 256))))), .string x3891]) (T := 57) (fr := (0, 0)) KR) 57 0 (.tmp 4) (.agg #[.int .i64 x3890, .int .u32 (IntKind.wrap .u32 (IntKind.wrap .i64 ((IntKind.wrap .i64 (x3888 + x3889)) + (IntKind.wrap .i64 (a0.f11 * 256))))), .string x3891]) rfl KR KR KR ?_; clear ha a; intro a ha
            refine stepst ha HW 2 (b := b3798) (C := #[.int .i64 0, .int .u32 0, .string (⟨#[]⟩ : ByteArray)]) (T := 57) KR 57 0 (.tmp 2) (.tmp 109) (.agg #[.int .i64 x3890, .int .u32 (IntKind.wrap .u32 (IntKind.wrap .i64 ((IntKind.wrap .i64 (x3888 + x3889)) + (IntKind.wrap .i64 (a0.f11 * 256))))), .string x3891]) #[.int .i64 x3890, .int .u32 (IntKind.wrap .u32 (IntKind.wrap .i64 ((IntKind.wrap .i64 (x3888 + x3889)) + (IntKind.wrap .i64 (a0.f11 * 256))))), .string x3891] rfl KR KR KR KR KR KR KR ?_; clear ha HW a; intro a W3938 HW ha
            refine stepp ha 3 (.int .i64 0) KR KR ?_; clear ha a; intro a ha
            refine endl ?_
            refine thenN (hK3937 _ _ ?_); clear hK3937
            refine wp_ret ?_
            obtain rfl := Option.some.inj h
            exact finv ha _ _ rfl (.cell (ad := ⟨b3798, 0, none⟩) (v := .agg #[.int .i64 x3890, .int .u32 (IntKind.wrap .u32 (IntKind.wrap .i64 ((IntKind.wrap .i64 (x3888 + x3889)) + (IntKind.wrap .i64 (a0.f11 * 256))))), .string x3891]) KR (run_loadVar_ca0 (HW.ca (i := 2) (b := b3798) (C := #[.int .i64 x3890, .int .u32 (IntKind.wrap .u32 (IntKind.wrap .i64 ((IntKind.wrap .i64 (x3888 + x3889)) + (IntKind.wrap .i64 (a0.f11 * 256))))), .string x3891]) (T := 57) (fr := (0, 0)) KR) 57 0 (.agg #[.int .i64 x3890, .int .u32 (IntKind.wrap .u32 (IntKind.wrap .i64 ((IntKind.wrap .i64 (x3888 + x3889)) + (IntKind.wrap .i64 (a0.f11 * 256))))), .string x3891]) KR) (.tmp (v := .int .i64 0) KR .nil)) (.tuple #[.agg #[.int .i64 x3890, .int .u32 (IntKind.wrap .u32 (IntKind.wrap .i64 ((IntKind.wrap .i64 (x3888 + x3889)) + (IntKind.wrap .i64 (a0.f11 * 256))))), .string x3891], .int .i64 0]) rfl ⟨rfl, HW.pick [] [] (by decide) (by decide) rfl KR⟩
          · skip
            replace h := ite_neg' h hp3929
            refine condT ha KR KR (t := (!t3925)) (not_t (bool_f hp3929)) ?_
            refine wp_seq_k (fun K3930 hK3931 => ?_)
            refine wp_region_lit ?_
            refine stepp ha 108 (.agg #[.int .i64 0, .int .u32 0, .string (⟨#[]⟩ : ByteArray)]) KR KR ?_; clear ha a; intro a ha
            refine stepst ha HW 2 (b := b3798) (C := #[.int .i64 0, .int .u32 0, .string (⟨#[]⟩ : ByteArray)]) (T := 57) KR 57 0 (.tmp 2) (.tmp 108) (.agg #[.int .i64 0, .int .u32 0, .string (⟨#[]⟩ : ByteArray)]) #[.int .i64 0, .int .u32 0, .string (⟨#[]⟩ : ByteArray)] rfl KR KR KR KR KR KR KR ?_; clear ha HW a; intro a W3932 HW ha
            refine stepp ha 3 (.int .i64 180) KR KR ?_; clear ha a; intro a ha
            refine endl ?_
            refine thenN (hK3931 _ _ ?_); clear hK3931
            refine wp_ret ?_
            refine thenR ?_
            obtain rfl := Option.some.inj h
            exact finv ha _ _ rfl (.cell (ad := ⟨b3798, 0, none⟩) (v := .agg #[.int .i64 0, .int .u32 0, .string (⟨#[]⟩ : ByteArray)]) KR (run_loadVar_ca0 (HW.ca (i := 2) (b := b3798) (C := #[.int .i64 0, .int .u32 0, .string (⟨#[]⟩ : ByteArray)]) (T := 57) (fr := (0, 0)) KR) 57 0 (.agg #[.int .i64 0, .int .u32 0, .string (⟨#[]⟩ : ByteArray)]) KR) (.tmp (v := .int .i64 180) KR .nil)) (.tuple #[.agg #[.int .i64 0, .int .u32 0, .string (⟨#[]⟩ : ByteArray)], .int .i64 180]) rfl ⟨rfl, HW.pick [] [] (by decide) (by decide) rfl KR⟩
        · skip
          replace h := ite_neg' h hp3924
          replace ha := ha.bool 102 KR (ineq_t hp3924)
          refine stepo ha 103 KR ?_; clear ha a; intro a ha
          refine stepo ha 104 KR ?_; clear ha a; intro a ha
          refine stepo ha 105 KR ?_; clear ha a; intro a ha
          refine stepo ha 106 KR ?_; clear ha a; intro a ha
          refine stepp ha 107 (.bool true) KR KR ?_; clear ha a; intro a ha
          refine endl ?_
          refine thenN (hK3923 _ _ ?_); clear hK3923
          refine condT ha KR KR (t := true) (rfl) ?_
          refine wp_seq_k (fun K3933 hK3934 => ?_)
          refine wp_region_lit ?_
          refine stepp ha 108 (.agg #[.int .i64 0, .int .u32 0, .string (⟨#[]⟩ : ByteArray)]) KR KR ?_; clear ha a; intro a ha
          refine stepst ha HW 2 (b := b3798) (C := #[.int .i64 0, .int .u32 0, .string (⟨#[]⟩ : ByteArray)]) (T := 57) KR 57 0 (.tmp 2) (.tmp 108) (.agg #[.int .i64 0, .int .u32 0, .string (⟨#[]⟩ : ByteArray)]) #[.int .i64 0, .int .u32 0, .string (⟨#[]⟩ : ByteArray)] rfl KR KR KR KR KR KR KR ?_; clear ha HW a; intro a W3935 HW ha
          refine stepp ha 3 (.int .i64 180) KR KR ?_; clear ha a; intro a ha
          refine endl ?_
          refine thenN (hK3934 _ _ ?_); clear hK3934
          refine wp_ret ?_
          refine thenR ?_
          obtain rfl := Option.some.inj h
          exact finv ha _ _ rfl (.cell (ad := ⟨b3798, 0, none⟩) (v := .agg #[.int .i64 0, .int .u32 0, .string (⟨#[]⟩ : ByteArray)]) KR (run_loadVar_ca0 (HW.ca (i := 2) (b := b3798) (C := #[.int .i64 0, .int .u32 0, .string (⟨#[]⟩ : ByteArray)]) (T := 57) (fr := (0, 0)) KR) 57 0 (.agg #[.int .i64 0, .int .u32 0, .string (⟨#[]⟩ : ByteArray)]) KR) (.tmp (v := .int .i64 180) KR .nil)) (.tuple #[.agg #[.int .i64 0, .int .u32 0, .string (⟨#[]⟩ : ByteArray)], .int .i64 180]) rfl ⟨rfl, HW.pick [] [] (by decide) (by decide) rfl KR⟩
end Go.Proofs.YthjjbkgifelooaaDoor.F
