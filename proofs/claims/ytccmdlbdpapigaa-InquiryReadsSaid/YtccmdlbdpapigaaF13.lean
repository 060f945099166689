/- headgate/inquiry.List: plain functions, and that the calls come to what they say. No condition. -/
import Derived.Test.YtccmdlbdpapigaaFT
import Derived.Test.YtccmdlbdpapigaaF22
namespace Go.Proofs.Ytccmdlbdpapigaa.F
open Go Go.RowKit Go.Proofs.Ytccmdlbdpapigaa.X
set_option linter.unusedVariables false
set_option linter.unusedSimpArgs false
/-! ### headgate/inquiry.List: function 13 -/
def inquiry_List.b0 (K : Nat) (x801 : Int) (again891 : (List ByteArray) → Int → Option ByteArray) (x892 : List ByteArray) (x896 : Int) : Option ByteArray :=
  if x896 < x801 then ((inquiry_bytes.f ([0, IntKind.wrap .u8 x896] : List Int)).bind fun t912 => ((inquiry_page.f 8 ([t912] : List ByteArray)).bind fun t919 => (asrt (x892.length + ([t919] : List ByteArray).length ≤ 8796093022208) (again891 (x892 ++ ([t919] : List ByteArray)) (IntKind.wrap .i64 (x896 + 1)))))) else ((inquiry_page.f 0 x892).bind fun t934 => (some t934))
def inquiry_List.l0 (K : Nat) (x801 : Int) : Nat → (List ByteArray) → Int → Option ByteArray
  | 0, _, _ => none
  | k_ + 1, x892, x896 => inquiry_List.b0 K x801 (inquiry_List.l0 K x801 k_) x892 x896
def inquiry_List.j0 (K : Nat) (x801 : Int) : Option ByteArray :=
  (inquiry_words.f K (IntKind.wrap .i64 (8 * x801))).bind fun t805 => ((inquiry_words.f K 0).bind fun t809 => (inquiry_List.l0 K x801 K ([t805, t809] : List ByteArray) 0))
def inquiry_List.f (K : Nat) (a0 : Int) : Option ByteArray :=
  if a0 < 0 then (inquiry_List.j0 K  0) else (if a0 > 256 then (inquiry_List.j0 K  0) else (inquiry_List.j0 K  a0))
set_option maxRecDepth 100000 in
set_option maxHeartbeats 4000000 in
theorem inquiry_List.calls (K : Nat) (a0 : Int)  (r : ByteArray) (w : World)  (h : inquiry_List.f K a0 = some r) :
    Calls Try.prog 13 #[.int .i64 a0] w (fun e W' => e = .returned (.string r) ∧ Wd w W' [] [] ) := by
  refine sxstart (n := 32) (l := [(0, .int .i64 a0)]) Try.func13 rfl rfl (Nat.le_of_ble_eq_true KR) (subsA_cons rfl (subsA_nil _)) ?_
  intro a ha
  have HW := Wd.refl w
  unfold inquiry_List.f at h
  refine wp_seq_k (fun K793 hK794 => ?_)
  refine wp_region_lit ?_
  refine stepp ha 2 (.string (⟨#[]⟩ : ByteArray)) KR KR ?_; clear ha a; intro a ha
  refine endl ?_
  refine thenN (hK794 _ _ ?_); clear hK794
  refine wp_seq_k (fun K795 hK796 => ?_)
  refine cutn (fun a W802 => ∃ (x801 : Int), inquiry_List.j0 K  x801 = some r ∧ Has 32 [(0, .int .i64 x801)] a ∧ Wd w W802 [] []) ?_ ?_
  · skip
    refine wp_seq_k (fun K797 hK798 => ?_)
    refine wp_region_lit ?_
    refine stepp ha 5 (.int .i64 a0) KR KR ?_; clear ha a; intro a ha
    refine stepp ha 6 (.bool (decide (a0 < 0))) KR KR ?_; clear ha a; intro a ha
    refine stepp ha 7 (.bool (decide (a0 < 0))) KR KR ?_; clear ha a; intro a ha
    by_cases hp799 : a0 < 0
    · skip
      replace h := ite_pos' h hp799
      replace ha := ha.bool 7 KR (decide_eq_true hp799)
      refine stepo ha 8 KR ?_; clear ha a; intro a ha
      refine stepo ha 9 KR ?_; clear ha a; intro a ha
      refine stepp ha 10 (.bool true) KR KR ?_; clear ha a; intro a ha
      refine endl ?_
      refine thenN (hK798 _ _ ?_); clear hK798
      refine condT ha KR KR (t := true) (rfl) ?_
      refine wp_region_lit ?_
      refine stepp ha 0 (.int .i64 0) KR KR ?_; clear ha a; intro a ha
      refine endl ?_
      exact thenN ⟨0, h, ha.sub (subs_cons KR (subs_nil _)), HW.pick [] [] (by decide) (by decide) KR KR⟩
    · skip
      replace h := ite_neg' h hp799
      replace ha := ha.bool 7 KR (decide_eq_false hp799)
      refine stepp ha 8 (.int .i64 a0) KR KR ?_; clear ha a; intro a ha
      refine stepp ha 9 (.bool (decide (a0 > 256))) KR KR ?_; clear ha a; intro a ha
      refine stepp ha 10 (.bool (decide (a0 > 256))) KR KR ?_; clear ha a; intro a ha
      refine endl ?_
      refine thenN (hK798 _ _ ?_); clear hK798
      by_cases hp800 : a0 > 256
      · skip
        replace h := ite_pos' h hp800
        refine condT ha KR KR (t := decide (a0 > 256)) (decide_eq_true hp800) ?_
        refine wp_region_lit ?_
        refine stepp ha 0 (.int .i64 0) KR KR ?_; clear ha a; intro a ha
        refine endl ?_
        exact thenN ⟨0, h, ha.sub (subs_cons KR (subs_nil _)), HW.pick [] [] (by decide) (by decide) KR KR⟩
      · skip
        replace h := ite_neg' h hp800
        refine condF ha KR KR (t := decide (a0 > 256)) (decide_eq_false hp800) ?_
        refine wp_skip ?_
        exact thenN ⟨a0, h, ha.sub (subs_cons KR (subs_nil _)), HW.pick [] [] (by decide) (by decide) KR KR⟩
  · skip
    intro a W802 hJ
    obtain ⟨x801, h, ha, HW⟩ := hJ
    replace h : inquiry_List.j0 K  x801 = some r := h
    unfold inquiry_List.j0 at h
    refine hK796 _ _ ?_; clear hK796
    refine wp_seq_k (fun K803 hK804 => ?_)
    refine wp_region_lit ?_
    refine stepp ha 11 (.int .i64 x801) KR KR ?_; clear ha a; intro a ha
    refine stepp ha 12 (.int .i64 (IntKind.wrap .i64 (8 * x801))) KR KR ?_; clear ha a; intro a ha
    obtain ⟨t805, ht806, h_⟩ := bind_some' h; clear h; have h := h_; clear h_
    refine stepc ha 13 KR KR (inquiry_words.calls K (IntKind.wrap .i64 (8 * x801)) t805 _ ht806) ?_; clear ha a; rintro e W807 ⟨rfl, HX808⟩
    refine ⟨_, rfl, ?_⟩; intro a ha; replace HW := HW.callw HX808; clear HX808
    obtain ⟨t809, ht810, h_⟩ := bind_some' h; clear h; have h := h_; clear h_
    refine stepc ha 14 KR KR (inquiry_words.calls K 0 t809 _ ht810) ?_; clear ha a; rintro e W811 ⟨rfl, HX812⟩
    refine ⟨_, rfl, ?_⟩; intro a ha; replace HW := HW.callw HX812; clear HX812
    refine stepbs ha HW 15 9 1 2 #[.string t805, .string t809] [.string t805, .string t809] (by decide) KR KR KR KR ?_; clear ha HW a; intro b813 a W814 HW ha
    replace HW : Wd w W814 [] [⟨9, 1, .slice (some ⟨b813, 0, none⟩) ([t805, t809] : List ByteArray).length 2, ([t805, t809] : List ByteArray).length, encs encS ([t805, t809] : List ByteArray)⟩] := HW
    replace ha := ha.turn 15 (v := .slice (some ⟨b813, 0, none⟩) ([t805, t809] : List ByteArray).length 2) KR rfl
    refine stepp ha 3 (.slice (some ⟨b813, 0, none⟩) ([t805, t809] : List ByteArray).length 2) KR KR ?_; clear ha a; intro a ha
    refine endl ?_
    refine thenN (hK804 _ _ ?_); clear hK804
    refine wp_seq_k (fun K816 hK817 => ?_)
    refine wp_seq_k (fun K818 hK819 => ?_)
    refine wp_region_lit ?_
    refine stepp ha 16 (.int .i64 x801) KR KR ?_; clear ha a; intro a ha
    refine stepp ha 17 (.int .i64 0) KR KR ?_; clear ha a; intro a ha
    refine endl ?_
    refine thenN (hK819 _ _ ?_); clear hK819
    refine wp_block ?_
    refine loopk (fun k => fun a W897 => ∃ (x892 : List ByteArray), ∃ A893, ∃ c894, ∃ (x896 : Int), inquiry_List.l0 K x801 k x892 x896 = some r ∧ Has 32 [(3, .slice A893 x892.length c894), (16, .int .i64 x801), (17, .int .i64 x896)] a ∧ Wd w W897 [] [⟨9, 1, .slice A893 x892.length c894, x892.length, encs encS x892⟩]) K ?_ ?_
    · skip
      exact ⟨([t805, t809] : List ByteArray), some ⟨b813, 0, none⟩, 2, 0, h, ha.sub (subs_cons KR (subs_cons KR (subs_cons KR (subs_nil _)))), HW.pick [] [0] (by decide) (by decide) KR KR⟩
    · skip
      intro k a W897 hI
      obtain ⟨x892, A893, c894, x896, h, ha, HW⟩ := hI
      cases k with
      | zero => exact (none_some (show none = some r from h)).elim
      | succ k898 =>
        replace h : inquiry_List.b0 K x801 (inquiry_List.l0 K x801 k898) x892 x896 = some r := h
        obtain ⟨again891, hag899⟩ : ∃ g_, g_ = inquiry_List.l0 K x801 k898 := ⟨_, rfl⟩
        rw [← hag899] at h
        unfold inquiry_List.b0 at h
        refine wp_seq_k (fun K900 hK901 => ?_)
        refine wp_region_lit ?_
        refine stepp ha 18 (.bool (decide (x896 < x801))) KR KR ?_; clear ha a; intro a ha
        refine endl ?_
        refine thenN (hK901 _ _ ?_); clear hK901
        refine wp_seq_k (fun K902 hK903 => ?_)
        by_cases hp904 : x896 < x801
        · skip
          replace h := ite_pos' h hp904
          refine condT ha KR KR (t := decide (x896 < x801)) (decide_eq_true hp904) ?_
          refine wp_skip ?_
          refine thenN (hK903 _ _ ?_); clear hK903
          refine wp_seq_k (fun K905 hK906 => ?_)
          refine wp_block ?_
          refine wp_seq_k (fun K907 hK908 => ?_)
          refine wp_region_lit ?_
          refine stepp ha 19 (.int .i64 x896) KR KR ?_; clear ha a; intro a ha
          refine stepp ha 4 (.int .i64 x896) KR KR ?_; clear ha a; intro a ha
          refine endl ?_
          refine thenN (hK908 _ _ ?_); clear hK908
          refine wp_region_lit ?_
          refine stepp ha 20 (.slice A893 x892.length c894) KR KR ?_; clear ha a; intro a ha
          refine stepp ha 21 (.int .i64 x896) KR KR ?_; clear ha a; intro a ha
          refine stepp ha 22 (.int .u8 (IntKind.wrap .u8 x896)) KR KR ?_; clear ha a; intro a ha
          refine stepbs ha HW 23 5 1 2 #[.int .u8 0, .int .u8 (IntKind.wrap .u8 x896)] [.int .u8 0, .int .u8 (IntKind.wrap .u8 x896)] (by decide) KR KR KR KR ?_; clear ha HW a; intro b909 a W910 HW ha
          replace HW : Wd w W910 [] [⟨5, 1, .slice (some ⟨b909, 0, none⟩) ([0, IntKind.wrap .u8 x896] : List Int).length 2, ([0, IntKind.wrap .u8 x896] : List Int).length, encs (encI .u8) ([0, IntKind.wrap .u8 x896] : List Int)⟩, ⟨9, 1, .slice A893 x892.length c894, x892.length, encs encS x892⟩] := HW
          replace ha := ha.turn 23 (v := .slice (some ⟨b909, 0, none⟩) ([0, IntKind.wrap .u8 x896] : List Int).length 2) KR rfl
          obtain ⟨t912, ht913, h_⟩ := bind_some' h; clear h; have h := h_; clear h_
          refine stepc ha 24 KR KR (inquiry_bytes.calls ([0, IntKind.wrap .u8 x896] : List Int) (some ⟨b909, 0, none⟩) 2 t912 _ (HW.rdo (i := 0) (q := ⟨5, 1, .slice (some ⟨b909, 0, none⟩) ([0, IntKind.wrap .u8 x896] : List Int).length 2, ([0, IntKind.wrap .u8 x896] : List Int).length, encs (encI .u8) ([0, IntKind.wrap .u8 x896] : List Int)⟩) KR) ht913) ?_; clear ha a; rintro e W914 ⟨rfl, HX915⟩
          refine ⟨_, rfl, ?_⟩; intro a ha; replace HW := HW.callw HX915; clear HX915
          refine stepbs ha HW 25 9 1 1 #[.string t912] [.string t912] (by decide) KR KR KR KR ?_; clear ha HW a; intro b916 a W917 HW ha
          replace HW : Wd w W917 [] [⟨9, 1, .slice (some ⟨b916, 0, none⟩) ([t912] : List ByteArray).length 1, ([t912] : List ByteArray).length, encs encS ([t912] : List ByteArray)⟩, ⟨5, 1, .slice (some ⟨b909, 0, none⟩) ([0, IntKind.wrap .u8 x896] : List Int).length 2, ([0, IntKind.wrap .u8 x896] : List Int).length, encs (encI .u8) ([0, IntKind.wrap .u8 x896] : List Int)⟩, ⟨9, 1, .slice A893 x892.length c894, x892.length, encs encS x892⟩] := HW
          replace ha := ha.turn 25 (v := .slice (some ⟨b916, 0, none⟩) ([t912] : List ByteArray).length 1) KR rfl
          obtain ⟨t919, ht920, h_⟩ := bind_some' h; clear h; have h := h_; clear h_
          refine stepc ha 26 KR KR (inquiry_page.calls 8 ([t912] : List ByteArray) (some ⟨b916, 0, none⟩) 1 t919 _ (HW.rdo (i := 0) (q := ⟨9, 1, .slice (some ⟨b916, 0, none⟩) ([t912] : List ByteArray).length 1, ([t912] : List ByteArray).length, encs encS ([t912] : List ByteArray)⟩) KR) ht920) ?_; clear ha a; rintro e W921 ⟨rfl, HX922⟩
          refine ⟨_, rfl, ?_⟩; intro a ha; replace HW := HW.callw HX922; clear HX922
          refine stepbs ha HW 27 9 1 1 #[.string t919] [.string t919] (by decide) KR KR KR KR ?_; clear ha HW a; intro b923 a W924 HW ha
          replace HW : Wd w W924 [] [⟨9, 1, .slice (some ⟨b923, 0, none⟩) ([t919] : List ByteArray).length 1, ([t919] : List ByteArray).length, encs encS ([t919] : List ByteArray)⟩, ⟨9, 1, .slice (some ⟨b916, 0, none⟩) ([t912] : List ByteArray).length 1, ([t912] : List ByteArray).length, encs encS ([t912] : List ByteArray)⟩, ⟨5, 1, .slice (some ⟨b909, 0, none⟩) ([0, IntKind.wrap .u8 x896] : List Int).length 2, ([0, IntKind.wrap .u8 x896] : List Int).length, encs (encI .u8) ([0, IntKind.wrap .u8 x896] : List Int)⟩, ⟨9, 1, .slice A893 x892.length c894, x892.length, encs encS x892⟩] := HW
          replace ha := ha.turn 27 (v := .slice (some ⟨b923, 0, none⟩) ([t919] : List ByteArray).length 1) KR rfl
          obtain ⟨hA926, h_⟩ := asrt_some h; clear h; have h := h_; clear h_
          refine stepape encS ha HW 28 3 50 9 (.tmp 20) (.tmp 27) (.string (⟨#[]⟩ : ByteArray)) 1 16 (.slice A893 x892.length c894) x892 (.slice (some ⟨b923, 0, none⟩) ([t919] : List ByteArray).length 1) ([t919] : List ByteArray) KR rfl KR KR (HW.rdo (i := 0) (q := ⟨9, 1, .slice (some ⟨b923, 0, none⟩) ([t919] : List ByteArray).length 1, ([t919] : List ByteArray).length, encs encS ([t919] : List ByteArray)⟩) KR) (fun _ => rfl) KR KR KR (by decide) (by have := hA926; unfold maxLen; omega) (by have := hA926; omega) KR ?_; clear ha HW a; intro A927 c928 a W929 HW ha
          refine stepp ha 3 (.slice A927 (x892 ++ ([t919] : List ByteArray)).length c928) KR KR ?_; clear ha a; intro a ha
          refine endl ?_
          refine blkN ?_
          refine thenN (hK906 _ _ ?_); clear hK906
          refine wp_region_lit ?_
          refine stepp ha 29 (.int .i64 (IntKind.wrap .i64 (x896 + 1))) KR KR ?_; clear ha a; intro a ha
          refine stepp ha 17 (.int .i64 (IntKind.wrap .i64 (x896 + 1))) KR KR ?_; clear ha a; intro a ha
          refine endl ?_
          exact thenN ⟨k898, Nat.lt_succ_self k898, x892 ++ ([t919] : List ByteArray), A927, c928, IntKind.wrap .i64 (x896 + 1), (by rw [← hag899]; exact h), ha.sub (subs_cons KR (subs_cons KR (subs_cons KR (subs_nil _)))), HW.pick [] [3] (by decide) (by decide) KR KR⟩
        · skip
          replace h := ite_neg' h hp904
          refine condF ha KR KR (t := decide (x896 < x801)) (decide_eq_false hp904) ?_
          refine wp_exit ?_
          refine thenE ?_
          refine thenE ?_
          refine inBlk ?_
          refine thenN (hK817 _ _ ?_); clear hK817
          refine wp_seq_k (fun K932 hK933 => ?_)
          refine wp_region_lit ?_
          refine stepp ha 30 (.slice A893 x892.length c894) KR KR ?_; clear ha a; intro a ha
          obtain ⟨t934, ht935, h_⟩ := bind_some' h; clear h; have h := h_; clear h_
          refine stepc ha 31 KR KR (inquiry_page.calls 0 x892 A893 c894 t934 _ (HW.rdo (i := 0) (q := ⟨9, 1, .slice A893 x892.length c894, x892.length, encs encS x892⟩) KR) ht935) ?_; clear ha a; rintro e W936 ⟨rfl, HX937⟩
          refine ⟨_, rfl, ?_⟩; intro a ha; replace HW := HW.callw HX937; clear HX937
          refine stepp ha 2 (.string t934) KR KR ?_; clear ha a; intro a ha
          refine endl ?_
          refine thenN (hK933 _ _ ?_); clear hK933
          refine wp_ret ?_
          obtain rfl := Option.some.inj h
          exact finv ha _ _ rfl (.tmp (v := .string t934) KR .nil) (.string t934) rfl ⟨rfl, HW.pick [] [] (by decide) (by decide) rfl KR⟩
end Go.Proofs.Ytccmdlbdpapigaa.F
