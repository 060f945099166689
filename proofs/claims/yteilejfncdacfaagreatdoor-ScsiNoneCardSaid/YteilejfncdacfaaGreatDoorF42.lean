/- headgate/cdb.Parse, headgate/scsi.Need: plain functions, and that the calls come to what they say. No condition. -/
import Derived.Test.YteilejfncdacfaaGreatDoorFT
import Derived.Test.YteilejfncdacfaaGreatDoorF118
namespace Go.Proofs.YteilejfncdacfaaGreatDoor.F
open Go Go.RowKit Go.Proofs.YteilejfncdacfaaGreatDoor.X
set_option linter.unusedVariables false
set_option linter.unusedSimpArgs false
/-! ### headgate/cdb.Parse: function 42 -/
def cdb_Parse.j3 (K : Nat) (x2888 : T_cdb_form) (t2900 : Int) (t2904 : Int) (t2908 : Int) (x2991 : Bool) (x2992 : Int) (x2993 : Bool) (x2994 : Int) (x2995 : Int) : Option (T_cdb_Ask × Int) :=
  if x2991 = true then (if x2888.f1 = 16 then (if t2900 ≥ 2147483648 then (some ((⟨0, 0, 0, false, 0, 0, 0⟩ : T_cdb_Ask), 150)) else (if t2904 ≥ 2147483648 then (some ((⟨0, 0, 0, false, 0, 0, 0⟩ : T_cdb_Ask), 150)) else (some ((⟨x2992, t2900, t2904, x2993, x2994, t2908, x2995⟩ : T_cdb_Ask), 0)))) else (some ((⟨x2992, t2900, t2904, x2993, x2994, t2908, x2995⟩ : T_cdb_Ask), 0))) else (some ((⟨0, 0, 0, false, 0, 0, 0⟩ : T_cdb_Ask), 150))
def cdb_Parse.j2 (K : Nat) (a0 : ByteArray) (x2888 : T_cdb_form) (t2900 : Int) (t2904 : Int) (t2908 : Int) (x2973 : Bool) : Option (T_cdb_Ask × Int) :=
  (cdb_typed.f (IntKind.wrap .i64 (band .u8 (bt a0 1) 31))).bind fun t2977 => (if t2977 = true then (asrt (2 < (a0.size : Int)) ((cdb_Type.f K (IntKind.wrap .i64 (band .u8 (bt a0 2) 15))).bind fun t2985 => (if x2973 = true then (cdb_Parse.j3 K x2888 t2900 t2904 t2908 (t2985 != 0) (IntKind.wrap .i64 ((IntKind.wrap .i64 (256 * x2888.f0)) + (IntKind.wrap .i64 (band .u8 (bt a0 1) 31)))) false 0 t2985) else (cdb_Parse.j3 K x2888 t2900 t2904 t2908 false (IntKind.wrap .i64 ((IntKind.wrap .i64 (256 * x2888.f0)) + (IntKind.wrap .i64 (band .u8 (bt a0 1) 31)))) false 0 t2985)))) else (cdb_Parse.j3 K x2888 t2900 t2904 t2908 x2973 (IntKind.wrap .i64 ((IntKind.wrap .i64 (256 * x2888.f0)) + (IntKind.wrap .i64 (band .u8 (bt a0 1) 31)))) false 0 0))
def cdb_Parse.j1 (K : Nat) (a0 : ByteArray) (x2888 : T_cdb_form) (t2900 : Int) (t2904 : Int) (t2908 : Int) (x2950 : Bool) : Option (T_cdb_Ask × Int) :=
  if x2950 = true then (asrt (1 < (a0.size : Int)) ((cdb_known.f x2888.f0 (IntKind.wrap .i64 (band .u8 (bt a0 1) 31))).bind fun t2961 => (if x2888.f0 = 95 then (if t2961 = true then (asrt (2 < (a0.size : Int)) (if ((bt a0 2).fdiv 16) = 0 then (cdb_Parse.j2 K a0 x2888 t2900 t2904 t2908 (t2908 == 24)) else (cdb_Parse.j2 K a0 x2888 t2900 t2904 t2908 false))) else (cdb_Parse.j2 K a0 x2888 t2900 t2904 t2908 false)) else (cdb_Parse.j3 K x2888 t2900 t2904 t2908 t2961 (IntKind.wrap .i64 ((IntKind.wrap .i64 (256 * x2888.f0)) + (IntKind.wrap .i64 (band .u8 (bt a0 1) 31)))) false 0 0)))) else (cdb_Parse.j3 K x2888 t2900 t2904 t2908 true x2888.f0 false 0 0)
def cdb_Parse.j0 (K : Nat) (a0 : ByteArray) (x2888 : T_cdb_form) (t2900 : Int) (t2904 : Int) (t2908 : Int) (x2936 : Bool) : Option (T_cdb_Ask × Int) :=
  if x2936 = true then (asrt (1 < (a0.size : Int)) (cdb_Parse.j3 K x2888 t2900 t2904 t2908 true x2888.f0 ((band .u8 ((bt a0 1).fdiv 8) 1) == 1) 0 0)) else (if x2888.f0 = 147 then (asrt (1 < (a0.size : Int)) (cdb_Parse.j3 K x2888 t2900 t2904 t2908 ((band .u8 (bt a0 1) 1) == 1) x2888.f0 false 0 0)) else (if x2888.f0 = 94 then (cdb_Parse.j1 K a0 x2888 t2900 t2904 t2908 (x2888.f0 == 94)) else (cdb_Parse.j1 K a0 x2888 t2900 t2904 t2908 (x2888.f0 == 95))))
def cdb_Parse.f (K : Nat) (a0 : ByteArray) : Option (T_cdb_Ask × Int) :=
  (cdb_Length.f K a0).bind fun t2858 => (if t2858 = 0 then (some ((⟨0, 0, 0, false, 0, 0, 0⟩ : T_cdb_Ask), 150)) else (if (a0.size : Int) = t2858 then (asrt (0 ≤ (IntKind.wrap .i64 (t2858 - 1))) (asrt ((IntKind.wrap .i64 (t2858 - 1)) < (a0.size : Int)) (if (bt a0 (IntKind.wrap .i64 (t2858 - 1))) = 0 then (asrt (0 < (a0.size : Int)) ((cdb_formOf.f K (IntKind.wrap .i64 (bt a0 0))).bind fun t2883 => (optc t2883 (none) (fun x2888 => ((cdb_Parse_1.f K (⟨x2888.f2.f0, x2888.f2.f1⟩ : T_cdb_span) a0).bind fun t2900 => ((cdb_Parse_1.f K (⟨x2888.f3.f0, x2888.f3.f1⟩ : T_cdb_span) a0).bind fun t2904 => ((cdb_Parse_1.f K (⟨x2888.f4.f0, x2888.f4.f1⟩ : T_cdb_span) a0).bind fun t2908 => (if x2888.f0 = 18 then (asrt (1 < (a0.size : Int)) (if (band .u8 (bt a0 1) 1) = 1 then (asrt (2 < (a0.size : Int)) (cdb_Parse.j3 K x2888 t2900 t2904 t2908 true x2888.f0 false (IntKind.wrap .i64 (256 + (IntKind.wrap .i64 (bt a0 2)))) 0)) else (cdb_Parse.j3 K x2888 t2900 t2904 t2908 true x2888.f0 false 0 0))) else (if x2888.f0 = 42 then (cdb_Parse.j0 K a0 x2888 t2900 t2904 t2908 (x2888.f0 == 42)) else (cdb_Parse.j0 K a0 x2888 t2900 t2904 t2908 (x2888.f0 == 138))))))))))) else (some ((⟨0, 0, 0, false, 0, 0, 0⟩ : T_cdb_Ask), 150))))) else (some ((⟨0, 0, 0, false, 0, 0, 0⟩ : T_cdb_Ask), 150))))
set_option maxRecDepth 100000 in
set_option maxHeartbeats 4000000 in
theorem cdb_Parse.calls (K : Nat) (a0 : ByteArray)  (r : T_cdb_Ask × Int) (w : World) (hG2 : CA w 2 0 (encs T_cdb_form.enc G_cdb_forms).toArray) (hG3 : CA w 3 0 (encs (encIK .i64) G_cdb_numbers).toArray) (h : cdb_Parse.f K a0 = some r) :
    Calls Tryz.prog 42 #[.string a0] w (fun e W' => e = .returned (.tuple #[.agg #[.int .i64 r.1.f0, .int .i64 r.1.f1, .int .i64 r.1.f2, .bool r.1.f3, .int .i64 r.1.f4, .int .i64 r.1.f5, .int .i64 r.1.f6], .int .i64 r.2]) ∧ Wd w W' [] [] ) := by
  refine sxstart (n := 162) (l := [(0, .string a0)]) Tryz.func42 rfl rfl (Nat.le_of_ble_eq_true KR) (subsA_cons rfl (subsA_nil _)) ?_
  intro a ha
  have HW := Wd.refl w
  unfold cdb_Parse.f at h
  refine wp_seq_k (fun K2850 hK2851 => ?_)
  refine wp_region_lit ?_
  refine stepnew ha HW 1 #[.string a0] 9 KR KR ?_; clear ha HW a; intro b2852 a W2853 HW ha
  refine stepnew ha HW 2 #[.int .i64 0, .int .i64 0, .int .i64 0, .bool false, .int .i64 0, .int .i64 0, .int .i64 0] 126 KR KR ?_; clear ha HW a; intro b2854 a W2855 HW ha
  refine stepp ha 3 (.int .i64 0) KR KR ?_; clear ha a; intro a ha
  refine endl ?_
  refine thenN (hK2851 _ _ ?_); clear hK2851
  refine wp_seq_k (fun K2856 hK2857 => ?_)
  refine wp_region_lit ?_
  refine stepl ha 10 (HW.ca (i := 1) (b := b2852) (C := #[.string a0]) (T := 9) (fr := (0, 0)) KR) 9 0 (.tmp 1) (.string a0) rfl KR KR KR ?_; clear ha a; intro a ha
  obtain ⟨t2858, ht2859, h_⟩ := bind_some' h; clear h; have h := h_; clear h_
  refine stepc ha 11 KR KR (cdb_Length.calls K a0 t2858 _ (HW.ca0 hG2) ht2859) ?_; clear ha a; rintro e W2860 ⟨rfl, HX2861⟩
  refine ⟨_, rfl, ?_⟩; intro a ha; replace HW := HW.callw HX2861; clear HX2861
  refine stepp ha 4 (.int .i64 t2858) KR KR ?_; clear ha a; intro a ha
  refine endl ?_
  refine thenN (hK2857 _ _ ?_); clear hK2857
  refine wp_seq_k (fun K2862 hK2863 => ?_)
  refine wp_seq_k (fun K2864 hK2865 => ?_)
  refine wp_region_lit ?_
  refine stepp ha 12 (.int .i64 t2858) KR KR ?_; clear ha a; intro a ha
  refine stepp ha 13 (.bool (t2858 == 0)) KR KR ?_; clear ha a; intro a ha
  refine stepp ha 14 (.bool (t2858 == 0)) KR KR ?_; clear ha a; intro a ha
  by_cases hp2866 : t2858 = 0
  · skip
    replace h := ite_pos' h hp2866
    replace ha := ha.bool 14 KR (ieq_t hp2866)
    refine stepo ha 15 KR ?_; clear ha a; intro a ha
    refine stepo ha 16 KR ?_; clear ha a; intro a ha
    refine stepo ha 17 KR ?_; clear ha a; intro a ha
    refine stepo ha 18 KR ?_; clear ha a; intro a ha
    refine stepp ha 19 (.bool true) KR KR ?_; clear ha a; intro a ha
    refine stepp ha 20 (.bool true) KR KR ?_; clear ha a; intro a ha
    refine stepo ha 21 KR ?_; clear ha a; intro a ha
    refine stepo ha 22 KR ?_; clear ha a; intro a ha
    refine stepo ha 23 KR ?_; clear ha a; intro a ha
    refine stepo ha 24 KR ?_; clear ha a; intro a ha
    refine stepo ha 25 KR ?_; clear ha a; intro a ha
    refine stepp ha 26 (.bool true) KR KR ?_; clear ha a; intro a ha
    refine endl ?_
    refine thenN (hK2865 _ _ ?_); clear hK2865
    refine condT ha KR KR (t := true) (rfl) ?_
    refine wp_seq_k (fun K2870 hK2871 => ?_)
    refine wp_region_lit ?_
    refine stepp ha 27 (.agg #[.int .i64 0, .int .i64 0, .int .i64 0, .bool false, .int .i64 0, .int .i64 0, .int .i64 0]) KR KR ?_; clear ha a; intro a ha
    refine stepst ha HW 0 (b := b2854) (C := #[.int .i64 0, .int .i64 0, .int .i64 0, .bool false, .int .i64 0, .int .i64 0, .int .i64 0]) (T := 126) KR 126 0 (.tmp 2) (.tmp 27) (.agg #[.int .i64 0, .int .i64 0, .int .i64 0, .bool false, .int .i64 0, .int .i64 0, .int .i64 0]) #[.int .i64 0, .int .i64 0, .int .i64 0, .bool false, .int .i64 0, .int .i64 0, .int .i64 0] rfl KR KR KR KR KR KR KR ?_; clear ha HW a; intro a W2872 HW ha
    refine stepp ha 3 (.int .i64 150) KR KR ?_; clear ha a; intro a ha
    refine endl ?_
    refine thenN (hK2871 _ _ ?_); clear hK2871
    refine wp_ret ?_
    refine thenR ?_
    obtain rfl := Option.some.inj h
    exact finv ha _ _ rfl (.cell (ad := ⟨b2854, 0, none⟩) (v := .agg #[.int .i64 0, .int .i64 0, .int .i64 0, .bool false, .int .i64 0, .int .i64 0, .int .i64 0]) KR (run_loadVar_ca0 (HW.ca (i := 0) (b := b2854) (C := #[.int .i64 0, .int .i64 0, .int .i64 0, .bool false, .int .i64 0, .int .i64 0, .int .i64 0]) (T := 126) (fr := (0, 0)) KR) 126 0 (.agg #[.int .i64 0, .int .i64 0, .int .i64 0, .bool false, .int .i64 0, .int .i64 0, .int .i64 0]) KR) (.tmp (v := .int .i64 150) KR .nil)) (.tuple #[.agg #[.int .i64 0, .int .i64 0, .int .i64 0, .bool false, .int .i64 0, .int .i64 0, .int .i64 0], .int .i64 150]) rfl ⟨rfl, HW.pick [] [] (by decide) (by decide) rfl KR⟩
  · skip
    replace h := ite_neg' h hp2866
    replace ha := ha.bool 14 KR (ieq_f hp2866)
    refine stepl ha 15 (HW.ca (i := 1) (b := b2852) (C := #[.string a0]) (T := 9) (fr := (0, 0)) KR) 9 0 (.tmp 1) (.string a0) rfl KR KR KR ?_; clear ha a; intro a ha
    refine stepp ha 16 (.int .i64 (a0.size : Int)) KR KR ?_; clear ha a; intro a ha
    refine stepp ha 17 (.int .i64 t2858) KR KR ?_; clear ha a; intro a ha
    refine stepp ha 18 (.bool ((a0.size : Int) != t2858)) KR KR ?_; clear ha a; intro a ha
    refine stepp ha 19 (.bool ((a0.size : Int) != t2858)) KR KR ?_; clear ha a; intro a ha
    refine stepp ha 20 (.bool ((a0.size : Int) != t2858)) KR KR ?_; clear ha a; intro a ha
    by_cases hp2867 : (a0.size : Int) = t2858
    · skip
      replace h := ite_pos' h hp2867
      replace ha := ha.bool 20 KR (ineq_f hp2867)
      refine stepl ha 21 (HW.ca (i := 1) (b := b2852) (C := #[.string a0]) (T := 9) (fr := (0, 0)) KR) 9 0 (.tmp 1) (.string a0) rfl KR KR KR ?_; clear ha a; intro a ha
      refine stepp ha 22 (.int .i64 t2858) KR KR ?_; clear ha a; intro a ha
      refine stepp ha 23 (.int .i64 (IntKind.wrap .i64 (t2858 - 1))) KR KR ?_; clear ha a; intro a ha
      obtain ⟨hA2868, h_⟩ := asrt_some h; clear h; have h := h_; clear h_
      obtain ⟨hA2869, h_⟩ := asrt_some h; clear h; have h := h_; clear h_
      refine stepsi ha 24 9 (.tmp 21) (.tmp 23) a0 .i64 (IntKind.wrap .i64 (t2858 - 1)) rfl KR KR KR hA2868 (show (IntKind.wrap .i64 (t2858 - 1) : Int) < ((a0).size : Int) from hA2869) KR ?_; clear ha a; intro a ha
      refine stepp ha 25 (.bool ((bt a0 (IntKind.wrap .i64 (t2858 - 1))) != 0)) KR KR ?_; clear ha a; intro a ha
      refine stepp ha 26 (.bool ((bt a0 (IntKind.wrap .i64 (t2858 - 1))) != 0)) KR KR ?_; clear ha a; intro a ha
      refine endl ?_
      refine thenN (hK2865 _ _ ?_); clear hK2865
      by_cases hp2873 : (bt a0 (IntKind.wrap .i64 (t2858 - 1))) = 0
      · skip
        replace h := ite_pos' h hp2873
        refine condF ha KR KR (t := ((bt a0 (IntKind.wrap .i64 (t2858 - 1))) != 0)) (ineq_f hp2873) ?_
        refine wp_skip ?_
        refine thenN (hK2863 _ _ ?_); clear hK2863
        refine wp_seq_k (fun K2880 hK2881 => ?_)
        refine wp_region_lit ?_
        refine stepl ha 28 (HW.ca (i := 1) (b := b2852) (C := #[.string a0]) (T := 9) (fr := (0, 0)) KR) 9 0 (.tmp 1) (.string a0) rfl KR KR KR ?_; clear ha a; intro a ha
        obtain ⟨hA2882, h_⟩ := asrt_some h; clear h; have h := h_; clear h_
        refine stepsi ha 29 9 (.tmp 28) (.const (.int .i64 0)) a0 .i64 0 rfl KR KR KR (by decide) (show (0 : Int) < ((a0).size : Int) from hA2882) KR ?_; clear ha a; intro a ha
        refine stepp ha 30 (.int .i64 (IntKind.wrap .i64 (bt a0 0))) KR KR ?_; clear ha a; intro a ha
        obtain ⟨t2883, ht2884, h_⟩ := bind_some' h; clear h; have h := h_; clear h_
        refine stepc ha 31 KR KR (cdb_formOf.calls K (IntKind.wrap .i64 (bt a0 0)) t2883 _ (HW.ca0 hG2) ht2884) ?_; clear ha a; rintro e W2886 ⟨b2885, rfl, HX2887⟩
        refine ⟨_, rfl, ?_⟩; intro a ha; replace HW := HW.callw HX2887; clear HX2887
        rcases t2883 with _ | x2888
        · skip
          replace h := optc_n h
          replace HW : Wd w W2886 [(b2854, .cells #[.int .i64 0, .int .i64 0, .int .i64 0, .bool false, .int .i64 0, .int .i64 0, .int .i64 0] 126 (0, 0)), (b2852, .cells #[.string a0] 9 (0, 0))] [] := HW
          replace ha := ha.turn 31 (v := .pointer none) KR rfl
          refine stepp ha 5 (.pointer none) KR KR ?_; clear ha a; intro a ha
          refine endl ?_
          refine thenN (hK2881 _ _ ?_); clear hK2881
          refine wp_seq_k (fun K2889 hK2890 => ?_)
          refine wp_region_lit ?_
          refine stepp ha 32 (.pointer none) KR KR ?_; clear ha a; intro a ha
          exact (none_some h).elim
        · skip
          replace h := optc_s h
          replace HW : Wd w W2886 [(b2885, .cells #[.int .i64 x2888.f0, .int .i64 x2888.f1, .int .i64 x2888.f2.f0, .int .i64 x2888.f2.f1, .int .i64 x2888.f3.f0, .int .i64 x2888.f3.f1, .int .i64 x2888.f4.f0, .int .i64 x2888.f4.f1] 216 (0, 0)), (b2854, .cells #[.int .i64 0, .int .i64 0, .int .i64 0, .bool false, .int .i64 0, .int .i64 0, .int .i64 0] 126 (0, 0)), (b2852, .cells #[.string a0] 9 (0, 0))] [] := HW
          replace ha := ha.turn 31 (v := .pointer (some ⟨b2885, 0, none⟩)) KR rfl
          refine stepp ha 5 (.pointer (some ⟨b2885, 0, none⟩)) KR KR ?_; clear ha a; intro a ha
          refine endl ?_
          refine thenN (hK2881 _ _ ?_); clear hK2881
          refine wp_seq_k (fun K2891 hK2892 => ?_)
          refine wp_region_lit ?_
          refine stepp ha 32 (.pointer (some ⟨b2885, 0, none⟩)) KR KR ?_; clear ha a; intro a ha
          refine stepp ha 33 (.pointer (some ⟨b2885, 0, none⟩)) KR KR ?_; clear ha a; intro a ha
          refine stepp ha 34 (.pointer (some ⟨b2885, 0, none⟩)) KR KR ?_; clear ha a; intro a ha
          refine stepl ha 35 (HW.ca (i := 0) (b := b2885) (C := #[.int .i64 x2888.f0, .int .i64 x2888.f1, .int .i64 x2888.f2.f0, .int .i64 x2888.f2.f1, .int .i64 x2888.f3.f0, .int .i64 x2888.f3.f1, .int .i64 x2888.f4.f0, .int .i64 x2888.f4.f1]) (T := 216) (fr := (0, 0)) KR) 3 0 (.tmp 34) (.int .i64 x2888.f0) rfl KR KR KR ?_; clear ha a; intro a ha
          refine stepp ha 36 (.agg #[.int .i64 x2888.f0, .int .i64 0, .int .i64 0, .bool false, .int .i64 0, .int .i64 0, .int .i64 0]) KR KR ?_; clear ha a; intro a ha
          refine stepnew ha HW 6 #[.int .i64 0, .int .i64 0, .int .i64 0, .bool false, .int .i64 0, .int .i64 0, .int .i64 0] 126 KR KR ?_; clear ha HW a; intro b2893 a W2894 HW ha
          refine stepst ha HW 0 (b := b2893) (C := #[.int .i64 0, .int .i64 0, .int .i64 0, .bool false, .int .i64 0, .int .i64 0, .int .i64 0]) (T := 126) KR 126 0 (.tmp 6) (.tmp 36) (.agg #[.int .i64 x2888.f0, .int .i64 0, .int .i64 0, .bool false, .int .i64 0, .int .i64 0, .int .i64 0]) #[.int .i64 x2888.f0, .int .i64 0, .int .i64 0, .bool false, .int .i64 0, .int .i64 0, .int .i64 0] rfl KR KR KR KR KR KR KR ?_; clear ha HW a; intro a W2895 HW ha
          refine endl ?_
          refine thenN (hK2892 _ _ ?_); clear hK2892
          refine wp_seq_k (fun K2896 hK2897 => ?_)
          refine wp_region_lit ?_
          refine stepp ha 37 (.func (.func 119) #[] #[.pointer (some ⟨b2852, 0, none⟩)]) KR KR ?_; clear ha a; intro a ha
          refine stepp ha 7 (.func (.func 119) #[] #[.pointer (some ⟨b2852, 0, none⟩)]) KR KR ?_; clear ha a; intro a ha
          refine endl ?_
          refine thenN (hK2897 _ _ ?_); clear hK2897
          refine wp_seq_k (fun K2898 hK2899 => ?_)
          obtain ⟨t2900, ht2901, h_⟩ := bind_some' h; clear h; have h := h_; clear h_
          obtain ⟨t2904, ht2905, h_⟩ := bind_some' h; clear h; have h := h_; clear h_
          obtain ⟨t2908, ht2909, h_⟩ := bind_some' h; clear h; have h := h_; clear h_
          refine regionL 22 KR ([(b2885, .cells #[.int .i64 x2888.f0, .int .i64 x2888.f1, .int .i64 x2888.f2.f0, .int .i64 x2888.f2.f1, .int .i64 x2888.f3.f0, .int .i64 x2888.f3.f1, .int .i64 x2888.f4.f0, .int .i64 x2888.f4.f1] 216 (0, 0)), (b2854, .cells #[.int .i64 0, .int .i64 0, .int .i64 0, .bool false, .int .i64 0, .int .i64 0, .int .i64 0] 126 (0, 0)), (b2852, .cells #[.string a0] 9 (0, 0))], []) ([(b2893, .cells #[.int .i64 x2888.f0, .int .i64 0, .int .i64 0, .bool false, .int .i64 0, .int .i64 0, .int .i64 0] 126 (0, 0)), (b2885, .cells #[.int .i64 x2888.f0, .int .i64 x2888.f1, .int .i64 x2888.f2.f0, .int .i64 x2888.f2.f1, .int .i64 x2888.f3.f0, .int .i64 x2888.f3.f1, .int .i64 x2888.f4.f0, .int .i64 x2888.f4.f1] 216 (0, 0)), (b2854, .cells #[.int .i64 0, .int .i64 0, .int .i64 0, .bool false, .int .i64 0, .int .i64 0, .int .i64 0] 126 (0, 0)), (b2852, .cells #[.string a0] 9 (0, 0))], []) [none, none, none, none, none, none, none, none, none, none, none, none, none, none, none, none, none, none, none, some ([(b2893, .cells #[.int .i64 x2888.f0, .int .i64 t2900, .int .i64 0, .bool false, .int .i64 0, .int .i64 0, .int .i64 0] 126 (0, 0)), (b2885, .cells #[.int .i64 x2888.f0, .int .i64 x2888.f1, .int .i64 x2888.f2.f0, .int .i64 x2888.f2.f1, .int .i64 x2888.f3.f0, .int .i64 x2888.f3.f1, .int .i64 x2888.f4.f0, .int .i64 x2888.f4.f1] 216 (0, 0)), (b2854, .cells #[.int .i64 0, .int .i64 0, .int .i64 0, .bool false, .int .i64 0, .int .i64 0, .int .i64 0] 126 (0, 0)), (b2852, .cells #[.string a0] 9 (0, 0))], []), none, some ([(b2893, .cells #[.int .i64 x2888.f0, .int .i64 t2900, .int .i64 t2904, .bool false, .int .i64 0, .int .i64 0, .int .i64 0] 126 (0, 0)), (b2885, .cells #[.int .i64 x2888.f0, .int .i64 x2888.f1, .int .i64 x2888.f2.f0, .int .i64 x2888.f2.f1, .int .i64 x2888.f3.f0, .int .i64 x2888.f3.f1, .int .i64 x2888.f4.f0, .int .i64 x2888.f4.f1] 216 (0, 0)), (b2854, .cells #[.int .i64 0, .int .i64 0, .int .i64 0, .bool false, .int .i64 0, .int .i64 0, .int .i64 0] 126 (0, 0)), (b2852, .cells #[.string a0] 9 (0, 0))], [])] [.fix (.func (.func 119) #[] #[.pointer (some ⟨b2852, 0, none⟩)]), .fix (.pointer (some ⟨b2885, 0, none⟩)), .fix (.pointer (some ⟨b2885, 0, none⟩)), .fix (.pointer (some ⟨b2885, 2, none⟩)), .fix (.agg #[.int .i64 x2888.f2.f0, .int .i64 x2888.f2.f1]), .fix (.int .i64 t2900), .fix (.func (.func 119) #[] #[.pointer (some ⟨b2852, 0, none⟩)]), .fix (.pointer (some ⟨b2885, 0, none⟩)), .fix (.pointer (some ⟨b2885, 0, none⟩)), .fix (.pointer (some ⟨b2885, 4, none⟩)), .fix (.agg #[.int .i64 x2888.f3.f0, .int .i64 x2888.f3.f1]), .fix (.int .i64 t2904), .fix (.func (.func 119) #[] #[.pointer (some ⟨b2852, 0, none⟩)]), .fix (.pointer (some ⟨b2885, 0, none⟩)), .fix (.pointer (some ⟨b2885, 0, none⟩)), .fix (.pointer (some ⟨b2885, 6, none⟩)), .fix (.agg #[.int .i64 x2888.f4.f0, .int .i64 x2888.f4.f1]), .fix (.int .i64 t2908), .fix (.pointer (some ⟨b2893, 1, none⟩)), .any, .fix (.pointer (some ⟨b2893, 2, none⟩)), .any] KR ha HW ⟨(fun w_ h_ => h_.pick [1, 2, 3] [] (by decide) (by decide) KR KR), ⟨(fun w_ h_ => h_.pick [1, 2, 3] [] (by decide) (by decide) KR KR), (fun w_ h_ => h_.pick [1, 2, 3] [] (by decide) (by decide) KR KR)⟩⟩ ?_ ?_
          · skip
            refine ⟨?_, ?_, ?_, ?_, ?_, ?_, ?_, ?_, ?_, ?_, ?_, ?_, ?_, ?_, ?_, ?_, ?_, ?_, ?_, ?_, ?_, ?_, trivial⟩
            · skip
              intro a wr hn hd HW hs; have ha := hasNil hn hd
              have ha := ha.add (seeE hs 7 (.func (.func 119) #[] #[.pointer (some ⟨b2852, 0, none⟩)]) KR KR)
              refine yStep ha 38 KR ?_; intro l_ ha HK
              refine stepp ha 38 (.func (.func 119) #[] #[.pointer (some ⟨b2852, 0, none⟩)]) KR KR ?_; intro ax hax; exact HK _ _ _ hax rfl (Below.refl _ _)
            · skip
              intro a wr hn hd HW hs; have ha := hasNil hn hd
              have ha := ha.add (seeE hs 5 (.pointer (some ⟨b2885, 0, none⟩)) KR KR)
              refine yStep ha 39 KR ?_; intro l_ ha HK
              refine stepp ha 39 (.pointer (some ⟨b2885, 0, none⟩)) KR KR ?_; intro ax hax; exact HK _ _ _ hax rfl (Below.refl _ _)
            · skip
              intro a wr hn hd HW hs; have ha := hasNil hn hd
              have ha := ha.add (seeF hs 39 1 (.pointer (some ⟨b2885, 0, none⟩)) KR KR)
              refine yStep ha 40 KR ?_; intro l_ ha HK
              refine stepp ha 40 (.pointer (some ⟨b2885, 0, none⟩)) KR KR ?_; intro ax hax; exact HK _ _ _ hax rfl (Below.refl _ _)
            · skip
              intro a wr hn hd HW hs; have ha := hasNil hn hd
              have ha := ha.add (seeF hs 40 2 (.pointer (some ⟨b2885, 0, none⟩)) KR KR)
              refine yStep ha 41 KR ?_; intro l_ ha HK
              refine stepp ha 41 (.pointer (some ⟨b2885, 2, none⟩)) KR KR ?_; intro ax hax; exact HK _ _ _ hax rfl (Below.refl _ _)
            · skip
              intro a wr hn hd HW hs; have ha := hasNil hn hd
              have ha := ha.add (seeF hs 41 3 (.pointer (some ⟨b2885, 2, none⟩)) KR KR)
              refine yStep ha 42 KR ?_; intro l_ ha HK
              refine stepl ha 42 (HW.ca (i := 0) (b := b2885) (C := #[.int .i64 x2888.f0, .int .i64 x2888.f1, .int .i64 x2888.f2.f0, .int .i64 x2888.f2.f1, .int .i64 x2888.f3.f0, .int .i64 x2888.f3.f1, .int .i64 x2888.f4.f0, .int .i64 x2888.f4.f1]) (T := 216) (fr := (0, 0)) KR) 214 2 (.tmp 41) (.agg #[.int .i64 x2888.f2.f0, .int .i64 x2888.f2.f1]) rfl KR KR KR ?_; intro ax hax; exact HK _ _ _ hax rfl (Below.refl _ _)
            · skip
              intro a wr hn hd HW hs; have ha := hasNil hn hd
              have ha := ha.add (seeF hs 38 0 (.func (.func 119) #[] #[.pointer (some ⟨b2852, 0, none⟩)]) KR KR)
              have ha := ha.add (seeF hs 42 4 (.agg #[.int .i64 x2888.f2.f0, .int .i64 x2888.f2.f1]) KR KR)
              refine yStep ha 43 KR ?_; intro l_ ha HK
              refine stepc ha 43 KR KR (cdb_Parse_1.calls K (⟨x2888.f2.f0, x2888.f2.f1⟩ : T_cdb_span) a0 b2852 t2900 _ (HW.ca (i := 2) (b := b2852) (C := #[.string a0]) (T := 9) (fr := (0, 0)) KR) ht2901) ?_; rintro e W2902 ⟨rfl, HX2903⟩
              refine ⟨_, rfl, ?_⟩; intro ax hax; exact HK _ _ _ hax rfl HX2903.below
            · skip
              intro a wr hn hd HW hs; have ha := hasNil hn hd
              have ha := ha.add (seeE hs 7 (.func (.func 119) #[] #[.pointer (some ⟨b2852, 0, none⟩)]) KR KR)
              refine yStep ha 44 KR ?_; intro l_ ha HK
              refine stepp ha 44 (.func (.func 119) #[] #[.pointer (some ⟨b2852, 0, none⟩)]) KR KR ?_; intro ax hax; exact HK _ _ _ hax rfl (Below.refl _ _)
            · skip
              intro a wr hn hd HW hs; have ha := hasNil hn hd
              have ha := ha.add (seeE hs 5 (.pointer (some ⟨b2885, 0, none⟩)) KR KR)
              refine yStep ha 45 KR ?_; intro l_ ha HK
              refine stepp ha 45 (.pointer (some ⟨b2885, 0, none⟩)) KR KR ?_; intro ax hax; exact HK _ _ _ hax rfl (Below.refl _ _)
            · skip
              intro a wr hn hd HW hs; have ha := hasNil hn hd
              have ha := ha.add (seeF hs 45 7 (.pointer (some ⟨b2885, 0, none⟩)) KR KR)
              refine yStep ha 46 KR ?_; intro l_ ha HK
              refine stepp ha 46 (.pointer (some ⟨b2885, 0, none⟩)) KR KR ?_; intro ax hax; exact HK _ _ _ hax rfl (Below.refl _ _)
            · skip
              intro a wr hn hd HW hs; have ha := hasNil hn hd
              have ha := ha.add (seeF hs 46 8 (.pointer (some ⟨b2885, 0, none⟩)) KR KR)
              refine yStep ha 47 KR ?_; intro l_ ha HK
              refine stepp ha 47 (.pointer (some ⟨b2885, 4, none⟩)) KR KR ?_; intro ax hax; exact HK _ _ _ hax rfl (Below.refl _ _)
            · skip
              intro a wr hn hd HW hs; have ha := hasNil hn hd
              have ha := ha.add (seeF hs 47 9 (.pointer (some ⟨b2885, 4, none⟩)) KR KR)
              refine yStep ha 48 KR ?_; intro l_ ha HK
              refine stepl ha 48 (HW.ca (i := 0) (b := b2885) (C := #[.int .i64 x2888.f0, .int .i64 x2888.f1, .int .i64 x2888.f2.f0, .int .i64 x2888.f2.f1, .int .i64 x2888.f3.f0, .int .i64 x2888.f3.f1, .int .i64 x2888.f4.f0, .int .i64 x2888.f4.f1]) (T := 216) (fr := (0, 0)) KR) 214 4 (.tmp 47) (.agg #[.int .i64 x2888.f3.f0, .int .i64 x2888.f3.f1]) rfl KR KR KR ?_; intro ax hax; exact HK _ _ _ hax rfl (Below.refl _ _)
            · skip
              intro a wr hn hd HW hs; have ha := hasNil hn hd
              have ha := ha.add (seeF hs 44 6 (.func (.func 119) #[] #[.pointer (some ⟨b2852, 0, none⟩)]) KR KR)
              have ha := ha.add (seeF hs 48 10 (.agg #[.int .i64 x2888.f3.f0, .int .i64 x2888.f3.f1]) KR KR)
              refine yStep ha 49 KR ?_; intro l_ ha HK
              refine stepc ha 49 KR KR (cdb_Parse_1.calls K (⟨x2888.f3.f0, x2888.f3.f1⟩ : T_cdb_span) a0 b2852 t2904 _ (HW.ca (i := 2) (b := b2852) (C := #[.string a0]) (T := 9) (fr := (0, 0)) KR) ht2905) ?_; rintro e W2906 ⟨rfl, HX2907⟩
              refine ⟨_, rfl, ?_⟩; intro ax hax; exact HK _ _ _ hax rfl HX2907.below
            · skip
              intro a wr hn hd HW hs; have ha := hasNil hn hd
              have ha := ha.add (seeE hs 7 (.func (.func 119) #[] #[.pointer (some ⟨b2852, 0, none⟩)]) KR KR)
              refine yStep ha 50 KR ?_; intro l_ ha HK
              refine stepp ha 50 (.func (.func 119) #[] #[.pointer (some ⟨b2852, 0, none⟩)]) KR KR ?_; intro ax hax; exact HK _ _ _ hax rfl (Below.refl _ _)
            · skip
              intro a wr hn hd HW hs; have ha := hasNil hn hd
              have ha := ha.add (seeE hs 5 (.pointer (some ⟨b2885, 0, none⟩)) KR KR)
              refine yStep ha 51 KR ?_; intro l_ ha HK
              refine stepp ha 51 (.pointer (some ⟨b2885, 0, none⟩)) KR KR ?_; intro ax hax; exact HK _ _ _ hax rfl (Below.refl _ _)
            · skip
              intro a wr hn hd HW hs; have ha := hasNil hn hd
              have ha := ha.add (seeF hs 51 13 (.pointer (some ⟨b2885, 0, none⟩)) KR KR)
              refine yStep ha 52 KR ?_; intro l_ ha HK
              refine stepp ha 52 (.pointer (some ⟨b2885, 0, none⟩)) KR KR ?_; intro ax hax; exact HK _ _ _ hax rfl (Below.refl _ _)
            · skip
              intro a wr hn hd HW hs; have ha := hasNil hn hd
              have ha := ha.add (seeF hs 52 14 (.pointer (some ⟨b2885, 0, none⟩)) KR KR)
              refine yStep ha 53 KR ?_; intro l_ ha HK
              refine stepp ha 53 (.pointer (some ⟨b2885, 6, none⟩)) KR KR ?_; intro ax hax; exact HK _ _ _ hax rfl (Below.refl _ _)
            · skip
              intro a wr hn hd HW hs; have ha := hasNil hn hd
              have ha := ha.add (seeF hs 53 15 (.pointer (some ⟨b2885, 6, none⟩)) KR KR)
              refine yStep ha 54 KR ?_; intro l_ ha HK
              refine stepl ha 54 (HW.ca (i := 0) (b := b2885) (C := #[.int .i64 x2888.f0, .int .i64 x2888.f1, .int .i64 x2888.f2.f0, .int .i64 x2888.f2.f1, .int .i64 x2888.f3.f0, .int .i64 x2888.f3.f1, .int .i64 x2888.f4.f0, .int .i64 x2888.f4.f1]) (T := 216) (fr := (0, 0)) KR) 214 6 (.tmp 53) (.agg #[.int .i64 x2888.f4.f0, .int .i64 x2888.f4.f1]) rfl KR KR KR ?_; intro ax hax; exact HK _ _ _ hax rfl (Below.refl _ _)
            · skip
              intro a wr hn hd HW hs; have ha := hasNil hn hd
              have ha := ha.add (seeF hs 50 12 (.func (.func 119) #[] #[.pointer (some ⟨b2852, 0, none⟩)]) KR KR)
              have ha := ha.add (seeF hs 54 16 (.agg #[.int .i64 x2888.f4.f0, .int .i64 x2888.f4.f1]) KR KR)
              refine yStep ha 55 KR ?_; intro l_ ha HK
              refine stepc ha 55 KR KR (cdb_Parse_1.calls K (⟨x2888.f4.f0, x2888.f4.f1⟩ : T_cdb_span) a0 b2852 t2908 _ (HW.ca (i := 2) (b := b2852) (C := #[.string a0]) (T := 9) (fr := (0, 0)) KR) ht2909) ?_; rintro e W2910 ⟨rfl, HX2911⟩
              refine ⟨_, rfl, ?_⟩; intro ax hax; exact HK _ _ _ hax rfl HX2911.below
            · skip
              intro a wr hn hd HW hs; have ha := hasNil hn hd
              have ha := ha.add (seeE hs 6 (.pointer (some ⟨b2893, 0, none⟩)) KR KR)
              refine yStep ha 56 KR ?_; intro l_ ha HK
              refine stepp ha 56 (.pointer (some ⟨b2893, 1, none⟩)) KR KR ?_; intro ax hax; exact HK _ _ _ hax rfl (Below.refl _ _)
            · skip
              intro a wr hn hd HW hs; have ha := hasNil hn hd
              have ha := ha.add (seeF hs 43 5 (.int .i64 t2900) KR KR)
              have ha := ha.add (seeF hs 56 18 (.pointer (some ⟨b2893, 1, none⟩)) KR KR)
              refine yStepS ha KR ?_; intro l_ ha HK
              refine stepst ha HW 0 (b := b2893) (C := #[.int .i64 x2888.f0, .int .i64 0, .int .i64 0, .bool false, .int .i64 0, .int .i64 0, .int .i64 0]) (T := 126) KR 3 1 (.tmp 56) (.tmp 43) (.int .i64 t2900) #[.int .i64 x2888.f0, .int .i64 t2900, .int .i64 0, .bool false, .int .i64 0, .int .i64 0, .int .i64 0] rfl KR KR KR KR KR KR KR ?_; intro ax wx HV hax; exact HK _ _ hax HV
            · skip
              intro a wr hn hd HW hs; have ha := hasNil hn hd
              have ha := ha.add (seeE hs 6 (.pointer (some ⟨b2893, 0, none⟩)) KR KR)
              refine yStep ha 57 KR ?_; intro l_ ha HK
              refine stepp ha 57 (.pointer (some ⟨b2893, 2, none⟩)) KR KR ?_; intro ax hax; exact HK _ _ _ hax rfl (Below.refl _ _)
            · skip
              intro a wr hn hd HW hs; have ha := hasNil hn hd
              have ha := ha.add (seeF hs 49 11 (.int .i64 t2904) KR KR)
              have ha := ha.add (seeF hs 57 20 (.pointer (some ⟨b2893, 2, none⟩)) KR KR)
              refine yStepS ha KR ?_; intro l_ ha HK
              refine stepst ha HW 0 (b := b2893) (C := #[.int .i64 x2888.f0, .int .i64 t2900, .int .i64 0, .bool false, .int .i64 0, .int .i64 0, .int .i64 0]) (T := 126) KR 3 2 (.tmp 57) (.tmp 49) (.int .i64 t2904) #[.int .i64 x2888.f0, .int .i64 t2900, .int .i64 t2904, .bool false, .int .i64 0, .int .i64 0, .int .i64 0] rfl KR KR KR KR KR KR KR ?_; intro ax wx HV hax; exact HK _ _ hax HV
          · skip
            intro a W2914 ha HW he hf
            replace HW : Wd w W2914 [(b2893, .cells #[.int .i64 x2888.f0, .int .i64 t2900, .int .i64 t2904, .bool false, .int .i64 0, .int .i64 0, .int .i64 0] 126 (0, 0)), (b2885, .cells #[.int .i64 x2888.f0, .int .i64 x2888.f1, .int .i64 x2888.f2.f0, .int .i64 x2888.f2.f1, .int .i64 x2888.f3.f0, .int .i64 x2888.f3.f1, .int .i64 x2888.f4.f0, .int .i64 x2888.f4.f1] 216 (0, 0)), (b2854, .cells #[.int .i64 0, .int .i64 0, .int .i64 0, .bool false, .int .i64 0, .int .i64 0, .int .i64 0] 126 (0, 0)), (b2852, .cells #[.string a0] 9 (0, 0))] [] := HW
            replace ha := ha.add (he 1 (.pointer (some ⟨b2852, 0, none⟩)) KR KR)
            replace ha := ha.add (he 2 (.pointer (some ⟨b2854, 0, none⟩)) KR KR)
            replace ha := ha.add (he 5 (.pointer (some ⟨b2885, 0, none⟩)) KR KR)
            replace ha := ha.add (he 6 (.pointer (some ⟨b2893, 0, none⟩)) KR KR)
            replace ha := ha.add (gotF (m := 22) (j := 17) (d := 55) (v := .int .i64 t2908) hf KR KR KR)
            clear he hf
            refine stepp ha 58 (.pointer (some ⟨b2893, 5, none⟩)) KR KR ?_; clear ha a; intro a ha
            refine stepst ha HW 0 (b := b2893) (C := #[.int .i64 x2888.f0, .int .i64 t2900, .int .i64 t2904, .bool false, .int .i64 0, .int .i64 0, .int .i64 0]) (T := 126) KR 3 5 (.tmp 58) (.tmp 55) (.int .i64 t2908) #[.int .i64 x2888.f0, .int .i64 t2900, .int .i64 t2904, .bool false, .int .i64 0, .int .i64 t2908, .int .i64 0] rfl KR KR KR KR KR KR KR ?_; clear ha HW a; intro a W2915 HW ha
            refine endl ?_
            refine thenN (hK2899 _ _ ?_); clear hK2899
            refine wp_seq_k (fun K2916 hK2917 => ?_)
            refine wp_region_lit ?_
            refine stepp ha 8 (.bool true) KR KR ?_; clear ha a; intro a ha
            refine endl ?_
            refine thenN (hK2917 _ _ ?_); clear hK2917
            refine wp_seq_k (fun K2918 hK2919 => ?_)
            refine cutn (fun a W2996 => ∃ (x2991 : Bool), ∃ (x2992 : Int), ∃ (x2993 : Bool), ∃ (x2994 : Int), ∃ (x2995 : Int), cdb_Parse.j3 K x2888 t2900 t2904 t2908 x2991 x2992 x2993 x2994 x2995 = some r ∧ Has 162 [(2, .pointer (some ⟨b2854, 0, none⟩)), (5, .pointer (some ⟨b2885, 0, none⟩)), (6, .pointer (some ⟨b2893, 0, none⟩)), (8, .bool x2991)] a ∧ Wd w W2996 [(b2854, .cells #[.int .i64 0, .int .i64 0, .int .i64 0, .bool false, .int .i64 0, .int .i64 0, .int .i64 0] 126 (0, 0)), (b2885, .cells #[.int .i64 x2888.f0, .int .i64 x2888.f1, .int .i64 x2888.f2.f0, .int .i64 x2888.f2.f1, .int .i64 x2888.f3.f0, .int .i64 x2888.f3.f1, .int .i64 x2888.f4.f0, .int .i64 x2888.f4.f1] 216 (0, 0)), (b2893, .cells #[.int .i64 x2992, .int .i64 t2900, .int .i64 t2904, .bool x2993, .int .i64 x2994, .int .i64 t2908, .int .i64 x2995] 126 (0, 0))] []) ?_ ?_
            · skip
              refine wp_seq_k (fun K2920 hK2921 => ?_)
              refine wp_region_lit ?_
              refine stepp ha 59 (.pointer (some ⟨b2885, 0, none⟩)) KR KR ?_; clear ha a; intro a ha
              refine stepp ha 60 (.pointer (some ⟨b2885, 0, none⟩)) KR KR ?_; clear ha a; intro a ha
              refine stepp ha 61 (.pointer (some ⟨b2885, 0, none⟩)) KR KR ?_; clear ha a; intro a ha
              refine stepl ha 62 (HW.ca (i := 1) (b := b2885) (C := #[.int .i64 x2888.f0, .int .i64 x2888.f1, .int .i64 x2888.f2.f0, .int .i64 x2888.f2.f1, .int .i64 x2888.f3.f0, .int .i64 x2888.f3.f1, .int .i64 x2888.f4.f0, .int .i64 x2888.f4.f1]) (T := 216) (fr := (0, 0)) KR) 3 0 (.tmp 61) (.int .i64 x2888.f0) rfl KR KR KR ?_; clear ha a; intro a ha
              refine endl ?_
              refine thenN (hK2921 _ _ ?_); clear hK2921
              refine wp_block ?_
              refine wp_seq_k (fun K2922 hK2923 => ?_)
              refine wp_region_lit ?_
              refine stepp ha 64 (.bool (x2888.f0 == 18)) KR KR ?_; clear ha a; intro a ha
              refine stepp ha 63 (.bool (x2888.f0 == 18)) KR KR ?_; clear ha a; intro a ha
              refine endl ?_
              refine thenN (hK2923 _ _ ?_); clear hK2923
              by_cases hp2924 : x2888.f0 = 18
              · skip
                replace h := ite_pos' h hp2924
                refine condT ha KR KR (t := (x2888.f0 == 18)) (ieq_t hp2924) ?_
                refine wp_seq_k (fun K2925 hK2926 => ?_)
                refine wp_region_lit ?_
                refine stepl ha 65 (HW.ca (i := 3) (b := b2852) (C := #[.string a0]) (T := 9) (fr := (0, 0)) KR) 9 0 (.tmp 1) (.string a0) rfl KR KR KR ?_; clear ha a; intro a ha
                obtain ⟨hA2927, h_⟩ := asrt_some h; clear h; have h := h_; clear h_
                refine stepsi ha 66 9 (.tmp 65) (.const (.int .i64 1)) a0 .i64 1 rfl KR KR KR (by decide) (show (1 : Int) < ((a0).size : Int) from hA2927) KR ?_; clear ha a; intro a ha
                refine stepp ha 67 (.int .u8 (band .u8 (bt a0 1) 1)) KR KR ?_; clear ha a; intro a ha
                refine stepp ha 68 (.bool ((band .u8 (bt a0 1) 1) == 1)) KR KR ?_; clear ha a; intro a ha
                refine endl ?_
                refine thenN (hK2926 _ _ ?_); clear hK2926
                by_cases hp2928 : (band .u8 (bt a0 1) 1) = 1
                · skip
                  replace h := ite_pos' h hp2928
                  refine condT ha KR KR (t := ((band .u8 (bt a0 1) 1) == 1)) (ieq_t hp2928) ?_
                  refine wp_region_lit ?_
                  refine stepl ha 69 (HW.ca (i := 3) (b := b2852) (C := #[.string a0]) (T := 9) (fr := (0, 0)) KR) 9 0 (.tmp 1) (.string a0) rfl KR KR KR ?_; clear ha a; intro a ha
                  obtain ⟨hA2929, h_⟩ := asrt_some h; clear h; have h := h_; clear h_
                  refine stepsi ha 70 9 (.tmp 69) (.const (.int .i64 2)) a0 .i64 2 rfl KR KR KR (by decide) (show (2 : Int) < ((a0).size : Int) from hA2929) KR ?_; clear ha a; intro a ha
                  refine stepp ha 71 (.int .i64 (IntKind.wrap .i64 (bt a0 2))) KR KR ?_; clear ha a; intro a ha
                  refine stepp ha 72 (.int .i64 (IntKind.wrap .i64 (256 + (IntKind.wrap .i64 (bt a0 2))))) KR KR ?_; clear ha a; intro a ha
                  refine stepp ha 73 (.pointer (some ⟨b2893, 4, none⟩)) KR KR ?_; clear ha a; intro a ha
                  refine stepst ha HW 0 (b := b2893) (C := #[.int .i64 x2888.f0, .int .i64 t2900, .int .i64 t2904, .bool false, .int .i64 0, .int .i64 t2908, .int .i64 0]) (T := 126) KR 3 4 (.tmp 73) (.tmp 72) (.int .i64 (IntKind.wrap .i64 (256 + (IntKind.wrap .i64 (bt a0 2))))) #[.int .i64 x2888.f0, .int .i64 t2900, .int .i64 t2904, .bool false, .int .i64 (IntKind.wrap .i64 (256 + (IntKind.wrap .i64 (bt a0 2)))), .int .i64 t2908, .int .i64 0] rfl KR KR KR KR KR KR KR ?_; clear ha HW a; intro a W2930 HW ha
                  refine endl ?_
                  refine blkN ?_
                  exact thenN ⟨true, x2888.f0, false, IntKind.wrap .i64 (256 + (IntKind.wrap .i64 (bt a0 2))), 0, h, ha.sub (subs_cons KR (subs_cons KR (subs_cons KR (subs_cons KR (subs_nil _))))), HW.pick [2, 1, 0] [] (by decide) (by decide) KR KR⟩
                · skip
                  replace h := ite_neg' h hp2928
                  refine condF ha KR KR (t := ((band .u8 (bt a0 1) 1) == 1)) (ieq_f hp2928) ?_
                  refine wp_skip ?_
                  refine blkN ?_
                  exact thenN ⟨true, x2888.f0, false, 0, 0, h, ha.sub (subs_cons KR (subs_cons KR (subs_cons KR (subs_cons KR (subs_nil _))))), HW.pick [2, 1, 0] [] (by decide) (by decide) KR KR⟩
              · skip
                replace h := ite_neg' h hp2924
                refine condF ha KR KR (t := (x2888.f0 == 18)) (ieq_f hp2924) ?_
                refine wp_seq_k (fun K2931 hK2932 => ?_)
                refine cutn (fun a W2937 => ∃ (x2936 : Bool), cdb_Parse.j0 K a0 x2888 t2900 t2904 t2908 x2936 = some r ∧ Has 162 [(1, .pointer (some ⟨b2852, 0, none⟩)), (2, .pointer (some ⟨b2854, 0, none⟩)), (5, .pointer (some ⟨b2885, 0, none⟩)), (6, .pointer (some ⟨b2893, 0, none⟩)), (8, .bool true), (62, .int .i64 x2888.f0), (74, .bool x2936)] a ∧ Wd w W2937 [(b2852, .cells #[.string a0] 9 (0, 0)), (b2854, .cells #[.int .i64 0, .int .i64 0, .int .i64 0, .bool false, .int .i64 0, .int .i64 0, .int .i64 0] 126 (0, 0)), (b2885, .cells #[.int .i64 x2888.f0, .int .i64 x2888.f1, .int .i64 x2888.f2.f0, .int .i64 x2888.f2.f1, .int .i64 x2888.f3.f0, .int .i64 x2888.f3.f1, .int .i64 x2888.f4.f0, .int .i64 x2888.f4.f1] 216 (0, 0)), (b2893, .cells #[.int .i64 x2888.f0, .int .i64 t2900, .int .i64 t2904, .bool false, .int .i64 0, .int .i64 t2908, .int .i64 0] 126 (0, 0))] []) ?_ ?_
                · skip
                  refine wp_seq_k (fun K2933 hK2934 => ?_)
                  refine wp_region_lit ?_
                  refine stepp ha 75 (.bool (x2888.f0 == 42)) KR KR ?_; clear ha a; intro a ha
                  refine stepp ha 74 (.bool (x2888.f0 == 42)) KR KR ?_; clear ha a; intro a ha
                  refine endl ?_
                  refine thenN (hK2934 _ _ ?_); clear hK2934
                  by_cases hp2935 : x2888.f0 = 42
                  · skip
                    replace h := ite_pos' h hp2935
                    refine condT ha KR KR (t := (x2888.f0 == 42)) (ieq_t hp2935) ?_
                    refine wp_skip ?_
                    exact thenN ⟨(x2888.f0 == 42), h, ha.sub (subs_cons KR (subs_cons KR (subs_cons KR (subs_cons KR (subs_cons KR (subs_cons KR (subs_cons KR (subs_nil _)))))))), HW.pick [3, 2, 1, 0] [] (by decide) (by decide) KR KR⟩
                  · skip
                    replace h := ite_neg' h hp2935
                    refine condF ha KR KR (t := (x2888.f0 == 42)) (ieq_f hp2935) ?_
                    refine wp_region_lit ?_
                    refine stepp ha 76 (.bool (x2888.f0 == 138)) KR KR ?_; clear ha a; intro a ha
                    refine stepp ha 74 (.bool (x2888.f0 == 138)) KR KR ?_; clear ha a; intro a ha
                    refine endl ?_
                    exact thenN ⟨(x2888.f0 == 138), h, ha.sub (subs_cons KR (subs_cons KR (subs_cons KR (subs_cons KR (subs_cons KR (subs_cons KR (subs_cons KR (subs_nil _)))))))), HW.pick [3, 2, 1, 0] [] (by decide) (by decide) KR KR⟩
                · skip
                  intro a W2937 hJ
                  obtain ⟨x2936, h, ha, HW⟩ := hJ
                  replace h : cdb_Parse.j0 K a0 x2888 t2900 t2904 t2908 x2936 = some r := h
                  unfold cdb_Parse.j0 at h
                  refine hK2932 _ _ ?_; clear hK2932
                  by_cases hp2938 : x2936 = true
                  · skip
                    replace h := ite_pos' h hp2938
                    refine condT ha KR KR (t := x2936) (hp2938) ?_
                    refine wp_region_lit ?_
                    refine stepl ha 77 (HW.ca (i := 0) (b := b2852) (C := #[.string a0]) (T := 9) (fr := (0, 0)) KR) 9 0 (.tmp 1) (.string a0) rfl KR KR KR ?_; clear ha a; intro a ha
                    obtain ⟨hA2939, h_⟩ := asrt_some h; clear h; have h := h_; clear h_
                    refine stepsi ha 78 9 (.tmp 77) (.const (.int .i64 1)) a0 .i64 1 rfl KR KR KR (by decide) (show (1 : Int) < ((a0).size : Int) from hA2939) KR ?_; clear ha a; intro a ha
                    refine stepp ha 79 (.int .u8 ((bt a0 1).fdiv 8)) KR KR ?_; clear ha a; intro a ha
                    refine stepp ha 80 (.int .u8 (band .u8 ((bt a0 1).fdiv 8) 1)) KR KR ?_; clear ha a; intro a ha
                    refine stepp ha 81 (.bool ((band .u8 ((bt a0 1).fdiv 8) 1) == 1)) KR KR ?_; clear ha a; intro a ha
                    refine stepp ha 82 (.pointer (some ⟨b2893, 3, none⟩)) KR KR ?_; clear ha a; intro a ha
                    refine stepst ha HW 3 (b := b2893) (C := #[.int .i64 x2888.f0, .int .i64 t2900, .int .i64 t2904, .bool false, .int .i64 0, .int .i64 t2908, .int .i64 0]) (T := 126) KR 4 3 (.tmp 82) (.tmp 81) (.bool ((band .u8 ((bt a0 1).fdiv 8) 1) == 1)) #[.int .i64 x2888.f0, .int .i64 t2900, .int .i64 t2904, .bool ((band .u8 ((bt a0 1).fdiv 8) 1) == 1), .int .i64 0, .int .i64 t2908, .int .i64 0] rfl KR KR KR KR KR KR KR ?_; clear ha HW a; intro a W2940 HW ha
                    refine endl ?_
                    refine blkN ?_
                    exact thenN ⟨true, x2888.f0, ((band .u8 ((bt a0 1).fdiv 8) 1) == 1), 0, 0, h, ha.sub (subs_cons KR (subs_cons KR (subs_cons KR (subs_cons KR (subs_nil _))))), HW.pick [1, 2, 3] [] (by decide) (by decide) KR KR⟩
                  · skip
                    replace h := ite_neg' h hp2938
                    refine condF ha KR KR (t := x2936) (bool_f hp2938) ?_
                    refine wp_seq_k (fun K2941 hK2942 => ?_)
                    refine wp_region_lit ?_
                    refine stepp ha 84 (.bool (x2888.f0 == 147)) KR KR ?_; clear ha a; intro a ha
                    refine stepp ha 83 (.bool (x2888.f0 == 147)) KR KR ?_; clear ha a; intro a ha
                    refine endl ?_
                    refine thenN (hK2942 _ _ ?_); clear hK2942
                    by_cases hp2943 : x2888.f0 = 147
                    · skip
                      replace h := ite_pos' h hp2943
                      refine condT ha KR KR (t := (x2888.f0 == 147)) (ieq_t hp2943) ?_
                      refine wp_region_lit ?_
                      refine stepl ha 85 (HW.ca (i := 0) (b := b2852) (C := #[.string a0]) (T := 9) (fr := (0, 0)) KR) 9 0 (.tmp 1) (.string a0) rfl KR KR KR ?_; clear ha a; intro a ha
                      obtain ⟨hA2944, h_⟩ := asrt_some h; clear h; have h := h_; clear h_
                      refine stepsi ha 86 9 (.tmp 85) (.const (.int .i64 1)) a0 .i64 1 rfl KR KR KR (by decide) (show (1 : Int) < ((a0).size : Int) from hA2944) KR ?_; clear ha a; intro a ha
                      refine stepp ha 87 (.int .u8 (band .u8 (bt a0 1) 1)) KR KR ?_; clear ha a; intro a ha
                      refine stepp ha 88 (.bool ((band .u8 (bt a0 1) 1) == 1)) KR KR ?_; clear ha a; intro a ha
                      refine stepp ha 8 (.bool ((band .u8 (bt a0 1) 1) == 1)) KR KR ?_; clear ha a; intro a ha
                      refine endl ?_
                      refine blkN ?_
                      exact thenN ⟨((band .u8 (bt a0 1) 1) == 1), x2888.f0, false, 0, 0, h, ha.sub (subs_cons KR (subs_cons KR (subs_cons KR (subs_cons KR (subs_nil _))))), HW.pick [1, 2, 3] [] (by decide) (by decide) KR KR⟩
                    · skip
                      replace h := ite_neg' h hp2943
                      refine condF ha KR KR (t := (x2888.f0 == 147)) (ieq_f hp2943) ?_
                      refine wp_seq_k (fun K2945 hK2946 => ?_)
                      refine cutn (fun a W2951 => ∃ (x2950 : Bool), cdb_Parse.j1 K a0 x2888 t2900 t2904 t2908 x2950 = some r ∧ Has 162 [(1, .pointer (some ⟨b2852, 0, none⟩)), (2, .pointer (some ⟨b2854, 0, none⟩)), (5, .pointer (some ⟨b2885, 0, none⟩)), (6, .pointer (some ⟨b2893, 0, none⟩)), (8, .bool true), (89, .bool x2950)] a ∧ Wd w W2951 [(b2852, .cells #[.string a0] 9 (0, 0)), (b2854, .cells #[.int .i64 0, .int .i64 0, .int .i64 0, .bool false, .int .i64 0, .int .i64 0, .int .i64 0] 126 (0, 0)), (b2885, .cells #[.int .i64 x2888.f0, .int .i64 x2888.f1, .int .i64 x2888.f2.f0, .int .i64 x2888.f2.f1, .int .i64 x2888.f3.f0, .int .i64 x2888.f3.f1, .int .i64 x2888.f4.f0, .int .i64 x2888.f4.f1] 216 (0, 0)), (b2893, .cells #[.int .i64 x2888.f0, .int .i64 t2900, .int .i64 t2904, .bool false, .int .i64 0, .int .i64 t2908, .int .i64 0] 126 (0, 0))] []) ?_ ?_
                      · skip
                        refine wp_seq_k (fun K2947 hK2948 => ?_)
                        refine wp_region_lit ?_
                        refine stepp ha 90 (.bool (x2888.f0 == 94)) KR KR ?_; clear ha a; intro a ha
                        refine stepp ha 89 (.bool (x2888.f0 == 94)) KR KR ?_; clear ha a; intro a ha
                        refine endl ?_
                        refine thenN (hK2948 _ _ ?_); clear hK2948
                        by_cases hp2949 : x2888.f0 = 94
                        · skip
                          replace h := ite_pos' h hp2949
                          refine condT ha KR KR (t := (x2888.f0 == 94)) (ieq_t hp2949) ?_
                          refine wp_skip ?_
                          exact thenN ⟨(x2888.f0 == 94), h, ha.sub (subs_cons KR (subs_cons KR (subs_cons KR (subs_cons KR (subs_cons KR (subs_cons KR (subs_nil _))))))), HW.pick [0, 1, 2, 3] [] (by decide) (by decide) KR KR⟩
                        · skip
                          replace h := ite_neg' h hp2949
                          refine condF ha KR KR (t := (x2888.f0 == 94)) (ieq_f hp2949) ?_
                          refine wp_region_lit ?_
                          refine stepp ha 91 (.bool (x2888.f0 == 95)) KR KR ?_; clear ha a; intro a ha
                          refine stepp ha 89 (.bool (x2888.f0 == 95)) KR KR ?_; clear ha a; intro a ha
                          refine endl ?_
                          exact thenN ⟨(x2888.f0 == 95), h, ha.sub (subs_cons KR (subs_cons KR (subs_cons KR (subs_cons KR (subs_cons KR (subs_cons KR (subs_nil _))))))), HW.pick [0, 1, 2, 3] [] (by decide) (by decide) KR KR⟩
                      · skip
                        intro a W2951 hJ
                        obtain ⟨x2950, h, ha, HW⟩ := hJ
                        replace h : cdb_Parse.j1 K a0 x2888 t2900 t2904 t2908 x2950 = some r := h
                        unfold cdb_Parse.j1 at h
                        refine hK2946 _ _ ?_; clear hK2946
                        by_cases hp2952 : x2950 = true
                        · skip
                          replace h := ite_pos' h hp2952
                          refine condT ha KR KR (t := x2950) (hp2952) ?_
                          refine wp_seq_k (fun K2953 hK2954 => ?_)
                          refine wp_region_lit ?_
                          refine stepl ha 92 (HW.ca (i := 0) (b := b2852) (C := #[.string a0]) (T := 9) (fr := (0, 0)) KR) 9 0 (.tmp 1) (.string a0) rfl KR KR KR ?_; clear ha a; intro a ha
                          obtain ⟨hA2955, h_⟩ := asrt_some h; clear h; have h := h_; clear h_
                          refine stepsi ha 93 9 (.tmp 92) (.const (.int .i64 1)) a0 .i64 1 rfl KR KR KR (by decide) (show (1 : Int) < ((a0).size : Int) from hA2955) KR ?_; clear ha a; intro a ha
                          refine stepp ha 94 (.int .u8 (band .u8 (bt a0 1) 31)) KR KR ?_; clear ha a; intro a ha
                          refine stepp ha 95 (.int .i64 (IntKind.wrap .i64 (band .u8 (bt a0 1) 31))) KR KR ?_; clear ha a; intro a ha
                          refine stepp ha 9 (.int .i64 (IntKind.wrap .i64 (band .u8 (bt a0 1) 31))) KR KR ?_; clear ha a; intro a ha
                          refine endl ?_
                          refine thenN (hK2954 _ _ ?_); clear hK2954
                          refine wp_seq_k (fun K2956 hK2957 => ?_)
                          refine wp_region_lit ?_
                          refine stepp ha 96 (.pointer (some ⟨b2885, 0, none⟩)) KR KR ?_; clear ha a; intro a ha
                          refine stepp ha 97 (.pointer (some ⟨b2885, 0, none⟩)) KR KR ?_; clear ha a; intro a ha
                          refine stepp ha 98 (.pointer (some ⟨b2885, 0, none⟩)) KR KR ?_; clear ha a; intro a ha
                          refine stepl ha 99 (HW.ca (i := 2) (b := b2885) (C := #[.int .i64 x2888.f0, .int .i64 x2888.f1, .int .i64 x2888.f2.f0, .int .i64 x2888.f2.f1, .int .i64 x2888.f3.f0, .int .i64 x2888.f3.f1, .int .i64 x2888.f4.f0, .int .i64 x2888.f4.f1]) (T := 216) (fr := (0, 0)) KR) 3 0 (.tmp 98) (.int .i64 x2888.f0) rfl KR KR KR ?_; clear ha a; intro a ha
                          refine stepp ha 100 (.int .i64 (IntKind.wrap .i64 (256 * x2888.f0))) KR KR ?_; clear ha a; intro a ha
                          refine stepp ha 101 (.int .i64 (IntKind.wrap .i64 (band .u8 (bt a0 1) 31))) KR KR ?_; clear ha a; intro a ha
                          refine stepp ha 102 (.int .i64 (IntKind.wrap .i64 ((IntKind.wrap .i64 (256 * x2888.f0)) + (IntKind.wrap .i64 (band .u8 (bt a0 1) 31))))) KR KR ?_; clear ha a; intro a ha
                          refine stepp ha 103 (.pointer (some ⟨b2893, 0, none⟩)) KR KR ?_; clear ha a; intro a ha
                          refine stepst ha HW 3 (b := b2893) (C := #[.int .i64 x2888.f0, .int .i64 t2900, .int .i64 t2904, .bool false, .int .i64 0, .int .i64 t2908, .int .i64 0]) (T := 126) KR 3 0 (.tmp 103) (.tmp 102) (.int .i64 (IntKind.wrap .i64 ((IntKind.wrap .i64 (256 * x2888.f0)) + (IntKind.wrap .i64 (band .u8 (bt a0 1) 31))))) #[.int .i64 (IntKind.wrap .i64 ((IntKind.wrap .i64 (256 * x2888.f0)) + (IntKind.wrap .i64 (band .u8 (bt a0 1) 31)))), .int .i64 t2900, .int .i64 t2904, .bool false, .int .i64 0, .int .i64 t2908, .int .i64 0] rfl KR KR KR KR KR KR KR ?_; clear ha HW a; intro a W2958 HW ha
                          refine endl ?_
                          refine thenN (hK2957 _ _ ?_); clear hK2957
                          refine wp_seq_k (fun K2959 hK2960 => ?_)
                          refine wp_region_lit ?_
                          refine stepp ha 104 (.pointer (some ⟨b2885, 0, none⟩)) KR KR ?_; clear ha a; intro a ha
                          refine stepp ha 105 (.pointer (some ⟨b2885, 0, none⟩)) KR KR ?_; clear ha a; intro a ha
                          refine stepp ha 106 (.pointer (some ⟨b2885, 0, none⟩)) KR KR ?_; clear ha a; intro a ha
                          refine stepl ha 107 (HW.ca (i := 2) (b := b2885) (C := #[.int .i64 x2888.f0, .int .i64 x2888.f1, .int .i64 x2888.f2.f0, .int .i64 x2888.f2.f1, .int .i64 x2888.f3.f0, .int .i64 x2888.f3.f1, .int .i64 x2888.f4.f0, .int .i64 x2888.f4.f1]) (T := 216) (fr := (0, 0)) KR) 3 0 (.tmp 106) (.int .i64 x2888.f0) rfl KR KR KR ?_; clear ha a; intro a ha
                          refine stepp ha 108 (.int .i64 (IntKind.wrap .i64 (band .u8 (bt a0 1) 31))) KR KR ?_; clear ha a; intro a ha
                          obtain ⟨t2961, ht2962, h_⟩ := bind_some' h; clear h; have h := h_; clear h_
                          refine stepc ha 109 KR KR (cdb_known.calls x2888.f0 (IntKind.wrap .i64 (band .u8 (bt a0 1) 31)) t2961 _ ht2962) ?_; clear ha a; rintro e W2963 ⟨rfl, HX2964⟩
                          refine ⟨_, rfl, ?_⟩; intro a ha; replace HW := HW.callw HX2964; clear HX2964
                          refine stepp ha 8 (.bool t2961) KR KR ?_; clear ha a; intro a ha
                          refine endl ?_
                          refine thenN (hK2960 _ _ ?_); clear hK2960
                          refine wp_seq_k (fun K2965 hK2966 => ?_)
                          refine wp_region_lit ?_
                          refine stepp ha 110 (.pointer (some ⟨b2885, 0, none⟩)) KR KR ?_; clear ha a; intro a ha
                          refine stepp ha 111 (.pointer (some ⟨b2885, 0, none⟩)) KR KR ?_; clear ha a; intro a ha
                          refine stepp ha 112 (.pointer (some ⟨b2885, 0, none⟩)) KR KR ?_; clear ha a; intro a ha
                          refine stepl ha 113 (HW.ca (i := 2) (b := b2885) (C := #[.int .i64 x2888.f0, .int .i64 x2888.f1, .int .i64 x2888.f2.f0, .int .i64 x2888.f2.f1, .int .i64 x2888.f3.f0, .int .i64 x2888.f3.f1, .int .i64 x2888.f4.f0, .int .i64 x2888.f4.f1]) (T := 216) (fr := (0, 0)) KR) 3 0 (.tmp 112) (.int .i64 x2888.f0) rfl KR KR KR ?_; clear ha a; intro a ha
                          refine stepp ha 114 (.bool (x2888.f0 == 95)) KR KR ?_; clear ha a; intro a ha
                          refine endl ?_
                          refine thenN (hK2966 _ _ ?_); clear hK2966
                          by_cases hp2967 : x2888.f0 = 95
                          · skip
                            replace h := ite_pos' h hp2967
                            refine condT ha KR KR (t := (x2888.f0 == 95)) (ieq_t hp2967) ?_
                            refine wp_seq_k (fun K2968 hK2969 => ?_)
                            refine cutn (fun a W2974 => ∃ (x2973 : Bool), cdb_Parse.j2 K a0 x2888 t2900 t2904 t2908 x2973 = some r ∧ Has 162 [(1, .pointer (some ⟨b2852, 0, none⟩)), (2, .pointer (some ⟨b2854, 0, none⟩)), (5, .pointer (some ⟨b2885, 0, none⟩)), (6, .pointer (some ⟨b2893, 0, none⟩)), (8, .bool x2973), (9, .int .i64 (IntKind.wrap .i64 (band .u8 (bt a0 1) 31)))] a ∧ Wd w W2974 [(b2852, .cells #[.string a0] 9 (0, 0)), (b2854, .cells #[.int .i64 0, .int .i64 0, .int .i64 0, .bool false, .int .i64 0, .int .i64 0, .int .i64 0] 126 (0, 0)), (b2885, .cells #[.int .i64 x2888.f0, .int .i64 x2888.f1, .int .i64 x2888.f2.f0, .int .i64 x2888.f2.f1, .int .i64 x2888.f3.f0, .int .i64 x2888.f3.f1, .int .i64 x2888.f4.f0, .int .i64 x2888.f4.f1] 216 (0, 0)), (b2893, .cells #[.int .i64 (IntKind.wrap .i64 ((IntKind.wrap .i64 (256 * x2888.f0)) + (IntKind.wrap .i64 (band .u8 (bt a0 1) 31)))), .int .i64 t2900, .int .i64 t2904, .bool false, .int .i64 0, .int .i64 t2908, .int .i64 0] 126 (0, 0))] []) ?_ ?_
                            · skip
                              refine wp_region_lit ?_
                              refine stepp ha 115 (.bool t2961) KR KR ?_; clear ha a; intro a ha
                              refine stepp ha 116 (.bool t2961) KR KR ?_; clear ha a; intro a ha
                              by_cases hp2970 : t2961 = true
                              · skip
                                replace h := ite_pos' h hp2970
                                replace ha := ha.bool 116 KR (hp2970)
                                refine stepl ha 117 (HW.ca (i := 0) (b := b2852) (C := #[.string a0]) (T := 9) (fr := (0, 0)) KR) 9 0 (.tmp 1) (.string a0) rfl KR KR KR ?_; clear ha a; intro a ha
                                obtain ⟨hA2971, h_⟩ := asrt_some h; clear h; have h := h_; clear h_
                                refine stepsi ha 118 9 (.tmp 117) (.const (.int .i64 2)) a0 .i64 2 rfl KR KR KR (by decide) (show (2 : Int) < ((a0).size : Int) from hA2971) KR ?_; clear ha a; intro a ha
                                refine stepp ha 119 (.int .u8 ((bt a0 2).fdiv 16)) KR KR ?_; clear ha a; intro a ha
                                refine stepp ha 120 (.bool (((bt a0 2).fdiv 16) == 0)) KR KR ?_; clear ha a; intro a ha
                                refine stepp ha 121 (.bool (((bt a0 2).fdiv 16) == 0)) KR KR ?_; clear ha a; intro a ha
                                refine stepp ha 122 (.bool (((bt a0 2).fdiv 16) == 0)) KR KR ?_; clear ha a; intro a ha
                                by_cases hp2972 : ((bt a0 2).fdiv 16) = 0
                                · skip
                                  replace h := ite_pos' h hp2972
                                  replace ha := ha.bool 122 KR (ieq_t hp2972)
                                  refine stepp ha 123 (.pointer (some ⟨b2893, 5, none⟩)) KR KR ?_; clear ha a; intro a ha
                                  refine stepl ha 124 (HW.ca (i := 3) (b := b2893) (C := #[.int .i64 (IntKind.wrap .i64 ((IntKind.wrap .i64 (256 * x2888.f0)) + (IntKind.wrap .i64 (band .u8 (bt a0 1) 31)))), .int .i64 t2900, .int .i64 t2904, .bool false, .int .i64 0, .int .i64 t2908, .int .i64 0]) (T := 126) (fr := (0, 0)) KR) 3 5 (.tmp 123) (.int .i64 t2908) rfl KR KR KR ?_; clear ha a; intro a ha
                                  refine stepp ha 125 (.bool (t2908 == 24)) KR KR ?_; clear ha a; intro a ha
                                  refine stepp ha 126 (.bool (t2908 == 24)) KR KR ?_; clear ha a; intro a ha
                                  refine stepp ha 8 (.bool (t2908 == 24)) KR KR ?_; clear ha a; intro a ha
                                  refine endl ?_
                                  exact thenN ⟨(t2908 == 24), h, ha.sub (subs_cons KR (subs_cons KR (subs_cons KR (subs_cons KR (subs_cons KR (subs_cons KR (subs_nil _))))))), HW.pick [0, 1, 2, 3] [] (by decide) (by decide) KR KR⟩
                                · skip
                                  replace h := ite_neg' h hp2972
                                  replace ha := ha.bool 122 KR (ieq_f hp2972)
                                  refine stepo ha 123 KR ?_; clear ha a; intro a ha
                                  refine stepo ha 124 KR ?_; clear ha a; intro a ha
                                  refine stepo ha 125 KR ?_; clear ha a; intro a ha
                                  refine stepp ha 126 (.bool false) KR KR ?_; clear ha a; intro a ha
                                  refine stepp ha 8 (.bool false) KR KR ?_; clear ha a; intro a ha
                                  refine endl ?_
                                  exact thenN ⟨false, h, ha.sub (subs_cons KR (subs_cons KR (subs_cons KR (subs_cons KR (subs_cons KR (subs_cons KR (subs_nil _))))))), HW.pick [0, 1, 2, 3] [] (by decide) (by decide) KR KR⟩
                              · skip
                                replace h := ite_neg' h hp2970
                                replace ha := ha.bool 116 KR (bool_f hp2970)
                                refine stepo ha 117 KR ?_; clear ha a; intro a ha
                                refine stepo ha 118 KR ?_; clear ha a; intro a ha
                                refine stepo ha 119 KR ?_; clear ha a; intro a ha
                                refine stepo ha 120 KR ?_; clear ha a; intro a ha
                                refine stepp ha 121 (.bool false) KR KR ?_; clear ha a; intro a ha
                                refine stepp ha 122 (.bool false) KR KR ?_; clear ha a; intro a ha
                                refine stepo ha 123 KR ?_; clear ha a; intro a ha
                                refine stepo ha 124 KR ?_; clear ha a; intro a ha
                                refine stepo ha 125 KR ?_; clear ha a; intro a ha
                                refine stepp ha 126 (.bool false) KR KR ?_; clear ha a; intro a ha
                                refine stepp ha 8 (.bool false) KR KR ?_; clear ha a; intro a ha
                                refine endl ?_
                                exact thenN ⟨false, h, ha.sub (subs_cons KR (subs_cons KR (subs_cons KR (subs_cons KR (subs_cons KR (subs_cons KR (subs_nil _))))))), HW.pick [0, 1, 2, 3] [] (by decide) (by decide) KR KR⟩
                            · skip
                              intro a W2974 hJ
                              obtain ⟨x2973, h, ha, HW⟩ := hJ
                              replace h : cdb_Parse.j2 K a0 x2888 t2900 t2904 t2908 x2973 = some r := h
                              unfold cdb_Parse.j2 at h
                              refine hK2969 _ _ ?_; clear hK2969
                              refine wp_seq_k (fun K2975 hK2976 => ?_)
                              refine wp_region_lit ?_
                              refine stepp ha 127 (.int .i64 (IntKind.wrap .i64 (band .u8 (bt a0 1) 31))) KR KR ?_; clear ha a; intro a ha
                              obtain ⟨t2977, ht2978, h_⟩ := bind_some' h; clear h; have h := h_; clear h_
                              refine stepc ha 128 KR KR (cdb_typed.calls (IntKind.wrap .i64 (band .u8 (bt a0 1) 31)) t2977 _ ht2978) ?_; clear ha a; rintro e W2979 ⟨rfl, HX2980⟩
                              refine ⟨_, rfl, ?_⟩; intro a ha; replace HW := HW.callw HX2980; clear HX2980
                              refine endl ?_
                              refine thenN (hK2976 _ _ ?_); clear hK2976
                              by_cases hp2981 : t2977 = true
                              · skip
                                replace h := ite_pos' h hp2981
                                refine condT ha KR KR (t := t2977) (hp2981) ?_
                                refine wp_seq_k (fun K2982 hK2983 => ?_)
                                refine wp_region_lit ?_
                                refine stepl ha 129 (HW.ca (i := 0) (b := b2852) (C := #[.string a0]) (T := 9) (fr := (0, 0)) KR) 9 0 (.tmp 1) (.string a0) rfl KR KR KR ?_; clear ha a; intro a ha
                                obtain ⟨hA2984, h_⟩ := asrt_some h; clear h; have h := h_; clear h_
                                refine stepsi ha 130 9 (.tmp 129) (.const (.int .i64 2)) a0 .i64 2 rfl KR KR KR (by decide) (show (2 : Int) < ((a0).size : Int) from hA2984) KR ?_; clear ha a; intro a ha
                                refine stepp ha 131 (.int .u8 (band .u8 (bt a0 2) 15)) KR KR ?_; clear ha a; intro a ha
                                refine stepp ha 132 (.int .i64 (IntKind.wrap .i64 (band .u8 (bt a0 2) 15))) KR KR ?_; clear ha a; intro a ha
                                obtain ⟨t2985, ht2986, h_⟩ := bind_some' h; clear h; have h := h_; clear h_
                                refine stepc ha 133 KR KR (cdb_Type.calls K (IntKind.wrap .i64 (band .u8 (bt a0 2) 15)) t2985 _ (HW.ca0 hG3) ht2986) ?_; clear ha a; rintro e W2987 ⟨rfl, HX2988⟩
                                refine ⟨_, rfl, ?_⟩; intro a ha; replace HW := HW.callw HX2988; clear HX2988
                                refine stepp ha 134 (.pointer (some ⟨b2893, 6, none⟩)) KR KR ?_; clear ha a; intro a ha
                                refine stepst ha HW 3 (b := b2893) (C := #[.int .i64 (IntKind.wrap .i64 ((IntKind.wrap .i64 (256 * x2888.f0)) + (IntKind.wrap .i64 (band .u8 (bt a0 1) 31)))), .int .i64 t2900, .int .i64 t2904, .bool false, .int .i64 0, .int .i64 t2908, .int .i64 0]) (T := 126) KR 3 6 (.tmp 134) (.tmp 133) (.int .i64 t2985) #[.int .i64 (IntKind.wrap .i64 ((IntKind.wrap .i64 (256 * x2888.f0)) + (IntKind.wrap .i64 (band .u8 (bt a0 1) 31)))), .int .i64 t2900, .int .i64 t2904, .bool false, .int .i64 0, .int .i64 t2908, .int .i64 t2985] rfl KR KR KR KR KR KR KR ?_; clear ha HW a; intro a W2989 HW ha
                                refine endl ?_
                                refine thenN (hK2983 _ _ ?_); clear hK2983
                                refine wp_region_lit ?_
                                refine stepp ha 135 (.bool x2973) KR KR ?_; clear ha a; intro a ha
                                refine stepp ha 136 (.bool x2973) KR KR ?_; clear ha a; intro a ha
                                by_cases hp2990 : x2973 = true
                                · skip
                                  replace h := ite_pos' h hp2990
                                  replace ha := ha.bool 136 KR (hp2990)
                                  refine stepp ha 137 (.pointer (some ⟨b2893, 6, none⟩)) KR KR ?_; clear ha a; intro a ha
                                  refine stepl ha 138 (HW.ca (i := 3) (b := b2893) (C := #[.int .i64 (IntKind.wrap .i64 ((IntKind.wrap .i64 (256 * x2888.f0)) + (IntKind.wrap .i64 (band .u8 (bt a0 1) 31)))), .int .i64 t2900, .int .i64 t2904, .bool false, .int .i64 0, .int .i64 t2908, .int .i64 t2985]) (T := 126) (fr := (0, 0)) KR) 3 6 (.tmp 137) (.int .i64 t2985) rfl KR KR KR ?_; clear ha a; intro a ha
                                  refine stepp ha 139 (.bool (t2985 != 0)) KR KR ?_; clear ha a; intro a ha
                                  refine stepp ha 140 (.bool (t2985 != 0)) KR KR ?_; clear ha a; intro a ha
                                  refine stepp ha 8 (.bool (t2985 != 0)) KR KR ?_; clear ha a; intro a ha
                                  refine endl ?_
                                  refine blkN ?_
                                  exact thenN ⟨(t2985 != 0), IntKind.wrap .i64 ((IntKind.wrap .i64 (256 * x2888.f0)) + (IntKind.wrap .i64 (band .u8 (bt a0 1) 31))), false, 0, t2985, h, ha.sub (subs_cons KR (subs_cons KR (subs_cons KR (subs_cons KR (subs_nil _))))), HW.pick [1, 2, 3] [] (by decide) (by decide) KR KR⟩
                                · skip
                                  replace h := ite_neg' h hp2990
                                  replace ha := ha.bool 136 KR (bool_f hp2990)
                                  refine stepo ha 137 KR ?_; clear ha a; intro a ha
                                  refine stepo ha 138 KR ?_; clear ha a; intro a ha
                                  refine stepo ha 139 KR ?_; clear ha a; intro a ha
                                  refine stepp ha 140 (.bool false) KR KR ?_; clear ha a; intro a ha
                                  refine stepp ha 8 (.bool false) KR KR ?_; clear ha a; intro a ha
                                  refine endl ?_
                                  refine blkN ?_
                                  exact thenN ⟨false, IntKind.wrap .i64 ((IntKind.wrap .i64 (256 * x2888.f0)) + (IntKind.wrap .i64 (band .u8 (bt a0 1) 31))), false, 0, t2985, h, ha.sub (subs_cons KR (subs_cons KR (subs_cons KR (subs_cons KR (subs_nil _))))), HW.pick [1, 2, 3] [] (by decide) (by decide) KR KR⟩
                              · skip
                                replace h := ite_neg' h hp2981
                                refine condF ha KR KR (t := t2977) (bool_f hp2981) ?_
                                refine wp_skip ?_
                                refine blkN ?_
                                exact thenN ⟨x2973, IntKind.wrap .i64 ((IntKind.wrap .i64 (256 * x2888.f0)) + (IntKind.wrap .i64 (band .u8 (bt a0 1) 31))), false, 0, 0, h, ha.sub (subs_cons KR (subs_cons KR (subs_cons KR (subs_cons KR (subs_nil _))))), HW.pick [1, 2, 3] [] (by decide) (by decide) KR KR⟩
                          · skip
                            replace h := ite_neg' h hp2967
                            refine condF ha KR KR (t := (x2888.f0 == 95)) (ieq_f hp2967) ?_
                            refine wp_skip ?_
                            refine blkN ?_
                            exact thenN ⟨t2961, IntKind.wrap .i64 ((IntKind.wrap .i64 (256 * x2888.f0)) + (IntKind.wrap .i64 (band .u8 (bt a0 1) 31))), false, 0, 0, h, ha.sub (subs_cons KR (subs_cons KR (subs_cons KR (subs_cons KR (subs_nil _))))), HW.pick [1, 2, 3] [] (by decide) (by decide) KR KR⟩
                        · skip
                          replace h := ite_neg' h hp2952
                          refine condF ha KR KR (t := x2950) (bool_f hp2952) ?_
                          refine wp_skip ?_
                          refine blkN ?_
                          exact thenN ⟨true, x2888.f0, false, 0, 0, h, ha.sub (subs_cons KR (subs_cons KR (subs_cons KR (subs_cons KR (subs_nil _))))), HW.pick [1, 2, 3] [] (by decide) (by decide) KR KR⟩
            · skip
              intro a W2996 hJ
              obtain ⟨x2991, x2992, x2993, x2994, x2995, h, ha, HW⟩ := hJ
              replace h : cdb_Parse.j3 K x2888 t2900 t2904 t2908 x2991 x2992 x2993 x2994 x2995 = some r := h
              unfold cdb_Parse.j3 at h
              refine hK2919 _ _ ?_; clear hK2919
              refine wp_seq_k (fun K2997 hK2998 => ?_)
              refine wp_seq_k (fun K2999 hK3000 => ?_)
              refine wp_region_lit ?_
              refine stepp ha 141 (.bool x2991) KR KR ?_; clear ha a; intro a ha
              refine stepp ha 142 (.bool (!x2991)) KR KR ?_; clear ha a; intro a ha
              refine stepp ha 143 (.bool (!x2991)) KR KR ?_; clear ha a; intro a ha
              by_cases hp3001 : x2991 = true
              · skip
                replace h := ite_pos' h hp3001
                replace ha := ha.bool 143 KR (not_f (hp3001))
                refine stepp ha 144 (.pointer (some ⟨b2885, 0, none⟩)) KR KR ?_; clear ha a; intro a ha
                refine stepp ha 145 (.pointer (some ⟨b2885, 0, none⟩)) KR KR ?_; clear ha a; intro a ha
                refine stepp ha 146 (.pointer (some ⟨b2885, 1, none⟩)) KR KR ?_; clear ha a; intro a ha
                refine stepl ha 147 (HW.ca (i := 1) (b := b2885) (C := #[.int .i64 x2888.f0, .int .i64 x2888.f1, .int .i64 x2888.f2.f0, .int .i64 x2888.f2.f1, .int .i64 x2888.f3.f0, .int .i64 x2888.f3.f1, .int .i64 x2888.f4.f0, .int .i64 x2888.f4.f1]) (T := 216) (fr := (0, 0)) KR) 3 1 (.tmp 146) (.int .i64 x2888.f1) rfl KR KR KR ?_; clear ha a; intro a ha
                refine stepp ha 148 (.bool (x2888.f1 == 16)) KR KR ?_; clear ha a; intro a ha
                refine stepp ha 149 (.bool (x2888.f1 == 16)) KR KR ?_; clear ha a; intro a ha
                by_cases hp3002 : x2888.f1 = 16
                · skip
                  replace h := ite_pos' h hp3002
                  replace ha := ha.bool 149 KR (ieq_t hp3002)
                  refine stepp ha 150 (.pointer (some ⟨b2893, 1, none⟩)) KR KR ?_; clear ha a; intro a ha
                  refine stepl ha 151 (HW.ca (i := 2) (b := b2893) (C := #[.int .i64 x2992, .int .i64 t2900, .int .i64 t2904, .bool x2993, .int .i64 x2994, .int .i64 t2908, .int .i64 x2995]) (T := 126) (fr := (0, 0)) KR) 3 1 (.tmp 150) (.int .i64 t2900) rfl KR KR KR ?_; clear ha a; intro a ha
                  refine stepp ha 152 (.bool (decide (t2900 ≥ 2147483648))) KR KR ?_; clear ha a; intro a ha
                  refine stepp ha 153 (.bool (decide (t2900 ≥ 2147483648))) KR KR ?_; clear ha a; intro a ha
                  by_cases hp3003 : t2900 ≥ 2147483648
                  · skip
                    replace h := ite_pos' h hp3003
                    replace ha := ha.bool 153 KR (decide_eq_true hp3003)
                    refine stepo ha 154 KR ?_; clear ha a; intro a ha
                    refine stepo ha 155 KR ?_; clear ha a; intro a ha
                    refine stepo ha 156 KR ?_; clear ha a; intro a ha
                    refine stepp ha 157 (.bool true) KR KR ?_; clear ha a; intro a ha
                    refine stepp ha 158 (.bool true) KR KR ?_; clear ha a; intro a ha
                    refine stepp ha 159 (.bool true) KR KR ?_; clear ha a; intro a ha
                    refine endl ?_
                    refine thenN (hK3000 _ _ ?_); clear hK3000
                    refine condT ha KR KR (t := true) (rfl) ?_
                    refine wp_seq_k (fun K3004 hK3005 => ?_)
                    refine wp_region_lit ?_
                    refine stepp ha 160 (.agg #[.int .i64 0, .int .i64 0, .int .i64 0, .bool false, .int .i64 0, .int .i64 0, .int .i64 0]) KR KR ?_; clear ha a; intro a ha
                    refine stepst ha HW 0 (b := b2854) (C := #[.int .i64 0, .int .i64 0, .int .i64 0, .bool false, .int .i64 0, .int .i64 0, .int .i64 0]) (T := 126) KR 126 0 (.tmp 2) (.tmp 160) (.agg #[.int .i64 0, .int .i64 0, .int .i64 0, .bool false, .int .i64 0, .int .i64 0, .int .i64 0]) #[.int .i64 0, .int .i64 0, .int .i64 0, .bool false, .int .i64 0, .int .i64 0, .int .i64 0] rfl KR KR KR KR KR KR KR ?_; clear ha HW a; intro a W3006 HW ha
                    refine stepp ha 3 (.int .i64 150) KR KR ?_; clear ha a; intro a ha
                    refine endl ?_
                    refine thenN (hK3005 _ _ ?_); clear hK3005
                    refine wp_ret ?_
                    refine thenR ?_
                    obtain rfl := Option.some.inj h
                    exact finv ha _ _ rfl (.cell (ad := ⟨b2854, 0, none⟩) (v := .agg #[.int .i64 0, .int .i64 0, .int .i64 0, .bool false, .int .i64 0, .int .i64 0, .int .i64 0]) KR (run_loadVar_ca0 (HW.ca (i := 0) (b := b2854) (C := #[.int .i64 0, .int .i64 0, .int .i64 0, .bool false, .int .i64 0, .int .i64 0, .int .i64 0]) (T := 126) (fr := (0, 0)) KR) 126 0 (.agg #[.int .i64 0, .int .i64 0, .int .i64 0, .bool false, .int .i64 0, .int .i64 0, .int .i64 0]) KR) (.tmp (v := .int .i64 150) KR .nil)) (.tuple #[.agg #[.int .i64 0, .int .i64 0, .int .i64 0, .bool false, .int .i64 0, .int .i64 0, .int .i64 0], .int .i64 150]) rfl ⟨rfl, HW.pick [] [] (by decide) (by decide) rfl KR⟩
                  · skip
                    replace h := ite_neg' h hp3003
                    replace ha := ha.bool 153 KR (decide_eq_false hp3003)
                    refine stepp ha 154 (.pointer (some ⟨b2893, 2, none⟩)) KR KR ?_; clear ha a; intro a ha
                    refine stepl ha 155 (HW.ca (i := 2) (b := b2893) (C := #[.int .i64 x2992, .int .i64 t2900, .int .i64 t2904, .bool x2993, .int .i64 x2994, .int .i64 t2908, .int .i64 x2995]) (T := 126) (fr := (0, 0)) KR) 3 2 (.tmp 154) (.int .i64 t2904) rfl KR KR KR ?_; clear ha a; intro a ha
                    refine stepp ha 156 (.bool (decide (t2904 ≥ 2147483648))) KR KR ?_; clear ha a; intro a ha
                    refine stepp ha 157 (.bool (decide (t2904 ≥ 2147483648))) KR KR ?_; clear ha a; intro a ha
                    refine stepp ha 158 (.bool (decide (t2904 ≥ 2147483648))) KR KR ?_; clear ha a; intro a ha
                    refine stepp ha 159 (.bool (decide (t2904 ≥ 2147483648))) KR KR ?_; clear ha a; intro a ha
                    refine endl ?_
                    refine thenN (hK3000 _ _ ?_); clear hK3000
                    by_cases hp3007 : t2904 ≥ 2147483648
                    · skip
                      replace h := ite_pos' h hp3007
                      refine condT ha KR KR (t := decide (t2904 ≥ 2147483648)) (decide_eq_true hp3007) ?_
                      refine wp_seq_k (fun K3008 hK3009 => ?_)
                      refine wp_region_lit ?_
                      refine stepp ha 160 (.agg #[.int .i64 0, .int .i64 0, .int .i64 0, .bool false, .int .i64 0, .int .i64 0, .int .i64 0]) KR KR ?_; clear ha a; intro a ha
                      refine stepst ha HW 0 (b := b2854) (C := #[.int .i64 0, .int .i64 0, .int .i64 0, .bool false, .int .i64 0, .int .i64 0, .int .i64 0]) (T := 126) KR 126 0 (.tmp 2) (.tmp 160) (.agg #[.int .i64 0, .int .i64 0, .int .i64 0, .bool false, .int .i64 0, .int .i64 0, .int .i64 0]) #[.int .i64 0, .int .i64 0, .int .i64 0, .bool false, .int .i64 0, .int .i64 0, .int .i64 0] rfl KR KR KR KR KR KR KR ?_; clear ha HW a; intro a W3010 HW ha
                      refine stepp ha 3 (.int .i64 150) KR KR ?_; clear ha a; intro a ha
                      refine endl ?_
                      refine thenN (hK3009 _ _ ?_); clear hK3009
                      refine wp_ret ?_
                      refine thenR ?_
                      obtain rfl := Option.some.inj h
                      exact finv ha _ _ rfl (.cell (ad := ⟨b2854, 0, none⟩) (v := .agg #[.int .i64 0, .int .i64 0, .int .i64 0, .bool false, .int .i64 0, .int .i64 0, .int .i64 0]) KR (run_loadVar_ca0 (HW.ca (i := 0) (b := b2854) (C := #[.int .i64 0, .int .i64 0, .int .i64 0, .bool false, .int .i64 0, .int .i64 0, .int .i64 0]) (T := 126) (fr := (0, 0)) KR) 126 0 (.agg #[.int .i64 0, .int .i64 0, .int .i64 0, .bool false, .int .i64 0, .int .i64 0, .int .i64 0]) KR) (.tmp (v := .int .i64 150) KR .nil)) (.tuple #[.agg #[.int .i64 0, .int .i64 0, .int .i64 0, .bool false, .int .i64 0, .int .i64 0, .int .i64 0], .int .i64 150]) rfl ⟨rfl, HW.pick [] [] (by decide) (by decide) rfl KR⟩
                    · skip
                      replace h := ite_neg' h hp3007
                      refine condF ha KR KR (t := decide (t2904 ≥ 2147483648)) (decide_eq_false hp3007) ?_
                      refine wp_skip ?_
                      refine thenN (hK2998 _ _ ?_); clear hK2998
                      refine wp_seq_k (fun K3014 hK3015 => ?_)
                      refine wp_region_lit ?_
                      refine stepl ha 161 (HW.ca (i := 2) (b := b2893) (C := #[.int .i64 x2992, .int .i64 t2900, .int .i64 t2904, .bool x2993, .int .i64 x2994, .int .i64 t2908, .int .i64 x2995]) (T := 126) (fr := (0, 0)) KR) 126 0 (.tmp 6) (.agg #[.int .i64 x2992, .int .i64 t2900, .int .i64 t2904, .bool x2993, .int .i64 x2994, .int .i64 t2908, .int .i64 x2995]) rfl KR KR KR ?_; clear ha a; intro a ha
                      refine stepst ha HW 0 (b := b2854) (C := #[.int .i64 0, .int .i64 0, .int .i64 0, .bool false, .int .i64 0, .int .i64 0, .int .i64 0]) (T := 126) KR 126 0 (.tmp 2) (.tmp 161) (.agg #[.int .i64 x2992, .int .i64 t2900, .int .i64 t2904, .bool x2993, .int .i64 x2994, .int .i64 t2908, .int .i64 x2995]) #[.int .i64 x2992, .int .i64 t2900, .int .i64 t2904, .bool x2993, .int .i64 x2994, .int .i64 t2908, .int .i64 x2995] rfl KR KR KR KR KR KR KR ?_; clear ha HW a; intro a W3016 HW ha
                      refine stepp ha 3 (.int .i64 0) KR KR ?_; clear ha a; intro a ha
                      refine endl ?_
                      refine thenN (hK3015 _ _ ?_); clear hK3015
                      refine wp_ret ?_
                      obtain rfl := Option.some.inj h
                      exact finv ha _ _ rfl (.cell (ad := ⟨b2854, 0, none⟩) (v := .agg #[.int .i64 x2992, .int .i64 t2900, .int .i64 t2904, .bool x2993, .int .i64 x2994, .int .i64 t2908, .int .i64 x2995]) KR (run_loadVar_ca0 (HW.ca (i := 0) (b := b2854) (C := #[.int .i64 x2992, .int .i64 t2900, .int .i64 t2904, .bool x2993, .int .i64 x2994, .int .i64 t2908, .int .i64 x2995]) (T := 126) (fr := (0, 0)) KR) 126 0 (.agg #[.int .i64 x2992, .int .i64 t2900, .int .i64 t2904, .bool x2993, .int .i64 x2994, .int .i64 t2908, .int .i64 x2995]) KR) (.tmp (v := .int .i64 0) KR .nil)) (.tuple #[.agg #[.int .i64 x2992, .int .i64 t2900, .int .i64 t2904, .bool x2993, .int .i64 x2994, .int .i64 t2908, .int .i64 x2995], .int .i64 0]) rfl ⟨rfl, HW.pick [] [] (by decide) (by decide) rfl KR⟩
                · skip
                  replace h := ite_neg' h hp3002
                  replace ha := ha.bool 149 KR (ieq_f hp3002)
                  refine stepo ha 150 KR ?_; clear ha a; intro a ha
                  refine stepo ha 151 KR ?_; clear ha a; intro a ha
                  refine stepo ha 152 KR ?_; clear ha a; intro a ha
                  refine stepo ha 153 KR ?_; clear ha a; intro a ha
                  refine stepo ha 154 KR ?_; clear ha a; intro a ha
                  refine stepo ha 155 KR ?_; clear ha a; intro a ha
                  refine stepo ha 156 KR ?_; clear ha a; intro a ha
                  refine stepo ha 157 KR ?_; clear ha a; intro a ha
                  refine stepp ha 158 (.bool false) KR KR ?_; clear ha a; intro a ha
                  refine stepp ha 159 (.bool false) KR KR ?_; clear ha a; intro a ha
                  refine endl ?_
                  refine thenN (hK3000 _ _ ?_); clear hK3000
                  refine condF ha KR KR (t := false) (rfl) ?_
                  refine wp_skip ?_
                  refine thenN (hK2998 _ _ ?_); clear hK2998
                  refine wp_seq_k (fun K3017 hK3018 => ?_)
                  refine wp_region_lit ?_
                  refine stepl ha 161 (HW.ca (i := 2) (b := b2893) (C := #[.int .i64 x2992, .int .i64 t2900, .int .i64 t2904, .bool x2993, .int .i64 x2994, .int .i64 t2908, .int .i64 x2995]) (T := 126) (fr := (0, 0)) KR) 126 0 (.tmp 6) (.agg #[.int .i64 x2992, .int .i64 t2900, .int .i64 t2904, .bool x2993, .int .i64 x2994, .int .i64 t2908, .int .i64 x2995]) rfl KR KR KR ?_; clear ha a; intro a ha
                  refine stepst ha HW 0 (b := b2854) (C := #[.int .i64 0, .int .i64 0, .int .i64 0, .bool false, .int .i64 0, .int .i64 0, .int .i64 0]) (T := 126) KR 126 0 (.tmp 2) (.tmp 161) (.agg #[.int .i64 x2992, .int .i64 t2900, .int .i64 t2904, .bool x2993, .int .i64 x2994, .int .i64 t2908, .int .i64 x2995]) #[.int .i64 x2992, .int .i64 t2900, .int .i64 t2904, .bool x2993, .int .i64 x2994, .int .i64 t2908, .int .i64 x2995] rfl KR KR KR KR KR KR KR ?_; clear ha HW a; intro a W3019 HW ha
                  refine stepp ha 3 (.int .i64 0) KR KR ?_; clear ha a; intro a ha
                  refine endl ?_
                  refine thenN (hK3018 _ _ ?_); clear hK3018
                  refine wp_ret ?_
                  obtain rfl := Option.some.inj h
                  exact finv ha _ _ rfl (.cell (ad := ⟨b2854, 0, none⟩) (v := .agg #[.int .i64 x2992, .int .i64 t2900, .int .i64 t2904, .bool x2993, .int .i64 x2994, .int .i64 t2908, .int .i64 x2995]) KR (run_loadVar_ca0 (HW.ca (i := 0) (b := b2854) (C := #[.int .i64 x2992, .int .i64 t2900, .int .i64 t2904, .bool x2993, .int .i64 x2994, .int .i64 t2908, .int .i64 x2995]) (T := 126) (fr := (0, 0)) KR) 126 0 (.agg #[.int .i64 x2992, .int .i64 t2900, .int .i64 t2904, .bool x2993, .int .i64 x2994, .int .i64 t2908, .int .i64 x2995]) KR) (.tmp (v := .int .i64 0) KR .nil)) (.tuple #[.agg #[.int .i64 x2992, .int .i64 t2900, .int .i64 t2904, .bool x2993, .int .i64 x2994, .int .i64 t2908, .int .i64 x2995], .int .i64 0]) rfl ⟨rfl, HW.pick [] [] (by decide) (by decide) rfl KR⟩
              · skip
                replace h := ite_neg' h hp3001
                replace ha := ha.bool 143 KR (not_t (bool_f hp3001))
                refine stepo ha 144 KR ?_; clear ha a; intro a ha
                refine stepo ha 145 KR ?_; clear ha a; intro a ha
                refine stepo ha 146 KR ?_; clear ha a; intro a ha
                refine stepo ha 147 KR ?_; clear ha a; intro a ha
                refine stepo ha 148 KR ?_; clear ha a; intro a ha
                refine stepo ha 149 KR ?_; clear ha a; intro a ha
                refine stepo ha 150 KR ?_; clear ha a; intro a ha
                refine stepo ha 151 KR ?_; clear ha a; intro a ha
                refine stepo ha 152 KR ?_; clear ha a; intro a ha
                refine stepo ha 153 KR ?_; clear ha a; intro a ha
                refine stepo ha 154 KR ?_; clear ha a; intro a ha
                refine stepo ha 155 KR ?_; clear ha a; intro a ha
                refine stepo ha 156 KR ?_; clear ha a; intro a ha
                refine stepo ha 157 KR ?_; clear ha a; intro a ha
                refine stepo ha 158 KR ?_; clear ha a; intro a ha
                refine stepp ha 159 (.bool true) KR KR ?_; clear ha a; intro a ha
                refine endl ?_
                refine thenN (hK3000 _ _ ?_); clear hK3000
                refine condT ha KR KR (t := true) (rfl) ?_
                refine wp_seq_k (fun K3011 hK3012 => ?_)
                refine wp_region_lit ?_
                refine stepp ha 160 (.agg #[.int .i64 0, .int .i64 0, .int .i64 0, .bool false, .int .i64 0, .int .i64 0, .int .i64 0]) KR KR ?_; clear ha a; intro a ha
                refine stepst ha HW 0 (b := b2854) (C := #[.int .i64 0, .int .i64 0, .int .i64 0, .bool false, .int .i64 0, .int .i64 0, .int .i64 0]) (T := 126) KR 126 0 (.tmp 2) (.tmp 160) (.agg #[.int .i64 0, .int .i64 0, .int .i64 0, .bool false, .int .i64 0, .int .i64 0, .int .i64 0]) #[.int .i64 0, .int .i64 0, .int .i64 0, .bool false, .int .i64 0, .int .i64 0, .int .i64 0] rfl KR KR KR KR KR KR KR ?_; clear ha HW a; intro a W3013 HW ha
                refine stepp ha 3 (.int .i64 150) KR KR ?_; clear ha a; intro a ha
                refine endl ?_
                refine thenN (hK3012 _ _ ?_); clear hK3012
                refine wp_ret ?_
                refine thenR ?_
                obtain rfl := Option.some.inj h
                exact finv ha _ _ rfl (.cell (ad := ⟨b2854, 0, none⟩) (v := .agg #[.int .i64 0, .int .i64 0, .int .i64 0, .bool false, .int .i64 0, .int .i64 0, .int .i64 0]) KR (run_loadVar_ca0 (HW.ca (i := 0) (b := b2854) (C := #[.int .i64 0, .int .i64 0, .int .i64 0, .bool false, .int .i64 0, .int .i64 0, .int .i64 0]) (T := 126) (fr := (0, 0)) KR) 126 0 (.agg #[.int .i64 0, .int .i64 0, .int .i64 0, .bool false, .int .i64 0, .int .i64 0, .int .i64 0]) KR) (.tmp (v := .int .i64 150) KR .nil)) (.tuple #[.agg #[.int .i64 0, .int .i64 0, .int .i64 0, .bool false, .int .i64 0, .int .i64 0, .int .i64 0], .int .i64 150]) rfl ⟨rfl, HW.pick [] [] (by decide) (by decide) rfl KR⟩
      · skip
        replace h := ite_neg' h hp2873
        refine condT ha KR KR (t := ((bt a0 (IntKind.wrap .i64 (t2858 - 1))) != 0)) (ineq_t hp2873) ?_
        refine wp_seq_k (fun K2874 hK2875 => ?_)
        refine wp_region_lit ?_
        refine stepp ha 27 (.agg #[.int .i64 0, .int .i64 0, .int .i64 0, .bool false, .int .i64 0, .int .i64 0, .int .i64 0]) KR KR ?_; clear ha a; intro a ha
        refine stepst ha HW 0 (b := b2854) (C := #[.int .i64 0, .int .i64 0, .int .i64 0, .bool false, .int .i64 0, .int .i64 0, .int .i64 0]) (T := 126) KR 126 0 (.tmp 2) (.tmp 27) (.agg #[.int .i64 0, .int .i64 0, .int .i64 0, .bool false, .int .i64 0, .int .i64 0, .int .i64 0]) #[.int .i64 0, .int .i64 0, .int .i64 0, .bool false, .int .i64 0, .int .i64 0, .int .i64 0] rfl KR KR KR KR KR KR KR ?_; clear ha HW a; intro a W2876 HW ha
        refine stepp ha 3 (.int .i64 150) KR KR ?_; clear ha a; intro a ha
        refine endl ?_
        refine thenN (hK2875 _ _ ?_); clear hK2875
        refine wp_ret ?_
        refine thenR ?_
        obtain rfl := Option.some.inj h
        exact finv ha _ _ rfl (.cell (ad := ⟨b2854, 0, none⟩) (v := .agg #[.int .i64 0, .int .i64 0, .int .i64 0, .bool false, .int .i64 0, .int .i64 0, .int .i64 0]) KR (run_loadVar_ca0 (HW.ca (i := 0) (b := b2854) (C := #[.int .i64 0, .int .i64 0, .int .i64 0, .bool false, .int .i64 0, .int .i64 0, .int .i64 0]) (T := 126) (fr := (0, 0)) KR) 126 0 (.agg #[.int .i64 0, .int .i64 0, .int .i64 0, .bool false, .int .i64 0, .int .i64 0, .int .i64 0]) KR) (.tmp (v := .int .i64 150) KR .nil)) (.tuple #[.agg #[.int .i64 0, .int .i64 0, .int .i64 0, .bool false, .int .i64 0, .int .i64 0, .int .i64 0], .int .i64 150]) rfl ⟨rfl, HW.pick [] [] (by decide) (by decide) rfl KR⟩
    · skip
      replace h := ite_neg' h hp2867
      replace ha := ha.bool 20 KR (ineq_t hp2867)
      refine stepo ha 21 KR ?_; clear ha a; intro a ha
      refine stepo ha 22 KR ?_; clear ha a; intro a ha
      refine stepo ha 23 KR ?_; clear ha a; intro a ha
      refine stepo ha 24 KR ?_; clear ha a; intro a ha
      refine stepo ha 25 KR ?_; clear ha a; intro a ha
      refine stepp ha 26 (.bool true) KR KR ?_; clear ha a; intro a ha
      refine endl ?_
      refine thenN (hK2865 _ _ ?_); clear hK2865
      refine condT ha KR KR (t := true) (rfl) ?_
      refine wp_seq_k (fun K2877 hK2878 => ?_)
      refine wp_region_lit ?_
      refine stepp ha 27 (.agg #[.int .i64 0, .int .i64 0, .int .i64 0, .bool false, .int .i64 0, .int .i64 0, .int .i64 0]) KR KR ?_; clear ha a; intro a ha
      refine stepst ha HW 0 (b := b2854) (C := #[.int .i64 0, .int .i64 0, .int .i64 0, .bool false, .int .i64 0, .int .i64 0, .int .i64 0]) (T := 126) KR 126 0 (.tmp 2) (.tmp 27) (.agg #[.int .i64 0, .int .i64 0, .int .i64 0, .bool false, .int .i64 0, .int .i64 0, .int .i64 0]) #[.int .i64 0, .int .i64 0, .int .i64 0, .bool false, .int .i64 0, .int .i64 0, .int .i64 0] rfl KR KR KR KR KR KR KR ?_; clear ha HW a; intro a W2879 HW ha
      refine stepp ha 3 (.int .i64 150) KR KR ?_; clear ha a; intro a ha
      refine endl ?_
      refine thenN (hK2878 _ _ ?_); clear hK2878
      refine wp_ret ?_
      refine thenR ?_
      obtain rfl := Option.some.inj h
      exact finv ha _ _ rfl (.cell (ad := ⟨b2854, 0, none⟩) (v := .agg #[.int .i64 0, .int .i64 0, .int .i64 0, .bool false, .int .i64 0, .int .i64 0, .int .i64 0]) KR (run_loadVar_ca0 (HW.ca (i := 0) (b := b2854) (C := #[.int .i64 0, .int .i64 0, .int .i64 0, .bool false, .int .i64 0, .int .i64 0, .int .i64 0]) (T := 126) (fr := (0, 0)) KR) 126 0 (.agg #[.int .i64 0, .int .i64 0, .int .i64 0, .bool false, .int .i64 0, .int .i64 0, .int .i64 0]) KR) (.tmp (v := .int .i64 150) KR .nil)) (.tuple #[.agg #[.int .i64 0, .int .i64 0, .int .i64 0, .bool false, .int .i64 0, .int .i64 0, .int .i64 0], .int .i64 150]) rfl ⟨rfl, HW.pick [] [] (by decide) (by decide) rfl KR⟩
/-! ### headgate/scsi.Need: function 21 -/
def scsi_Need.j2 (K : Nat) (a0 : ByteArray) (t3024 : T_cdb_Ask × Int) (x3078 : Bool) : Option (Int × Int) :=
  if x3078 = true then (some (IntKind.wrap .i64 (512 * t3024.1.f2), 0)) else (if (bt a0 0) = 137 then (some (IntKind.wrap .i64 (1024 * t3024.1.f2), 0)) else (if (bt a0 0) = 66 then (some (t3024.1.f5, 0)) else (if (bt a0 0) = 95 then (some (t3024.1.f5, 0)) else (some (0, 0)))))
def scsi_Need.j1 (K : Nat) (a0 : ByteArray) (t3024 : T_cdb_Ask × Int) (x3067 : Bool) : Option (Int × Int) :=
  if x3067 = true then (some (0, IntKind.wrap .i64 (512 * t3024.1.f2))) else (if (bt a0 0) = 42 then (scsi_Need.j2 K a0 t3024 ((bt a0 0) == 42)) else (scsi_Need.j2 K a0 t3024 ((bt a0 0) == 138)))
def scsi_Need.j0 (K : Nat) (a0 : ByteArray) (t3024 : T_cdb_Ask × Int) (x3051 : Bool) : Option (Int × Int) :=
  if x3051 = true then (some (0, t3024.1.f5)) else (if (bt a0 0) = 37 then (some (0, 8)) else (if (bt a0 0) = 40 then (scsi_Need.j1 K a0 t3024 ((bt a0 0) == 40)) else (scsi_Need.j1 K a0 t3024 ((bt a0 0) == 136))))
def scsi_Need.f (K : Nat) (a0 : ByteArray) : Option (Int × Int) :=
  (cdb_Parse.f K a0).bind fun t3024 => (if t3024.2 = 0 then (asrt (0 < (a0.size : Int)) (if (bt a0 0) = 18 then (scsi_Need.j0 K a0 t3024 ((bt a0 0) == 18)) else (if (bt a0 0) = 94 then (scsi_Need.j0 K a0 t3024 ((bt a0 0) == 94)) else (scsi_Need.j0 K a0 t3024 ((bt a0 0) == 160))))) else (some (0, 0)))
set_option maxRecDepth 100000 in
set_option maxHeartbeats 4000000 in
theorem scsi_Need.calls (K : Nat) (a0 : ByteArray)  (r : Int × Int) (w : World) (hG2 : CA w 2 0 (encs T_cdb_form.enc G_cdb_forms).toArray) (hG3 : CA w 3 0 (encs (encIK .i64) G_cdb_numbers).toArray) (h : scsi_Need.f K a0 = some r) :
    Calls Tryz.prog 21 #[.string a0] w (fun e W' => e = .returned (.tuple #[.int .i64 r.1, .int .i64 r.2]) ∧ Wd w W' [] [] ) := by
  refine sxstart (n := 45) (l := [(0, .string a0)]) Tryz.func21 rfl rfl (Nat.le_of_ble_eq_true KR) (subsA_cons rfl (subsA_nil _)) ?_
  intro a ha
  have HW := Wd.refl w
  unfold scsi_Need.f at h
  refine wp_seq_k (fun K3020 hK3021 => ?_)
  refine wp_region_lit ?_
  refine stepp ha 2 (.int .i64 0) KR KR ?_; clear ha a; intro a ha
  refine stepp ha 3 (.int .i64 0) KR KR ?_; clear ha a; intro a ha
  refine endl ?_
  refine thenN (hK3021 _ _ ?_); clear hK3021
  refine wp_seq_k (fun K3022 hK3023 => ?_)
  refine wp_region_lit ?_
  refine stepp ha 7 (.string a0) KR KR ?_; clear ha a; intro a ha
  obtain ⟨t3024, ht3025, h_⟩ := bind_some' h; clear h; have h := h_; clear h_
  refine stepc ha 8 KR KR (cdb_Parse.calls K a0 t3024 _ (HW.ca0 hG2) (HW.ca0 hG3) ht3025) ?_; clear ha a; rintro e W3026 ⟨rfl, HX3027⟩
  refine ⟨_, rfl, ?_⟩; intro a ha; replace HW := HW.callw HX3027; clear HX3027
  refine stepp ha 6 (.tuple #[.agg #[.int .i64 t3024.1.f0, .int .i64 t3024.1.f1, .int .i64 t3024.1.f2, .bool t3024.1.f3, .int .i64 t3024.1.f4, .int .i64 t3024.1.f5, .int .i64 t3024.1.f6], .int .i64 t3024.2]) KR KR ?_; clear ha a; intro a ha
  refine stepp ha 9 (.agg #[.int .i64 t3024.1.f0, .int .i64 t3024.1.f1, .int .i64 t3024.1.f2, .bool t3024.1.f3, .int .i64 t3024.1.f4, .int .i64 t3024.1.f5, .int .i64 t3024.1.f6]) KR KR ?_; clear ha a; intro a ha
  refine stepp ha 10 (.int .i64 t3024.2) KR KR ?_; clear ha a; intro a ha
  refine stepnew ha HW 4 #[.int .i64 0, .int .i64 0, .int .i64 0, .bool false, .int .i64 0, .int .i64 0, .int .i64 0] 126 KR KR ?_; clear ha HW a; intro b3028 a W3029 HW ha
  refine stepst ha HW 0 (b := b3028) (C := #[.int .i64 0, .int .i64 0, .int .i64 0, .bool false, .int .i64 0, .int .i64 0, .int .i64 0]) (T := 126) KR 126 0 (.tmp 4) (.tmp 9) (.agg #[.int .i64 t3024.1.f0, .int .i64 t3024.1.f1, .int .i64 t3024.1.f2, .bool t3024.1.f3, .int .i64 t3024.1.f4, .int .i64 t3024.1.f5, .int .i64 t3024.1.f6]) #[.int .i64 t3024.1.f0, .int .i64 t3024.1.f1, .int .i64 t3024.1.f2, .bool t3024.1.f3, .int .i64 t3024.1.f4, .int .i64 t3024.1.f5, .int .i64 t3024.1.f6] rfl KR KR KR KR KR KR KR ?_; clear ha HW a; intro a W3030 HW ha
  refine stepp ha 5 (.int .i64 t3024.2) KR KR ?_; clear ha a; intro a ha
  refine endl ?_
  refine thenN (hK3023 _ _ ?_); clear hK3023
  refine wp_seq_k (fun K3031 hK3032 => ?_)
  refine wp_seq_k (fun K3033 hK3034 => ?_)
  refine wp_region_lit ?_
  refine stepp ha 11 (.int .i64 t3024.2) KR KR ?_; clear ha a; intro a ha
  refine stepp ha 12 (.bool (t3024.2 != 0)) KR KR ?_; clear ha a; intro a ha
  refine endl ?_
  refine thenN (hK3034 _ _ ?_); clear hK3034
  by_cases hp3035 : t3024.2 = 0
  · skip
    replace h := ite_pos' h hp3035
    refine condF ha KR KR (t := (t3024.2 != 0)) (ineq_f hp3035) ?_
    refine wp_skip ?_
    refine thenN (hK3032 _ _ ?_); clear hK3032
    refine wp_seq_k (fun K3038 hK3039 => ?_)
    refine wp_seq_k (fun K3040 hK3041 => ?_)
    refine wp_region_lit ?_
    refine stepp ha 13 (.string a0) KR KR ?_; clear ha a; intro a ha
    obtain ⟨hA3042, h_⟩ := asrt_some h; clear h; have h := h_; clear h_
    refine stepsi ha 14 9 (.tmp 13) (.const (.int .i64 0)) a0 .i64 0 rfl KR KR KR (by decide) (show (0 : Int) < ((a0).size : Int) from hA3042) KR ?_; clear ha a; intro a ha
    refine endl ?_
    refine thenN (hK3041 _ _ ?_); clear hK3041
    refine wp_block ?_
    refine wp_seq_k (fun K3043 hK3044 => ?_)
    refine cutn (fun a W3052 => ∃ (x3051 : Bool), scsi_Need.j0 K a0 t3024 x3051 = some r ∧ Has 45 [(4, .pointer (some ⟨b3028, 0, none⟩)), (14, .int .u8 (bt a0 0)), (15, .bool x3051)] a ∧ Wd w W3052 [(b3028, .cells #[.int .i64 t3024.1.f0, .int .i64 t3024.1.f1, .int .i64 t3024.1.f2, .bool t3024.1.f3, .int .i64 t3024.1.f4, .int .i64 t3024.1.f5, .int .i64 t3024.1.f6] 126 (0, 0))] []) ?_ ?_
    · skip
      refine wp_seq_k (fun K3045 hK3046 => ?_)
      refine wp_region_lit ?_
      refine stepp ha 16 (.bool ((bt a0 0) == 18)) KR KR ?_; clear ha a; intro a ha
      refine stepp ha 15 (.bool ((bt a0 0) == 18)) KR KR ?_; clear ha a; intro a ha
      refine endl ?_
      refine thenN (hK3046 _ _ ?_); clear hK3046
      by_cases hp3047 : (bt a0 0) = 18
      · skip
        replace h := ite_pos' h hp3047
        refine condT ha KR KR (t := ((bt a0 0) == 18)) (ieq_t hp3047) ?_
        refine wp_skip ?_
        exact thenN ⟨((bt a0 0) == 18), h, ha.sub (subs_cons KR (subs_cons KR (subs_cons KR (subs_nil _)))), HW.pick [0] [] (by decide) (by decide) KR KR⟩
      · skip
        replace h := ite_neg' h hp3047
        refine condF ha KR KR (t := ((bt a0 0) == 18)) (ieq_f hp3047) ?_
        refine wp_seq_k (fun K3048 hK3049 => ?_)
        refine wp_region_lit ?_
        refine stepp ha 17 (.bool ((bt a0 0) == 94)) KR KR ?_; clear ha a; intro a ha
        refine stepp ha 15 (.bool ((bt a0 0) == 94)) KR KR ?_; clear ha a; intro a ha
        refine endl ?_
        refine thenN (hK3049 _ _ ?_); clear hK3049
        by_cases hp3050 : (bt a0 0) = 94
        · skip
          replace h := ite_pos' h hp3050
          refine condT ha KR KR (t := ((bt a0 0) == 94)) (ieq_t hp3050) ?_
          refine wp_skip ?_
          exact thenN ⟨((bt a0 0) == 94), h, ha.sub (subs_cons KR (subs_cons KR (subs_cons KR (subs_nil _)))), HW.pick [0] [] (by decide) (by decide) KR KR⟩
        · skip
          replace h := ite_neg' h hp3050
          refine condF ha KR KR (t := ((bt a0 0) == 94)) (ieq_f hp3050) ?_
          refine wp_region_lit ?_
          refine stepp ha 18 (.bool ((bt a0 0) == 160)) KR KR ?_; clear ha a; intro a ha
          refine stepp ha 15 (.bool ((bt a0 0) == 160)) KR KR ?_; clear ha a; intro a ha
          refine endl ?_
          exact thenN ⟨((bt a0 0) == 160), h, ha.sub (subs_cons KR (subs_cons KR (subs_cons KR (subs_nil _)))), HW.pick [0] [] (by decide) (by decide) KR KR⟩
    · skip
      intro a W3052 hJ
      obtain ⟨x3051, h, ha, HW⟩ := hJ
      replace h : scsi_Need.j0 K a0 t3024 x3051 = some r := h
      unfold scsi_Need.j0 at h
      refine hK3044 _ _ ?_; clear hK3044
      by_cases hp3053 : x3051 = true
      · skip
        replace h := ite_pos' h hp3053
        refine condT ha KR KR (t := x3051) (hp3053) ?_
        refine wp_seq_k (fun K3054 hK3055 => ?_)
        refine regionG 3 KR KR ha HW [.fix (.pointer (some ⟨b3028, 5, none⟩)), .fix (.int .i64 t3024.1.f5), .fix (.int .i64 0)] ?_ ?_
        · skip
          refine ⟨?_, ?_, ?_, trivial⟩
          · skip
            intro a wr hn hd HW hs; have ha := hasNil hn hd
            have ha := ha.add (seeE hs 4 (.pointer (some ⟨b3028, 0, none⟩)) KR KR)
            refine yStep ha 19 KR ?_; intro l_ ha HK
            refine stepp ha 19 (.pointer (some ⟨b3028, 5, none⟩)) KR KR ?_; intro ax hax; exact HK _ _ _ hax rfl (Below.refl _ _)
          · skip
            intro a wr hn hd HW hs; have ha := hasNil hn hd
            have ha := ha.add (seeF hs 19 0 (.pointer (some ⟨b3028, 5, none⟩)) KR KR)
            refine yStep ha 20 KR ?_; intro l_ ha HK
            refine stepl ha 20 (HW.ca (i := 0) (b := b3028) (C := #[.int .i64 t3024.1.f0, .int .i64 t3024.1.f1, .int .i64 t3024.1.f2, .bool t3024.1.f3, .int .i64 t3024.1.f4, .int .i64 t3024.1.f5, .int .i64 t3024.1.f6]) (T := 126) (fr := (0, 0)) KR) 3 5 (.tmp 19) (.int .i64 t3024.1.f5) rfl KR KR KR ?_; intro ax hax; exact HK _ _ _ hax rfl (Below.refl _ _)
          · skip
            intro a wr hn hd HW hs; have ha := hasNil hn hd
            refine yStep ha 2 KR ?_; intro l_ ha HK
            refine stepp ha 2 (.int .i64 0) KR KR ?_; intro ax hax; exact HK _ _ _ hax rfl (Below.refl _ _)
        · skip
          intro a W3056 ha HW he hf
          replace ha := ha.add (gotF (m := 3) (j := 2) (d := 2) (v := .int .i64 0) hf KR KR KR)
          replace ha := ha.add (gotF (m := 3) (j := 1) (d := 20) (v := .int .i64 t3024.1.f5) hf KR KR KR)
          clear he hf
          refine stepp ha 3 (.int .i64 t3024.1.f5) KR KR ?_; clear ha a; intro a ha
          refine endl ?_
          refine thenN (hK3055 _ _ ?_); clear hK3055
          refine wp_ret ?_
          refine blkR ?_
          refine thenR ?_
          obtain rfl := Option.some.inj h
          exact finv ha _ _ rfl (.tmp (v := .int .i64 0) KR (.tmp (v := .int .i64 t3024.1.f5) KR .nil)) (.tuple #[.int .i64 0, .int .i64 t3024.1.f5]) rfl ⟨rfl, HW.pick [] [] (by decide) (by decide) rfl KR⟩
      · skip
        replace h := ite_neg' h hp3053
        refine condF ha KR KR (t := x3051) (bool_f hp3053) ?_
        refine wp_seq_k (fun K3057 hK3058 => ?_)
        refine wp_region_lit ?_
        refine stepp ha 22 (.bool ((bt a0 0) == 37)) KR KR ?_; clear ha a; intro a ha
        refine stepp ha 21 (.bool ((bt a0 0) == 37)) KR KR ?_; clear ha a; intro a ha
        refine endl ?_
        refine thenN (hK3058 _ _ ?_); clear hK3058
        by_cases hp3059 : (bt a0 0) = 37
        · skip
          replace h := ite_pos' h hp3059
          refine condT ha KR KR (t := ((bt a0 0) == 37)) (ieq_t hp3059) ?_
          refine wp_seq_k (fun K3060 hK3061 => ?_)
          refine wp_region_lit ?_
          refine stepp ha 2 (.int .i64 0) KR KR ?_; clear ha a; intro a ha
          refine stepp ha 3 (.int .i64 8) KR KR ?_; clear ha a; intro a ha
          refine endl ?_
          refine thenN (hK3061 _ _ ?_); clear hK3061
          refine wp_ret ?_
          refine blkR ?_
          refine thenR ?_
          obtain rfl := Option.some.inj h
          exact finv ha _ _ rfl (.tmp (v := .int .i64 0) KR (.tmp (v := .int .i64 8) KR .nil)) (.tuple #[.int .i64 0, .int .i64 8]) rfl ⟨rfl, HW.pick [] [] (by decide) (by decide) rfl KR⟩
        · skip
          replace h := ite_neg' h hp3059
          refine condF ha KR KR (t := ((bt a0 0) == 37)) (ieq_f hp3059) ?_
          refine wp_seq_k (fun K3062 hK3063 => ?_)
          refine cutn (fun a W3068 => ∃ (x3067 : Bool), scsi_Need.j1 K a0 t3024 x3067 = some r ∧ Has 45 [(4, .pointer (some ⟨b3028, 0, none⟩)), (14, .int .u8 (bt a0 0)), (23, .bool x3067)] a ∧ Wd w W3068 [(b3028, .cells #[.int .i64 t3024.1.f0, .int .i64 t3024.1.f1, .int .i64 t3024.1.f2, .bool t3024.1.f3, .int .i64 t3024.1.f4, .int .i64 t3024.1.f5, .int .i64 t3024.1.f6] 126 (0, 0))] []) ?_ ?_
          · skip
            refine wp_seq_k (fun K3064 hK3065 => ?_)
            refine wp_region_lit ?_
            refine stepp ha 24 (.bool ((bt a0 0) == 40)) KR KR ?_; clear ha a; intro a ha
            refine stepp ha 23 (.bool ((bt a0 0) == 40)) KR KR ?_; clear ha a; intro a ha
            refine endl ?_
            refine thenN (hK3065 _ _ ?_); clear hK3065
            by_cases hp3066 : (bt a0 0) = 40
            · skip
              replace h := ite_pos' h hp3066
              refine condT ha KR KR (t := ((bt a0 0) == 40)) (ieq_t hp3066) ?_
              refine wp_skip ?_
              exact thenN ⟨((bt a0 0) == 40), h, ha.sub (subs_cons KR (subs_cons KR (subs_cons KR (subs_nil _)))), HW.pick [0] [] (by decide) (by decide) KR KR⟩
            · skip
              replace h := ite_neg' h hp3066
              refine condF ha KR KR (t := ((bt a0 0) == 40)) (ieq_f hp3066) ?_
              refine wp_region_lit ?_
              refine stepp ha 25 (.bool ((bt a0 0) == 136)) KR KR ?_; clear ha a; intro a ha
              refine stepp ha 23 (.bool ((bt a0 0) == 136)) KR KR ?_; clear ha a; intro a ha
              refine endl ?_
              exact thenN ⟨((bt a0 0) == 136), h, ha.sub (subs_cons KR (subs_cons KR (subs_cons KR (subs_nil _)))), HW.pick [0] [] (by decide) (by decide) KR KR⟩
          · skip
            intro a W3068 hJ
            obtain ⟨x3067, h, ha, HW⟩ := hJ
            replace h : scsi_Need.j1 K a0 t3024 x3067 = some r := h
            unfold scsi_Need.j1 at h
            refine hK3063 _ _ ?_; clear hK3063
            by_cases hp3069 : x3067 = true
            · skip
              replace h := ite_pos' h hp3069
              refine condT ha KR KR (t := x3067) (hp3069) ?_
              refine wp_seq_k (fun K3070 hK3071 => ?_)
              refine regionG 4 KR KR ha HW [.fix (.pointer (some ⟨b3028, 2, none⟩)), .fix (.int .i64 t3024.1.f2), .fix (.int .i64 (IntKind.wrap .i64 (512 * t3024.1.f2))), .fix (.int .i64 0)] ?_ ?_
              · skip
                refine ⟨?_, ?_, ?_, ?_, trivial⟩
                · skip
                  intro a wr hn hd HW hs; have ha := hasNil hn hd
                  have ha := ha.add (seeE hs 4 (.pointer (some ⟨b3028, 0, none⟩)) KR KR)
                  refine yStep ha 26 KR ?_; intro l_ ha HK
                  refine stepp ha 26 (.pointer (some ⟨b3028, 2, none⟩)) KR KR ?_; intro ax hax; exact HK _ _ _ hax rfl (Below.refl _ _)
                · skip
                  intro a wr hn hd HW hs; have ha := hasNil hn hd
                  have ha := ha.add (seeF hs 26 0 (.pointer (some ⟨b3028, 2, none⟩)) KR KR)
                  refine yStep ha 27 KR ?_; intro l_ ha HK
                  refine stepl ha 27 (HW.ca (i := 0) (b := b3028) (C := #[.int .i64 t3024.1.f0, .int .i64 t3024.1.f1, .int .i64 t3024.1.f2, .bool t3024.1.f3, .int .i64 t3024.1.f4, .int .i64 t3024.1.f5, .int .i64 t3024.1.f6]) (T := 126) (fr := (0, 0)) KR) 3 2 (.tmp 26) (.int .i64 t3024.1.f2) rfl KR KR KR ?_; intro ax hax; exact HK _ _ _ hax rfl (Below.refl _ _)
                · skip
                  intro a wr hn hd HW hs; have ha := hasNil hn hd
                  have ha := ha.add (seeF hs 27 1 (.int .i64 t3024.1.f2) KR KR)
                  refine yStep ha 28 KR ?_; intro l_ ha HK
                  refine stepp ha 28 (.int .i64 (IntKind.wrap .i64 (512 * t3024.1.f2))) KR KR ?_; intro ax hax; exact HK _ _ _ hax rfl (Below.refl _ _)
                · skip
                  intro a wr hn hd HW hs; have ha := hasNil hn hd
                  refine yStep ha 2 KR ?_; intro l_ ha HK
                  refine stepp ha 2 (.int .i64 0) KR KR ?_; intro ax hax; exact HK _ _ _ hax rfl (Below.refl _ _)
              · skip
                intro a W3072 ha HW he hf
                replace ha := ha.add (gotF (m := 4) (j := 3) (d := 2) (v := .int .i64 0) hf KR KR KR)
                replace ha := ha.add (gotF (m := 4) (j := 2) (d := 28) (v := .int .i64 (IntKind.wrap .i64 (512 * t3024.1.f2))) hf KR KR KR)
                clear he hf
                refine stepp ha 3 (.int .i64 (IntKind.wrap .i64 (512 * t3024.1.f2))) KR KR ?_; clear ha a; intro a ha
                refine endl ?_
                refine thenN (hK3071 _ _ ?_); clear hK3071
                refine wp_ret ?_
                refine blkR ?_
                refine thenR ?_
                obtain rfl := Option.some.inj h
                exact finv ha _ _ rfl (.tmp (v := .int .i64 0) KR (.tmp (v := .int .i64 (IntKind.wrap .i64 (512 * t3024.1.f2))) KR .nil)) (.tuple #[.int .i64 0, .int .i64 (IntKind.wrap .i64 (512 * t3024.1.f2))]) rfl ⟨rfl, HW.pick [] [] (by decide) (by decide) rfl KR⟩
            · skip
              replace h := ite_neg' h hp3069
              refine condF ha KR KR (t := x3067) (bool_f hp3069) ?_
              refine wp_seq_k (fun K3073 hK3074 => ?_)
              refine cutn (fun a W3079 => ∃ (x3078 : Bool), scsi_Need.j2 K a0 t3024 x3078 = some r ∧ Has 45 [(4, .pointer (some ⟨b3028, 0, none⟩)), (14, .int .u8 (bt a0 0)), (29, .bool x3078)] a ∧ Wd w W3079 [(b3028, .cells #[.int .i64 t3024.1.f0, .int .i64 t3024.1.f1, .int .i64 t3024.1.f2, .bool t3024.1.f3, .int .i64 t3024.1.f4, .int .i64 t3024.1.f5, .int .i64 t3024.1.f6] 126 (0, 0))] []) ?_ ?_
              · skip
                refine wp_seq_k (fun K3075 hK3076 => ?_)
                refine wp_region_lit ?_
                refine stepp ha 30 (.bool ((bt a0 0) == 42)) KR KR ?_; clear ha a; intro a ha
                refine stepp ha 29 (.bool ((bt a0 0) == 42)) KR KR ?_; clear ha a; intro a ha
                refine endl ?_
                refine thenN (hK3076 _ _ ?_); clear hK3076
                by_cases hp3077 : (bt a0 0) = 42
                · skip
                  replace h := ite_pos' h hp3077
                  refine condT ha KR KR (t := ((bt a0 0) == 42)) (ieq_t hp3077) ?_
                  refine wp_skip ?_
                  exact thenN ⟨((bt a0 0) == 42), h, ha.sub (subs_cons KR (subs_cons KR (subs_cons KR (subs_nil _)))), HW.pick [0] [] (by decide) (by decide) KR KR⟩
                · skip
                  replace h := ite_neg' h hp3077
                  refine condF ha KR KR (t := ((bt a0 0) == 42)) (ieq_f hp3077) ?_
                  refine wp_region_lit ?_
                  refine stepp ha 31 (.bool ((bt a0 0) == 138)) KR KR ?_; clear ha a; intro a ha
                  refine stepp ha 29 (.bool ((bt a0 0) == 138)) KR KR ?_; clear ha a; intro a ha
                  refine endl ?_
                  exact thenN ⟨((bt a0 0) == 138), h, ha.sub (subs_cons KR (subs_cons KR (subs_cons KR (subs_nil _)))), HW.pick [0] [] (by decide) (by decide) KR KR⟩
              · skip
                intro a W3079 hJ
                obtain ⟨x3078, h, ha, HW⟩ := hJ
                replace h : scsi_Need.j2 K a0 t3024 x3078 = some r := h
                unfold scsi_Need.j2 at h
                refine hK3074 _ _ ?_; clear hK3074
                by_cases hp3080 : x3078 = true
                · skip
                  replace h := ite_pos' h hp3080
                  refine condT ha KR KR (t := x3078) (hp3080) ?_
                  refine wp_seq_k (fun K3081 hK3082 => ?_)
                  refine wp_region_lit ?_
                  refine stepp ha 32 (.pointer (some ⟨b3028, 2, none⟩)) KR KR ?_; clear ha a; intro a ha
                  refine stepl ha 33 (HW.ca (i := 0) (b := b3028) (C := #[.int .i64 t3024.1.f0, .int .i64 t3024.1.f1, .int .i64 t3024.1.f2, .bool t3024.1.f3, .int .i64 t3024.1.f4, .int .i64 t3024.1.f5, .int .i64 t3024.1.f6]) (T := 126) (fr := (0, 0)) KR) 3 2 (.tmp 32) (.int .i64 t3024.1.f2) rfl KR KR KR ?_; clear ha a; intro a ha
                  refine stepp ha 34 (.int .i64 (IntKind.wrap .i64 (512 * t3024.1.f2))) KR KR ?_; clear ha a; intro a ha
                  refine stepp ha 2 (.int .i64 (IntKind.wrap .i64 (512 * t3024.1.f2))) KR KR ?_; clear ha a; intro a ha
                  refine stepp ha 3 (.int .i64 0) KR KR ?_; clear ha a; intro a ha
                  refine endl ?_
                  refine thenN (hK3082 _ _ ?_); clear hK3082
                  refine wp_ret ?_
                  refine blkR ?_
                  refine thenR ?_
                  obtain rfl := Option.some.inj h
                  exact finv ha _ _ rfl (.tmp (v := .int .i64 (IntKind.wrap .i64 (512 * t3024.1.f2))) KR (.tmp (v := .int .i64 0) KR .nil)) (.tuple #[.int .i64 (IntKind.wrap .i64 (512 * t3024.1.f2)), .int .i64 0]) rfl ⟨rfl, HW.pick [] [] (by decide) (by decide) rfl KR⟩
                · skip
                  replace h := ite_neg' h hp3080
                  refine condF ha KR KR (t := x3078) (bool_f hp3080) ?_
                  refine wp_seq_k (fun K3083 hK3084 => ?_)
                  refine wp_region_lit ?_
                  refine stepp ha 36 (.bool ((bt a0 0) == 137)) KR KR ?_; clear ha a; intro a ha
                  refine stepp ha 35 (.bool ((bt a0 0) == 137)) KR KR ?_; clear ha a; intro a ha
                  refine endl ?_
                  refine thenN (hK3084 _ _ ?_); clear hK3084
                  by_cases hp3085 : (bt a0 0) = 137
                  · skip
                    replace h := ite_pos' h hp3085
                    refine condT ha KR KR (t := ((bt a0 0) == 137)) (ieq_t hp3085) ?_
                    refine wp_seq_k (fun K3086 hK3087 => ?_)
                    refine wp_region_lit ?_
                    refine stepp ha 37 (.pointer (some ⟨b3028, 2, none⟩)) KR KR ?_; clear ha a; intro a ha
                    refine stepl ha 38 (HW.ca (i := 0) (b := b3028) (C := #[.int .i64 t3024.1.f0, .int .i64 t3024.1.f1, .int .i64 t3024.1.f2, .bool t3024.1.f3, .int .i64 t3024.1.f4, .int .i64 t3024.1.f5, .int .i64 t3024.1.f6]) (T := 126) (fr := (0, 0)) KR) 3 2 (.tmp 37) (.int .i64 t3024.1.f2) rfl KR KR KR ?_; clear ha a; intro a ha
                    refine stepp ha 39 (.int .i64 (IntKind.wrap .i64 (1024 * t3024.1.f2))) KR KR ?_; clear ha a; intro a ha
                    refine stepp ha 2 (.int .i64 (IntKind.wrap .i64 (1024 * t3024.1.f2))) KR KR ?_; clear ha a; intro a ha
                    refine stepp ha 3 (.int .i64 0) KR KR ?_; clear ha a; intro a ha
                    refine endl ?_
                    refine thenN (hK3087 _ _ ?_); clear hK3087
                    refine wp_ret ?_
                    refine blkR ?_
                    refine thenR ?_
                    obtain rfl := Option.some.inj h
                    exact finv ha _ _ rfl (.tmp (v := .int .i64 (IntKind.wrap .i64 (1024 * t3024.1.f2))) KR (.tmp (v := .int .i64 0) KR .nil)) (.tuple #[.int .i64 (IntKind.wrap .i64 (1024 * t3024.1.f2)), .int .i64 0]) rfl ⟨rfl, HW.pick [] [] (by decide) (by decide) rfl KR⟩
                  · skip
                    replace h := ite_neg' h hp3085
                    refine condF ha KR KR (t := ((bt a0 0) == 137)) (ieq_f hp3085) ?_
                    refine wp_seq_k (fun K3088 hK3089 => ?_)
                    refine wp_seq_k (fun K3090 hK3091 => ?_)
                    refine wp_region_lit ?_
                    refine stepp ha 41 (.bool ((bt a0 0) == 66)) KR KR ?_; clear ha a; intro a ha
                    refine stepp ha 40 (.bool ((bt a0 0) == 66)) KR KR ?_; clear ha a; intro a ha
                    refine endl ?_
                    refine thenN (hK3091 _ _ ?_); clear hK3091
                    by_cases hp3092 : (bt a0 0) = 66
                    · skip
                      replace h := ite_pos' h hp3092
                      refine condT ha KR KR (t := ((bt a0 0) == 66)) (ieq_t hp3092) ?_
                      refine wp_skip ?_
                      refine thenN (hK3089 _ _ ?_); clear hK3089
                      refine condT ha KR KR (t := ((bt a0 0) == 66)) (ieq_t hp3092) ?_
                      refine wp_seq_k (fun K3093 hK3094 => ?_)
                      refine wp_region_lit ?_
                      refine stepp ha 43 (.pointer (some ⟨b3028, 5, none⟩)) KR KR ?_; clear ha a; intro a ha
                      refine stepl ha 44 (HW.ca (i := 0) (b := b3028) (C := #[.int .i64 t3024.1.f0, .int .i64 t3024.1.f1, .int .i64 t3024.1.f2, .bool t3024.1.f3, .int .i64 t3024.1.f4, .int .i64 t3024.1.f5, .int .i64 t3024.1.f6]) (T := 126) (fr := (0, 0)) KR) 3 5 (.tmp 43) (.int .i64 t3024.1.f5) rfl KR KR KR ?_; clear ha a; intro a ha
                      refine stepp ha 2 (.int .i64 t3024.1.f5) KR KR ?_; clear ha a; intro a ha
                      refine stepp ha 3 (.int .i64 0) KR KR ?_; clear ha a; intro a ha
                      refine endl ?_
                      refine thenN (hK3094 _ _ ?_); clear hK3094
                      refine wp_ret ?_
                      refine blkR ?_
                      refine thenR ?_
                      obtain rfl := Option.some.inj h
                      exact finv ha _ _ rfl (.tmp (v := .int .i64 t3024.1.f5) KR (.tmp (v := .int .i64 0) KR .nil)) (.tuple #[.int .i64 t3024.1.f5, .int .i64 0]) rfl ⟨rfl, HW.pick [] [] (by decide) (by decide) rfl KR⟩
                    · skip
                      replace h := ite_neg' h hp3092
                      refine condF ha KR KR (t := ((bt a0 0) == 66)) (ieq_f hp3092) ?_
                      refine wp_region_lit ?_
                      refine stepp ha 42 (.bool ((bt a0 0) == 95)) KR KR ?_; clear ha a; intro a ha
                      refine stepp ha 40 (.bool ((bt a0 0) == 95)) KR KR ?_; clear ha a; intro a ha
                      refine endl ?_
                      refine thenN (hK3089 _ _ ?_); clear hK3089
                      by_cases hp3095 : (bt a0 0) = 95
                      · skip
                        replace h := ite_pos' h hp3095
                        refine condT ha KR KR (t := ((bt a0 0) == 95)) (ieq_t hp3095) ?_
                        refine wp_seq_k (fun K3096 hK3097 => ?_)
                        refine wp_region_lit ?_
                        refine stepp ha 43 (.pointer (some ⟨b3028, 5, none⟩)) KR KR ?_; clear ha a; intro a ha
                        refine stepl ha 44 (HW.ca (i := 0) (b := b3028) (C := #[.int .i64 t3024.1.f0, .int .i64 t3024.1.f1, .int .i64 t3024.1.f2, .bool t3024.1.f3, .int .i64 t3024.1.f4, .int .i64 t3024.1.f5, .int .i64 t3024.1.f6]) (T := 126) (fr := (0, 0)) KR) 3 5 (.tmp 43) (.int .i64 t3024.1.f5) rfl KR KR KR ?_; clear ha a; intro a ha
                        refine stepp ha 2 (.int .i64 t3024.1.f5) KR KR ?_; clear ha a; intro a ha
                        refine stepp ha 3 (.int .i64 0) KR KR ?_; clear ha a; intro a ha
                        refine endl ?_
                        refine thenN (hK3097 _ _ ?_); clear hK3097
                        refine wp_ret ?_
                        refine blkR ?_
                        refine thenR ?_
                        obtain rfl := Option.some.inj h
                        exact finv ha _ _ rfl (.tmp (v := .int .i64 t3024.1.f5) KR (.tmp (v := .int .i64 0) KR .nil)) (.tuple #[.int .i64 t3024.1.f5, .int .i64 0]) rfl ⟨rfl, HW.pick [] [] (by decide) (by decide) rfl KR⟩
                      · skip
                        replace h := ite_neg' h hp3095
                        refine condF ha KR KR (t := ((bt a0 0) == 95)) (ieq_f hp3095) ?_
                        refine wp_skip ?_
                        refine blkN ?_
                        refine thenN (hK3039 _ _ ?_); clear hK3039
                        refine wp_seq_k (fun K3098 hK3099 => ?_)
                        refine wp_region_lit ?_
                        refine stepp ha 2 (.int .i64 0) KR KR ?_; clear ha a; intro a ha
                        refine stepp ha 3 (.int .i64 0) KR KR ?_; clear ha a; intro a ha
                        refine endl ?_
                        refine thenN (hK3099 _ _ ?_); clear hK3099
                        refine wp_ret ?_
                        obtain rfl := Option.some.inj h
                        exact finv ha _ _ rfl (.tmp (v := .int .i64 0) KR (.tmp (v := .int .i64 0) KR .nil)) (.tuple #[.int .i64 0, .int .i64 0]) rfl ⟨rfl, HW.pick [] [] (by decide) (by decide) rfl KR⟩
  · skip
    replace h := ite_neg' h hp3035
    refine condT ha KR KR (t := (t3024.2 != 0)) (ineq_t hp3035) ?_
    refine wp_seq_k (fun K3036 hK3037 => ?_)
    refine wp_region_lit ?_
    refine stepp ha 2 (.int .i64 0) KR KR ?_; clear ha a; intro a ha
    refine stepp ha 3 (.int .i64 0) KR KR ?_; clear ha a; intro a ha
    refine endl ?_
    refine thenN (hK3037 _ _ ?_); clear hK3037
    refine wp_ret ?_
    refine thenR ?_
    obtain rfl := Option.some.inj h
    exact finv ha _ _ rfl (.tmp (v := .int .i64 0) KR (.tmp (v := .int .i64 0) KR .nil)) (.tuple #[.int .i64 0, .int .i64 0]) rfl ⟨rfl, HW.pick [] [] (by decide) (by decide) rfl KR⟩
end Go.Proofs.YteilejfncdacfaaGreatDoor.F
