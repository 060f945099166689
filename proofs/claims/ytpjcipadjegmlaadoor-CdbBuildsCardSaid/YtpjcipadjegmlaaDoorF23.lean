/- headgate/headgateref15.Build: plain functions, and that the calls come to what they say. No condition. -/
import Derived.Test.YtpjcipadjegmlaaDoorFT
import Derived.Test.YtpjcipadjegmlaaDoorF17
import Derived.Test.YtpjcipadjegmlaaDoorF18
import Derived.Test.YtpjcipadjegmlaaDoorF21
import Derived.Test.YtpjcipadjegmlaaDoorF26
namespace Go.Proofs.YtpjcipadjegmlaaDoor.F
open Go Go.RowKit Go.Proofs.YtpjcipadjegmlaaDoor.X
set_option linter.unusedVariables false
set_option linter.unusedSimpArgs false
/-! ### headgate/headgateref15.Build: function 23 -/
def headgateref15_Build.j5 (K : Nat) (a0 : T_headgateref15_Ask) (x3015 : ByteArray) : Option (ByteArray × Int) :=
  (headgateref15_Parse.f K x3015).bind fun t3019 => (if t3019.2 = 0 then ((headgateref15_Same.f a0 (⟨t3019.1.f0, t3019.1.f1, t3019.1.f2, t3019.1.f3, t3019.1.f4, t3019.1.f5, t3019.1.f6⟩ : T_headgateref15_Ask)).bind fun t3031 => (if t3031 = true then (some (x3015, 0)) else (some ((⟨#[]⟩ : ByteArray), 150)))) else (some ((⟨#[]⟩ : ByteArray), 150)))
def headgateref15_Build.j2 (K : Nat) (a0 : T_headgateref15_Ask) (x2893 : ByteArray) : Option (ByteArray × Int) :=
  (headgateref15_put.f K x2893 3 a0.f5 2).bind fun t2895 => (headgateref15_Build.j5 K a0 t2895)
def headgateref15_Build.j4 (K : Nat) (a0 : T_headgateref15_Ask) (x2795 : Int) (t2836 : Int) (x2870 : Int) (x2925 : Bool) : Option (ByteArray × Int) :=
  if x2925 = true then ((headgateref15_put.f K ((strOfNums ([IntKind.wrap .u8 x2795] : List Int)) ++ (strOfNums (List.replicate (IntKind.wrap .i64 (t2836 - 1) : Int).toNat (0 : Int)))) 1 x2870 1).bind fun t2928 => ((headgateref15_put.f K t2928 2 a0.f1 8).bind fun t2932 => ((headgateref15_put.f K t2932 10 a0.f2 4).bind fun t2936 => (headgateref15_Build.j5 K a0 t2936)))) else (if x2795 = 147 then ((headgateref15_put.f K ((strOfNums ([IntKind.wrap .u8 x2795] : List Int)) ++ (strOfNums (List.replicate (IntKind.wrap .i64 (t2836 - 1) : Int).toNat (0 : Int)))) 1 1 1).bind fun t2944 => ((headgateref15_put.f K t2944 2 a0.f1 8).bind fun t2948 => ((headgateref15_put.f K t2948 10 a0.f2 4).bind fun t2952 => (headgateref15_Build.j5 K a0 t2952)))) else (if x2795 = 137 then ((headgateref15_put.f K ((strOfNums ([IntKind.wrap .u8 x2795] : List Int)) ++ (strOfNums (List.replicate (IntKind.wrap .i64 (t2836 - 1) : Int).toNat (0 : Int)))) 2 a0.f1 8).bind fun t2960 => ((headgateref15_put.f K t2960 13 a0.f2 1).bind fun t2964 => (headgateref15_Build.j5 K a0 t2964))) else (if x2795 = 66 then ((headgateref15_put.f K ((strOfNums ([IntKind.wrap .u8 x2795] : List Int)) ++ (strOfNums (List.replicate (IntKind.wrap .i64 (t2836 - 1) : Int).toNat (0 : Int)))) 7 a0.f5 2).bind fun t2972 => (headgateref15_Build.j5 K a0 t2972)) else (if x2795 = 160 then ((headgateref15_put.f K ((strOfNums ([IntKind.wrap .u8 x2795] : List Int)) ++ (strOfNums (List.replicate (IntKind.wrap .i64 (t2836 - 1) : Int).toNat (0 : Int)))) 6 a0.f5 4).bind fun t2979 => (headgateref15_Build.j5 K a0 t2979)) else (if x2795 = 94 then ((headgateref15_put.f K ((strOfNums ([IntKind.wrap .u8 x2795] : List Int)) ++ (strOfNums (List.replicate (IntKind.wrap .i64 (t2836 - 1) : Int).toNat (0 : Int)))) 1 (Int.tmod a0.f0 32) 1).bind fun t2986 => ((headgateref15_put.f K t2986 7 a0.f5 2).bind fun t2990 => (headgateref15_Build.j5 K a0 t2990))) else (if x2795 = 95 then ((headgateref15_put.f K ((strOfNums ([IntKind.wrap .u8 x2795] : List Int)) ++ (strOfNums (List.replicate (IntKind.wrap .i64 (t2836 - 1) : Int).toNat (0 : Int)))) 1 (Int.tmod a0.f0 32) 1).bind fun t2998 => ((headgateref15_Number.f K a0.f6).bind fun t3002 => ((headgateref15_put.f K t2998 2 t3002 1).bind fun t3006 => ((headgateref15_put.f K t3006 5 a0.f5 4).bind fun t3010 => (headgateref15_Build.j5 K a0 t3010))))) else (headgateref15_Build.j5 K a0 ((strOfNums ([IntKind.wrap .u8 x2795] : List Int)) ++ (strOfNums (List.replicate (IntKind.wrap .i64 (t2836 - 1) : Int).toNat (0 : Int)))))))))))
def headgateref15_Build.j3 (K : Nat) (a0 : T_headgateref15_Ask) (x2795 : Int) (t2836 : Int) (x2870 : Int) (x2904 : Bool) : Option (ByteArray × Int) :=
  if x2904 = true then ((headgateref15_put.f K ((strOfNums ([IntKind.wrap .u8 x2795] : List Int)) ++ (strOfNums (List.replicate (IntKind.wrap .i64 (t2836 - 1) : Int).toNat (0 : Int)))) 1 x2870 1).bind fun t2907 => ((headgateref15_put.f K t2907 2 a0.f1 4).bind fun t2911 => ((headgateref15_put.f K t2911 7 a0.f2 2).bind fun t2915 => (headgateref15_Build.j5 K a0 t2915)))) else (if x2795 = 136 then (headgateref15_Build.j4 K a0 x2795 t2836 x2870 (x2795 == 136)) else (headgateref15_Build.j4 K a0 x2795 t2836 x2870 (x2795 == 138)))
def headgateref15_Build.j1 (K : Nat) (a0 : T_headgateref15_Ask) (x2795 : Int) (t2836 : Int) (x2870 : Int) : Option (ByteArray × Int) :=
  if x2795 = 18 then (if a0.f4 ≥ 256 then ((headgateref15_put.f K ((strOfNums ([IntKind.wrap .u8 x2795] : List Int)) ++ (strOfNums (List.replicate (IntKind.wrap .i64 (t2836 - 1) : Int).toNat (0 : Int)))) 1 1 1).bind fun t2884 => ((headgateref15_put.f K t2884 2 (IntKind.wrap .i64 (a0.f4 - 256)) 1).bind fun t2888 => (headgateref15_Build.j2 K a0 t2888))) else (headgateref15_Build.j2 K a0 ((strOfNums ([IntKind.wrap .u8 x2795] : List Int)) ++ (strOfNums (List.replicate (IntKind.wrap .i64 (t2836 - 1) : Int).toNat (0 : Int)))))) else (if x2795 = 40 then (headgateref15_Build.j3 K a0 x2795 t2836 x2870 (x2795 == 40)) else (headgateref15_Build.j3 K a0 x2795 t2836 x2870 (x2795 == 42)))
def headgateref15_Build.j0 (K : Nat) (a0 : T_headgateref15_Ask) (x2795 : Int) : Option (ByteArray × Int) :=
  if x2795 < 0 then (some ((⟨#[]⟩ : ByteArray), 150)) else (if x2795 > 255 then (some ((⟨#[]⟩ : ByteArray), 150)) else (if a0.f1 < 0 then (some ((⟨#[]⟩ : ByteArray), 150)) else (if a0.f2 < 0 then (some ((⟨#[]⟩ : ByteArray), 150)) else (if a0.f5 < 0 then (some ((⟨#[]⟩ : ByteArray), 150)) else (if a0.f4 < 0 then (some ((⟨#[]⟩ : ByteArray), 150)) else (if a0.f1 ≥ 1099511627776 then (some ((⟨#[]⟩ : ByteArray), 150)) else (if a0.f2 ≥ 1099511627776 then (some ((⟨#[]⟩ : ByteArray), 150)) else (if a0.f5 ≥ 1099511627776 then (some ((⟨#[]⟩ : ByteArray), 150)) else (if a0.f4 ≥ 1099511627776 then (some ((⟨#[]⟩ : ByteArray), 150)) else ((headgateref15_Length.f K (strOfNums ([IntKind.wrap .u8 x2795] : List Int))).bind fun t2836 => (if t2836 = 0 then (some ((⟨#[]⟩ : ByteArray), 150)) else (asrt (0 ≤ (IntKind.wrap .i64 (t2836 - 1))) (asrt ((IntKind.wrap .i64 (t2836 - 1)) ≤ 281474976710656) (asrt ((strOfNums ([IntKind.wrap .u8 x2795] : List Int)).size + (strOfNums (List.replicate (IntKind.wrap .i64 (t2836 - 1) : Int).toNat (0 : Int))).size ≤ 9223372036854775807) (if a0.f3 = true then (headgateref15_Build.j1 K a0 x2795 t2836 8) else (headgateref15_Build.j1 K a0 x2795 t2836 0))))))))))))))))
def headgateref15_Build.f (K : Nat) (a0 : T_headgateref15_Ask) : Option (ByteArray × Int) :=
  if a0.f0 ≥ 256 then (headgateref15_Build.j0 K a0 (IntKind.wrap .i64 (Int.tdiv a0.f0 256))) else (headgateref15_Build.j0 K a0 a0.f0)
set_option maxRecDepth 100000 in
set_option maxHeartbeats 4000000 in
theorem headgateref15_Build.calls (K : Nat) (a0 : T_headgateref15_Ask)  (r : ByteArray × Int) (w : World)  (h : headgateref15_Build.f K a0 = some r) :
    Calls Tryd.prog 23 #[.agg #[.int .i64 a0.f0, .int .i64 a0.f1, .int .i64 a0.f2, .bool a0.f3, .int .i64 a0.f4, .int .i64 a0.f5, .int .i64 a0.f6]] w (fun e W' => e = .returned (.tuple #[.string r.1, .int .i64 r.2]) ∧ Wd w W' [] [] ) := by
  refine sxstart (n := 191) (l := [(0, .agg #[.int .i64 a0.f0, .int .i64 a0.f1, .int .i64 a0.f2, .bool a0.f3, .int .i64 a0.f4, .int .i64 a0.f5, .int .i64 a0.f6])]) Tryd.func23 rfl rfl (Nat.le_of_ble_eq_true KR) (subsA_cons rfl (subsA_nil _)) ?_
  intro a ha
  have HW := Wd.refl w
  unfold headgateref15_Build.f at h
  refine wp_seq_k (fun K2784 hK2785 => ?_)
  refine wp_region_lit ?_
  refine stepnew ha HW 1 #[.int .i64 a0.f0, .int .i64 a0.f1, .int .i64 a0.f2, .bool a0.f3, .int .i64 a0.f4, .int .i64 a0.f5, .int .i64 a0.f6] 43 KR KR ?_; clear ha HW a; intro b2786 a W2787 HW ha
  refine stepp ha 2 (.string (⟨#[]⟩ : ByteArray)) KR KR ?_; clear ha a; intro a ha
  refine stepp ha 3 (.int .i64 0) KR KR ?_; clear ha a; intro a ha
  refine endl ?_
  refine thenN (hK2785 _ _ ?_); clear hK2785
  refine wp_seq_k (fun K2788 hK2789 => ?_)
  refine wp_region_lit ?_
  refine stepp ha 10 (.pointer (some ⟨b2786, 0, none⟩)) KR KR ?_; clear ha a; intro a ha
  refine stepl ha 11 (HW.ca (i := 0) (b := b2786) (C := #[.int .i64 a0.f0, .int .i64 a0.f1, .int .i64 a0.f2, .bool a0.f3, .int .i64 a0.f4, .int .i64 a0.f5, .int .i64 a0.f6]) (T := 43) (fr := (0, 0)) KR) 3 0 (.tmp 10) (.int .i64 a0.f0) rfl KR KR KR ?_; clear ha a; intro a ha
  refine stepp ha 4 (.int .i64 a0.f0) KR KR ?_; clear ha a; intro a ha
  refine endl ?_
  refine thenN (hK2789 _ _ ?_); clear hK2789
  refine wp_seq_k (fun K2790 hK2791 => ?_)
  refine cutn (fun a W2796 => ∃ (x2795 : Int), headgateref15_Build.j0 K a0 x2795 = some r ∧ Has 191 [(1, .pointer (some ⟨b2786, 0, none⟩)), (4, .int .i64 x2795)] a ∧ Wd w W2796 [(b2786, .cells #[.int .i64 a0.f0, .int .i64 a0.f1, .int .i64 a0.f2, .bool a0.f3, .int .i64 a0.f4, .int .i64 a0.f5, .int .i64 a0.f6] 43 (0, 0))] []) ?_ ?_
  · skip
    refine wp_seq_k (fun K2792 hK2793 => ?_)
    refine wp_region_lit ?_
    refine stepp ha 12 (.pointer (some ⟨b2786, 0, none⟩)) KR KR ?_; clear ha a; intro a ha
    refine stepl ha 13 (HW.ca (i := 0) (b := b2786) (C := #[.int .i64 a0.f0, .int .i64 a0.f1, .int .i64 a0.f2, .bool a0.f3, .int .i64 a0.f4, .int .i64 a0.f5, .int .i64 a0.f6]) (T := 43) (fr := (0, 0)) KR) 3 0 (.tmp 12) (.int .i64 a0.f0) rfl KR KR KR ?_; clear ha a; intro a ha
    refine stepp ha 14 (.bool (decide (a0.f0 ≥ 256))) KR KR ?_; clear ha a; intro a ha
    refine endl ?_
    refine thenN (hK2793 _ _ ?_); clear hK2793
    by_cases hp2794 : a0.f0 ≥ 256
    · skip
      replace h := ite_pos' h hp2794
      refine condT ha KR KR (t := decide (a0.f0 ≥ 256)) (decide_eq_true hp2794) ?_
      refine wp_region_lit ?_
      refine stepp ha 15 (.pointer (some ⟨b2786, 0, none⟩)) KR KR ?_; clear ha a; intro a ha
      refine stepl ha 16 (HW.ca (i := 0) (b := b2786) (C := #[.int .i64 a0.f0, .int .i64 a0.f1, .int .i64 a0.f2, .bool a0.f3, .int .i64 a0.f4, .int .i64 a0.f5, .int .i64 a0.f6]) (T := 43) (fr := (0, 0)) KR) 3 0 (.tmp 15) (.int .i64 a0.f0) rfl KR KR KR ?_; clear ha a; intro a ha
      refine stepp ha 17 (.int .i64 (IntKind.wrap .i64 (Int.tdiv a0.f0 256))) KR KR ?_; clear ha a; intro a ha
      refine stepp ha 4 (.int .i64 (IntKind.wrap .i64 (Int.tdiv a0.f0 256))) KR KR ?_; clear ha a; intro a ha
      refine endl ?_
      exact thenN ⟨IntKind.wrap .i64 (Int.tdiv a0.f0 256), h, ha.sub (subs_cons KR (subs_cons KR (subs_nil _))), HW.pick [0] [] (by decide) (by decide) KR KR⟩
    · skip
      replace h := ite_neg' h hp2794
      refine condF ha KR KR (t := decide (a0.f0 ≥ 256)) (decide_eq_false hp2794) ?_
      refine wp_skip ?_
      exact thenN ⟨a0.f0, h, ha.sub (subs_cons KR (subs_cons KR (subs_nil _))), HW.pick [0] [] (by decide) (by decide) KR KR⟩
  · skip
    intro a W2796 hJ
    obtain ⟨x2795, h, ha, HW⟩ := hJ
    replace h : headgateref15_Build.j0 K a0 x2795 = some r := h
    unfold headgateref15_Build.j0 at h
    refine hK2791 _ _ ?_; clear hK2791
    refine wp_seq_k (fun K2797 hK2798 => ?_)
    refine wp_seq_k (fun K2799 hK2800 => ?_)
    refine wp_region_lit ?_
    refine stepp ha 18 (.int .i64 x2795) KR KR ?_; clear ha a; intro a ha
    refine stepp ha 19 (.bool (decide (x2795 < 0))) KR KR ?_; clear ha a; intro a ha
    refine stepp ha 20 (.bool (decide (x2795 < 0))) KR KR ?_; clear ha a; intro a ha
    by_cases hp2801 : x2795 < 0
    · skip
      replace h := ite_pos' h hp2801
      replace ha := ha.bool 20 KR (decide_eq_true hp2801)
      refine stepo ha 21 KR ?_; clear ha a; intro a ha
      refine stepo ha 22 KR ?_; clear ha a; intro a ha
      refine stepp ha 23 (.bool true) KR KR ?_; clear ha a; intro a ha
      refine stepp ha 24 (.bool true) KR KR ?_; clear ha a; intro a ha
      refine stepo ha 25 KR ?_; clear ha a; intro a ha
      refine stepo ha 26 KR ?_; clear ha a; intro a ha
      refine stepo ha 27 KR ?_; clear ha a; intro a ha
      refine stepp ha 28 (.bool true) KR KR ?_; clear ha a; intro a ha
      refine stepp ha 29 (.bool true) KR KR ?_; clear ha a; intro a ha
      refine stepo ha 30 KR ?_; clear ha a; intro a ha
      refine stepo ha 31 KR ?_; clear ha a; intro a ha
      refine stepo ha 32 KR ?_; clear ha a; intro a ha
      refine stepp ha 33 (.bool true) KR KR ?_; clear ha a; intro a ha
      refine stepp ha 34 (.bool true) KR KR ?_; clear ha a; intro a ha
      refine stepo ha 35 KR ?_; clear ha a; intro a ha
      refine stepo ha 36 KR ?_; clear ha a; intro a ha
      refine stepo ha 37 KR ?_; clear ha a; intro a ha
      refine stepp ha 38 (.bool true) KR KR ?_; clear ha a; intro a ha
      refine stepp ha 39 (.bool true) KR KR ?_; clear ha a; intro a ha
      refine stepo ha 40 KR ?_; clear ha a; intro a ha
      refine stepo ha 41 KR ?_; clear ha a; intro a ha
      refine stepo ha 42 KR ?_; clear ha a; intro a ha
      refine stepp ha 43 (.bool true) KR KR ?_; clear ha a; intro a ha
      refine stepp ha 44 (.bool true) KR KR ?_; clear ha a; intro a ha
      refine stepo ha 45 KR ?_; clear ha a; intro a ha
      refine stepo ha 46 KR ?_; clear ha a; intro a ha
      refine stepo ha 47 KR ?_; clear ha a; intro a ha
      refine stepp ha 48 (.bool true) KR KR ?_; clear ha a; intro a ha
      refine stepp ha 49 (.bool true) KR KR ?_; clear ha a; intro a ha
      refine stepo ha 50 KR ?_; clear ha a; intro a ha
      refine stepo ha 51 KR ?_; clear ha a; intro a ha
      refine stepo ha 52 KR ?_; clear ha a; intro a ha
      refine stepp ha 53 (.bool true) KR KR ?_; clear ha a; intro a ha
      refine stepp ha 54 (.bool true) KR KR ?_; clear ha a; intro a ha
      refine stepo ha 55 KR ?_; clear ha a; intro a ha
      refine stepo ha 56 KR ?_; clear ha a; intro a ha
      refine stepo ha 57 KR ?_; clear ha a; intro a ha
      refine stepp ha 58 (.bool true) KR KR ?_; clear ha a; intro a ha
      refine stepp ha 59 (.bool true) KR KR ?_; clear ha a; intro a ha
      refine stepo ha 60 KR ?_; clear ha a; intro a ha
      refine stepo ha 61 KR ?_; clear ha a; intro a ha
      refine stepo ha 62 KR ?_; clear ha a; intro a ha
      refine stepp ha 63 (.bool true) KR KR ?_; clear ha a; intro a ha
      refine endl ?_
      refine thenN (hK2800 _ _ ?_); clear hK2800
      refine condT ha KR KR (t := true) (rfl) ?_
      refine wp_seq_k (fun K2810 hK2811 => ?_)
      refine wp_region_lit ?_
      refine stepp ha 2 (.string (⟨#[]⟩ : ByteArray)) KR KR ?_; clear ha a; intro a ha
      refine stepp ha 3 (.int .i64 150) KR KR ?_; clear ha a; intro a ha
      refine endl ?_
      refine thenN (hK2811 _ _ ?_); clear hK2811
      refine wp_ret ?_
      refine thenR ?_
      obtain rfl := Option.some.inj h
      exact finv ha _ _ rfl (.tmp (v := .string (⟨#[]⟩ : ByteArray)) KR (.tmp (v := .int .i64 150) KR .nil)) (.tuple #[.string (⟨#[]⟩ : ByteArray), .int .i64 150]) rfl ⟨rfl, HW.pick [] [] (by decide) (by decide) rfl KR⟩
    · skip
      replace h := ite_neg' h hp2801
      replace ha := ha.bool 20 KR (decide_eq_false hp2801)
      refine stepp ha 21 (.int .i64 x2795) KR KR ?_; clear ha a; intro a ha
      refine stepp ha 22 (.bool (decide (x2795 > 255))) KR KR ?_; clear ha a; intro a ha
      refine stepp ha 23 (.bool (decide (x2795 > 255))) KR KR ?_; clear ha a; intro a ha
      refine stepp ha 24 (.bool (decide (x2795 > 255))) KR KR ?_; clear ha a; intro a ha
      by_cases hp2802 : x2795 > 255
      · skip
        replace h := ite_pos' h hp2802
        replace ha := ha.bool 24 KR (decide_eq_true hp2802)
        refine stepo ha 25 KR ?_; clear ha a; intro a ha
        refine stepo ha 26 KR ?_; clear ha a; intro a ha
        refine stepo ha 27 KR ?_; clear ha a; intro a ha
        refine stepp ha 28 (.bool true) KR KR ?_; clear ha a; intro a ha
        refine stepp ha 29 (.bool true) KR KR ?_; clear ha a; intro a ha
        refine stepo ha 30 KR ?_; clear ha a; intro a ha
        refine stepo ha 31 KR ?_; clear ha a; intro a ha
        refine stepo ha 32 KR ?_; clear ha a; intro a ha
        refine stepp ha 33 (.bool true) KR KR ?_; clear ha a; intro a ha
        refine stepp ha 34 (.bool true) KR KR ?_; clear ha a; intro a ha
        refine stepo ha 35 KR ?_; clear ha a; intro a ha
        refine stepo ha 36 KR ?_; clear ha a; intro a ha
        refine stepo ha 37 KR ?_; clear ha a; intro a ha
        refine stepp ha 38 (.bool true) KR KR ?_; clear ha a; intro a ha
        refine stepp ha 39 (.bool true) KR KR ?_; clear ha a; intro a ha
        refine stepo ha 40 KR ?_; clear ha a; intro a ha
        refine stepo ha 41 KR ?_; clear ha a; intro a ha
        refine stepo ha 42 KR ?_; clear ha a; intro a ha
        refine stepp ha 43 (.bool true) KR KR ?_; clear ha a; intro a ha
        refine stepp ha 44 (.bool true) KR KR ?_; clear ha a; intro a ha
        refine stepo ha 45 KR ?_; clear ha a; intro a ha
        refine stepo ha 46 KR ?_; clear ha a; intro a ha
        refine stepo ha 47 KR ?_; clear ha a; intro a ha
        refine stepp ha 48 (.bool true) KR KR ?_; clear ha a; intro a ha
        refine stepp ha 49 (.bool true) KR KR ?_; clear ha a; intro a ha
        refine stepo ha 50 KR ?_; clear ha a; intro a ha
        refine stepo ha 51 KR ?_; clear ha a; intro a ha
        refine stepo ha 52 KR ?_; clear ha a; intro a ha
        refine stepp ha 53 (.bool true) KR KR ?_; clear ha a; intro a ha
        refine stepp ha 54 (.bool true) KR KR ?_; clear ha a; intro a ha
        refine stepo ha 55 KR ?_; clear ha a; intro a ha
        refine stepo ha 56 KR ?_; clear ha a; intro a ha
        refine stepo ha 57 KR ?_; clear ha a; intro a ha
        refine stepp ha 58 (.bool true) KR KR ?_; clear ha a; intro a ha
        refine stepp ha 59 (.bool true) KR KR ?_; clear ha a; intro a ha
        refine stepo ha 60 KR ?_; clear ha a; intro a ha
        refine stepo ha 61 KR ?_; clear ha a; intro a ha
        refine stepo ha 62 KR ?_; clear ha a; intro a ha
        refine stepp ha 63 (.bool true) KR KR ?_; clear ha a; intro a ha
        refine endl ?_
        refine thenN (hK2800 _ _ ?_); clear hK2800
        refine condT ha KR KR (t := true) (rfl) ?_
        refine wp_seq_k (fun K2812 hK2813 => ?_)
        refine wp_region_lit ?_
        refine stepp ha 2 (.string (⟨#[]⟩ : ByteArray)) KR KR ?_; clear ha a; intro a ha
        refine stepp ha 3 (.int .i64 150) KR KR ?_; clear ha a; intro a ha
        refine endl ?_
        refine thenN (hK2813 _ _ ?_); clear hK2813
        refine wp_ret ?_
        refine thenR ?_
        obtain rfl := Option.some.inj h
        exact finv ha _ _ rfl (.tmp (v := .string (⟨#[]⟩ : ByteArray)) KR (.tmp (v := .int .i64 150) KR .nil)) (.tuple #[.string (⟨#[]⟩ : ByteArray), .int .i64 150]) rfl ⟨rfl, HW.pick [] [] (by decide) (by decide) rfl KR⟩
      · skip
        replace h := ite_neg' h hp2802
        replace ha := ha.bool 24 KR (decide_eq_false hp2802)
        refine stepp ha 25 (.pointer (some ⟨b2786, 1, none⟩)) KR KR ?_; clear ha a; intro a ha
        refine stepl ha 26 (HW.ca (i := 0) (b := b2786) (C := #[.int .i64 a0.f0, .int .i64 a0.f1, .int .i64 a0.f2, .bool a0.f3, .int .i64 a0.f4, .int .i64 a0.f5, .int .i64 a0.f6]) (T := 43) (fr := (0, 0)) KR) 3 1 (.tmp 25) (.int .i64 a0.f1) rfl KR KR KR ?_; clear ha a; intro a ha
        refine stepp ha 27 (.bool (decide (a0.f1 < 0))) KR KR ?_; clear ha a; intro a ha
        refine stepp ha 28 (.bool (decide (a0.f1 < 0))) KR KR ?_; clear ha a; intro a ha
        refine stepp ha 29 (.bool (decide (a0.f1 < 0))) KR KR ?_; clear ha a; intro a ha
        by_cases hp2803 : a0.f1 < 0
        · skip
          replace h := ite_pos' h hp2803
          replace ha := ha.bool 29 KR (decide_eq_true hp2803)
          refine stepo ha 30 KR ?_; clear ha a; intro a ha
          refine stepo ha 31 KR ?_; clear ha a; intro a ha
          refine stepo ha 32 KR ?_; clear ha a; intro a ha
          refine stepp ha 33 (.bool true) KR KR ?_; clear ha a; intro a ha
          refine stepp ha 34 (.bool true) KR KR ?_; clear ha a; intro a ha
          refine stepo ha 35 KR ?_; clear ha a; intro a ha
          refine stepo ha 36 KR ?_; clear ha a; intro a ha
          refine stepo ha 37 KR ?_; clear ha a; intro a ha
          refine stepp ha 38 (.bool true) KR KR ?_; clear ha a; intro a ha
          refine stepp ha 39 (.bool true) KR KR ?_; clear ha a; intro a ha
          refine stepo ha 40 KR ?_; clear ha a; intro a ha
          refine stepo ha 41 KR ?_; clear ha a; intro a ha
          refine stepo ha 42 KR ?_; clear ha a; intro a ha
          refine stepp ha 43 (.bool true) KR KR ?_; clear ha a; intro a ha
          refine stepp ha 44 (.bool true) KR KR ?_; clear ha a; intro a ha
          refine stepo ha 45 KR ?_; clear ha a; intro a ha
          refine stepo ha 46 KR ?_; clear ha a; intro a ha
          refine stepo ha 47 KR ?_; clear ha a; intro a ha
          refine stepp ha 48 (.bool true) KR KR ?_; clear ha a; intro a ha
          refine stepp ha 49 (.bool true) KR KR ?_; clear ha a; intro a ha
          refine stepo ha 50 KR ?_; clear ha a; intro a ha
          refine stepo ha 51 KR ?_; clear ha a; intro a ha
          refine stepo ha 52 KR ?_; clear ha a; intro a ha
          refine stepp ha 53 (.bool true) KR KR ?_; clear ha a; intro a ha
          refine stepp ha 54 (.bool true) KR KR ?_; clear ha a; intro a ha
          refine stepo ha 55 KR ?_; clear ha a; intro a ha
          refine stepo ha 56 KR ?_; clear ha a; intro a ha
          refine stepo ha 57 KR ?_; clear ha a; intro a ha
          refine stepp ha 58 (.bool true) KR KR ?_; clear ha a; intro a ha
          refine stepp ha 59 (.bool true) KR KR ?_; clear ha a; intro a ha
          refine stepo ha 60 KR ?_; clear ha a; intro a ha
          refine stepo ha 61 KR ?_; clear ha a; intro a ha
          refine stepo ha 62 KR ?_; clear ha a; intro a ha
          refine stepp ha 63 (.bool true) KR KR ?_; clear ha a; intro a ha
          refine endl ?_
          refine thenN (hK2800 _ _ ?_); clear hK2800
          refine condT ha KR KR (t := true) (rfl) ?_
          refine wp_seq_k (fun K2814 hK2815 => ?_)
          refine wp_region_lit ?_
          refine stepp ha 2 (.string (⟨#[]⟩ : ByteArray)) KR KR ?_; clear ha a; intro a ha
          refine stepp ha 3 (.int .i64 150) KR KR ?_; clear ha a; intro a ha
          refine endl ?_
          refine thenN (hK2815 _ _ ?_); clear hK2815
          refine wp_ret ?_
          refine thenR ?_
          obtain rfl := Option.some.inj h
          exact finv ha _ _ rfl (.tmp (v := .string (⟨#[]⟩ : ByteArray)) KR (.tmp (v := .int .i64 150) KR .nil)) (.tuple #[.string (⟨#[]⟩ : ByteArray), .int .i64 150]) rfl ⟨rfl, HW.pick [] [] (by decide) (by decide) rfl KR⟩
        · skip
          replace h := ite_neg' h hp2803
          replace ha := ha.bool 29 KR (decide_eq_false hp2803)
          refine stepp ha 30 (.pointer (some ⟨b2786, 2, none⟩)) KR KR ?_; clear ha a; intro a ha
          refine stepl ha 31 (HW.ca (i := 0) (b := b2786) (C := #[.int .i64 a0.f0, .int .i64 a0.f1, .int .i64 a0.f2, .bool a0.f3, .int .i64 a0.f4, .int .i64 a0.f5, .int .i64 a0.f6]) (T := 43) (fr := (0, 0)) KR) 3 2 (.tmp 30) (.int .i64 a0.f2) rfl KR KR KR ?_; clear ha a; intro a ha
          refine stepp ha 32 (.bool (decide (a0.f2 < 0))) KR KR ?_; clear ha a; intro a ha
          refine stepp ha 33 (.bool (decide (a0.f2 < 0))) KR KR ?_; clear ha a; intro a ha
          refine stepp ha 34 (.bool (decide (a0.f2 < 0))) KR KR ?_; clear ha a; intro a ha
          by_cases hp2804 : a0.f2 < 0
          · skip
            replace h := ite_pos' h hp2804
            replace ha := ha.bool 34 KR (decide_eq_true hp2804)
            refine stepo ha 35 KR ?_; clear ha a; intro a ha
            refine stepo ha 36 KR ?_; clear ha a; intro a ha
            refine stepo ha 37 KR ?_; clear ha a; intro a ha
            refine stepp ha 38 (.bool true) KR KR ?_; clear ha a; intro a ha
            refine stepp ha 39 (.bool true) KR KR ?_; clear ha a; intro a ha
            refine stepo ha 40 KR ?_; clear ha a; intro a ha
            refine stepo ha 41 KR ?_; clear ha a; intro a ha
            refine stepo ha 42 KR ?_; clear ha a; intro a ha
            refine stepp ha 43 (.bool true) KR KR ?_; clear ha a; intro a ha
            refine stepp ha 44 (.bool true) KR KR ?_; clear ha a; intro a ha
            refine stepo ha 45 KR ?_; clear ha a; intro a ha
            refine stepo ha 46 KR ?_; clear ha a; intro a ha
            refine stepo ha 47 KR ?_; clear ha a; intro a ha
            refine stepp ha 48 (.bool true) KR KR ?_; clear ha a; intro a ha
            refine stepp ha 49 (.bool true) KR KR ?_; clear ha a; intro a ha
            refine stepo ha 50 KR ?_; clear ha a; intro a ha
            refine stepo ha 51 KR ?_; clear ha a; intro a ha
            refine stepo ha 52 KR ?_; clear ha a; intro a ha
            refine stepp ha 53 (.bool true) KR KR ?_; clear ha a; intro a ha
            refine stepp ha 54 (.bool true) KR KR ?_; clear ha a; intro a ha
            refine stepo ha 55 KR ?_; clear ha a; intro a ha
            refine stepo ha 56 KR ?_; clear ha a; intro a ha
            refine stepo ha 57 KR ?_; clear ha a; intro a ha
            refine stepp ha 58 (.bool true) KR KR ?_; clear ha a; intro a ha
            refine stepp ha 59 (.bool true) KR KR ?_; clear ha a; intro a ha
            refine stepo ha 60 KR ?_; clear ha a; intro a ha
            refine stepo ha 61 KR ?_; clear ha a; intro a ha
            refine stepo ha 62 KR ?_; clear ha a; intro a ha
            refine stepp ha 63 (.bool true) KR KR ?_; clear ha a; intro a ha
            refine endl ?_
            refine thenN (hK2800 _ _ ?_); clear hK2800
            refine condT ha KR KR (t := true) (rfl) ?_
            refine wp_seq_k (fun K2816 hK2817 => ?_)
            refine wp_region_lit ?_
            refine stepp ha 2 (.string (⟨#[]⟩ : ByteArray)) KR KR ?_; clear ha a; intro a ha
            refine stepp ha 3 (.int .i64 150) KR KR ?_; clear ha a; intro a ha
            refine endl ?_
            refine thenN (hK2817 _ _ ?_); clear hK2817
            refine wp_ret ?_
            refine thenR ?_
            obtain rfl := Option.some.inj h
            exact finv ha _ _ rfl (.tmp (v := .string (⟨#[]⟩ : ByteArray)) KR (.tmp (v := .int .i64 150) KR .nil)) (.tuple #[.string (⟨#[]⟩ : ByteArray), .int .i64 150]) rfl ⟨rfl, HW.pick [] [] (by decide) (by decide) rfl KR⟩
          · skip
            replace h := ite_neg' h hp2804
            replace ha := ha.bool 34 KR (decide_eq_false hp2804)
            refine stepp ha 35 (.pointer (some ⟨b2786, 5, none⟩)) KR KR ?_; clear ha a; intro a ha
            refine stepl ha 36 (HW.ca (i := 0) (b := b2786) (C := #[.int .i64 a0.f0, .int .i64 a0.f1, .int .i64 a0.f2, .bool a0.f3, .int .i64 a0.f4, .int .i64 a0.f5, .int .i64 a0.f6]) (T := 43) (fr := (0, 0)) KR) 3 5 (.tmp 35) (.int .i64 a0.f5) rfl KR KR KR ?_; clear ha a; intro a ha
            refine stepp ha 37 (.bool (decide (a0.f5 < 0))) KR KR ?_; clear ha a; intro a ha
            refine stepp ha 38 (.bool (decide (a0.f5 < 0))) KR KR ?_; clear ha a; intro a ha
            refine stepp ha 39 (.bool (decide (a0.f5 < 0))) KR KR ?_; clear ha a; intro a ha
            by_cases hp2805 : a0.f5 < 0
            · skip
              replace h := ite_pos' h hp2805
              replace ha := ha.bool 39 KR (decide_eq_true hp2805)
              refine stepo ha 40 KR ?_; clear ha a; intro a ha
              refine stepo ha 41 KR ?_; clear ha a; intro a ha
              refine stepo ha 42 KR ?_; clear ha a; intro a ha
              refine stepp ha 43 (.bool true) KR KR ?_; clear ha a; intro a ha
              refine stepp ha 44 (.bool true) KR KR ?_; clear ha a; intro a ha
              refine stepo ha 45 KR ?_; clear ha a; intro a ha
              refine stepo ha 46 KR ?_; clear ha a; intro a ha
              refine stepo ha 47 KR ?_; clear ha a; intro a ha
              refine stepp ha 48 (.bool true) KR KR ?_; clear ha a; intro a ha
              refine stepp ha 49 (.bool true) KR KR ?_; clear ha a; intro a ha
              refine stepo ha 50 KR ?_; clear ha a; intro a ha
              refine stepo ha 51 KR ?_; clear ha a; intro a ha
              refine stepo ha 52 KR ?_; clear ha a; intro a ha
              refine stepp ha 53 (.bool true) KR KR ?_; clear ha a; intro a ha
              refine stepp ha 54 (.bool true) KR KR ?_; clear ha a; intro a ha
              refine stepo ha 55 KR ?_; clear ha a; intro a ha
              refine stepo ha 56 KR ?_; clear ha a; intro a ha
              refine stepo ha 57 KR ?_; clear ha a; intro a ha
              refine stepp ha 58 (.bool true) KR KR ?_; clear ha a; intro a ha
              refine stepp ha 59 (.bool true) KR KR ?_; clear ha a; intro a ha
              refine stepo ha 60 KR ?_; clear ha a; intro a ha
              refine stepo ha 61 KR ?_; clear ha a; intro a ha
              refine stepo ha 62 KR ?_; clear ha a; intro a ha
              refine stepp ha 63 (.bool true) KR KR ?_; clear ha a; intro a ha
              refine endl ?_
              refine thenN (hK2800 _ _ ?_); clear hK2800
              refine condT ha KR KR (t := true) (rfl) ?_
              refine wp_seq_k (fun K2818 hK2819 => ?_)
              refine wp_region_lit ?_
              refine stepp ha 2 (.string (⟨#[]⟩ : ByteArray)) KR KR ?_; clear ha a; intro a ha
              refine stepp ha 3 (.int .i64 150) KR KR ?_; clear ha a; intro a ha
              refine endl ?_
              refine thenN (hK2819 _ _ ?_); clear hK2819
              refine wp_ret ?_
              refine thenR ?_
              obtain rfl := Option.some.inj h
              exact finv ha _ _ rfl (.tmp (v := .string (⟨#[]⟩ : ByteArray)) KR (.tmp (v := .int .i64 150) KR .nil)) (.tuple #[.string (⟨#[]⟩ : ByteArray), .int .i64 150]) rfl ⟨rfl, HW.pick [] [] (by decide) (by decide) rfl KR⟩
            · skip
              replace h := ite_neg' h hp2805
              replace ha := ha.bool 39 KR (decide_eq_false hp2805)
              refine stepp ha 40 (.pointer (some ⟨b2786, 4, none⟩)) KR KR ?_; clear ha a; intro a ha
              refine stepl ha 41 (HW.ca (i := 0) (b := b2786) (C := #[.int .i64 a0.f0, .int .i64 a0.f1, .int .i64 a0.f2, .bool a0.f3, .int .i64 a0.f4, .int .i64 a0.f5, .int .i64 a0.f6]) (T := 43) (fr := (0, 0)) KR) 3 4 (.tmp 40) (.int .i64 a0.f4) rfl KR KR KR ?_; clear ha a; intro a ha
              refine stepp ha 42 (.bool (decide (a0.f4 < 0))) KR KR ?_; clear ha a; intro a ha
              refine stepp ha 43 (.bool (decide (a0.f4 < 0))) KR KR ?_; clear ha a; intro a ha
              refine stepp ha 44 (.bool (decide (a0.f4 < 0))) KR KR ?_; clear ha a; intro a ha
              by_cases hp2806 : a0.f4 < 0
              · skip
                replace h := ite_pos' h hp2806
                replace ha := ha.bool 44 KR (decide_eq_true hp2806)
                refine stepo ha 45 KR ?_; clear ha a; intro a ha
                refine stepo ha 46 KR ?_; clear ha a; intro a ha
                refine stepo ha 47 KR ?_; clear ha a; intro a ha
                refine stepp ha 48 (.bool true) KR KR ?_; clear ha a; intro a ha
                refine stepp ha 49 (.bool true) KR KR ?_; clear ha a; intro a ha
                refine stepo ha 50 KR ?_; clear ha a; intro a ha
                refine stepo ha 51 KR ?_; clear ha a; intro a ha
                refine stepo ha 52 KR ?_; clear ha a; intro a ha
                refine stepp ha 53 (.bool true) KR KR ?_; clear ha a; intro a ha
                refine stepp ha 54 (.bool true) KR KR ?_; clear ha a; intro a ha
                refine stepo ha 55 KR ?_; clear ha a; intro a ha
                refine stepo ha 56 KR ?_; clear ha a; intro a ha
                refine stepo ha 57 KR ?_; clear ha a; intro a ha
                refine stepp ha 58 (.bool true) KR KR ?_; clear ha a; intro a ha
                refine stepp ha 59 (.bool true) KR KR ?_; clear ha a; intro a ha
                refine stepo ha 60 KR ?_; clear ha a; intro a ha
                refine stepo ha 61 KR ?_; clear ha a; intro a ha
                refine stepo ha 62 KR ?_; clear ha a; intro a ha
                refine stepp ha 63 (.bool true) KR KR ?_; clear ha a; intro a ha
                refine endl ?_
                refine thenN (hK2800 _ _ ?_); clear hK2800
                refine condT ha KR KR (t := true) (rfl) ?_
                refine wp_seq_k (fun K2820 hK2821 => ?_)
                refine wp_region_lit ?_
                refine stepp ha 2 (.string (⟨#[]⟩ : ByteArray)) KR KR ?_; clear ha a; intro a ha
                refine stepp ha 3 (.int .i64 150) KR KR ?_; clear ha a; intro a ha
                refine endl ?_
                refine thenN (hK2821 _ _ ?_); clear hK2821
                refine wp_ret ?_
                refine thenR ?_
                obtain rfl := Option.some.inj h
                exact finv ha _ _ rfl (.tmp (v := .string (⟨#[]⟩ : ByteArray)) KR (.tmp (v := .int .i64 150) KR .nil)) (.tuple #[.string (⟨#[]⟩ : ByteArray), .int .i64 150]) rfl ⟨rfl, HW.pick [] [] (by decide) (by decide) rfl KR⟩
              · skip
                replace h := ite_neg' h hp2806
                replace ha := ha.bool 44 KR (decide_eq_false hp2806)
                refine stepp ha 45 (.pointer (some ⟨b2786, 1, none⟩)) KR KR ?_; clear ha a; intro a ha
                refine stepl ha 46 (HW.ca (i := 0) (b := b2786) (C := #[.int .i64 a0.f0, .int .i64 a0.f1, .int .i64 a0.f2, .bool a0.f3, .int .i64 a0.f4, .int .i64 a0.f5, .int .i64 a0.f6]) (T := 43) (fr := (0, 0)) KR) 3 1 (.tmp 45) (.int .i64 a0.f1) rfl KR KR KR ?_; clear ha a; intro a ha
                refine stepp ha 47 (.bool (decide (a0.f1 ≥ 1099511627776))) KR KR ?_; clear ha a; intro a ha
                refine stepp ha 48 (.bool (decide (a0.f1 ≥ 1099511627776))) KR KR ?_; clear ha a; intro a ha
                refine stepp ha 49 (.bool (decide (a0.f1 ≥ 1099511627776))) KR KR ?_; clear ha a; intro a ha
                by_cases hp2807 : a0.f1 ≥ 1099511627776
                · skip
                  replace h := ite_pos' h hp2807
                  replace ha := ha.bool 49 KR (decide_eq_true hp2807)
                  refine stepo ha 50 KR ?_; clear ha a; intro a ha
                  refine stepo ha 51 KR ?_; clear ha a; intro a ha
                  refine stepo ha 52 KR ?_; clear ha a; intro a ha
                  refine stepp ha 53 (.bool true) KR KR ?_; clear ha a; intro a ha
                  refine stepp ha 54 (.bool true) KR KR ?_; clear ha a; intro a ha
                  refine stepo ha 55 KR ?_; clear ha a; intro a ha
                  refine stepo ha 56 KR ?_; clear ha a; intro a ha
                  refine stepo ha 57 KR ?_; clear ha a; intro a ha
                  refine stepp ha 58 (.bool true) KR KR ?_; clear ha a; intro a ha
                  refine stepp ha 59 (.bool true) KR KR ?_; clear ha a; intro a ha
                  refine stepo ha 60 KR ?_; clear ha a; intro a ha
                  refine stepo ha 61 KR ?_; clear ha a; intro a ha
                  refine stepo ha 62 KR ?_; clear ha a; intro a ha
                  refine stepp ha 63 (.bool true) KR KR ?_; clear ha a; intro a ha
                  refine endl ?_
                  refine thenN (hK2800 _ _ ?_); clear hK2800
                  refine condT ha KR KR (t := true) (rfl) ?_
                  refine wp_seq_k (fun K2822 hK2823 => ?_)
                  refine wp_region_lit ?_
                  refine stepp ha 2 (.string (⟨#[]⟩ : ByteArray)) KR KR ?_; clear ha a; intro a ha
                  refine stepp ha 3 (.int .i64 150) KR KR ?_; clear ha a; intro a ha
                  refine endl ?_
                  refine thenN (hK2823 _ _ ?_); clear hK2823
                  refine wp_ret ?_
                  refine thenR ?_
                  obtain rfl := Option.some.inj h
                  exact finv ha _ _ rfl (.tmp (v := .string (⟨#[]⟩ : ByteArray)) KR (.tmp (v := .int .i64 150) KR .nil)) (.tuple #[.string (⟨#[]⟩ : ByteArray), .int .i64 150]) rfl ⟨rfl, HW.pick [] [] (by decide) (by decide) rfl KR⟩
                · skip
                  replace h := ite_neg' h hp2807
                  replace ha := ha.bool 49 KR (decide_eq_false hp2807)
                  refine stepp ha 50 (.pointer (some ⟨b2786, 2, none⟩)) KR KR ?_; clear ha a; intro a ha
                  refine stepl ha 51 (HW.ca (i := 0) (b := b2786) (C := #[.int .i64 a0.f0, .int .i64 a0.f1, .int .i64 a0.f2, .bool a0.f3, .int .i64 a0.f4, .int .i64 a0.f5, .int .i64 a0.f6]) (T := 43) (fr := (0, 0)) KR) 3 2 (.tmp 50) (.int .i64 a0.f2) rfl KR KR KR ?_; clear ha a; intro a ha
                  refine stepp ha 52 (.bool (decide (a0.f2 ≥ 1099511627776))) KR KR ?_; clear ha a; intro a ha
                  refine stepp ha 53 (.bool (decide (a0.f2 ≥ 1099511627776))) KR KR ?_; clear ha a; intro a ha
                  refine stepp ha 54 (.bool (decide (a0.f2 ≥ 1099511627776))) KR KR ?_; clear ha a; intro a ha
                  by_cases hp2808 : a0.f2 ≥ 1099511627776
                  · skip
                    replace h := ite_pos' h hp2808
                    replace ha := ha.bool 54 KR (decide_eq_true hp2808)
                    refine stepo ha 55 KR ?_; clear ha a; intro a ha
                    refine stepo ha 56 KR ?_; clear ha a; intro a ha
                    refine stepo ha 57 KR ?_; clear ha a; intro a ha
                    refine stepp ha 58 (.bool true) KR KR ?_; clear ha a; intro a ha
                    refine stepp ha 59 (.bool true) KR KR ?_; clear ha a; intro a ha
                    refine stepo ha 60 KR ?_; clear ha a; intro a ha
                    refine stepo ha 61 KR ?_; clear ha a; intro a ha
                    refine stepo ha 62 KR ?_; clear ha a; intro a ha
                    refine stepp ha 63 (.bool true) KR KR ?_; clear ha a; intro a ha
                    refine endl ?_
                    refine thenN (hK2800 _ _ ?_); clear hK2800
                    refine condT ha KR KR (t := true) (rfl) ?_
                    refine wp_seq_k (fun K2824 hK2825 => ?_)
                    refine wp_region_lit ?_
                    refine stepp ha 2 (.string (⟨#[]⟩ : ByteArray)) KR KR ?_; clear ha a; intro a ha
                    refine stepp ha 3 (.int .i64 150) KR KR ?_; clear ha a; intro a ha
                    refine endl ?_
                    refine thenN (hK2825 _ _ ?_); clear hK2825
                    refine wp_ret ?_
                    refine thenR ?_
                    obtain rfl := Option.some.inj h
                    exact finv ha _ _ rfl (.tmp (v := .string (⟨#[]⟩ : ByteArray)) KR (.tmp (v := .int .i64 150) KR .nil)) (.tuple #[.string (⟨#[]⟩ : ByteArray), .int .i64 150]) rfl ⟨rfl, HW.pick [] [] (by decide) (by decide) rfl KR⟩
                  · skip
                    replace h := ite_neg' h hp2808
                    replace ha := ha.bool 54 KR (decide_eq_false hp2808)
                    refine stepp ha 55 (.pointer (some ⟨b2786, 5, none⟩)) KR KR ?_; clear ha a; intro a ha
                    refine stepl ha 56 (HW.ca (i := 0) (b := b2786) (C := #[.int .i64 a0.f0, .int .i64 a0.f1, .int .i64 a0.f2, .bool a0.f3, .int .i64 a0.f4, .int .i64 a0.f5, .int .i64 a0.f6]) (T := 43) (fr := (0, 0)) KR) 3 5 (.tmp 55) (.int .i64 a0.f5) rfl KR KR KR ?_; clear ha a; intro a ha
                    refine stepp ha 57 (.bool (decide (a0.f5 ≥ 1099511627776))) KR KR ?_; clear ha a; intro a ha
                    refine stepp ha 58 (.bool (decide (a0.f5 ≥ 1099511627776))) KR KR ?_; clear ha a; intro a ha
                    refine stepp ha 59 (.bool (decide (a0.f5 ≥ 1099511627776))) KR KR ?_; clear ha a; intro a ha
                    by_cases hp2809 : a0.f5 ≥ 1099511627776
                    · skip
                      replace h := ite_pos' h hp2809
                      replace ha := ha.bool 59 KR (decide_eq_true hp2809)
                      refine stepo ha 60 KR ?_; clear ha a; intro a ha
                      refine stepo ha 61 KR ?_; clear ha a; intro a ha
                      refine stepo ha 62 KR ?_; clear ha a; intro a ha
                      refine stepp ha 63 (.bool true) KR KR ?_; clear ha a; intro a ha
                      refine endl ?_
                      refine thenN (hK2800 _ _ ?_); clear hK2800
                      refine condT ha KR KR (t := true) (rfl) ?_
                      refine wp_seq_k (fun K2826 hK2827 => ?_)
                      refine wp_region_lit ?_
                      refine stepp ha 2 (.string (⟨#[]⟩ : ByteArray)) KR KR ?_; clear ha a; intro a ha
                      refine stepp ha 3 (.int .i64 150) KR KR ?_; clear ha a; intro a ha
                      refine endl ?_
                      refine thenN (hK2827 _ _ ?_); clear hK2827
                      refine wp_ret ?_
                      refine thenR ?_
                      obtain rfl := Option.some.inj h
                      exact finv ha _ _ rfl (.tmp (v := .string (⟨#[]⟩ : ByteArray)) KR (.tmp (v := .int .i64 150) KR .nil)) (.tuple #[.string (⟨#[]⟩ : ByteArray), .int .i64 150]) rfl ⟨rfl, HW.pick [] [] (by decide) (by decide) rfl KR⟩
                    · skip
                      replace h := ite_neg' h hp2809
                      replace ha := ha.bool 59 KR (decide_eq_false hp2809)
                      refine stepp ha 60 (.pointer (some ⟨b2786, 4, none⟩)) KR KR ?_; clear ha a; intro a ha
                      refine stepl ha 61 (HW.ca (i := 0) (b := b2786) (C := #[.int .i64 a0.f0, .int .i64 a0.f1, .int .i64 a0.f2, .bool a0.f3, .int .i64 a0.f4, .int .i64 a0.f5, .int .i64 a0.f6]) (T := 43) (fr := (0, 0)) KR) 3 4 (.tmp 60) (.int .i64 a0.f4) rfl KR KR KR ?_; clear ha a; intro a ha
                      refine stepp ha 62 (.bool (decide (a0.f4 ≥ 1099511627776))) KR KR ?_; clear ha a; intro a ha
                      refine stepp ha 63 (.bool (decide (a0.f4 ≥ 1099511627776))) KR KR ?_; clear ha a; intro a ha
                      refine endl ?_
                      refine thenN (hK2800 _ _ ?_); clear hK2800
                      by_cases hp2828 : a0.f4 ≥ 1099511627776
                      · skip
                        replace h := ite_pos' h hp2828
                        refine condT ha KR KR (t := decide (a0.f4 ≥ 1099511627776)) (decide_eq_true hp2828) ?_
                        refine wp_seq_k (fun K2829 hK2830 => ?_)
                        refine wp_region_lit ?_
                        refine stepp ha 2 (.string (⟨#[]⟩ : ByteArray)) KR KR ?_; clear ha a; intro a ha
                        refine stepp ha 3 (.int .i64 150) KR KR ?_; clear ha a; intro a ha
                        refine endl ?_
                        refine thenN (hK2830 _ _ ?_); clear hK2830
                        refine wp_ret ?_
                        refine thenR ?_
                        obtain rfl := Option.some.inj h
                        exact finv ha _ _ rfl (.tmp (v := .string (⟨#[]⟩ : ByteArray)) KR (.tmp (v := .int .i64 150) KR .nil)) (.tuple #[.string (⟨#[]⟩ : ByteArray), .int .i64 150]) rfl ⟨rfl, HW.pick [] [] (by decide) (by decide) rfl KR⟩
                      · skip
                        replace h := ite_neg' h hp2828
                        refine condF ha KR KR (t := decide (a0.f4 ≥ 1099511627776)) (decide_eq_false hp2828) ?_
                        refine wp_skip ?_
                        refine thenN (hK2798 _ _ ?_); clear hK2798
                        refine wp_seq_k (fun K2831 hK2832 => ?_)
                        refine wp_region_lit ?_
                        refine stepp ha 64 (.int .i64 x2795) KR KR ?_; clear ha a; intro a ha
                        refine stepp ha 65 (.int .u8 (IntKind.wrap .u8 x2795)) KR KR ?_; clear ha a; intro a ha
                        refine stepbs ha HW 66 5 1 1 #[.int .u8 (IntKind.wrap .u8 x2795)] [.int .u8 (IntKind.wrap .u8 x2795)] (by decide) KR KR KR KR ?_; clear ha HW a; intro b2833 a W2834 HW ha
                        replace HW : Wd w W2834 [(b2786, .cells #[.int .i64 a0.f0, .int .i64 a0.f1, .int .i64 a0.f2, .bool a0.f3, .int .i64 a0.f4, .int .i64 a0.f5, .int .i64 a0.f6] 43 (0, 0))] [⟨5, 1, .slice (some ⟨b2833, 0, none⟩) ([IntKind.wrap .u8 x2795] : List Int).length 1, ([IntKind.wrap .u8 x2795] : List Int).length, encs (encI .u8) ([IntKind.wrap .u8 x2795] : List Int)⟩] := HW
                        replace ha := ha.turn 66 (v := .slice (some ⟨b2833, 0, none⟩) ([IntKind.wrap .u8 x2795] : List Int).length 1) KR rfl
                        refine stepbt ha 67 56 9 5 (.tmp 66) (v := .slice (some ⟨b2833, 0, none⟩) ([IntKind.wrap .u8 x2795] : List Int).length 1) (xs := ([IntKind.wrap .u8 x2795] : List Int)) (HW.rdo (i := 0) (q := ⟨5, 1, .slice (some ⟨b2833, 0, none⟩) ([IntKind.wrap .u8 x2795] : List Int).length 1, ([IntKind.wrap .u8 x2795] : List Int).length, encs (encI .u8) ([IntKind.wrap .u8 x2795] : List Int)⟩) KR) rfl KR KR KR KR KR ?_; clear ha a; intro a ha
                        obtain ⟨t2836, ht2837, h_⟩ := bind_some' h; clear h; have h := h_; clear h_
                        refine stepc ha 68 KR KR (headgateref15_Length.calls K (strOfNums ([IntKind.wrap .u8 x2795] : List Int)) t2836 _ ht2837) ?_; clear ha a; rintro e W2838 ⟨rfl, HX2839⟩
                        refine ⟨_, rfl, ?_⟩; intro a ha; replace HW := HW.callw HX2839; clear HX2839
                        refine stepp ha 5 (.int .i64 t2836) KR KR ?_; clear ha a; intro a ha
                        refine endl ?_
                        refine thenN (hK2832 _ _ ?_); clear hK2832
                        refine wp_seq_k (fun K2840 hK2841 => ?_)
                        refine wp_seq_k (fun K2842 hK2843 => ?_)
                        refine wp_region_lit ?_
                        refine stepp ha 69 (.int .i64 t2836) KR KR ?_; clear ha a; intro a ha
                        refine stepp ha 70 (.bool (t2836 == 0)) KR KR ?_; clear ha a; intro a ha
                        refine endl ?_
                        refine thenN (hK2843 _ _ ?_); clear hK2843
                        by_cases hp2844 : t2836 = 0
                        · skip
                          replace h := ite_pos' h hp2844
                          refine condT ha KR KR (t := (t2836 == 0)) (ieq_t hp2844) ?_
                          refine wp_seq_k (fun K2845 hK2846 => ?_)
                          refine wp_region_lit ?_
                          refine stepp ha 2 (.string (⟨#[]⟩ : ByteArray)) KR KR ?_; clear ha a; intro a ha
                          refine stepp ha 3 (.int .i64 150) KR KR ?_; clear ha a; intro a ha
                          refine endl ?_
                          refine thenN (hK2846 _ _ ?_); clear hK2846
                          refine wp_ret ?_
                          refine thenR ?_
                          obtain rfl := Option.some.inj h
                          exact finv ha _ _ rfl (.tmp (v := .string (⟨#[]⟩ : ByteArray)) KR (.tmp (v := .int .i64 150) KR .nil)) (.tuple #[.string (⟨#[]⟩ : ByteArray), .int .i64 150]) rfl ⟨rfl, HW.pick [] [] (by decide) (by decide) rfl KR⟩
                        · skip
                          replace h := ite_neg' h hp2844
                          refine condF ha KR KR (t := (t2836 == 0)) (ieq_f hp2844) ?_
                          refine wp_skip ?_
                          refine thenN (hK2841 _ _ ?_); clear hK2841
                          refine wp_seq_k (fun K2847 hK2848 => ?_)
                          obtain ⟨hA2853, h_⟩ := asrt_some h; clear h; have h := h_; clear h_
                          obtain ⟨hA2854, h_⟩ := asrt_some h; clear h; have h := h_; clear h_
                          obtain ⟨hA2861, h_⟩ := asrt_some h; clear h; have h := h_; clear h_
                          refine regionG 9 KR KR ha HW [.fix (.int .i64 x2795), .fix (.int .u8 (IntKind.wrap .u8 x2795)), .lit w 5 ([IntKind.wrap .u8 x2795] : List Int).length #[.int .u8 (IntKind.wrap .u8 x2795)] [(b2786, .cells #[.int .i64 a0.f0, .int .i64 a0.f1, .int .i64 a0.f2, .bool a0.f3, .int .i64 a0.f4, .int .i64 a0.f5, .int .i64 a0.f6] 43 (0, 0))] [⟨5, 1, .slice (some ⟨b2833, 0, none⟩) ([IntKind.wrap .u8 x2795] : List Int).length 1, ([IntKind.wrap .u8 x2795] : List Int).length, encs (encI .u8) ([IntKind.wrap .u8 x2795] : List Int)⟩], .fix (.string (strOfNums ([IntKind.wrap .u8 x2795] : List Int))), .fix (.int .i64 t2836), .fix (.int .i64 (IntKind.wrap .i64 (t2836 - 1))), .rd 1 (List.replicate (IntKind.wrap .i64 (t2836 - 1) : Int).toNat (0 : Int)).length (encs (encI .u8) (List.replicate (IntKind.wrap .i64 (t2836 - 1) : Int).toNat (0 : Int))), .fix (.string (strOfNums (List.replicate (IntKind.wrap .i64 (t2836 - 1) : Int).toNat (0 : Int)))), .fix (.string ((strOfNums ([IntKind.wrap .u8 x2795] : List Int)) ++ (strOfNums (List.replicate (IntKind.wrap .i64 (t2836 - 1) : Int).toNat (0 : Int)))))] ?_ ?_
                          · skip
                            refine ⟨?_, ?_, ?_, ?_, ?_, ?_, ?_, ?_, ?_, trivial⟩
                            · skip
                              intro a wr hn hd HW hs; have ha := hasNil hn hd
                              have ha := ha.add (seeE hs 4 (.int .i64 x2795) KR KR)
                              refine yStep ha 71 KR ?_; intro l_ ha HK
                              refine stepp ha 71 (.int .i64 x2795) KR KR ?_; intro ax hax; exact HK _ _ _ hax rfl (Below.refl _ _)
                            · skip
                              intro a wr hn hd HW hs; have ha := hasNil hn hd
                              have ha := ha.add (seeF hs 71 0 (.int .i64 x2795) KR KR)
                              refine yStep ha 72 KR ?_; intro l_ ha HK
                              refine stepp ha 72 (.int .u8 (IntKind.wrap .u8 x2795)) KR KR ?_; intro ax hax; exact HK _ _ _ hax rfl (Below.refl _ _)
                            · skip
                              intro a wr hn hd HW hs; have ha := hasNil hn hd
                              have ha := ha.add (seeF hs 72 1 (.int .u8 (IntKind.wrap .u8 x2795)) KR KR)
                              refine yStep ha 73 KR ?_; intro l_ ha HK
                              refine stepbk ha (Wd.refl wr) 73 5 1 #[.int .u8 (IntKind.wrap .u8 x2795)] KR KR ?_; intro b2849 ax W2850 HV hax
                              exact HK _ _ _ hax ⟨b2849, rfl, HW.callw HV⟩ HV.below
                            · skip
                              intro a wr hn hd HW hs; have ha := hasNil hn hd
                              obtain ⟨b2849, he_, hR2852⟩ := seeL (enc := (encI .u8)) hs 73 2 1 5 #[.int .u8 (IntKind.wrap .u8 x2795)] ([IntKind.wrap .u8 x2795] : List Int) (w1 := w) (bs1 := [(b2786, .cells #[.int .i64 a0.f0, .int .i64 a0.f1, .int .i64 a0.f2, .bool a0.f3, .int .i64 a0.f4, .int .i64 a0.f5, .int .i64 a0.f6] 43 (0, 0))]) (os1 := [⟨5, 1, .slice (some ⟨b2833, 0, none⟩) ([IntKind.wrap .u8 x2795] : List Int).length 1, ([IntKind.wrap .u8 x2795] : List Int).length, encs (encI .u8) ([IntKind.wrap .u8 x2795] : List Int)⟩]) KR KR (fun _ => rfl) rfl; have ha := ha.add he_
                              refine yStep ha 74 KR ?_; intro l_ ha HK
                              refine stepbt ha 74 56 9 5 (.tmp 73) (v := .slice (some ⟨b2849, 0, none⟩) ([IntKind.wrap .u8 x2795] : List Int).length (([IntKind.wrap .u8 x2795] : List Int).length)) (xs := ([IntKind.wrap .u8 x2795] : List Int)) hR2852 rfl KR KR KR KR KR ?_; intro ax hax; exact HK _ _ _ hax rfl (Below.refl _ _)
                            · skip
                              intro a wr hn hd HW hs; have ha := hasNil hn hd
                              have ha := ha.add (seeE hs 5 (.int .i64 t2836) KR KR)
                              refine yStep ha 75 KR ?_; intro l_ ha HK
                              refine stepp ha 75 (.int .i64 t2836) KR KR ?_; intro ax hax; exact HK _ _ _ hax rfl (Below.refl _ _)
                            · skip
                              intro a wr hn hd HW hs; have ha := hasNil hn hd
                              have ha := ha.add (seeF hs 75 4 (.int .i64 t2836) KR KR)
                              refine yStep ha 76 KR ?_; intro l_ ha HK
                              refine stepp ha 76 (.int .i64 (IntKind.wrap .i64 (t2836 - 1))) KR KR ?_; intro ax hax; exact HK _ _ _ hax rfl (Below.refl _ _)
                            · skip
                              intro a wr hn hd HW hs; have ha := hasNil hn hd
                              have ha := ha.add (seeF hs 76 5 (.int .i64 (IntKind.wrap .i64 (t2836 - 1))) KR KR)
                              refine yStep ha 77 KR ?_; intro l_ ha HK
                              refine stepmk (encI .u8) (0 : Int) ha (Wd.refl wr) 77 56 5 (.tmp 76) (.tmp 76) .i64 .i64 (IntKind.wrap .i64 (t2836 - 1)) (.int .u8 0) 1 rfl KR KR KR KR rfl rfl hA2853 (by have := hA2854; omega) (by have := hA2854; omega) KR ?_; intro b2855 ax W2856 HV hax
                              exact HK _ _ _ hax (show Rd 1 _ _ (List.replicate (IntKind.wrap .i64 (t2836 - 1) : Int).toNat (0 : Int)).length (encs (encI .u8) (List.replicate (IntKind.wrap .i64 (t2836 - 1) : Int).toNat (0 : Int))) from HV.rdo (i := 0) (q := ⟨5, 1, .slice (some ⟨b2855, 0, none⟩) (List.replicate (IntKind.wrap .i64 (t2836 - 1) : Int).toNat (0 : Int)).length ((IntKind.wrap .i64 (t2836 - 1) : Int).toNat), (List.replicate (IntKind.wrap .i64 (t2836 - 1) : Int).toNat (0 : Int)).length, encs (encI .u8) (List.replicate (IntKind.wrap .i64 (t2836 - 1) : Int).toNat (0 : Int))⟩) KR) HV.below
                            · skip
                              intro a wr hn hd HW hs; have ha := hasNil hn hd
                              obtain ⟨A2858, c2859, he_, hR2860⟩ := seeR hs 77 6 1 (List.replicate (IntKind.wrap .i64 (t2836 - 1) : Int).toNat (0 : Int)).length (encs (encI .u8) (List.replicate (IntKind.wrap .i64 (t2836 - 1) : Int).toNat (0 : Int))) KR KR; have ha := ha.add he_
                              refine yStep ha 78 KR ?_; intro l_ ha HK
                              refine stepbt ha 78 56 9 5 (.tmp 77) (v := .slice A2858 (List.replicate (IntKind.wrap .i64 (t2836 - 1) : Int).toNat (0 : Int)).length c2859) (xs := List.replicate (IntKind.wrap .i64 (t2836 - 1) : Int).toNat (0 : Int)) hR2860 rfl KR KR KR KR KR ?_; intro ax hax; exact HK _ _ _ hax rfl (Below.refl _ _)
                            · skip
                              intro a wr hn hd HW hs; have ha := hasNil hn hd
                              have ha := ha.add (seeF hs 74 3 (.string (strOfNums ([IntKind.wrap .u8 x2795] : List Int))) KR KR)
                              have ha := ha.add (seeF hs 78 7 (.string (strOfNums (List.replicate (IntKind.wrap .i64 (t2836 - 1) : Int).toNat (0 : Int)))) KR KR)
                              refine yStep ha 79 KR ?_; intro l_ ha HK
                              refine stepsa ha 79 9 9 (.tmp 74) (.tmp 78) (strOfNums ([IntKind.wrap .u8 x2795] : List Int)) (strOfNums (List.replicate (IntKind.wrap .i64 (t2836 - 1) : Int).toNat (0 : Int))) rfl KR KR (show (strOfNums ([IntKind.wrap .u8 x2795] : List Int)).size + (strOfNums (List.replicate (IntKind.wrap .i64 (t2836 - 1) : Int).toNat (0 : Int))).size ≤ 9223372036854775807 from hA2861) KR ?_; intro ax hax; exact HK _ _ _ hax rfl (Below.refl _ _)
                          · skip
                            intro a W2862 ha HW he hf
                            replace ha := ha.add (he 1 (.pointer (some ⟨b2786, 0, none⟩)) KR KR)
                            replace ha := ha.add (he 4 (.int .i64 x2795) KR KR)
                            replace ha := ha.add (gotF (m := 9) (j := 8) (d := 79) (v := .string ((strOfNums ([IntKind.wrap .u8 x2795] : List Int)) ++ (strOfNums (List.replicate (IntKind.wrap .i64 (t2836 - 1) : Int).toNat (0 : Int))))) hf KR KR KR)
                            clear he hf
                            refine stepp ha 6 (.string ((strOfNums ([IntKind.wrap .u8 x2795] : List Int)) ++ (strOfNums (List.replicate (IntKind.wrap .i64 (t2836 - 1) : Int).toNat (0 : Int))))) KR KR ?_; clear ha a; intro a ha
                            refine endl ?_
                            refine thenN (hK2848 _ _ ?_); clear hK2848
                            refine wp_seq_k (fun K2863 hK2864 => ?_)
                            refine wp_region_lit ?_
                            refine stepp ha 7 (.int .i64 0) KR KR ?_; clear ha a; intro a ha
                            refine endl ?_
                            refine thenN (hK2864 _ _ ?_); clear hK2864
                            refine wp_seq_k (fun K2865 hK2866 => ?_)
                            refine cutn (fun a W2871 => ∃ (x2870 : Int), headgateref15_Build.j1 K a0 x2795 t2836 x2870 = some r ∧ Has 191 [(1, .pointer (some ⟨b2786, 0, none⟩)), (4, .int .i64 x2795), (6, .string ((strOfNums ([IntKind.wrap .u8 x2795] : List Int)) ++ (strOfNums (List.replicate (IntKind.wrap .i64 (t2836 - 1) : Int).toNat (0 : Int))))), (7, .int .i64 x2870)] a ∧ Wd w W2871 [(b2786, .cells #[.int .i64 a0.f0, .int .i64 a0.f1, .int .i64 a0.f2, .bool a0.f3, .int .i64 a0.f4, .int .i64 a0.f5, .int .i64 a0.f6] 43 (0, 0))] []) ?_ ?_
                            · skip
                              refine wp_seq_k (fun K2867 hK2868 => ?_)
                              refine wp_region_lit ?_
                              refine stepp ha 80 (.pointer (some ⟨b2786, 3, none⟩)) KR KR ?_; clear ha a; intro a ha
                              refine stepl ha 81 (HW.ca (i := 0) (b := b2786) (C := #[.int .i64 a0.f0, .int .i64 a0.f1, .int .i64 a0.f2, .bool a0.f3, .int .i64 a0.f4, .int .i64 a0.f5, .int .i64 a0.f6]) (T := 43) (fr := (0, 0)) KR) 4 3 (.tmp 80) (.bool a0.f3) rfl KR KR KR ?_; clear ha a; intro a ha
                              refine endl ?_
                              refine thenN (hK2868 _ _ ?_); clear hK2868
                              by_cases hp2869 : a0.f3 = true
                              · skip
                                replace h := ite_pos' h hp2869
                                refine condT ha KR KR (t := a0.f3) (hp2869) ?_
                                refine wp_region_lit ?_
                                refine stepp ha 7 (.int .i64 8) KR KR ?_; clear ha a; intro a ha
                                refine endl ?_
                                exact thenN ⟨8, h, ha.sub (subs_cons KR (subs_cons KR (subs_cons KR (subs_cons KR (subs_nil _))))), HW.pick [0] [] (by decide) (by decide) KR KR⟩
                              · skip
                                replace h := ite_neg' h hp2869
                                refine condF ha KR KR (t := a0.f3) (bool_f hp2869) ?_
                                refine wp_skip ?_
                                exact thenN ⟨0, h, ha.sub (subs_cons KR (subs_cons KR (subs_cons KR (subs_cons KR (subs_nil _))))), HW.pick [0] [] (by decide) (by decide) KR KR⟩
                            · skip
                              intro a W2871 hJ
                              obtain ⟨x2870, h, ha, HW⟩ := hJ
                              replace h : headgateref15_Build.j1 K a0 x2795 t2836 x2870 = some r := h
                              unfold headgateref15_Build.j1 at h
                              refine hK2866 _ _ ?_; clear hK2866
                              refine wp_seq_k (fun K2872 hK2873 => ?_)
                              refine cutn (fun a W3016 => ∃ (x3015 : ByteArray), headgateref15_Build.j5 K a0 x3015 = some r ∧ Has 191 [(1, .pointer (some ⟨b2786, 0, none⟩)), (6, .string x3015)] a ∧ Wd w W3016 [(b2786, .cells #[.int .i64 a0.f0, .int .i64 a0.f1, .int .i64 a0.f2, .bool a0.f3, .int .i64 a0.f4, .int .i64 a0.f5, .int .i64 a0.f6] 43 (0, 0))] []) ?_ ?_
                              · skip
                                refine wp_seq_k (fun K2874 hK2875 => ?_)
                                refine wp_region_lit ?_
                                refine stepp ha 82 (.int .i64 x2795) KR KR ?_; clear ha a; intro a ha
                                refine endl ?_
                                refine thenN (hK2875 _ _ ?_); clear hK2875
                                refine wp_block ?_
                                refine wp_seq_k (fun K2876 hK2877 => ?_)
                                refine wp_region_lit ?_
                                refine stepp ha 84 (.bool (x2795 == 18)) KR KR ?_; clear ha a; intro a ha
                                refine stepp ha 83 (.bool (x2795 == 18)) KR KR ?_; clear ha a; intro a ha
                                refine endl ?_
                                refine thenN (hK2877 _ _ ?_); clear hK2877
                                by_cases hp2878 : x2795 = 18
                                · skip
                                  replace h := ite_pos' h hp2878
                                  refine condT ha KR KR (t := (x2795 == 18)) (ieq_t hp2878) ?_
                                  refine wp_seq_k (fun K2879 hK2880 => ?_)
                                  refine cutn (fun a W2894 => ∃ (x2893 : ByteArray), headgateref15_Build.j2 K a0 x2893 = some r ∧ Has 191 [(1, .pointer (some ⟨b2786, 0, none⟩)), (6, .string x2893)] a ∧ Wd w W2894 [(b2786, .cells #[.int .i64 a0.f0, .int .i64 a0.f1, .int .i64 a0.f2, .bool a0.f3, .int .i64 a0.f4, .int .i64 a0.f5, .int .i64 a0.f6] 43 (0, 0))] []) ?_ ?_
                                  · skip
                                    refine wp_seq_k (fun K2881 hK2882 => ?_)
                                    refine wp_region_lit ?_
                                    refine stepp ha 85 (.pointer (some ⟨b2786, 4, none⟩)) KR KR ?_; clear ha a; intro a ha
                                    refine stepl ha 86 (HW.ca (i := 0) (b := b2786) (C := #[.int .i64 a0.f0, .int .i64 a0.f1, .int .i64 a0.f2, .bool a0.f3, .int .i64 a0.f4, .int .i64 a0.f5, .int .i64 a0.f6]) (T := 43) (fr := (0, 0)) KR) 3 4 (.tmp 85) (.int .i64 a0.f4) rfl KR KR KR ?_; clear ha a; intro a ha
                                    refine stepp ha 87 (.bool (decide (a0.f4 ≥ 256))) KR KR ?_; clear ha a; intro a ha
                                    refine endl ?_
                                    refine thenN (hK2882 _ _ ?_); clear hK2882
                                    by_cases hp2883 : a0.f4 ≥ 256
                                    · skip
                                      replace h := ite_pos' h hp2883
                                      refine condT ha KR KR (t := decide (a0.f4 ≥ 256)) (decide_eq_true hp2883) ?_
                                      obtain ⟨t2884, ht2885, h_⟩ := bind_some' h; clear h; have h := h_; clear h_
                                      obtain ⟨t2888, ht2889, h_⟩ := bind_some' h; clear h; have h := h_; clear h_
                                      refine regionG 6 KR KR ha HW [.fix (.string ((strOfNums ([IntKind.wrap .u8 x2795] : List Int)) ++ (strOfNums (List.replicate (IntKind.wrap .i64 (t2836 - 1) : Int).toNat (0 : Int))))), .fix (.string t2884), .fix (.pointer (some ⟨b2786, 4, none⟩)), .fix (.int .i64 a0.f4), .fix (.int .i64 (IntKind.wrap .i64 (a0.f4 - 256))), .fix (.string t2888)] ?_ ?_
                                      · skip
                                        refine ⟨?_, ?_, ?_, ?_, ?_, ?_, trivial⟩
                                        · skip
                                          intro a wr hn hd HW hs; have ha := hasNil hn hd
                                          have ha := ha.add (seeE hs 6 (.string ((strOfNums ([IntKind.wrap .u8 x2795] : List Int)) ++ (strOfNums (List.replicate (IntKind.wrap .i64 (t2836 - 1) : Int).toNat (0 : Int))))) KR KR)
                                          refine yStep ha 88 KR ?_; intro l_ ha HK
                                          refine stepp ha 88 (.string ((strOfNums ([IntKind.wrap .u8 x2795] : List Int)) ++ (strOfNums (List.replicate (IntKind.wrap .i64 (t2836 - 1) : Int).toNat (0 : Int))))) KR KR ?_; intro ax hax; exact HK _ _ _ hax rfl (Below.refl _ _)
                                        · skip
                                          intro a wr hn hd HW hs; have ha := hasNil hn hd
                                          have ha := ha.add (seeF hs 88 0 (.string ((strOfNums ([IntKind.wrap .u8 x2795] : List Int)) ++ (strOfNums (List.replicate (IntKind.wrap .i64 (t2836 - 1) : Int).toNat (0 : Int))))) KR KR)
                                          refine yStep ha 89 KR ?_; intro l_ ha HK
                                          refine stepc ha 89 KR KR (headgateref15_put.calls K ((strOfNums ([IntKind.wrap .u8 x2795] : List Int)) ++ (strOfNums (List.replicate (IntKind.wrap .i64 (t2836 - 1) : Int).toNat (0 : Int)))) 1 1 1 t2884 _ ht2885) ?_; rintro e W2886 ⟨rfl, HX2887⟩
                                          refine ⟨_, rfl, ?_⟩; intro ax hax; exact HK _ _ _ hax rfl HX2887.below
                                        · skip
                                          intro a wr hn hd HW hs; have ha := hasNil hn hd
                                          have ha := ha.add (seeE hs 1 (.pointer (some ⟨b2786, 0, none⟩)) KR KR)
                                          refine yStep ha 90 KR ?_; intro l_ ha HK
                                          refine stepp ha 90 (.pointer (some ⟨b2786, 4, none⟩)) KR KR ?_; intro ax hax; exact HK _ _ _ hax rfl (Below.refl _ _)
                                        · skip
                                          intro a wr hn hd HW hs; have ha := hasNil hn hd
                                          have ha := ha.add (seeF hs 90 2 (.pointer (some ⟨b2786, 4, none⟩)) KR KR)
                                          refine yStep ha 91 KR ?_; intro l_ ha HK
                                          refine stepl ha 91 (HW.ca (i := 0) (b := b2786) (C := #[.int .i64 a0.f0, .int .i64 a0.f1, .int .i64 a0.f2, .bool a0.f3, .int .i64 a0.f4, .int .i64 a0.f5, .int .i64 a0.f6]) (T := 43) (fr := (0, 0)) KR) 3 4 (.tmp 90) (.int .i64 a0.f4) rfl KR KR KR ?_; intro ax hax; exact HK _ _ _ hax rfl (Below.refl _ _)
                                        · skip
                                          intro a wr hn hd HW hs; have ha := hasNil hn hd
                                          have ha := ha.add (seeF hs 91 3 (.int .i64 a0.f4) KR KR)
                                          refine yStep ha 92 KR ?_; intro l_ ha HK
                                          refine stepp ha 92 (.int .i64 (IntKind.wrap .i64 (a0.f4 - 256))) KR KR ?_; intro ax hax; exact HK _ _ _ hax rfl (Below.refl _ _)
                                        · skip
                                          intro a wr hn hd HW hs; have ha := hasNil hn hd
                                          have ha := ha.add (seeF hs 89 1 (.string t2884) KR KR)
                                          have ha := ha.add (seeF hs 92 4 (.int .i64 (IntKind.wrap .i64 (a0.f4 - 256))) KR KR)
                                          refine yStep ha 93 KR ?_; intro l_ ha HK
                                          refine stepc ha 93 KR KR (headgateref15_put.calls K t2884 2 (IntKind.wrap .i64 (a0.f4 - 256)) 1 t2888 _ ht2889) ?_; rintro e W2890 ⟨rfl, HX2891⟩
                                          refine ⟨_, rfl, ?_⟩; intro ax hax; exact HK _ _ _ hax rfl HX2891.below
                                      · skip
                                        intro a W2892 ha HW he hf
                                        replace ha := ha.add (he 1 (.pointer (some ⟨b2786, 0, none⟩)) KR KR)
                                        replace ha := ha.add (gotF (m := 6) (j := 5) (d := 93) (v := .string t2888) hf KR KR KR)
                                        clear he hf
                                        refine stepp ha 6 (.string t2888) KR KR ?_; clear ha a; intro a ha
                                        refine endl ?_
                                        exact thenN ⟨t2888, h, ha.sub (subs_cons KR (subs_cons KR (subs_nil _))), HW.pick [0] [] (by decide) (by decide) KR KR⟩
                                    · skip
                                      replace h := ite_neg' h hp2883
                                      refine condF ha KR KR (t := decide (a0.f4 ≥ 256)) (decide_eq_false hp2883) ?_
                                      refine wp_skip ?_
                                      exact thenN ⟨(strOfNums ([IntKind.wrap .u8 x2795] : List Int)) ++ (strOfNums (List.replicate (IntKind.wrap .i64 (t2836 - 1) : Int).toNat (0 : Int))), h, ha.sub (subs_cons KR (subs_cons KR (subs_nil _))), HW.pick [0] [] (by decide) (by decide) KR KR⟩
                                  · skip
                                    intro a W2894 hJ
                                    obtain ⟨x2893, h, ha, HW⟩ := hJ
                                    replace h : headgateref15_Build.j2 K a0 x2893 = some r := h
                                    unfold headgateref15_Build.j2 at h
                                    refine hK2880 _ _ ?_; clear hK2880
                                    refine wp_region_lit ?_
                                    refine stepp ha 94 (.string x2893) KR KR ?_; clear ha a; intro a ha
                                    refine stepp ha 95 (.pointer (some ⟨b2786, 5, none⟩)) KR KR ?_; clear ha a; intro a ha
                                    refine stepl ha 96 (HW.ca (i := 0) (b := b2786) (C := #[.int .i64 a0.f0, .int .i64 a0.f1, .int .i64 a0.f2, .bool a0.f3, .int .i64 a0.f4, .int .i64 a0.f5, .int .i64 a0.f6]) (T := 43) (fr := (0, 0)) KR) 3 5 (.tmp 95) (.int .i64 a0.f5) rfl KR KR KR ?_; clear ha a; intro a ha
                                    obtain ⟨t2895, ht2896, h_⟩ := bind_some' h; clear h; have h := h_; clear h_
                                    refine stepc ha 97 KR KR (headgateref15_put.calls K x2893 3 a0.f5 2 t2895 _ ht2896) ?_; clear ha a; rintro e W2897 ⟨rfl, HX2898⟩
                                    refine ⟨_, rfl, ?_⟩; intro a ha; replace HW := HW.callw HX2898; clear HX2898
                                    refine stepp ha 6 (.string t2895) KR KR ?_; clear ha a; intro a ha
                                    refine endl ?_
                                    refine blkN ?_
                                    exact thenN ⟨t2895, h, ha.sub (subs_cons KR (subs_cons KR (subs_nil _))), HW.pick [0] [] (by decide) (by decide) KR KR⟩
                                · skip
                                  replace h := ite_neg' h hp2878
                                  refine condF ha KR KR (t := (x2795 == 18)) (ieq_f hp2878) ?_
                                  refine wp_seq_k (fun K2899 hK2900 => ?_)
                                  refine cutn (fun a W2905 => ∃ (x2904 : Bool), headgateref15_Build.j3 K a0 x2795 t2836 x2870 x2904 = some r ∧ Has 191 [(1, .pointer (some ⟨b2786, 0, none⟩)), (6, .string ((strOfNums ([IntKind.wrap .u8 x2795] : List Int)) ++ (strOfNums (List.replicate (IntKind.wrap .i64 (t2836 - 1) : Int).toNat (0 : Int))))), (7, .int .i64 x2870), (82, .int .i64 x2795), (98, .bool x2904)] a ∧ Wd w W2905 [(b2786, .cells #[.int .i64 a0.f0, .int .i64 a0.f1, .int .i64 a0.f2, .bool a0.f3, .int .i64 a0.f4, .int .i64 a0.f5, .int .i64 a0.f6] 43 (0, 0))] []) ?_ ?_
                                  · skip
                                    refine wp_seq_k (fun K2901 hK2902 => ?_)
                                    refine wp_region_lit ?_
                                    refine stepp ha 99 (.bool (x2795 == 40)) KR KR ?_; clear ha a; intro a ha
                                    refine stepp ha 98 (.bool (x2795 == 40)) KR KR ?_; clear ha a; intro a ha
                                    refine endl ?_
                                    refine thenN (hK2902 _ _ ?_); clear hK2902
                                    by_cases hp2903 : x2795 = 40
                                    · skip
                                      replace h := ite_pos' h hp2903
                                      refine condT ha KR KR (t := (x2795 == 40)) (ieq_t hp2903) ?_
                                      refine wp_skip ?_
                                      exact thenN ⟨(x2795 == 40), h, ha.sub (subs_cons KR (subs_cons KR (subs_cons KR (subs_cons KR (subs_cons KR (subs_nil _)))))), HW.pick [0] [] (by decide) (by decide) KR KR⟩
                                    · skip
                                      replace h := ite_neg' h hp2903
                                      refine condF ha KR KR (t := (x2795 == 40)) (ieq_f hp2903) ?_
                                      refine wp_region_lit ?_
                                      refine stepp ha 100 (.bool (x2795 == 42)) KR KR ?_; clear ha a; intro a ha
                                      refine stepp ha 98 (.bool (x2795 == 42)) KR KR ?_; clear ha a; intro a ha
                                      refine endl ?_
                                      exact thenN ⟨(x2795 == 42), h, ha.sub (subs_cons KR (subs_cons KR (subs_cons KR (subs_cons KR (subs_cons KR (subs_nil _)))))), HW.pick [0] [] (by decide) (by decide) KR KR⟩
                                  · skip
                                    intro a W2905 hJ
                                    obtain ⟨x2904, h, ha, HW⟩ := hJ
                                    replace h : headgateref15_Build.j3 K a0 x2795 t2836 x2870 x2904 = some r := h
                                    unfold headgateref15_Build.j3 at h
                                    refine hK2900 _ _ ?_; clear hK2900
                                    by_cases hp2906 : x2904 = true
                                    · skip
                                      replace h := ite_pos' h hp2906
                                      refine condT ha KR KR (t := x2904) (hp2906) ?_
                                      obtain ⟨t2907, ht2908, h_⟩ := bind_some' h; clear h; have h := h_; clear h_
                                      obtain ⟨t2911, ht2912, h_⟩ := bind_some' h; clear h; have h := h_; clear h_
                                      obtain ⟨t2915, ht2916, h_⟩ := bind_some' h; clear h; have h := h_; clear h_
                                      refine regionG 9 KR KR ha HW [.fix (.string ((strOfNums ([IntKind.wrap .u8 x2795] : List Int)) ++ (strOfNums (List.replicate (IntKind.wrap .i64 (t2836 - 1) : Int).toNat (0 : Int))))), .fix (.int .i64 x2870), .fix (.string t2907), .fix (.pointer (some ⟨b2786, 1, none⟩)), .fix (.int .i64 a0.f1), .fix (.string t2911), .fix (.pointer (some ⟨b2786, 2, none⟩)), .fix (.int .i64 a0.f2), .fix (.string t2915)] ?_ ?_
                                      · skip
                                        refine ⟨?_, ?_, ?_, ?_, ?_, ?_, ?_, ?_, ?_, trivial⟩
                                        · skip
                                          intro a wr hn hd HW hs; have ha := hasNil hn hd
                                          have ha := ha.add (seeE hs 6 (.string ((strOfNums ([IntKind.wrap .u8 x2795] : List Int)) ++ (strOfNums (List.replicate (IntKind.wrap .i64 (t2836 - 1) : Int).toNat (0 : Int))))) KR KR)
                                          refine yStep ha 101 KR ?_; intro l_ ha HK
                                          refine stepp ha 101 (.string ((strOfNums ([IntKind.wrap .u8 x2795] : List Int)) ++ (strOfNums (List.replicate (IntKind.wrap .i64 (t2836 - 1) : Int).toNat (0 : Int))))) KR KR ?_; intro ax hax; exact HK _ _ _ hax rfl (Below.refl _ _)
                                        · skip
                                          intro a wr hn hd HW hs; have ha := hasNil hn hd
                                          have ha := ha.add (seeE hs 7 (.int .i64 x2870) KR KR)
                                          refine yStep ha 102 KR ?_; intro l_ ha HK
                                          refine stepp ha 102 (.int .i64 x2870) KR KR ?_; intro ax hax; exact HK _ _ _ hax rfl (Below.refl _ _)
                                        · skip
                                          intro a wr hn hd HW hs; have ha := hasNil hn hd
                                          have ha := ha.add (seeF hs 101 0 (.string ((strOfNums ([IntKind.wrap .u8 x2795] : List Int)) ++ (strOfNums (List.replicate (IntKind.wrap .i64 (t2836 - 1) : Int).toNat (0 : Int))))) KR KR)
                                          have ha := ha.add (seeF hs 102 1 (.int .i64 x2870) KR KR)
                                          refine yStep ha 103 KR ?_; intro l_ ha HK
                                          refine stepc ha 103 KR KR (headgateref15_put.calls K ((strOfNums ([IntKind.wrap .u8 x2795] : List Int)) ++ (strOfNums (List.replicate (IntKind.wrap .i64 (t2836 - 1) : Int).toNat (0 : Int)))) 1 x2870 1 t2907 _ ht2908) ?_; rintro e W2909 ⟨rfl, HX2910⟩
                                          refine ⟨_, rfl, ?_⟩; intro ax hax; exact HK _ _ _ hax rfl HX2910.below
                                        · skip
                                          intro a wr hn hd HW hs; have ha := hasNil hn hd
                                          have ha := ha.add (seeE hs 1 (.pointer (some ⟨b2786, 0, none⟩)) KR KR)
                                          refine yStep ha 104 KR ?_; intro l_ ha HK
                                          refine stepp ha 104 (.pointer (some ⟨b2786, 1, none⟩)) KR KR ?_; intro ax hax; exact HK _ _ _ hax rfl (Below.refl _ _)
                                        · skip
                                          intro a wr hn hd HW hs; have ha := hasNil hn hd
                                          have ha := ha.add (seeF hs 104 3 (.pointer (some ⟨b2786, 1, none⟩)) KR KR)
                                          refine yStep ha 105 KR ?_; intro l_ ha HK
                                          refine stepl ha 105 (HW.ca (i := 0) (b := b2786) (C := #[.int .i64 a0.f0, .int .i64 a0.f1, .int .i64 a0.f2, .bool a0.f3, .int .i64 a0.f4, .int .i64 a0.f5, .int .i64 a0.f6]) (T := 43) (fr := (0, 0)) KR) 3 1 (.tmp 104) (.int .i64 a0.f1) rfl KR KR KR ?_; intro ax hax; exact HK _ _ _ hax rfl (Below.refl _ _)
                                        · skip
                                          intro a wr hn hd HW hs; have ha := hasNil hn hd
                                          have ha := ha.add (seeF hs 103 2 (.string t2907) KR KR)
                                          have ha := ha.add (seeF hs 105 4 (.int .i64 a0.f1) KR KR)
                                          refine yStep ha 106 KR ?_; intro l_ ha HK
                                          refine stepc ha 106 KR KR (headgateref15_put.calls K t2907 2 a0.f1 4 t2911 _ ht2912) ?_; rintro e W2913 ⟨rfl, HX2914⟩
                                          refine ⟨_, rfl, ?_⟩; intro ax hax; exact HK _ _ _ hax rfl HX2914.below
                                        · skip
                                          intro a wr hn hd HW hs; have ha := hasNil hn hd
                                          have ha := ha.add (seeE hs 1 (.pointer (some ⟨b2786, 0, none⟩)) KR KR)
                                          refine yStep ha 107 KR ?_; intro l_ ha HK
                                          refine stepp ha 107 (.pointer (some ⟨b2786, 2, none⟩)) KR KR ?_; intro ax hax; exact HK _ _ _ hax rfl (Below.refl _ _)
                                        · skip
                                          intro a wr hn hd HW hs; have ha := hasNil hn hd
                                          have ha := ha.add (seeF hs 107 6 (.pointer (some ⟨b2786, 2, none⟩)) KR KR)
                                          refine yStep ha 108 KR ?_; intro l_ ha HK
                                          refine stepl ha 108 (HW.ca (i := 0) (b := b2786) (C := #[.int .i64 a0.f0, .int .i64 a0.f1, .int .i64 a0.f2, .bool a0.f3, .int .i64 a0.f4, .int .i64 a0.f5, .int .i64 a0.f6]) (T := 43) (fr := (0, 0)) KR) 3 2 (.tmp 107) (.int .i64 a0.f2) rfl KR KR KR ?_; intro ax hax; exact HK _ _ _ hax rfl (Below.refl _ _)
                                        · skip
                                          intro a wr hn hd HW hs; have ha := hasNil hn hd
                                          have ha := ha.add (seeF hs 106 5 (.string t2911) KR KR)
                                          have ha := ha.add (seeF hs 108 7 (.int .i64 a0.f2) KR KR)
                                          refine yStep ha 109 KR ?_; intro l_ ha HK
                                          refine stepc ha 109 KR KR (headgateref15_put.calls K t2911 7 a0.f2 2 t2915 _ ht2916) ?_; rintro e W2917 ⟨rfl, HX2918⟩
                                          refine ⟨_, rfl, ?_⟩; intro ax hax; exact HK _ _ _ hax rfl HX2918.below
                                      · skip
                                        intro a W2919 ha HW he hf
                                        replace ha := ha.add (he 1 (.pointer (some ⟨b2786, 0, none⟩)) KR KR)
                                        replace ha := ha.add (gotF (m := 9) (j := 8) (d := 109) (v := .string t2915) hf KR KR KR)
                                        clear he hf
                                        refine stepp ha 6 (.string t2915) KR KR ?_; clear ha a; intro a ha
                                        refine endl ?_
                                        refine blkN ?_
                                        exact thenN ⟨t2915, h, ha.sub (subs_cons KR (subs_cons KR (subs_nil _))), HW.pick [0] [] (by decide) (by decide) KR KR⟩
                                    · skip
                                      replace h := ite_neg' h hp2906
                                      refine condF ha KR KR (t := x2904) (bool_f hp2906) ?_
                                      refine wp_seq_k (fun K2920 hK2921 => ?_)
                                      refine cutn (fun a W2926 => ∃ (x2925 : Bool), headgateref15_Build.j4 K a0 x2795 t2836 x2870 x2925 = some r ∧ Has 191 [(1, .pointer (some ⟨b2786, 0, none⟩)), (6, .string ((strOfNums ([IntKind.wrap .u8 x2795] : List Int)) ++ (strOfNums (List.replicate (IntKind.wrap .i64 (t2836 - 1) : Int).toNat (0 : Int))))), (7, .int .i64 x2870), (82, .int .i64 x2795), (110, .bool x2925)] a ∧ Wd w W2926 [(b2786, .cells #[.int .i64 a0.f0, .int .i64 a0.f1, .int .i64 a0.f2, .bool a0.f3, .int .i64 a0.f4, .int .i64 a0.f5, .int .i64 a0.f6] 43 (0, 0))] []) ?_ ?_
                                      · skip
                                        refine wp_seq_k (fun K2922 hK2923 => ?_)
                                        refine wp_region_lit ?_
                                        refine stepp ha 111 (.bool (x2795 == 136)) KR KR ?_; clear ha a; intro a ha
                                        refine stepp ha 110 (.bool (x2795 == 136)) KR KR ?_; clear ha a; intro a ha
                                        refine endl ?_
                                        refine thenN (hK2923 _ _ ?_); clear hK2923
                                        by_cases hp2924 : x2795 = 136
                                        · skip
                                          replace h := ite_pos' h hp2924
                                          refine condT ha KR KR (t := (x2795 == 136)) (ieq_t hp2924) ?_
                                          refine wp_skip ?_
                                          exact thenN ⟨(x2795 == 136), h, ha.sub (subs_cons KR (subs_cons KR (subs_cons KR (subs_cons KR (subs_cons KR (subs_nil _)))))), HW.pick [0] [] (by decide) (by decide) KR KR⟩
                                        · skip
                                          replace h := ite_neg' h hp2924
                                          refine condF ha KR KR (t := (x2795 == 136)) (ieq_f hp2924) ?_
                                          refine wp_region_lit ?_
                                          refine stepp ha 112 (.bool (x2795 == 138)) KR KR ?_; clear ha a; intro a ha
                                          refine stepp ha 110 (.bool (x2795 == 138)) KR KR ?_; clear ha a; intro a ha
                                          refine endl ?_
                                          exact thenN ⟨(x2795 == 138), h, ha.sub (subs_cons KR (subs_cons KR (subs_cons KR (subs_cons KR (subs_cons KR (subs_nil _)))))), HW.pick [0] [] (by decide) (by decide) KR KR⟩
                                      · skip
                                        intro a W2926 hJ
                                        obtain ⟨x2925, h, ha, HW⟩ := hJ
                                        replace h : headgateref15_Build.j4 K a0 x2795 t2836 x2870 x2925 = some r := h
                                        unfold headgateref15_Build.j4 at h
                                        refine hK2921 _ _ ?_; clear hK2921
                                        by_cases hp2927 : x2925 = true
                                        · skip
                                          replace h := ite_pos' h hp2927
                                          refine condT ha KR KR (t := x2925) (hp2927) ?_
                                          obtain ⟨t2928, ht2929, h_⟩ := bind_some' h; clear h; have h := h_; clear h_
                                          obtain ⟨t2932, ht2933, h_⟩ := bind_some' h; clear h; have h := h_; clear h_
                                          obtain ⟨t2936, ht2937, h_⟩ := bind_some' h; clear h; have h := h_; clear h_
                                          refine regionG 9 KR KR ha HW [.fix (.string ((strOfNums ([IntKind.wrap .u8 x2795] : List Int)) ++ (strOfNums (List.replicate (IntKind.wrap .i64 (t2836 - 1) : Int).toNat (0 : Int))))), .fix (.int .i64 x2870), .fix (.string t2928), .fix (.pointer (some ⟨b2786, 1, none⟩)), .fix (.int .i64 a0.f1), .fix (.string t2932), .fix (.pointer (some ⟨b2786, 2, none⟩)), .fix (.int .i64 a0.f2), .fix (.string t2936)] ?_ ?_
                                          · skip
                                            refine ⟨?_, ?_, ?_, ?_, ?_, ?_, ?_, ?_, ?_, trivial⟩
                                            · skip
                                              intro a wr hn hd HW hs; have ha := hasNil hn hd
                                              have ha := ha.add (seeE hs 6 (.string ((strOfNums ([IntKind.wrap .u8 x2795] : List Int)) ++ (strOfNums (List.replicate (IntKind.wrap .i64 (t2836 - 1) : Int).toNat (0 : Int))))) KR KR)
                                              refine yStep ha 113 KR ?_; intro l_ ha HK
                                              refine stepp ha 113 (.string ((strOfNums ([IntKind.wrap .u8 x2795] : List Int)) ++ (strOfNums (List.replicate (IntKind.wrap .i64 (t2836 - 1) : Int).toNat (0 : Int))))) KR KR ?_; intro ax hax; exact HK _ _ _ hax rfl (Below.refl _ _)
                                            · skip
                                              intro a wr hn hd HW hs; have ha := hasNil hn hd
                                              have ha := ha.add (seeE hs 7 (.int .i64 x2870) KR KR)
                                              refine yStep ha 114 KR ?_; intro l_ ha HK
                                              refine stepp ha 114 (.int .i64 x2870) KR KR ?_; intro ax hax; exact HK _ _ _ hax rfl (Below.refl _ _)
                                            · skip
                                              intro a wr hn hd HW hs; have ha := hasNil hn hd
                                              have ha := ha.add (seeF hs 113 0 (.string ((strOfNums ([IntKind.wrap .u8 x2795] : List Int)) ++ (strOfNums (List.replicate (IntKind.wrap .i64 (t2836 - 1) : Int).toNat (0 : Int))))) KR KR)
                                              have ha := ha.add (seeF hs 114 1 (.int .i64 x2870) KR KR)
                                              refine yStep ha 115 KR ?_; intro l_ ha HK
                                              refine stepc ha 115 KR KR (headgateref15_put.calls K ((strOfNums ([IntKind.wrap .u8 x2795] : List Int)) ++ (strOfNums (List.replicate (IntKind.wrap .i64 (t2836 - 1) : Int).toNat (0 : Int)))) 1 x2870 1 t2928 _ ht2929) ?_; rintro e W2930 ⟨rfl, HX2931⟩
                                              refine ⟨_, rfl, ?_⟩; intro ax hax; exact HK _ _ _ hax rfl HX2931.below
                                            · skip
                                              intro a wr hn hd HW hs; have ha := hasNil hn hd
                                              have ha := ha.add (seeE hs 1 (.pointer (some ⟨b2786, 0, none⟩)) KR KR)
                                              refine yStep ha 116 KR ?_; intro l_ ha HK
                                              refine stepp ha 116 (.pointer (some ⟨b2786, 1, none⟩)) KR KR ?_; intro ax hax; exact HK _ _ _ hax rfl (Below.refl _ _)
                                            · skip
                                              intro a wr hn hd HW hs; have ha := hasNil hn hd
                                              have ha := ha.add (seeF hs 116 3 (.pointer (some ⟨b2786, 1, none⟩)) KR KR)
                                              refine yStep ha 117 KR ?_; intro l_ ha HK
                                              refine stepl ha 117 (HW.ca (i := 0) (b := b2786) (C := #[.int .i64 a0.f0, .int .i64 a0.f1, .int .i64 a0.f2, .bool a0.f3, .int .i64 a0.f4, .int .i64 a0.f5, .int .i64 a0.f6]) (T := 43) (fr := (0, 0)) KR) 3 1 (.tmp 116) (.int .i64 a0.f1) rfl KR KR KR ?_; intro ax hax; exact HK _ _ _ hax rfl (Below.refl _ _)
                                            · skip
                                              intro a wr hn hd HW hs; have ha := hasNil hn hd
                                              have ha := ha.add (seeF hs 115 2 (.string t2928) KR KR)
                                              have ha := ha.add (seeF hs 117 4 (.int .i64 a0.f1) KR KR)
                                              refine yStep ha 118 KR ?_; intro l_ ha HK
                                              refine stepc ha 118 KR KR (headgateref15_put.calls K t2928 2 a0.f1 8 t2932 _ ht2933) ?_; rintro e W2934 ⟨rfl, HX2935⟩
                                              refine ⟨_, rfl, ?_⟩; intro ax hax; exact HK _ _ _ hax rfl HX2935.below
                                            · skip
                                              intro a wr hn hd HW hs; have ha := hasNil hn hd
                                              have ha := ha.add (seeE hs 1 (.pointer (some ⟨b2786, 0, none⟩)) KR KR)
                                              refine yStep ha 119 KR ?_; intro l_ ha HK
                                              refine stepp ha 119 (.pointer (some ⟨b2786, 2, none⟩)) KR KR ?_; intro ax hax; exact HK _ _ _ hax rfl (Below.refl _ _)
                                            · skip
                                              intro a wr hn hd HW hs; have ha := hasNil hn hd
                                              have ha := ha.add (seeF hs 119 6 (.pointer (some ⟨b2786, 2, none⟩)) KR KR)
                                              refine yStep ha 120 KR ?_; intro l_ ha HK
                                              refine stepl ha 120 (HW.ca (i := 0) (b := b2786) (C := #[.int .i64 a0.f0, .int .i64 a0.f1, .int .i64 a0.f2, .bool a0.f3, .int .i64 a0.f4, .int .i64 a0.f5, .int .i64 a0.f6]) (T := 43) (fr := (0, 0)) KR) 3 2 (.tmp 119) (.int .i64 a0.f2) rfl KR KR KR ?_; intro ax hax; exact HK _ _ _ hax rfl (Below.refl _ _)
                                            · skip
                                              intro a wr hn hd HW hs; have ha := hasNil hn hd
                                              have ha := ha.add (seeF hs 118 5 (.string t2932) KR KR)
                                              have ha := ha.add (seeF hs 120 7 (.int .i64 a0.f2) KR KR)
                                              refine yStep ha 121 KR ?_; intro l_ ha HK
                                              refine stepc ha 121 KR KR (headgateref15_put.calls K t2932 10 a0.f2 4 t2936 _ ht2937) ?_; rintro e W2938 ⟨rfl, HX2939⟩
                                              refine ⟨_, rfl, ?_⟩; intro ax hax; exact HK _ _ _ hax rfl HX2939.below
                                          · skip
                                            intro a W2940 ha HW he hf
                                            replace ha := ha.add (he 1 (.pointer (some ⟨b2786, 0, none⟩)) KR KR)
                                            replace ha := ha.add (gotF (m := 9) (j := 8) (d := 121) (v := .string t2936) hf KR KR KR)
                                            clear he hf
                                            refine stepp ha 6 (.string t2936) KR KR ?_; clear ha a; intro a ha
                                            refine endl ?_
                                            refine blkN ?_
                                            exact thenN ⟨t2936, h, ha.sub (subs_cons KR (subs_cons KR (subs_nil _))), HW.pick [0] [] (by decide) (by decide) KR KR⟩
                                        · skip
                                          replace h := ite_neg' h hp2927
                                          refine condF ha KR KR (t := x2925) (bool_f hp2927) ?_
                                          refine wp_seq_k (fun K2941 hK2942 => ?_)
                                          refine wp_region_lit ?_
                                          refine stepp ha 123 (.bool (x2795 == 147)) KR KR ?_; clear ha a; intro a ha
                                          refine stepp ha 122 (.bool (x2795 == 147)) KR KR ?_; clear ha a; intro a ha
                                          refine endl ?_
                                          refine thenN (hK2942 _ _ ?_); clear hK2942
                                          by_cases hp2943 : x2795 = 147
                                          · skip
                                            replace h := ite_pos' h hp2943
                                            refine condT ha KR KR (t := (x2795 == 147)) (ieq_t hp2943) ?_
                                            obtain ⟨t2944, ht2945, h_⟩ := bind_some' h; clear h; have h := h_; clear h_
                                            obtain ⟨t2948, ht2949, h_⟩ := bind_some' h; clear h; have h := h_; clear h_
                                            obtain ⟨t2952, ht2953, h_⟩ := bind_some' h; clear h; have h := h_; clear h_
                                            refine regionG 8 KR KR ha HW [.fix (.string ((strOfNums ([IntKind.wrap .u8 x2795] : List Int)) ++ (strOfNums (List.replicate (IntKind.wrap .i64 (t2836 - 1) : Int).toNat (0 : Int))))), .fix (.string t2944), .fix (.pointer (some ⟨b2786, 1, none⟩)), .fix (.int .i64 a0.f1), .fix (.string t2948), .fix (.pointer (some ⟨b2786, 2, none⟩)), .fix (.int .i64 a0.f2), .fix (.string t2952)] ?_ ?_
                                            · skip
                                              refine ⟨?_, ?_, ?_, ?_, ?_, ?_, ?_, ?_, trivial⟩
                                              · skip
                                                intro a wr hn hd HW hs; have ha := hasNil hn hd
                                                have ha := ha.add (seeE hs 6 (.string ((strOfNums ([IntKind.wrap .u8 x2795] : List Int)) ++ (strOfNums (List.replicate (IntKind.wrap .i64 (t2836 - 1) : Int).toNat (0 : Int))))) KR KR)
                                                refine yStep ha 124 KR ?_; intro l_ ha HK
                                                refine stepp ha 124 (.string ((strOfNums ([IntKind.wrap .u8 x2795] : List Int)) ++ (strOfNums (List.replicate (IntKind.wrap .i64 (t2836 - 1) : Int).toNat (0 : Int))))) KR KR ?_; intro ax hax; exact HK _ _ _ hax rfl (Below.refl _ _)
                                              · skip
                                                intro a wr hn hd HW hs; have ha := hasNil hn hd
                                                have ha := ha.add (seeF hs 124 0 (.string ((strOfNums ([IntKind.wrap .u8 x2795] : List Int)) ++ (strOfNums (List.replicate (IntKind.wrap .i64 (t2836 - 1) : Int).toNat (0 : Int))))) KR KR)
                                                refine yStep ha 125 KR ?_; intro l_ ha HK
                                                refine stepc ha 125 KR KR (headgateref15_put.calls K ((strOfNums ([IntKind.wrap .u8 x2795] : List Int)) ++ (strOfNums (List.replicate (IntKind.wrap .i64 (t2836 - 1) : Int).toNat (0 : Int)))) 1 1 1 t2944 _ ht2945) ?_; rintro e W2946 ⟨rfl, HX2947⟩
                                                refine ⟨_, rfl, ?_⟩; intro ax hax; exact HK _ _ _ hax rfl HX2947.below
                                              · skip
                                                intro a wr hn hd HW hs; have ha := hasNil hn hd
                                                have ha := ha.add (seeE hs 1 (.pointer (some ⟨b2786, 0, none⟩)) KR KR)
                                                refine yStep ha 126 KR ?_; intro l_ ha HK
                                                refine stepp ha 126 (.pointer (some ⟨b2786, 1, none⟩)) KR KR ?_; intro ax hax; exact HK _ _ _ hax rfl (Below.refl _ _)
                                              · skip
                                                intro a wr hn hd HW hs; have ha := hasNil hn hd
                                                have ha := ha.add (seeF hs 126 2 (.pointer (some ⟨b2786, 1, none⟩)) KR KR)
                                                refine yStep ha 127 KR ?_; intro l_ ha HK
                                                refine stepl ha 127 (HW.ca (i := 0) (b := b2786) (C := #[.int .i64 a0.f0, .int .i64 a0.f1, .int .i64 a0.f2, .bool a0.f3, .int .i64 a0.f4, .int .i64 a0.f5, .int .i64 a0.f6]) (T := 43) (fr := (0, 0)) KR) 3 1 (.tmp 126) (.int .i64 a0.f1) rfl KR KR KR ?_; intro ax hax; exact HK _ _ _ hax rfl (Below.refl _ _)
                                              · skip
                                                intro a wr hn hd HW hs; have ha := hasNil hn hd
                                                have ha := ha.add (seeF hs 125 1 (.string t2944) KR KR)
                                                have ha := ha.add (seeF hs 127 3 (.int .i64 a0.f1) KR KR)
                                                refine yStep ha 128 KR ?_; intro l_ ha HK
                                                refine stepc ha 128 KR KR (headgateref15_put.calls K t2944 2 a0.f1 8 t2948 _ ht2949) ?_; rintro e W2950 ⟨rfl, HX2951⟩
                                                refine ⟨_, rfl, ?_⟩; intro ax hax; exact HK _ _ _ hax rfl HX2951.below
                                              · skip
                                                intro a wr hn hd HW hs; have ha := hasNil hn hd
                                                have ha := ha.add (seeE hs 1 (.pointer (some ⟨b2786, 0, none⟩)) KR KR)
                                                refine yStep ha 129 KR ?_; intro l_ ha HK
                                                refine stepp ha 129 (.pointer (some ⟨b2786, 2, none⟩)) KR KR ?_; intro ax hax; exact HK _ _ _ hax rfl (Below.refl _ _)
                                              · skip
                                                intro a wr hn hd HW hs; have ha := hasNil hn hd
                                                have ha := ha.add (seeF hs 129 5 (.pointer (some ⟨b2786, 2, none⟩)) KR KR)
                                                refine yStep ha 130 KR ?_; intro l_ ha HK
                                                refine stepl ha 130 (HW.ca (i := 0) (b := b2786) (C := #[.int .i64 a0.f0, .int .i64 a0.f1, .int .i64 a0.f2, .bool a0.f3, .int .i64 a0.f4, .int .i64 a0.f5, .int .i64 a0.f6]) (T := 43) (fr := (0, 0)) KR) 3 2 (.tmp 129) (.int .i64 a0.f2) rfl KR KR KR ?_; intro ax hax; exact HK _ _ _ hax rfl (Below.refl _ _)
                                              · skip
                                                intro a wr hn hd HW hs; have ha := hasNil hn hd
                                                have ha := ha.add (seeF hs 128 4 (.string t2948) KR KR)
                                                have ha := ha.add (seeF hs 130 6 (.int .i64 a0.f2) KR KR)
                                                refine yStep ha 131 KR ?_; intro l_ ha HK
                                                refine stepc ha 131 KR KR (headgateref15_put.calls K t2948 10 a0.f2 4 t2952 _ ht2953) ?_; rintro e W2954 ⟨rfl, HX2955⟩
                                                refine ⟨_, rfl, ?_⟩; intro ax hax; exact HK _ _ _ hax rfl HX2955.below
                                            · skip
                                              intro a W2956 ha HW he hf
                                              replace ha := ha.add (he 1 (.pointer (some ⟨b2786, 0, none⟩)) KR KR)
                                              replace ha := ha.add (gotF (m := 8) (j := 7) (d := 131) (v := .string t2952) hf KR KR KR)
                                              clear he hf
                                              refine stepp ha 6 (.string t2952) KR KR ?_; clear ha a; intro a ha
                                              refine endl ?_
                                              refine blkN ?_
                                              exact thenN ⟨t2952, h, ha.sub (subs_cons KR (subs_cons KR (subs_nil _))), HW.pick [0] [] (by decide) (by decide) KR KR⟩
                                          · skip
                                            replace h := ite_neg' h hp2943
                                            refine condF ha KR KR (t := (x2795 == 147)) (ieq_f hp2943) ?_
                                            refine wp_seq_k (fun K2957 hK2958 => ?_)
                                            refine wp_region_lit ?_
                                            refine stepp ha 133 (.bool (x2795 == 137)) KR KR ?_; clear ha a; intro a ha
                                            refine stepp ha 132 (.bool (x2795 == 137)) KR KR ?_; clear ha a; intro a ha
                                            refine endl ?_
                                            refine thenN (hK2958 _ _ ?_); clear hK2958
                                            by_cases hp2959 : x2795 = 137
                                            · skip
                                              replace h := ite_pos' h hp2959
                                              refine condT ha KR KR (t := (x2795 == 137)) (ieq_t hp2959) ?_
                                              obtain ⟨t2960, ht2961, h_⟩ := bind_some' h; clear h; have h := h_; clear h_
                                              obtain ⟨t2964, ht2965, h_⟩ := bind_some' h; clear h; have h := h_; clear h_
                                              refine regionG 7 KR KR ha HW [.fix (.string ((strOfNums ([IntKind.wrap .u8 x2795] : List Int)) ++ (strOfNums (List.replicate (IntKind.wrap .i64 (t2836 - 1) : Int).toNat (0 : Int))))), .fix (.pointer (some ⟨b2786, 1, none⟩)), .fix (.int .i64 a0.f1), .fix (.string t2960), .fix (.pointer (some ⟨b2786, 2, none⟩)), .fix (.int .i64 a0.f2), .fix (.string t2964)] ?_ ?_
                                              · skip
                                                refine ⟨?_, ?_, ?_, ?_, ?_, ?_, ?_, trivial⟩
                                                · skip
                                                  intro a wr hn hd HW hs; have ha := hasNil hn hd
                                                  have ha := ha.add (seeE hs 6 (.string ((strOfNums ([IntKind.wrap .u8 x2795] : List Int)) ++ (strOfNums (List.replicate (IntKind.wrap .i64 (t2836 - 1) : Int).toNat (0 : Int))))) KR KR)
                                                  refine yStep ha 134 KR ?_; intro l_ ha HK
                                                  refine stepp ha 134 (.string ((strOfNums ([IntKind.wrap .u8 x2795] : List Int)) ++ (strOfNums (List.replicate (IntKind.wrap .i64 (t2836 - 1) : Int).toNat (0 : Int))))) KR KR ?_; intro ax hax; exact HK _ _ _ hax rfl (Below.refl _ _)
                                                · skip
                                                  intro a wr hn hd HW hs; have ha := hasNil hn hd
                                                  have ha := ha.add (seeE hs 1 (.pointer (some ⟨b2786, 0, none⟩)) KR KR)
                                                  refine yStep ha 135 KR ?_; intro l_ ha HK
                                                  refine stepp ha 135 (.pointer (some ⟨b2786, 1, none⟩)) KR KR ?_; intro ax hax; exact HK _ _ _ hax rfl (Below.refl _ _)
                                                · skip
                                                  intro a wr hn hd HW hs; have ha := hasNil hn hd
                                                  have ha := ha.add (seeF hs 135 1 (.pointer (some ⟨b2786, 1, none⟩)) KR KR)
                                                  refine yStep ha 136 KR ?_; intro l_ ha HK
                                                  refine stepl ha 136 (HW.ca (i := 0) (b := b2786) (C := #[.int .i64 a0.f0, .int .i64 a0.f1, .int .i64 a0.f2, .bool a0.f3, .int .i64 a0.f4, .int .i64 a0.f5, .int .i64 a0.f6]) (T := 43) (fr := (0, 0)) KR) 3 1 (.tmp 135) (.int .i64 a0.f1) rfl KR KR KR ?_; intro ax hax; exact HK _ _ _ hax rfl (Below.refl _ _)
                                                · skip
                                                  intro a wr hn hd HW hs; have ha := hasNil hn hd
                                                  have ha := ha.add (seeF hs 134 0 (.string ((strOfNums ([IntKind.wrap .u8 x2795] : List Int)) ++ (strOfNums (List.replicate (IntKind.wrap .i64 (t2836 - 1) : Int).toNat (0 : Int))))) KR KR)
                                                  have ha := ha.add (seeF hs 136 2 (.int .i64 a0.f1) KR KR)
                                                  refine yStep ha 137 KR ?_; intro l_ ha HK
                                                  refine stepc ha 137 KR KR (headgateref15_put.calls K ((strOfNums ([IntKind.wrap .u8 x2795] : List Int)) ++ (strOfNums (List.replicate (IntKind.wrap .i64 (t2836 - 1) : Int).toNat (0 : Int)))) 2 a0.f1 8 t2960 _ ht2961) ?_; rintro e W2962 ⟨rfl, HX2963⟩
                                                  refine ⟨_, rfl, ?_⟩; intro ax hax; exact HK _ _ _ hax rfl HX2963.below
                                                · skip
                                                  intro a wr hn hd HW hs; have ha := hasNil hn hd
                                                  have ha := ha.add (seeE hs 1 (.pointer (some ⟨b2786, 0, none⟩)) KR KR)
                                                  refine yStep ha 138 KR ?_; intro l_ ha HK
                                                  refine stepp ha 138 (.pointer (some ⟨b2786, 2, none⟩)) KR KR ?_; intro ax hax; exact HK _ _ _ hax rfl (Below.refl _ _)
                                                · skip
                                                  intro a wr hn hd HW hs; have ha := hasNil hn hd
                                                  have ha := ha.add (seeF hs 138 4 (.pointer (some ⟨b2786, 2, none⟩)) KR KR)
                                                  refine yStep ha 139 KR ?_; intro l_ ha HK
                                                  refine stepl ha 139 (HW.ca (i := 0) (b := b2786) (C := #[.int .i64 a0.f0, .int .i64 a0.f1, .int .i64 a0.f2, .bool a0.f3, .int .i64 a0.f4, .int .i64 a0.f5, .int .i64 a0.f6]) (T := 43) (fr := (0, 0)) KR) 3 2 (.tmp 138) (.int .i64 a0.f2) rfl KR KR KR ?_; intro ax hax; exact HK _ _ _ hax rfl (Below.refl _ _)
                                                · skip
                                                  intro a wr hn hd HW hs; have ha := hasNil hn hd
                                                  have ha := ha.add (seeF hs 137 3 (.string t2960) KR KR)
                                                  have ha := ha.add (seeF hs 139 5 (.int .i64 a0.f2) KR KR)
                                                  refine yStep ha 140 KR ?_; intro l_ ha HK
                                                  refine stepc ha 140 KR KR (headgateref15_put.calls K t2960 13 a0.f2 1 t2964 _ ht2965) ?_; rintro e W2966 ⟨rfl, HX2967⟩
                                                  refine ⟨_, rfl, ?_⟩; intro ax hax; exact HK _ _ _ hax rfl HX2967.below
                                              · skip
                                                intro a W2968 ha HW he hf
                                                replace ha := ha.add (he 1 (.pointer (some ⟨b2786, 0, none⟩)) KR KR)
                                                replace ha := ha.add (gotF (m := 7) (j := 6) (d := 140) (v := .string t2964) hf KR KR KR)
                                                clear he hf
                                                refine stepp ha 6 (.string t2964) KR KR ?_; clear ha a; intro a ha
                                                refine endl ?_
                                                refine blkN ?_
                                                exact thenN ⟨t2964, h, ha.sub (subs_cons KR (subs_cons KR (subs_nil _))), HW.pick [0] [] (by decide) (by decide) KR KR⟩
                                            · skip
                                              replace h := ite_neg' h hp2959
                                              refine condF ha KR KR (t := (x2795 == 137)) (ieq_f hp2959) ?_
                                              refine wp_seq_k (fun K2969 hK2970 => ?_)
                                              refine wp_region_lit ?_
                                              refine stepp ha 142 (.bool (x2795 == 66)) KR KR ?_; clear ha a; intro a ha
                                              refine stepp ha 141 (.bool (x2795 == 66)) KR KR ?_; clear ha a; intro a ha
                                              refine endl ?_
                                              refine thenN (hK2970 _ _ ?_); clear hK2970
                                              by_cases hp2971 : x2795 = 66
                                              · skip
                                                replace h := ite_pos' h hp2971
                                                refine condT ha KR KR (t := (x2795 == 66)) (ieq_t hp2971) ?_
                                                refine wp_region_lit ?_
                                                refine stepp ha 143 (.string ((strOfNums ([IntKind.wrap .u8 x2795] : List Int)) ++ (strOfNums (List.replicate (IntKind.wrap .i64 (t2836 - 1) : Int).toNat (0 : Int))))) KR KR ?_; clear ha a; intro a ha
                                                refine stepp ha 144 (.pointer (some ⟨b2786, 5, none⟩)) KR KR ?_; clear ha a; intro a ha
                                                refine stepl ha 145 (HW.ca (i := 0) (b := b2786) (C := #[.int .i64 a0.f0, .int .i64 a0.f1, .int .i64 a0.f2, .bool a0.f3, .int .i64 a0.f4, .int .i64 a0.f5, .int .i64 a0.f6]) (T := 43) (fr := (0, 0)) KR) 3 5 (.tmp 144) (.int .i64 a0.f5) rfl KR KR KR ?_; clear ha a; intro a ha
                                                obtain ⟨t2972, ht2973, h_⟩ := bind_some' h; clear h; have h := h_; clear h_
                                                refine stepc ha 146 KR KR (headgateref15_put.calls K ((strOfNums ([IntKind.wrap .u8 x2795] : List Int)) ++ (strOfNums (List.replicate (IntKind.wrap .i64 (t2836 - 1) : Int).toNat (0 : Int)))) 7 a0.f5 2 t2972 _ ht2973) ?_; clear ha a; rintro e W2974 ⟨rfl, HX2975⟩
                                                refine ⟨_, rfl, ?_⟩; intro a ha; replace HW := HW.callw HX2975; clear HX2975
                                                refine stepp ha 6 (.string t2972) KR KR ?_; clear ha a; intro a ha
                                                refine endl ?_
                                                refine blkN ?_
                                                exact thenN ⟨t2972, h, ha.sub (subs_cons KR (subs_cons KR (subs_nil _))), HW.pick [0] [] (by decide) (by decide) KR KR⟩
                                              · skip
                                                replace h := ite_neg' h hp2971
                                                refine condF ha KR KR (t := (x2795 == 66)) (ieq_f hp2971) ?_
                                                refine wp_seq_k (fun K2976 hK2977 => ?_)
                                                refine wp_region_lit ?_
                                                refine stepp ha 148 (.bool (x2795 == 160)) KR KR ?_; clear ha a; intro a ha
                                                refine stepp ha 147 (.bool (x2795 == 160)) KR KR ?_; clear ha a; intro a ha
                                                refine endl ?_
                                                refine thenN (hK2977 _ _ ?_); clear hK2977
                                                by_cases hp2978 : x2795 = 160
                                                · skip
                                                  replace h := ite_pos' h hp2978
                                                  refine condT ha KR KR (t := (x2795 == 160)) (ieq_t hp2978) ?_
                                                  refine wp_region_lit ?_
                                                  refine stepp ha 149 (.string ((strOfNums ([IntKind.wrap .u8 x2795] : List Int)) ++ (strOfNums (List.replicate (IntKind.wrap .i64 (t2836 - 1) : Int).toNat (0 : Int))))) KR KR ?_; clear ha a; intro a ha
                                                  refine stepp ha 150 (.pointer (some ⟨b2786, 5, none⟩)) KR KR ?_; clear ha a; intro a ha
                                                  refine stepl ha 151 (HW.ca (i := 0) (b := b2786) (C := #[.int .i64 a0.f0, .int .i64 a0.f1, .int .i64 a0.f2, .bool a0.f3, .int .i64 a0.f4, .int .i64 a0.f5, .int .i64 a0.f6]) (T := 43) (fr := (0, 0)) KR) 3 5 (.tmp 150) (.int .i64 a0.f5) rfl KR KR KR ?_; clear ha a; intro a ha
                                                  obtain ⟨t2979, ht2980, h_⟩ := bind_some' h; clear h; have h := h_; clear h_
                                                  refine stepc ha 152 KR KR (headgateref15_put.calls K ((strOfNums ([IntKind.wrap .u8 x2795] : List Int)) ++ (strOfNums (List.replicate (IntKind.wrap .i64 (t2836 - 1) : Int).toNat (0 : Int)))) 6 a0.f5 4 t2979 _ ht2980) ?_; clear ha a; rintro e W2981 ⟨rfl, HX2982⟩
                                                  refine ⟨_, rfl, ?_⟩; intro a ha; replace HW := HW.callw HX2982; clear HX2982
                                                  refine stepp ha 6 (.string t2979) KR KR ?_; clear ha a; intro a ha
                                                  refine endl ?_
                                                  refine blkN ?_
                                                  exact thenN ⟨t2979, h, ha.sub (subs_cons KR (subs_cons KR (subs_nil _))), HW.pick [0] [] (by decide) (by decide) KR KR⟩
                                                · skip
                                                  replace h := ite_neg' h hp2978
                                                  refine condF ha KR KR (t := (x2795 == 160)) (ieq_f hp2978) ?_
                                                  refine wp_seq_k (fun K2983 hK2984 => ?_)
                                                  refine wp_region_lit ?_
                                                  refine stepp ha 154 (.bool (x2795 == 94)) KR KR ?_; clear ha a; intro a ha
                                                  refine stepp ha 153 (.bool (x2795 == 94)) KR KR ?_; clear ha a; intro a ha
                                                  refine endl ?_
                                                  refine thenN (hK2984 _ _ ?_); clear hK2984
                                                  by_cases hp2985 : x2795 = 94
                                                  · skip
                                                    replace h := ite_pos' h hp2985
                                                    refine condT ha KR KR (t := (x2795 == 94)) (ieq_t hp2985) ?_
                                                    obtain ⟨t2986, ht2987, h_⟩ := bind_some' h; clear h; have h := h_; clear h_
                                                    obtain ⟨t2990, ht2991, h_⟩ := bind_some' h; clear h; have h := h_; clear h_
                                                    refine regionG 8 KR KR ha HW [.fix (.string ((strOfNums ([IntKind.wrap .u8 x2795] : List Int)) ++ (strOfNums (List.replicate (IntKind.wrap .i64 (t2836 - 1) : Int).toNat (0 : Int))))), .fix (.pointer (some ⟨b2786, 0, none⟩)), .fix (.int .i64 a0.f0), .fix (.int .i64 (Int.tmod a0.f0 32)), .fix (.string t2986), .fix (.pointer (some ⟨b2786, 5, none⟩)), .fix (.int .i64 a0.f5), .fix (.string t2990)] ?_ ?_
                                                    · skip
                                                      refine ⟨?_, ?_, ?_, ?_, ?_, ?_, ?_, ?_, trivial⟩
                                                      · skip
                                                        intro a wr hn hd HW hs; have ha := hasNil hn hd
                                                        have ha := ha.add (seeE hs 6 (.string ((strOfNums ([IntKind.wrap .u8 x2795] : List Int)) ++ (strOfNums (List.replicate (IntKind.wrap .i64 (t2836 - 1) : Int).toNat (0 : Int))))) KR KR)
                                                        refine yStep ha 155 KR ?_; intro l_ ha HK
                                                        refine stepp ha 155 (.string ((strOfNums ([IntKind.wrap .u8 x2795] : List Int)) ++ (strOfNums (List.replicate (IntKind.wrap .i64 (t2836 - 1) : Int).toNat (0 : Int))))) KR KR ?_; intro ax hax; exact HK _ _ _ hax rfl (Below.refl _ _)
                                                      · skip
                                                        intro a wr hn hd HW hs; have ha := hasNil hn hd
                                                        have ha := ha.add (seeE hs 1 (.pointer (some ⟨b2786, 0, none⟩)) KR KR)
                                                        refine yStep ha 156 KR ?_; intro l_ ha HK
                                                        refine stepp ha 156 (.pointer (some ⟨b2786, 0, none⟩)) KR KR ?_; intro ax hax; exact HK _ _ _ hax rfl (Below.refl _ _)
                                                      · skip
                                                        intro a wr hn hd HW hs; have ha := hasNil hn hd
                                                        have ha := ha.add (seeF hs 156 1 (.pointer (some ⟨b2786, 0, none⟩)) KR KR)
                                                        refine yStep ha 157 KR ?_; intro l_ ha HK
                                                        refine stepl ha 157 (HW.ca (i := 0) (b := b2786) (C := #[.int .i64 a0.f0, .int .i64 a0.f1, .int .i64 a0.f2, .bool a0.f3, .int .i64 a0.f4, .int .i64 a0.f5, .int .i64 a0.f6]) (T := 43) (fr := (0, 0)) KR) 3 0 (.tmp 156) (.int .i64 a0.f0) rfl KR KR KR ?_; intro ax hax; exact HK _ _ _ hax rfl (Below.refl _ _)
                                                      · skip
                                                        intro a wr hn hd HW hs; have ha := hasNil hn hd
                                                        have ha := ha.add (seeF hs 157 2 (.int .i64 a0.f0) KR KR)
                                                        refine yStep ha 158 KR ?_; intro l_ ha HK
                                                        refine stepp ha 158 (.int .i64 (Int.tmod a0.f0 32)) KR KR ?_; intro ax hax; exact HK _ _ _ hax rfl (Below.refl _ _)
                                                      · skip
                                                        intro a wr hn hd HW hs; have ha := hasNil hn hd
                                                        have ha := ha.add (seeF hs 155 0 (.string ((strOfNums ([IntKind.wrap .u8 x2795] : List Int)) ++ (strOfNums (List.replicate (IntKind.wrap .i64 (t2836 - 1) : Int).toNat (0 : Int))))) KR KR)
                                                        have ha := ha.add (seeF hs 158 3 (.int .i64 (Int.tmod a0.f0 32)) KR KR)
                                                        refine yStep ha 159 KR ?_; intro l_ ha HK
                                                        refine stepc ha 159 KR KR (headgateref15_put.calls K ((strOfNums ([IntKind.wrap .u8 x2795] : List Int)) ++ (strOfNums (List.replicate (IntKind.wrap .i64 (t2836 - 1) : Int).toNat (0 : Int)))) 1 (Int.tmod a0.f0 32) 1 t2986 _ ht2987) ?_; rintro e W2988 ⟨rfl, HX2989⟩
                                                        refine ⟨_, rfl, ?_⟩; intro ax hax; exact HK _ _ _ hax rfl HX2989.below
                                                      · skip
                                                        intro a wr hn hd HW hs; have ha := hasNil hn hd
                                                        have ha := ha.add (seeE hs 1 (.pointer (some ⟨b2786, 0, none⟩)) KR KR)
                                                        refine yStep ha 160 KR ?_; intro l_ ha HK
                                                        refine stepp ha 160 (.pointer (some ⟨b2786, 5, none⟩)) KR KR ?_; intro ax hax; exact HK _ _ _ hax rfl (Below.refl _ _)
                                                      · skip
                                                        intro a wr hn hd HW hs; have ha := hasNil hn hd
                                                        have ha := ha.add (seeF hs 160 5 (.pointer (some ⟨b2786, 5, none⟩)) KR KR)
                                                        refine yStep ha 161 KR ?_; intro l_ ha HK
                                                        refine stepl ha 161 (HW.ca (i := 0) (b := b2786) (C := #[.int .i64 a0.f0, .int .i64 a0.f1, .int .i64 a0.f2, .bool a0.f3, .int .i64 a0.f4, .int .i64 a0.f5, .int .i64 a0.f6]) (T := 43) (fr := (0, 0)) KR) 3 5 (.tmp 160) (.int .i64 a0.f5) rfl KR KR KR ?_; intro ax hax; exact HK _ _ _ hax rfl (Below.refl _ _)
                                                      · skip
                                                        intro a wr hn hd HW hs; have ha := hasNil hn hd
                                                        have ha := ha.add (seeF hs 159 4 (.string t2986) KR KR)
                                                        have ha := ha.add (seeF hs 161 6 (.int .i64 a0.f5) KR KR)
                                                        refine yStep ha 162 KR ?_; intro l_ ha HK
                                                        refine stepc ha 162 KR KR (headgateref15_put.calls K t2986 7 a0.f5 2 t2990 _ ht2991) ?_; rintro e W2992 ⟨rfl, HX2993⟩
                                                        refine ⟨_, rfl, ?_⟩; intro ax hax; exact HK _ _ _ hax rfl HX2993.below
                                                    · skip
                                                      intro a W2994 ha HW he hf
                                                      replace ha := ha.add (he 1 (.pointer (some ⟨b2786, 0, none⟩)) KR KR)
                                                      replace ha := ha.add (gotF (m := 8) (j := 7) (d := 162) (v := .string t2990) hf KR KR KR)
                                                      clear he hf
                                                      refine stepp ha 6 (.string t2990) KR KR ?_; clear ha a; intro a ha
                                                      refine endl ?_
                                                      refine blkN ?_
                                                      exact thenN ⟨t2990, h, ha.sub (subs_cons KR (subs_cons KR (subs_nil _))), HW.pick [0] [] (by decide) (by decide) KR KR⟩
                                                  · skip
                                                    replace h := ite_neg' h hp2985
                                                    refine condF ha KR KR (t := (x2795 == 94)) (ieq_f hp2985) ?_
                                                    refine wp_seq_k (fun K2995 hK2996 => ?_)
                                                    refine wp_region_lit ?_
                                                    refine stepp ha 164 (.bool (x2795 == 95)) KR KR ?_; clear ha a; intro a ha
                                                    refine stepp ha 163 (.bool (x2795 == 95)) KR KR ?_; clear ha a; intro a ha
                                                    refine endl ?_
                                                    refine thenN (hK2996 _ _ ?_); clear hK2996
                                                    by_cases hp2997 : x2795 = 95
                                                    · skip
                                                      replace h := ite_pos' h hp2997
                                                      refine condT ha KR KR (t := (x2795 == 95)) (ieq_t hp2997) ?_
                                                      obtain ⟨t2998, ht2999, h_⟩ := bind_some' h; clear h; have h := h_; clear h_
                                                      obtain ⟨t3002, ht3003, h_⟩ := bind_some' h; clear h; have h := h_; clear h_
                                                      obtain ⟨t3006, ht3007, h_⟩ := bind_some' h; clear h; have h := h_; clear h_
                                                      obtain ⟨t3010, ht3011, h_⟩ := bind_some' h; clear h; have h := h_; clear h_
                                                      refine regionG 12 KR KR ha HW [.fix (.string ((strOfNums ([IntKind.wrap .u8 x2795] : List Int)) ++ (strOfNums (List.replicate (IntKind.wrap .i64 (t2836 - 1) : Int).toNat (0 : Int))))), .fix (.pointer (some ⟨b2786, 0, none⟩)), .fix (.int .i64 a0.f0), .fix (.int .i64 (Int.tmod a0.f0 32)), .fix (.string t2998), .fix (.pointer (some ⟨b2786, 6, none⟩)), .fix (.int .i64 a0.f6), .fix (.int .i64 t3002), .fix (.string t3006), .fix (.pointer (some ⟨b2786, 5, none⟩)), .fix (.int .i64 a0.f5), .fix (.string t3010)] ?_ ?_
                                                      · skip
                                                        refine ⟨?_, ?_, ?_, ?_, ?_, ?_, ?_, ?_, ?_, ?_, ?_, ?_, trivial⟩
                                                        · skip
                                                          intro a wr hn hd HW hs; have ha := hasNil hn hd
                                                          have ha := ha.add (seeE hs 6 (.string ((strOfNums ([IntKind.wrap .u8 x2795] : List Int)) ++ (strOfNums (List.replicate (IntKind.wrap .i64 (t2836 - 1) : Int).toNat (0 : Int))))) KR KR)
                                                          refine yStep ha 165 KR ?_; intro l_ ha HK
                                                          refine stepp ha 165 (.string ((strOfNums ([IntKind.wrap .u8 x2795] : List Int)) ++ (strOfNums (List.replicate (IntKind.wrap .i64 (t2836 - 1) : Int).toNat (0 : Int))))) KR KR ?_; intro ax hax; exact HK _ _ _ hax rfl (Below.refl _ _)
                                                        · skip
                                                          intro a wr hn hd HW hs; have ha := hasNil hn hd
                                                          have ha := ha.add (seeE hs 1 (.pointer (some ⟨b2786, 0, none⟩)) KR KR)
                                                          refine yStep ha 166 KR ?_; intro l_ ha HK
                                                          refine stepp ha 166 (.pointer (some ⟨b2786, 0, none⟩)) KR KR ?_; intro ax hax; exact HK _ _ _ hax rfl (Below.refl _ _)
                                                        · skip
                                                          intro a wr hn hd HW hs; have ha := hasNil hn hd
                                                          have ha := ha.add (seeF hs 166 1 (.pointer (some ⟨b2786, 0, none⟩)) KR KR)
                                                          refine yStep ha 167 KR ?_; intro l_ ha HK
                                                          refine stepl ha 167 (HW.ca (i := 0) (b := b2786) (C := #[.int .i64 a0.f0, .int .i64 a0.f1, .int .i64 a0.f2, .bool a0.f3, .int .i64 a0.f4, .int .i64 a0.f5, .int .i64 a0.f6]) (T := 43) (fr := (0, 0)) KR) 3 0 (.tmp 166) (.int .i64 a0.f0) rfl KR KR KR ?_; intro ax hax; exact HK _ _ _ hax rfl (Below.refl _ _)
                                                        · skip
                                                          intro a wr hn hd HW hs; have ha := hasNil hn hd
                                                          have ha := ha.add (seeF hs 167 2 (.int .i64 a0.f0) KR KR)
                                                          refine yStep ha 168 KR ?_; intro l_ ha HK
                                                          refine stepp ha 168 (.int .i64 (Int.tmod a0.f0 32)) KR KR ?_; intro ax hax; exact HK _ _ _ hax rfl (Below.refl _ _)
                                                        · skip
                                                          intro a wr hn hd HW hs; have ha := hasNil hn hd
                                                          have ha := ha.add (seeF hs 165 0 (.string ((strOfNums ([IntKind.wrap .u8 x2795] : List Int)) ++ (strOfNums (List.replicate (IntKind.wrap .i64 (t2836 - 1) : Int).toNat (0 : Int))))) KR KR)
                                                          have ha := ha.add (seeF hs 168 3 (.int .i64 (Int.tmod a0.f0 32)) KR KR)
                                                          refine yStep ha 169 KR ?_; intro l_ ha HK
                                                          refine stepc ha 169 KR KR (headgateref15_put.calls K ((strOfNums ([IntKind.wrap .u8 x2795] : List Int)) ++ (strOfNums (List.replicate (IntKind.wrap .i64 (t2836 - 1) : Int).toNat (0 : Int)))) 1 (Int.tmod a0.f0 32) 1 t2998 _ ht2999) ?_; rintro e W3000 ⟨rfl, HX3001⟩
                                                          refine ⟨_, rfl, ?_⟩; intro ax hax; exact HK _ _ _ hax rfl HX3001.below
                                                        · skip
                                                          intro a wr hn hd HW hs; have ha := hasNil hn hd
                                                          have ha := ha.add (seeE hs 1 (.pointer (some ⟨b2786, 0, none⟩)) KR KR)
                                                          refine yStep ha 170 KR ?_; intro l_ ha HK
                                                          refine stepp ha 170 (.pointer (some ⟨b2786, 6, none⟩)) KR KR ?_; intro ax hax; exact HK _ _ _ hax rfl (Below.refl _ _)
                                                        · skip
                                                          intro a wr hn hd HW hs; have ha := hasNil hn hd
                                                          have ha := ha.add (seeF hs 170 5 (.pointer (some ⟨b2786, 6, none⟩)) KR KR)
                                                          refine yStep ha 171 KR ?_; intro l_ ha HK
                                                          refine stepl ha 171 (HW.ca (i := 0) (b := b2786) (C := #[.int .i64 a0.f0, .int .i64 a0.f1, .int .i64 a0.f2, .bool a0.f3, .int .i64 a0.f4, .int .i64 a0.f5, .int .i64 a0.f6]) (T := 43) (fr := (0, 0)) KR) 3 6 (.tmp 170) (.int .i64 a0.f6) rfl KR KR KR ?_; intro ax hax; exact HK _ _ _ hax rfl (Below.refl _ _)
                                                        · skip
                                                          intro a wr hn hd HW hs; have ha := hasNil hn hd
                                                          have ha := ha.add (seeF hs 171 6 (.int .i64 a0.f6) KR KR)
                                                          refine yStep ha 172 KR ?_; intro l_ ha HK
                                                          refine stepc ha 172 KR KR (headgateref15_Number.calls K a0.f6 t3002 _ ht3003) ?_; rintro e W3004 ⟨rfl, HX3005⟩
                                                          refine ⟨_, rfl, ?_⟩; intro ax hax; exact HK _ _ _ hax rfl HX3005.below
                                                        · skip
                                                          intro a wr hn hd HW hs; have ha := hasNil hn hd
                                                          have ha := ha.add (seeF hs 169 4 (.string t2998) KR KR)
                                                          have ha := ha.add (seeF hs 172 7 (.int .i64 t3002) KR KR)
                                                          refine yStep ha 173 KR ?_; intro l_ ha HK
                                                          refine stepc ha 173 KR KR (headgateref15_put.calls K t2998 2 t3002 1 t3006 _ ht3007) ?_; rintro e W3008 ⟨rfl, HX3009⟩
                                                          refine ⟨_, rfl, ?_⟩; intro ax hax; exact HK _ _ _ hax rfl HX3009.below
                                                        · skip
                                                          intro a wr hn hd HW hs; have ha := hasNil hn hd
                                                          have ha := ha.add (seeE hs 1 (.pointer (some ⟨b2786, 0, none⟩)) KR KR)
                                                          refine yStep ha 174 KR ?_; intro l_ ha HK
                                                          refine stepp ha 174 (.pointer (some ⟨b2786, 5, none⟩)) KR KR ?_; intro ax hax; exact HK _ _ _ hax rfl (Below.refl _ _)
                                                        · skip
                                                          intro a wr hn hd HW hs; have ha := hasNil hn hd
                                                          have ha := ha.add (seeF hs 174 9 (.pointer (some ⟨b2786, 5, none⟩)) KR KR)
                                                          refine yStep ha 175 KR ?_; intro l_ ha HK
                                                          refine stepl ha 175 (HW.ca (i := 0) (b := b2786) (C := #[.int .i64 a0.f0, .int .i64 a0.f1, .int .i64 a0.f2, .bool a0.f3, .int .i64 a0.f4, .int .i64 a0.f5, .int .i64 a0.f6]) (T := 43) (fr := (0, 0)) KR) 3 5 (.tmp 174) (.int .i64 a0.f5) rfl KR KR KR ?_; intro ax hax; exact HK _ _ _ hax rfl (Below.refl _ _)
                                                        · skip
                                                          intro a wr hn hd HW hs; have ha := hasNil hn hd
                                                          have ha := ha.add (seeF hs 173 8 (.string t3006) KR KR)
                                                          have ha := ha.add (seeF hs 175 10 (.int .i64 a0.f5) KR KR)
                                                          refine yStep ha 176 KR ?_; intro l_ ha HK
                                                          refine stepc ha 176 KR KR (headgateref15_put.calls K t3006 5 a0.f5 4 t3010 _ ht3011) ?_; rintro e W3012 ⟨rfl, HX3013⟩
                                                          refine ⟨_, rfl, ?_⟩; intro ax hax; exact HK _ _ _ hax rfl HX3013.below
                                                      · skip
                                                        intro a W3014 ha HW he hf
                                                        replace ha := ha.add (he 1 (.pointer (some ⟨b2786, 0, none⟩)) KR KR)
                                                        replace ha := ha.add (gotF (m := 12) (j := 11) (d := 176) (v := .string t3010) hf KR KR KR)
                                                        clear he hf
                                                        refine stepp ha 6 (.string t3010) KR KR ?_; clear ha a; intro a ha
                                                        refine endl ?_
                                                        refine blkN ?_
                                                        exact thenN ⟨t3010, h, ha.sub (subs_cons KR (subs_cons KR (subs_nil _))), HW.pick [0] [] (by decide) (by decide) KR KR⟩
                                                    · skip
                                                      replace h := ite_neg' h hp2997
                                                      refine condF ha KR KR (t := (x2795 == 95)) (ieq_f hp2997) ?_
                                                      refine wp_skip ?_
                                                      refine blkN ?_
                                                      exact thenN ⟨(strOfNums ([IntKind.wrap .u8 x2795] : List Int)) ++ (strOfNums (List.replicate (IntKind.wrap .i64 (t2836 - 1) : Int).toNat (0 : Int))), h, ha.sub (subs_cons KR (subs_cons KR (subs_nil _))), HW.pick [0] [] (by decide) (by decide) KR KR⟩
                              · skip
                                intro a W3016 hJ
                                obtain ⟨x3015, h, ha, HW⟩ := hJ
                                replace h : headgateref15_Build.j5 K a0 x3015 = some r := h
                                unfold headgateref15_Build.j5 at h
                                refine hK2873 _ _ ?_; clear hK2873
                                refine wp_seq_k (fun K3017 hK3018 => ?_)
                                refine wp_region_lit ?_
                                refine stepp ha 178 (.string x3015) KR KR ?_; clear ha a; intro a ha
                                obtain ⟨t3019, ht3020, h_⟩ := bind_some' h; clear h; have h := h_; clear h_
                                refine stepc ha 179 KR KR (headgateref15_Parse.calls K x3015 t3019 _ ht3020) ?_; clear ha a; rintro e W3021 ⟨rfl, HX3022⟩
                                refine ⟨_, rfl, ?_⟩; intro a ha; replace HW := HW.callw HX3022; clear HX3022
                                refine stepp ha 177 (.tuple #[.agg #[.int .i64 t3019.1.f0, .int .i64 t3019.1.f1, .int .i64 t3019.1.f2, .bool t3019.1.f3, .int .i64 t3019.1.f4, .int .i64 t3019.1.f5, .int .i64 t3019.1.f6], .int .i64 t3019.2]) KR KR ?_; clear ha a; intro a ha
                                refine stepp ha 180 (.agg #[.int .i64 t3019.1.f0, .int .i64 t3019.1.f1, .int .i64 t3019.1.f2, .bool t3019.1.f3, .int .i64 t3019.1.f4, .int .i64 t3019.1.f5, .int .i64 t3019.1.f6]) KR KR ?_; clear ha a; intro a ha
                                refine stepp ha 181 (.int .i64 t3019.2) KR KR ?_; clear ha a; intro a ha
                                refine stepnew ha HW 8 #[.int .i64 0, .int .i64 0, .int .i64 0, .bool false, .int .i64 0, .int .i64 0, .int .i64 0] 43 KR KR ?_; clear ha HW a; intro b3023 a W3024 HW ha
                                refine stepst ha HW 0 (b := b3023) (C := #[.int .i64 0, .int .i64 0, .int .i64 0, .bool false, .int .i64 0, .int .i64 0, .int .i64 0]) (T := 43) KR 43 0 (.tmp 8) (.tmp 180) (.agg #[.int .i64 t3019.1.f0, .int .i64 t3019.1.f1, .int .i64 t3019.1.f2, .bool t3019.1.f3, .int .i64 t3019.1.f4, .int .i64 t3019.1.f5, .int .i64 t3019.1.f6]) #[.int .i64 t3019.1.f0, .int .i64 t3019.1.f1, .int .i64 t3019.1.f2, .bool t3019.1.f3, .int .i64 t3019.1.f4, .int .i64 t3019.1.f5, .int .i64 t3019.1.f6] rfl KR KR KR KR KR KR KR ?_; clear ha HW a; intro a W3025 HW ha
                                refine stepp ha 9 (.int .i64 t3019.2) KR KR ?_; clear ha a; intro a ha
                                refine endl ?_
                                refine thenN (hK3018 _ _ ?_); clear hK3018
                                refine wp_seq_k (fun K3026 hK3027 => ?_)
                                refine wp_seq_k (fun K3028 hK3029 => ?_)
                                refine wp_region_lit ?_
                                refine stepp ha 182 (.int .i64 t3019.2) KR KR ?_; clear ha a; intro a ha
                                refine stepp ha 183 (.bool (t3019.2 != 0)) KR KR ?_; clear ha a; intro a ha
                                refine stepp ha 184 (.bool (t3019.2 != 0)) KR KR ?_; clear ha a; intro a ha
                                by_cases hp3030 : t3019.2 = 0
                                · skip
                                  replace h := ite_pos' h hp3030
                                  replace ha := ha.bool 184 KR (ineq_f hp3030)
                                  refine stepl ha 185 (HW.ca (i := 1) (b := b2786) (C := #[.int .i64 a0.f0, .int .i64 a0.f1, .int .i64 a0.f2, .bool a0.f3, .int .i64 a0.f4, .int .i64 a0.f5, .int .i64 a0.f6]) (T := 43) (fr := (0, 0)) KR) 43 0 (.tmp 1) (.agg #[.int .i64 a0.f0, .int .i64 a0.f1, .int .i64 a0.f2, .bool a0.f3, .int .i64 a0.f4, .int .i64 a0.f5, .int .i64 a0.f6]) rfl KR KR KR ?_; clear ha a; intro a ha
                                  refine stepl ha 186 (HW.ca (i := 0) (b := b3023) (C := #[.int .i64 t3019.1.f0, .int .i64 t3019.1.f1, .int .i64 t3019.1.f2, .bool t3019.1.f3, .int .i64 t3019.1.f4, .int .i64 t3019.1.f5, .int .i64 t3019.1.f6]) (T := 43) (fr := (0, 0)) KR) 43 0 (.tmp 8) (.agg #[.int .i64 t3019.1.f0, .int .i64 t3019.1.f1, .int .i64 t3019.1.f2, .bool t3019.1.f3, .int .i64 t3019.1.f4, .int .i64 t3019.1.f5, .int .i64 t3019.1.f6]) rfl KR KR KR ?_; clear ha a; intro a ha
                                  obtain ⟨t3031, ht3032, h_⟩ := bind_some' h; clear h; have h := h_; clear h_
                                  refine stepc ha 187 KR KR (headgateref15_Same.calls a0 (⟨t3019.1.f0, t3019.1.f1, t3019.1.f2, t3019.1.f3, t3019.1.f4, t3019.1.f5, t3019.1.f6⟩ : T_headgateref15_Ask) t3031 _ ht3032) ?_; clear ha a; rintro e W3033 ⟨rfl, HX3034⟩
                                  refine ⟨_, rfl, ?_⟩; intro a ha; replace HW := HW.callw HX3034; clear HX3034
                                  refine stepp ha 188 (.bool (!t3031)) KR KR ?_; clear ha a; intro a ha
                                  refine stepp ha 189 (.bool (!t3031)) KR KR ?_; clear ha a; intro a ha
                                  refine endl ?_
                                  refine thenN (hK3029 _ _ ?_); clear hK3029
                                  by_cases hp3035 : t3031 = true
                                  · skip
                                    replace h := ite_pos' h hp3035
                                    refine condF ha KR KR (t := (!t3031)) (not_f (hp3035)) ?_
                                    refine wp_skip ?_
                                    refine thenN (hK3027 _ _ ?_); clear hK3027
                                    refine wp_seq_k (fun K3040 hK3041 => ?_)
                                    refine wp_region_lit ?_
                                    refine stepp ha 190 (.string x3015) KR KR ?_; clear ha a; intro a ha
                                    refine stepp ha 2 (.string x3015) KR KR ?_; clear ha a; intro a ha
                                    refine stepp ha 3 (.int .i64 0) KR KR ?_; clear ha a; intro a ha
                                    refine endl ?_
                                    refine thenN (hK3041 _ _ ?_); clear hK3041
                                    refine wp_ret ?_
                                    obtain rfl := Option.some.inj h
                                    exact finv ha _ _ rfl (.tmp (v := .string x3015) KR (.tmp (v := .int .i64 0) KR .nil)) (.tuple #[.string x3015, .int .i64 0]) rfl ⟨rfl, HW.pick [] [] (by decide) (by decide) rfl KR⟩
                                  · skip
                                    replace h := ite_neg' h hp3035
                                    refine condT ha KR KR (t := (!t3031)) (not_t (bool_f hp3035)) ?_
                                    refine wp_seq_k (fun K3036 hK3037 => ?_)
                                    refine wp_region_lit ?_
                                    refine stepp ha 2 (.string (⟨#[]⟩ : ByteArray)) KR KR ?_; clear ha a; intro a ha
                                    refine stepp ha 3 (.int .i64 150) KR KR ?_; clear ha a; intro a ha
                                    refine endl ?_
                                    refine thenN (hK3037 _ _ ?_); clear hK3037
                                    refine wp_ret ?_
                                    refine thenR ?_
                                    obtain rfl := Option.some.inj h
                                    exact finv ha _ _ rfl (.tmp (v := .string (⟨#[]⟩ : ByteArray)) KR (.tmp (v := .int .i64 150) KR .nil)) (.tuple #[.string (⟨#[]⟩ : ByteArray), .int .i64 150]) rfl ⟨rfl, HW.pick [] [] (by decide) (by decide) rfl KR⟩
                                · skip
                                  replace h := ite_neg' h hp3030
                                  replace ha := ha.bool 184 KR (ineq_t hp3030)
                                  refine stepo ha 185 KR ?_; clear ha a; intro a ha
                                  refine stepo ha 186 KR ?_; clear ha a; intro a ha
                                  refine stepo ha 187 KR ?_; clear ha a; intro a ha
                                  refine stepo ha 188 KR ?_; clear ha a; intro a ha
                                  refine stepp ha 189 (.bool true) KR KR ?_; clear ha a; intro a ha
                                  refine endl ?_
                                  refine thenN (hK3029 _ _ ?_); clear hK3029
                                  refine condT ha KR KR (t := true) (rfl) ?_
                                  refine wp_seq_k (fun K3038 hK3039 => ?_)
                                  refine wp_region_lit ?_
                                  refine stepp ha 2 (.string (⟨#[]⟩ : ByteArray)) KR KR ?_; clear ha a; intro a ha
                                  refine stepp ha 3 (.int .i64 150) KR KR ?_; clear ha a; intro a ha
                                  refine endl ?_
                                  refine thenN (hK3039 _ _ ?_); clear hK3039
                                  refine wp_ret ?_
                                  refine thenR ?_
                                  obtain rfl := Option.some.inj h
                                  exact finv ha _ _ rfl (.tmp (v := .string (⟨#[]⟩ : ByteArray)) KR (.tmp (v := .int .i64 150) KR .nil)) (.tuple #[.string (⟨#[]⟩ : ByteArray), .int .i64 150]) rfl ⟨rfl, HW.pick [] [] (by decide) (by decide) rfl KR⟩
end Go.Proofs.YtpjcipadjegmlaaDoor.F
