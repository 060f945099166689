/- headgate/headgatelaw17.InquiryReads: plain functions, and that the calls come to what they say. No condition. -/
import Derived.Test.YtccmdlbdpapigaaFT
import Derived.Test.YtccmdlbdpapigaaF13
import Derived.Test.YtccmdlbdpapigaaF22
namespace Go.Proofs.Ytccmdlbdpapigaa.F
open Go Go.RowKit Go.Proofs.Ytccmdlbdpapigaa.X
set_option linter.unusedVariables false
set_option linter.unusedSimpArgs false
/-! ### headgate/headgatelaw17.InquiryReads: function 5 -/
def headgatelaw17_InquiryReads.b0 (K : Nat) (a1 : Int) (t1093 : ByteArray) (again1193 : Int → Option Bool) (x1194 : Int) : Option Bool :=
  if x1194 < (IntKind.wrap .i64 a1) then (asrt (0 ≤ (IntKind.wrap .i64 ((IntKind.wrap .i64 (8 + (IntKind.wrap .i64 (8 * x1194)))) + 1))) (asrt ((IntKind.wrap .i64 ((IntKind.wrap .i64 (8 + (IntKind.wrap .i64 (8 * x1194)))) + 1)) < (t1093.size : Int)) (if (IntKind.wrap .i64 (bt t1093 (IntKind.wrap .i64 ((IntKind.wrap .i64 (8 + (IntKind.wrap .i64 (8 * x1194)))) + 1)))) = x1194 then (asrt (0 ≤ (IntKind.wrap .i64 (8 + (IntKind.wrap .i64 (8 * x1194))))) (asrt ((IntKind.wrap .i64 (8 + (IntKind.wrap .i64 (8 * x1194)))) < (t1093.size : Int)) (if (bt t1093 (IntKind.wrap .i64 (8 + (IntKind.wrap .i64 (8 * x1194))))) = 0 then (again1193 (IntKind.wrap .i64 (x1194 + 1))) else (some false)))) else (some false)))) else ((headgatelaw17_wakes.f K).bind fun t1219 => (some t1219))
def headgatelaw17_InquiryReads.l0 (K : Nat) (a1 : Int) (t1093 : ByteArray) : Nat → Int → Option Bool
  | 0, _ => none
  | k_ + 1, x1194 => headgatelaw17_InquiryReads.b0 K a1 t1093 (headgatelaw17_InquiryReads.l0 K a1 t1093 k_) x1194
def headgatelaw17_InquiryReads.f (K : Nat) (a0 : T_api_Unit) (a1 : Int) : Option Bool :=
  if (a0.f1.size : Int) = 16 then ((inquiry_Page.f K a0 true 256).bind fun t1075 => ((inquiry_Page.f K a0 true 387).bind fun t1081 => ((inquiry_Page.f K a0 true 432).bind fun t1087 => ((inquiry_List.f K (IntKind.wrap .i64 a1)).bind fun t1093 => (if (t1075.1.size : Int) < 4 then (some false) else (if (t1081.1.size : Int) < 8 then (some false) else (if (t1087.1.size : Int) < 4 then (some false) else (if t1075.2 = 0 then (if t1081.2 = 0 then (if t1087.2 = 0 then (asrt (3 < (t1075.1.size : Int)) (if (t1075.1.size : Int) = (IntKind.wrap .i64 (4 + (IntKind.wrap .i64 (bt t1075.1 3)))) then (asrt (3 < (t1081.1.size : Int)) (if (t1081.1.size : Int) = (IntKind.wrap .i64 (4 + (IntKind.wrap .i64 (bt t1081.1 3)))) then (asrt (3 < (t1087.1.size : Int)) (if (t1087.1.size : Int) = (IntKind.wrap .i64 (4 + (IntKind.wrap .i64 (bt t1087.1 3)))) then (asrt (8 ≤ (t1081.1.size : Int)) (if (t1081.1.extract (8 : Int).toNat (t1081.1).size) = a0.f1 then (if (t1093.size : Int) = (IntKind.wrap .i64 (8 + (IntKind.wrap .i64 (8 * (IntKind.wrap .i64 a1))))) then (headgatelaw17_InquiryReads.l0 K a1 t1093 K 0) else (some false)) else (some false))) else (some false))) else (some false))) else (some false))) else (some false)) else (some false)) else (some false))))))))) else ((headgatelaw17_wakes.f K).bind fun t1069 => (some t1069))
set_option maxRecDepth 100000 in
set_option maxHeartbeats 4000000 in
theorem headgatelaw17_InquiryReads.calls (K : Nat) (a0 : T_api_Unit) (a1 : Int)  (r : Bool) (w : World)  (h : headgatelaw17_InquiryReads.f K a0 a1 = some r) :
    Calls Try.prog 5 #[.agg #[.int .i64 a0.f0, .string a0.f1], .int .u8 a1] w (fun e W' => e = .returned (.bool r) ∧ Wd w W' [] [] ) := by
  refine sxstart (n := 126) (l := [(0, .agg #[.int .i64 a0.f0, .string a0.f1]), (1, .int .u8 a1)]) Try.func5 rfl rfl (Nat.le_of_ble_eq_true KR) (subsA_cons rfl (subsA_cons rfl (subsA_nil _))) ?_
  intro a ha
  have HW := Wd.refl w
  unfold headgatelaw17_InquiryReads.f at h
  refine wp_seq_k (fun K1058 hK1059 => ?_)
  refine wp_region_lit ?_
  refine stepnew ha HW 2 #[.int .i64 a0.f0, .string a0.f1] 23 KR KR ?_; clear ha HW a; intro b1060 a W1061 HW ha
  refine stepp ha 4 (.bool false) KR KR ?_; clear ha a; intro a ha
  refine endl ?_
  refine thenN (hK1059 _ _ ?_); clear hK1059
  refine wp_seq_k (fun K1062 hK1063 => ?_)
  refine wp_seq_k (fun K1064 hK1065 => ?_)
  refine wp_region_lit ?_
  refine stepp ha 13 (.pointer (some ⟨b1060, 1, none⟩)) KR KR ?_; clear ha a; intro a ha
  refine stepl ha 14 (HW.ca (i := 0) (b := b1060) (C := #[.int .i64 a0.f0, .string a0.f1]) (T := 23) (fr := (0, 0)) KR) 9 1 (.tmp 13) (.string a0.f1) rfl KR KR KR ?_; clear ha a; intro a ha
  refine stepp ha 15 (.int .i64 (a0.f1.size : Int)) KR KR ?_; clear ha a; intro a ha
  refine stepp ha 16 (.bool ((a0.f1.size : Int) != 16)) KR KR ?_; clear ha a; intro a ha
  refine endl ?_
  refine thenN (hK1065 _ _ ?_); clear hK1065
  by_cases hp1066 : (a0.f1.size : Int) = 16
  · skip
    replace h := ite_pos' h hp1066
    refine condF ha KR KR (t := ((a0.f1.size : Int) != 16)) (ineq_f hp1066) ?_
    refine wp_skip ?_
    refine thenN (hK1063 _ _ ?_); clear hK1063
    refine wp_seq_k (fun K1073 hK1074 => ?_)
    refine wp_region_lit ?_
    refine stepl ha 19 (HW.ca (i := 0) (b := b1060) (C := #[.int .i64 a0.f0, .string a0.f1]) (T := 23) (fr := (0, 0)) KR) 23 0 (.tmp 2) (.agg #[.int .i64 a0.f0, .string a0.f1]) rfl KR KR KR ?_; clear ha a; intro a ha
    obtain ⟨t1075, ht1076, h_⟩ := bind_some' h; clear h; have h := h_; clear h_
    refine stepc ha 20 KR KR (inquiry_Page.calls K a0 true 256 t1075 _ ht1076) ?_; clear ha a; rintro e W1077 ⟨rfl, HX1078⟩
    refine ⟨_, rfl, ?_⟩; intro a ha; replace HW := HW.callw HX1078; clear HX1078
    refine stepp ha 18 (.tuple #[.string t1075.1, .int .i64 t1075.2]) KR KR ?_; clear ha a; intro a ha
    refine stepp ha 21 (.string t1075.1) KR KR ?_; clear ha a; intro a ha
    refine stepp ha 22 (.int .i64 t1075.2) KR KR ?_; clear ha a; intro a ha
    refine stepp ha 5 (.string t1075.1) KR KR ?_; clear ha a; intro a ha
    refine stepp ha 6 (.int .i64 t1075.2) KR KR ?_; clear ha a; intro a ha
    refine endl ?_
    refine thenN (hK1074 _ _ ?_); clear hK1074
    refine wp_seq_k (fun K1079 hK1080 => ?_)
    refine wp_region_lit ?_
    refine stepl ha 24 (HW.ca (i := 0) (b := b1060) (C := #[.int .i64 a0.f0, .string a0.f1]) (T := 23) (fr := (0, 0)) KR) 23 0 (.tmp 2) (.agg #[.int .i64 a0.f0, .string a0.f1]) rfl KR KR KR ?_; clear ha a; intro a ha
    obtain ⟨t1081, ht1082, h_⟩ := bind_some' h; clear h; have h := h_; clear h_
    refine stepc ha 25 KR KR (inquiry_Page.calls K a0 true 387 t1081 _ ht1082) ?_; clear ha a; rintro e W1083 ⟨rfl, HX1084⟩
    refine ⟨_, rfl, ?_⟩; intro a ha; replace HW := HW.callw HX1084; clear HX1084
    refine stepp ha 23 (.tuple #[.string t1081.1, .int .i64 t1081.2]) KR KR ?_; clear ha a; intro a ha
    refine stepp ha 26 (.string t1081.1) KR KR ?_; clear ha a; intro a ha
    refine stepp ha 27 (.int .i64 t1081.2) KR KR ?_; clear ha a; intro a ha
    refine stepp ha 7 (.string t1081.1) KR KR ?_; clear ha a; intro a ha
    refine stepp ha 8 (.int .i64 t1081.2) KR KR ?_; clear ha a; intro a ha
    refine endl ?_
    refine thenN (hK1080 _ _ ?_); clear hK1080
    refine wp_seq_k (fun K1085 hK1086 => ?_)
    refine wp_region_lit ?_
    refine stepl ha 29 (HW.ca (i := 0) (b := b1060) (C := #[.int .i64 a0.f0, .string a0.f1]) (T := 23) (fr := (0, 0)) KR) 23 0 (.tmp 2) (.agg #[.int .i64 a0.f0, .string a0.f1]) rfl KR KR KR ?_; clear ha a; intro a ha
    obtain ⟨t1087, ht1088, h_⟩ := bind_some' h; clear h; have h := h_; clear h_
    refine stepc ha 30 KR KR (inquiry_Page.calls K a0 true 432 t1087 _ ht1088) ?_; clear ha a; rintro e W1089 ⟨rfl, HX1090⟩
    refine ⟨_, rfl, ?_⟩; intro a ha; replace HW := HW.callw HX1090; clear HX1090
    refine stepp ha 28 (.tuple #[.string t1087.1, .int .i64 t1087.2]) KR KR ?_; clear ha a; intro a ha
    refine stepp ha 31 (.string t1087.1) KR KR ?_; clear ha a; intro a ha
    refine stepp ha 32 (.int .i64 t1087.2) KR KR ?_; clear ha a; intro a ha
    refine stepp ha 9 (.string t1087.1) KR KR ?_; clear ha a; intro a ha
    refine stepp ha 10 (.int .i64 t1087.2) KR KR ?_; clear ha a; intro a ha
    refine endl ?_
    refine thenN (hK1086 _ _ ?_); clear hK1086
    refine wp_seq_k (fun K1091 hK1092 => ?_)
    refine wp_region_lit ?_
    refine stepp ha 33 (.int .u8 a1) KR KR ?_; clear ha a; intro a ha
    refine stepp ha 34 (.int .i64 (IntKind.wrap .i64 a1)) KR KR ?_; clear ha a; intro a ha
    obtain ⟨t1093, ht1094, h_⟩ := bind_some' h; clear h; have h := h_; clear h_
    refine stepc ha 35 KR KR (inquiry_List.calls K (IntKind.wrap .i64 a1) t1093 _ ht1094) ?_; clear ha a; rintro e W1095 ⟨rfl, HX1096⟩
    refine ⟨_, rfl, ?_⟩; intro a ha; replace HW := HW.callw HX1096; clear HX1096
    refine stepp ha 11 (.string t1093) KR KR ?_; clear ha a; intro a ha
    refine endl ?_
    refine thenN (hK1092 _ _ ?_); clear hK1092
    refine wp_seq_k (fun K1097 hK1098 => ?_)
    refine wp_seq_k (fun K1099 hK1100 => ?_)
    refine wp_region_lit ?_
    refine stepp ha 36 (.string t1075.1) KR KR ?_; clear ha a; intro a ha
    refine stepp ha 37 (.int .i64 (t1075.1.size : Int)) KR KR ?_; clear ha a; intro a ha
    refine stepp ha 38 (.bool (decide ((t1075.1.size : Int) < 4))) KR KR ?_; clear ha a; intro a ha
    refine stepp ha 39 (.bool (decide ((t1075.1.size : Int) < 4))) KR KR ?_; clear ha a; intro a ha
    by_cases hp1101 : (t1075.1.size : Int) < 4
    · skip
      replace h := ite_pos' h hp1101
      replace ha := ha.bool 39 KR (decide_eq_true hp1101)
      refine stepo ha 40 KR ?_; clear ha a; intro a ha
      refine stepo ha 41 KR ?_; clear ha a; intro a ha
      refine stepo ha 42 KR ?_; clear ha a; intro a ha
      refine stepp ha 43 (.bool true) KR KR ?_; clear ha a; intro a ha
      refine stepp ha 44 (.bool true) KR KR ?_; clear ha a; intro a ha
      refine stepo ha 45 KR ?_; clear ha a; intro a ha
      refine stepo ha 46 KR ?_; clear ha a; intro a ha
      refine stepo ha 47 KR ?_; clear ha a; intro a ha
      refine stepp ha 48 (.bool true) KR KR ?_; clear ha a; intro a ha
      refine endl ?_
      refine thenN (hK1100 _ _ ?_); clear hK1100
      refine condT ha KR KR (t := true) (rfl) ?_
      refine wp_seq_k (fun K1103 hK1104 => ?_)
      refine wp_region_lit ?_
      refine stepp ha 4 (.bool false) KR KR ?_; clear ha a; intro a ha
      refine endl ?_
      refine thenN (hK1104 _ _ ?_); clear hK1104
      refine wp_ret ?_
      refine thenR ?_
      obtain rfl := Option.some.inj h
      exact finv ha _ _ rfl (.tmp (v := .bool false) KR .nil) (.bool false) rfl ⟨rfl, HW.pick [] [] (by decide) (by decide) rfl KR⟩
    · skip
      replace h := ite_neg' h hp1101
      replace ha := ha.bool 39 KR (decide_eq_false hp1101)
      refine stepp ha 40 (.string t1081.1) KR KR ?_; clear ha a; intro a ha
      refine stepp ha 41 (.int .i64 (t1081.1.size : Int)) KR KR ?_; clear ha a; intro a ha
      refine stepp ha 42 (.bool (decide ((t1081.1.size : Int) < 8))) KR KR ?_; clear ha a; intro a ha
      refine stepp ha 43 (.bool (decide ((t1081.1.size : Int) < 8))) KR KR ?_; clear ha a; intro a ha
      refine stepp ha 44 (.bool (decide ((t1081.1.size : Int) < 8))) KR KR ?_; clear ha a; intro a ha
      by_cases hp1102 : (t1081.1.size : Int) < 8
      · skip
        replace h := ite_pos' h hp1102
        replace ha := ha.bool 44 KR (decide_eq_true hp1102)
        refine stepo ha 45 KR ?_; clear ha a; intro a ha
        refine stepo ha 46 KR ?_; clear ha a; intro a ha
        refine stepo ha 47 KR ?_; clear ha a; intro a ha
        refine stepp ha 48 (.bool true) KR KR ?_; clear ha a; intro a ha
        refine endl ?_
        refine thenN (hK1100 _ _ ?_); clear hK1100
        refine condT ha KR KR (t := true) (rfl) ?_
        refine wp_seq_k (fun K1105 hK1106 => ?_)
        refine wp_region_lit ?_
        refine stepp ha 4 (.bool false) KR KR ?_; clear ha a; intro a ha
        refine endl ?_
        refine thenN (hK1106 _ _ ?_); clear hK1106
        refine wp_ret ?_
        refine thenR ?_
        obtain rfl := Option.some.inj h
        exact finv ha _ _ rfl (.tmp (v := .bool false) KR .nil) (.bool false) rfl ⟨rfl, HW.pick [] [] (by decide) (by decide) rfl KR⟩
      · skip
        replace h := ite_neg' h hp1102
        replace ha := ha.bool 44 KR (decide_eq_false hp1102)
        refine stepp ha 45 (.string t1087.1) KR KR ?_; clear ha a; intro a ha
        refine stepp ha 46 (.int .i64 (t1087.1.size : Int)) KR KR ?_; clear ha a; intro a ha
        refine stepp ha 47 (.bool (decide ((t1087.1.size : Int) < 4))) KR KR ?_; clear ha a; intro a ha
        refine stepp ha 48 (.bool (decide ((t1087.1.size : Int) < 4))) KR KR ?_; clear ha a; intro a ha
        refine endl ?_
        refine thenN (hK1100 _ _ ?_); clear hK1100
        by_cases hp1107 : (t1087.1.size : Int) < 4
        · skip
          replace h := ite_pos' h hp1107
          refine condT ha KR KR (t := decide ((t1087.1.size : Int) < 4)) (decide_eq_true hp1107) ?_
          refine wp_seq_k (fun K1108 hK1109 => ?_)
          refine wp_region_lit ?_
          refine stepp ha 4 (.bool false) KR KR ?_; clear ha a; intro a ha
          refine endl ?_
          refine thenN (hK1109 _ _ ?_); clear hK1109
          refine wp_ret ?_
          refine thenR ?_
          obtain rfl := Option.some.inj h
          exact finv ha _ _ rfl (.tmp (v := .bool false) KR .nil) (.bool false) rfl ⟨rfl, HW.pick [] [] (by decide) (by decide) rfl KR⟩
        · skip
          replace h := ite_neg' h hp1107
          refine condF ha KR KR (t := decide ((t1087.1.size : Int) < 4)) (decide_eq_false hp1107) ?_
          refine wp_skip ?_
          refine thenN (hK1098 _ _ ?_); clear hK1098
          refine wp_seq_k (fun K1110 hK1111 => ?_)
          refine wp_seq_k (fun K1112 hK1113 => ?_)
          by_cases hp1114 : t1075.2 = 0
          · skip
            replace h := ite_pos' h hp1114
            by_cases hp1115 : t1081.2 = 0
            · skip
              replace h := ite_pos' h hp1115
              by_cases hp1116 : t1087.2 = 0
              · skip
                replace h := ite_pos' h hp1116
                obtain ⟨hA1117, h_⟩ := asrt_some h; clear h; have h := h_; clear h_
                by_cases hp1118 : (t1075.1.size : Int) = (IntKind.wrap .i64 (4 + (IntKind.wrap .i64 (bt t1075.1 3))))
                · skip
                  replace h := ite_pos' h hp1118
                  obtain ⟨hA1119, h_⟩ := asrt_some h; clear h; have h := h_; clear h_
                  by_cases hp1120 : (t1081.1.size : Int) = (IntKind.wrap .i64 (4 + (IntKind.wrap .i64 (bt t1081.1 3))))
                  · skip
                    replace h := ite_pos' h hp1120
                    obtain ⟨hA1121, h_⟩ := asrt_some h; clear h; have h := h_; clear h_
                    by_cases hp1122 : (t1087.1.size : Int) = (IntKind.wrap .i64 (4 + (IntKind.wrap .i64 (bt t1087.1 3))))
                    · skip
                      replace h := ite_pos' h hp1122
                      obtain ⟨hA1123, h_⟩ := asrt_some h; clear h; have h := h_; clear h_
                      by_cases hp1124 : (t1081.1.extract (8 : Int).toNat (t1081.1).size) = a0.f1
                      · skip
                        replace h := ite_pos' h hp1124
                        refine regionG 53 KR KR ha HW [.fix (.int .i64 t1075.2), .fix (.bool (t1075.2 != 0)), .fix (.bool (t1075.2 != 0)), .fix (.int .i64 t1081.2), .fix (.bool (t1081.2 != 0)), .fix (.bool (t1081.2 != 0)), .fix (.bool (t1081.2 != 0)), .fix (.int .i64 t1087.2), .fix (.bool (t1087.2 != 0)), .fix (.bool (t1087.2 != 0)), .fix (.bool (t1087.2 != 0)), .fix (.string t1075.1), .fix (.int .i64 (t1075.1.size : Int)), .fix (.string t1075.1), .fix (.int .u8 (bt t1075.1 3)), .fix (.int .i64 (IntKind.wrap .i64 (bt t1075.1 3))), .fix (.int .i64 (IntKind.wrap .i64 (4 + (IntKind.wrap .i64 (bt t1075.1 3))))), .fix (.bool ((t1075.1.size : Int) != (IntKind.wrap .i64 (4 + (IntKind.wrap .i64 (bt t1075.1 3)))))), .fix (.bool ((t1075.1.size : Int) != (IntKind.wrap .i64 (4 + (IntKind.wrap .i64 (bt t1075.1 3)))))), .fix (.bool ((t1075.1.size : Int) != (IntKind.wrap .i64 (4 + (IntKind.wrap .i64 (bt t1075.1 3)))))), .fix (.string t1081.1), .fix (.int .i64 (t1081.1.size : Int)), .fix (.string t1081.1), .fix (.int .u8 (bt t1081.1 3)), .fix (.int .i64 (IntKind.wrap .i64 (bt t1081.1 3))), .fix (.int .i64 (IntKind.wrap .i64 (4 + (IntKind.wrap .i64 (bt t1081.1 3))))), .fix (.bool ((t1081.1.size : Int) != (IntKind.wrap .i64 (4 + (IntKind.wrap .i64 (bt t1081.1 3)))))), .fix (.bool ((t1081.1.size : Int) != (IntKind.wrap .i64 (4 + (IntKind.wrap .i64 (bt t1081.1 3)))))), .fix (.bool ((t1081.1.size : Int) != (IntKind.wrap .i64 (4 + (IntKind.wrap .i64 (bt t1081.1 3)))))), .fix (.string t1087.1), .fix (.int .i64 (t1087.1.size : Int)), .fix (.string t1087.1), .fix (.int .u8 (bt t1087.1 3)), .fix (.int .i64 (IntKind.wrap .i64 (bt t1087.1 3))), .fix (.int .i64 (IntKind.wrap .i64 (4 + (IntKind.wrap .i64 (bt t1087.1 3))))), .fix (.bool ((t1087.1.size : Int) != (IntKind.wrap .i64 (4 + (IntKind.wrap .i64 (bt t1087.1 3)))))), .fix (.bool ((t1087.1.size : Int) != (IntKind.wrap .i64 (4 + (IntKind.wrap .i64 (bt t1087.1 3)))))), .fix (.bool ((t1087.1.size : Int) != (IntKind.wrap .i64 (4 + (IntKind.wrap .i64 (bt t1087.1 3)))))), .fix (.string t1081.1), .fix (.string (t1081.1.extract (8 : Int).toNat (t1081.1).size)), .fix (.pointer (some ⟨b1060, 1, none⟩)), .fix (.string a0.f1), .fix (.bool (!((t1081.1.extract (8 : Int).toNat (t1081.1).size).toList == a0.f1.toList))), .fix (.bool (!((t1081.1.extract (8 : Int).toNat (t1081.1).size).toList == a0.f1.toList))), .fix (.bool (!((t1081.1.extract (8 : Int).toNat (t1081.1).size).toList == a0.f1.toList))), .fix (.string t1093), .fix (.int .i64 (t1093.size : Int)), .fix (.int .u8 a1), .fix (.int .i64 (IntKind.wrap .i64 a1)), .fix (.int .i64 (IntKind.wrap .i64 (8 * (IntKind.wrap .i64 a1)))), .fix (.int .i64 (IntKind.wrap .i64 (8 + (IntKind.wrap .i64 (8 * (IntKind.wrap .i64 a1)))))), .fix (.bool ((t1093.size : Int) != (IntKind.wrap .i64 (8 + (IntKind.wrap .i64 (8 * (IntKind.wrap .i64 a1))))))), .fix (.bool ((t1093.size : Int) != (IntKind.wrap .i64 (8 + (IntKind.wrap .i64 (8 * (IntKind.wrap .i64 a1)))))))] ?_ ?_
                        · skip
                          refine ⟨?_, ?_, ?_, ?_, ?_, ?_, ?_, ?_, ?_, ?_, ?_, ?_, ?_, ?_, ?_, ?_, ?_, ?_, ?_, ?_, ?_, ?_, ?_, ?_, ?_, ?_, ?_, ?_, ?_, ?_, ?_, ?_, ?_, ?_, ?_, ?_, ?_, ?_, ?_, ?_, ?_, ?_, ?_, ?_, ?_, ?_, ?_, ?_, ?_, ?_, ?_, ?_, ?_, trivial⟩
                          · skip
                            intro a wr hn hd HW hs; have ha := hasNil hn hd
                            have ha := ha.add (seeE hs 6 (.int .i64 t1075.2) KR KR)
                            refine yStep ha 49 KR ?_; intro l_ ha HK
                            refine stepp ha 49 (.int .i64 t1075.2) KR KR ?_; intro ax hax; exact HK _ _ _ hax rfl (Below.refl _ _)
                          · skip
                            intro a wr hn hd HW hs; have ha := hasNil hn hd
                            have ha := ha.add (seeF hs 49 0 (.int .i64 t1075.2) KR KR)
                            refine yStep ha 50 KR ?_; intro l_ ha HK
                            refine stepp ha 50 (.bool (t1075.2 != 0)) KR KR ?_; intro ax hax; exact HK _ _ _ hax rfl (Below.refl _ _)
                          · skip
                            intro a wr hn hd HW hs; have ha := hasNil hn hd
                            have ha := ha.add (seeF hs 50 1 (.bool (t1075.2 != 0)) KR KR)
                            refine yStep ha 51 KR ?_; intro l_ ha HK
                            refine stepp ha 51 (.bool (t1075.2 != 0)) KR KR ?_; intro ax hax; exact HK _ _ _ hax rfl (Below.refl _ _)
                          · skip
                            intro a wr hn hd HW hs; have ha := hasNil hn hd
                            have ha := ha.add (seeE hs 8 (.int .i64 t1081.2) KR KR)
                            have ha := ha.add (seeF hs 51 2 (.bool (t1075.2 != 0)) KR KR)
                            have ha := ha.bool 51 KR (ineq_f hp1114)
                            refine yStep ha 52 KR ?_; intro l_ ha HK
                            refine stepp ha 52 (.int .i64 t1081.2) KR KR ?_; intro ax hax; exact HK _ _ _ hax rfl (Below.refl _ _)
                          · skip
                            intro a wr hn hd HW hs; have ha := hasNil hn hd
                            have ha := ha.add (seeF hs 52 3 (.int .i64 t1081.2) KR KR)
                            have ha := ha.add (seeF hs 51 2 (.bool (t1075.2 != 0)) KR KR)
                            have ha := ha.bool 51 KR (ineq_f hp1114)
                            refine yStep ha 53 KR ?_; intro l_ ha HK
                            refine stepp ha 53 (.bool (t1081.2 != 0)) KR KR ?_; intro ax hax; exact HK _ _ _ hax rfl (Below.refl _ _)
                          · skip
                            intro a wr hn hd HW hs; have ha := hasNil hn hd
                            have ha := ha.add (seeF hs 51 2 (.bool (t1075.2 != 0)) KR KR)
                            have ha := ha.bool 51 KR (ineq_f hp1114)
                            have ha := ha.add (seeF hs 53 4 (.bool (t1081.2 != 0)) KR KR)
                            refine yStep ha 54 KR ?_; intro l_ ha HK
                            refine stepp ha 54 (.bool (t1081.2 != 0)) KR KR ?_; intro ax hax; exact HK _ _ _ hax rfl (Below.refl _ _)
                          · skip
                            intro a wr hn hd HW hs; have ha := hasNil hn hd
                            have ha := ha.add (seeF hs 54 5 (.bool (t1081.2 != 0)) KR KR)
                            refine yStep ha 55 KR ?_; intro l_ ha HK
                            refine stepp ha 55 (.bool (t1081.2 != 0)) KR KR ?_; intro ax hax; exact HK _ _ _ hax rfl (Below.refl _ _)
                          · skip
                            intro a wr hn hd HW hs; have ha := hasNil hn hd
                            have ha := ha.add (seeE hs 10 (.int .i64 t1087.2) KR KR)
                            have ha := ha.add (seeF hs 55 6 (.bool (t1081.2 != 0)) KR KR)
                            have ha := ha.bool 55 KR (ineq_f hp1115)
                            refine yStep ha 56 KR ?_; intro l_ ha HK
                            refine stepp ha 56 (.int .i64 t1087.2) KR KR ?_; intro ax hax; exact HK _ _ _ hax rfl (Below.refl _ _)
                          · skip
                            intro a wr hn hd HW hs; have ha := hasNil hn hd
                            have ha := ha.add (seeF hs 56 7 (.int .i64 t1087.2) KR KR)
                            have ha := ha.add (seeF hs 55 6 (.bool (t1081.2 != 0)) KR KR)
                            have ha := ha.bool 55 KR (ineq_f hp1115)
                            refine yStep ha 57 KR ?_; intro l_ ha HK
                            refine stepp ha 57 (.bool (t1087.2 != 0)) KR KR ?_; intro ax hax; exact HK _ _ _ hax rfl (Below.refl _ _)
                          · skip
                            intro a wr hn hd HW hs; have ha := hasNil hn hd
                            have ha := ha.add (seeF hs 55 6 (.bool (t1081.2 != 0)) KR KR)
                            have ha := ha.bool 55 KR (ineq_f hp1115)
                            have ha := ha.add (seeF hs 57 8 (.bool (t1087.2 != 0)) KR KR)
                            refine yStep ha 58 KR ?_; intro l_ ha HK
                            refine stepp ha 58 (.bool (t1087.2 != 0)) KR KR ?_; intro ax hax; exact HK _ _ _ hax rfl (Below.refl _ _)
                          · skip
                            intro a wr hn hd HW hs; have ha := hasNil hn hd
                            have ha := ha.add (seeF hs 58 9 (.bool (t1087.2 != 0)) KR KR)
                            refine yStep ha 59 KR ?_; intro l_ ha HK
                            refine stepp ha 59 (.bool (t1087.2 != 0)) KR KR ?_; intro ax hax; exact HK _ _ _ hax rfl (Below.refl _ _)
                          · skip
                            intro a wr hn hd HW hs; have ha := hasNil hn hd
                            have ha := ha.add (seeE hs 5 (.string t1075.1) KR KR)
                            have ha := ha.add (seeF hs 59 10 (.bool (t1087.2 != 0)) KR KR)
                            have ha := ha.bool 59 KR (ineq_f hp1116)
                            refine yStep ha 60 KR ?_; intro l_ ha HK
                            refine stepp ha 60 (.string t1075.1) KR KR ?_; intro ax hax; exact HK _ _ _ hax rfl (Below.refl _ _)
                          · skip
                            intro a wr hn hd HW hs; have ha := hasNil hn hd
                            have ha := ha.add (seeF hs 60 11 (.string t1075.1) KR KR)
                            have ha := ha.add (seeF hs 59 10 (.bool (t1087.2 != 0)) KR KR)
                            have ha := ha.bool 59 KR (ineq_f hp1116)
                            refine yStep ha 61 KR ?_; intro l_ ha HK
                            refine stepp ha 61 (.int .i64 (t1075.1.size : Int)) KR KR ?_; intro ax hax; exact HK _ _ _ hax rfl (Below.refl _ _)
                          · skip
                            intro a wr hn hd HW hs; have ha := hasNil hn hd
                            have ha := ha.add (seeE hs 5 (.string t1075.1) KR KR)
                            have ha := ha.add (seeF hs 59 10 (.bool (t1087.2 != 0)) KR KR)
                            have ha := ha.bool 59 KR (ineq_f hp1116)
                            refine yStep ha 62 KR ?_; intro l_ ha HK
                            refine stepp ha 62 (.string t1075.1) KR KR ?_; intro ax hax; exact HK _ _ _ hax rfl (Below.refl _ _)
                          · skip
                            intro a wr hn hd HW hs; have ha := hasNil hn hd
                            have ha := ha.add (seeF hs 62 13 (.string t1075.1) KR KR)
                            have ha := ha.add (seeF hs 59 10 (.bool (t1087.2 != 0)) KR KR)
                            have ha := ha.bool 59 KR (ineq_f hp1116)
                            refine yStep ha 63 KR ?_; intro l_ ha HK
                            refine stepsi ha 63 9 (.tmp 62) (.const (.int .i64 3)) t1075.1 .i64 3 rfl KR KR KR (by decide) (show (3 : Int) < ((t1075.1).size : Int) from hA1117) KR ?_; intro ax hax; exact HK _ _ _ hax rfl (Below.refl _ _)
                          · skip
                            intro a wr hn hd HW hs; have ha := hasNil hn hd
                            have ha := ha.add (seeF hs 63 14 (.int .u8 (bt t1075.1 3)) KR KR)
                            have ha := ha.add (seeF hs 59 10 (.bool (t1087.2 != 0)) KR KR)
                            have ha := ha.bool 59 KR (ineq_f hp1116)
                            refine yStep ha 64 KR ?_; intro l_ ha HK
                            refine stepp ha 64 (.int .i64 (IntKind.wrap .i64 (bt t1075.1 3))) KR KR ?_; intro ax hax; exact HK _ _ _ hax rfl (Below.refl _ _)
                          · skip
                            intro a wr hn hd HW hs; have ha := hasNil hn hd
                            have ha := ha.add (seeF hs 64 15 (.int .i64 (IntKind.wrap .i64 (bt t1075.1 3))) KR KR)
                            have ha := ha.add (seeF hs 59 10 (.bool (t1087.2 != 0)) KR KR)
                            have ha := ha.bool 59 KR (ineq_f hp1116)
                            refine yStep ha 65 KR ?_; intro l_ ha HK
                            refine stepp ha 65 (.int .i64 (IntKind.wrap .i64 (4 + (IntKind.wrap .i64 (bt t1075.1 3))))) KR KR ?_; intro ax hax; exact HK _ _ _ hax rfl (Below.refl _ _)
                          · skip
                            intro a wr hn hd HW hs; have ha := hasNil hn hd
                            have ha := ha.add (seeF hs 61 12 (.int .i64 (t1075.1.size : Int)) KR KR)
                            have ha := ha.add (seeF hs 65 16 (.int .i64 (IntKind.wrap .i64 (4 + (IntKind.wrap .i64 (bt t1075.1 3))))) KR KR)
                            have ha := ha.add (seeF hs 59 10 (.bool (t1087.2 != 0)) KR KR)
                            have ha := ha.bool 59 KR (ineq_f hp1116)
                            refine yStep ha 66 KR ?_; intro l_ ha HK
                            refine stepp ha 66 (.bool ((t1075.1.size : Int) != (IntKind.wrap .i64 (4 + (IntKind.wrap .i64 (bt t1075.1 3)))))) KR KR ?_; intro ax hax; exact HK _ _ _ hax rfl (Below.refl _ _)
                          · skip
                            intro a wr hn hd HW hs; have ha := hasNil hn hd
                            have ha := ha.add (seeF hs 59 10 (.bool (t1087.2 != 0)) KR KR)
                            have ha := ha.bool 59 KR (ineq_f hp1116)
                            have ha := ha.add (seeF hs 66 17 (.bool ((t1075.1.size : Int) != (IntKind.wrap .i64 (4 + (IntKind.wrap .i64 (bt t1075.1 3)))))) KR KR)
                            refine yStep ha 67 KR ?_; intro l_ ha HK
                            refine stepp ha 67 (.bool ((t1075.1.size : Int) != (IntKind.wrap .i64 (4 + (IntKind.wrap .i64 (bt t1075.1 3)))))) KR KR ?_; intro ax hax; exact HK _ _ _ hax rfl (Below.refl _ _)
                          · skip
                            intro a wr hn hd HW hs; have ha := hasNil hn hd
                            have ha := ha.add (seeF hs 67 18 (.bool ((t1075.1.size : Int) != (IntKind.wrap .i64 (4 + (IntKind.wrap .i64 (bt t1075.1 3)))))) KR KR)
                            refine yStep ha 68 KR ?_; intro l_ ha HK
                            refine stepp ha 68 (.bool ((t1075.1.size : Int) != (IntKind.wrap .i64 (4 + (IntKind.wrap .i64 (bt t1075.1 3)))))) KR KR ?_; intro ax hax; exact HK _ _ _ hax rfl (Below.refl _ _)
                          · skip
                            intro a wr hn hd HW hs; have ha := hasNil hn hd
                            have ha := ha.add (seeE hs 7 (.string t1081.1) KR KR)
                            have ha := ha.add (seeF hs 68 19 (.bool ((t1075.1.size : Int) != (IntKind.wrap .i64 (4 + (IntKind.wrap .i64 (bt t1075.1 3)))))) KR KR)
                            have ha := ha.bool 68 KR (ineq_f hp1118)
                            refine yStep ha 69 KR ?_; intro l_ ha HK
                            refine stepp ha 69 (.string t1081.1) KR KR ?_; intro ax hax; exact HK _ _ _ hax rfl (Below.refl _ _)
                          · skip
                            intro a wr hn hd HW hs; have ha := hasNil hn hd
                            have ha := ha.add (seeF hs 69 20 (.string t1081.1) KR KR)
                            have ha := ha.add (seeF hs 68 19 (.bool ((t1075.1.size : Int) != (IntKind.wrap .i64 (4 + (IntKind.wrap .i64 (bt t1075.1 3)))))) KR KR)
                            have ha := ha.bool 68 KR (ineq_f hp1118)
                            refine yStep ha 70 KR ?_; intro l_ ha HK
                            refine stepp ha 70 (.int .i64 (t1081.1.size : Int)) KR KR ?_; intro ax hax; exact HK _ _ _ hax rfl (Below.refl _ _)
                          · skip
                            intro a wr hn hd HW hs; have ha := hasNil hn hd
                            have ha := ha.add (seeE hs 7 (.string t1081.1) KR KR)
                            have ha := ha.add (seeF hs 68 19 (.bool ((t1075.1.size : Int) != (IntKind.wrap .i64 (4 + (IntKind.wrap .i64 (bt t1075.1 3)))))) KR KR)
                            have ha := ha.bool 68 KR (ineq_f hp1118)
                            refine yStep ha 71 KR ?_; intro l_ ha HK
                            refine stepp ha 71 (.string t1081.1) KR KR ?_; intro ax hax; exact HK _ _ _ hax rfl (Below.refl _ _)
                          · skip
                            intro a wr hn hd HW hs; have ha := hasNil hn hd
                            have ha := ha.add (seeF hs 71 22 (.string t1081.1) KR KR)
                            have ha := ha.add (seeF hs 68 19 (.bool ((t1075.1.size : Int) != (IntKind.wrap .i64 (4 + (IntKind.wrap .i64 (bt t1075.1 3)))))) KR KR)
                            have ha := ha.bool 68 KR (ineq_f hp1118)
                            refine yStep ha 72 KR ?_; intro l_ ha HK
                            refine stepsi ha 72 9 (.tmp 71) (.const (.int .i64 3)) t1081.1 .i64 3 rfl KR KR KR (by decide) (show (3 : Int) < ((t1081.1).size : Int) from hA1119) KR ?_; intro ax hax; exact HK _ _ _ hax rfl (Below.refl _ _)
                          · skip
                            intro a wr hn hd HW hs; have ha := hasNil hn hd
                            have ha := ha.add (seeF hs 72 23 (.int .u8 (bt t1081.1 3)) KR KR)
                            have ha := ha.add (seeF hs 68 19 (.bool ((t1075.1.size : Int) != (IntKind.wrap .i64 (4 + (IntKind.wrap .i64 (bt t1075.1 3)))))) KR KR)
                            have ha := ha.bool 68 KR (ineq_f hp1118)
                            refine yStep ha 73 KR ?_; intro l_ ha HK
                            refine stepp ha 73 (.int .i64 (IntKind.wrap .i64 (bt t1081.1 3))) KR KR ?_; intro ax hax; exact HK _ _ _ hax rfl (Below.refl _ _)
                          · skip
                            intro a wr hn hd HW hs; have ha := hasNil hn hd
                            have ha := ha.add (seeF hs 73 24 (.int .i64 (IntKind.wrap .i64 (bt t1081.1 3))) KR KR)
                            have ha := ha.add (seeF hs 68 19 (.bool ((t1075.1.size : Int) != (IntKind.wrap .i64 (4 + (IntKind.wrap .i64 (bt t1075.1 3)))))) KR KR)
                            have ha := ha.bool 68 KR (ineq_f hp1118)
                            refine yStep ha 74 KR ?_; intro l_ ha HK
                            refine stepp ha 74 (.int .i64 (IntKind.wrap .i64 (4 + (IntKind.wrap .i64 (bt t1081.1 3))))) KR KR ?_; intro ax hax; exact HK _ _ _ hax rfl (Below.refl _ _)
                          · skip
                            intro a wr hn hd HW hs; have ha := hasNil hn hd
                            have ha := ha.add (seeF hs 70 21 (.int .i64 (t1081.1.size : Int)) KR KR)
                            have ha := ha.add (seeF hs 74 25 (.int .i64 (IntKind.wrap .i64 (4 + (IntKind.wrap .i64 (bt t1081.1 3))))) KR KR)
                            have ha := ha.add (seeF hs 68 19 (.bool ((t1075.1.size : Int) != (IntKind.wrap .i64 (4 + (IntKind.wrap .i64 (bt t1075.1 3)))))) KR KR)
                            have ha := ha.bool 68 KR (ineq_f hp1118)
                            refine yStep ha 75 KR ?_; intro l_ ha HK
                            refine stepp ha 75 (.bool ((t1081.1.size : Int) != (IntKind.wrap .i64 (4 + (IntKind.wrap .i64 (bt t1081.1 3)))))) KR KR ?_; intro ax hax; exact HK _ _ _ hax rfl (Below.refl _ _)
                          · skip
                            intro a wr hn hd HW hs; have ha := hasNil hn hd
                            have ha := ha.add (seeF hs 68 19 (.bool ((t1075.1.size : Int) != (IntKind.wrap .i64 (4 + (IntKind.wrap .i64 (bt t1075.1 3)))))) KR KR)
                            have ha := ha.bool 68 KR (ineq_f hp1118)
                            have ha := ha.add (seeF hs 75 26 (.bool ((t1081.1.size : Int) != (IntKind.wrap .i64 (4 + (IntKind.wrap .i64 (bt t1081.1 3)))))) KR KR)
                            refine yStep ha 76 KR ?_; intro l_ ha HK
                            refine stepp ha 76 (.bool ((t1081.1.size : Int) != (IntKind.wrap .i64 (4 + (IntKind.wrap .i64 (bt t1081.1 3)))))) KR KR ?_; intro ax hax; exact HK _ _ _ hax rfl (Below.refl _ _)
                          · skip
                            intro a wr hn hd HW hs; have ha := hasNil hn hd
                            have ha := ha.add (seeF hs 76 27 (.bool ((t1081.1.size : Int) != (IntKind.wrap .i64 (4 + (IntKind.wrap .i64 (bt t1081.1 3)))))) KR KR)
                            refine yStep ha 77 KR ?_; intro l_ ha HK
                            refine stepp ha 77 (.bool ((t1081.1.size : Int) != (IntKind.wrap .i64 (4 + (IntKind.wrap .i64 (bt t1081.1 3)))))) KR KR ?_; intro ax hax; exact HK _ _ _ hax rfl (Below.refl _ _)
                          · skip
                            intro a wr hn hd HW hs; have ha := hasNil hn hd
                            have ha := ha.add (seeE hs 9 (.string t1087.1) KR KR)
                            have ha := ha.add (seeF hs 77 28 (.bool ((t1081.1.size : Int) != (IntKind.wrap .i64 (4 + (IntKind.wrap .i64 (bt t1081.1 3)))))) KR KR)
                            have ha := ha.bool 77 KR (ineq_f hp1120)
                            refine yStep ha 78 KR ?_; intro l_ ha HK
                            refine stepp ha 78 (.string t1087.1) KR KR ?_; intro ax hax; exact HK _ _ _ hax rfl (Below.refl _ _)
                          · skip
                            intro a wr hn hd HW hs; have ha := hasNil hn hd
                            have ha := ha.add (seeF hs 78 29 (.string t1087.1) KR KR)
                            have ha := ha.add (seeF hs 77 28 (.bool ((t1081.1.size : Int) != (IntKind.wrap .i64 (4 + (IntKind.wrap .i64 (bt t1081.1 3)))))) KR KR)
                            have ha := ha.bool 77 KR (ineq_f hp1120)
                            refine yStep ha 79 KR ?_; intro l_ ha HK
                            refine stepp ha 79 (.int .i64 (t1087.1.size : Int)) KR KR ?_; intro ax hax; exact HK _ _ _ hax rfl (Below.refl _ _)
                          · skip
                            intro a wr hn hd HW hs; have ha := hasNil hn hd
                            have ha := ha.add (seeE hs 9 (.string t1087.1) KR KR)
                            have ha := ha.add (seeF hs 77 28 (.bool ((t1081.1.size : Int) != (IntKind.wrap .i64 (4 + (IntKind.wrap .i64 (bt t1081.1 3)))))) KR KR)
                            have ha := ha.bool 77 KR (ineq_f hp1120)
                            refine yStep ha 80 KR ?_; intro l_ ha HK
                            refine stepp ha 80 (.string t1087.1) KR KR ?_; intro ax hax; exact HK _ _ _ hax rfl (Below.refl _ _)
                          · skip
                            intro a wr hn hd HW hs; have ha := hasNil hn hd
                            have ha := ha.add (seeF hs 80 31 (.string t1087.1) KR KR)
                            have ha := ha.add (seeF hs 77 28 (.bool ((t1081.1.size : Int) != (IntKind.wrap .i64 (4 + (IntKind.wrap .i64 (bt t1081.1 3)))))) KR KR)
                            have ha := ha.bool 77 KR (ineq_f hp1120)
                            refine yStep ha 81 KR ?_; intro l_ ha HK
                            refine stepsi ha 81 9 (.tmp 80) (.const (.int .i64 3)) t1087.1 .i64 3 rfl KR KR KR (by decide) (show (3 : Int) < ((t1087.1).size : Int) from hA1121) KR ?_; intro ax hax; exact HK _ _ _ hax rfl (Below.refl _ _)
                          · skip
                            intro a wr hn hd HW hs; have ha := hasNil hn hd
                            have ha := ha.add (seeF hs 81 32 (.int .u8 (bt t1087.1 3)) KR KR)
                            have ha := ha.add (seeF hs 77 28 (.bool ((t1081.1.size : Int) != (IntKind.wrap .i64 (4 + (IntKind.wrap .i64 (bt t1081.1 3)))))) KR KR)
                            have ha := ha.bool 77 KR (ineq_f hp1120)
                            refine yStep ha 82 KR ?_; intro l_ ha HK
                            refine stepp ha 82 (.int .i64 (IntKind.wrap .i64 (bt t1087.1 3))) KR KR ?_; intro ax hax; exact HK _ _ _ hax rfl (Below.refl _ _)
                          · skip
                            intro a wr hn hd HW hs; have ha := hasNil hn hd
                            have ha := ha.add (seeF hs 82 33 (.int .i64 (IntKind.wrap .i64 (bt t1087.1 3))) KR KR)
                            have ha := ha.add (seeF hs 77 28 (.bool ((t1081.1.size : Int) != (IntKind.wrap .i64 (4 + (IntKind.wrap .i64 (bt t1081.1 3)))))) KR KR)
                            have ha := ha.bool 77 KR (ineq_f hp1120)
                            refine yStep ha 83 KR ?_; intro l_ ha HK
                            refine stepp ha 83 (.int .i64 (IntKind.wrap .i64 (4 + (IntKind.wrap .i64 (bt t1087.1 3))))) KR KR ?_; intro ax hax; exact HK _ _ _ hax rfl (Below.refl _ _)
                          · skip
                            intro a wr hn hd HW hs; have ha := hasNil hn hd
                            have ha := ha.add (seeF hs 79 30 (.int .i64 (t1087.1.size : Int)) KR KR)
                            have ha := ha.add (seeF hs 83 34 (.int .i64 (IntKind.wrap .i64 (4 + (IntKind.wrap .i64 (bt t1087.1 3))))) KR KR)
                            have ha := ha.add (seeF hs 77 28 (.bool ((t1081.1.size : Int) != (IntKind.wrap .i64 (4 + (IntKind.wrap .i64 (bt t1081.1 3)))))) KR KR)
                            have ha := ha.bool 77 KR (ineq_f hp1120)
                            refine yStep ha 84 KR ?_; intro l_ ha HK
                            refine stepp ha 84 (.bool ((t1087.1.size : Int) != (IntKind.wrap .i64 (4 + (IntKind.wrap .i64 (bt t1087.1 3)))))) KR KR ?_; intro ax hax; exact HK _ _ _ hax rfl (Below.refl _ _)
                          · skip
                            intro a wr hn hd HW hs; have ha := hasNil hn hd
                            have ha := ha.add (seeF hs 77 28 (.bool ((t1081.1.size : Int) != (IntKind.wrap .i64 (4 + (IntKind.wrap .i64 (bt t1081.1 3)))))) KR KR)
                            have ha := ha.bool 77 KR (ineq_f hp1120)
                            have ha := ha.add (seeF hs 84 35 (.bool ((t1087.1.size : Int) != (IntKind.wrap .i64 (4 + (IntKind.wrap .i64 (bt t1087.1 3)))))) KR KR)
                            refine yStep ha 85 KR ?_; intro l_ ha HK
                            refine stepp ha 85 (.bool ((t1087.1.size : Int) != (IntKind.wrap .i64 (4 + (IntKind.wrap .i64 (bt t1087.1 3)))))) KR KR ?_; intro ax hax; exact HK _ _ _ hax rfl (Below.refl _ _)
                          · skip
                            intro a wr hn hd HW hs; have ha := hasNil hn hd
                            have ha := ha.add (seeF hs 85 36 (.bool ((t1087.1.size : Int) != (IntKind.wrap .i64 (4 + (IntKind.wrap .i64 (bt t1087.1 3)))))) KR KR)
                            refine yStep ha 86 KR ?_; intro l_ ha HK
                            refine stepp ha 86 (.bool ((t1087.1.size : Int) != (IntKind.wrap .i64 (4 + (IntKind.wrap .i64 (bt t1087.1 3)))))) KR KR ?_; intro ax hax; exact HK _ _ _ hax rfl (Below.refl _ _)
                          · skip
                            intro a wr hn hd HW hs; have ha := hasNil hn hd
                            have ha := ha.add (seeE hs 7 (.string t1081.1) KR KR)
                            have ha := ha.add (seeF hs 86 37 (.bool ((t1087.1.size : Int) != (IntKind.wrap .i64 (4 + (IntKind.wrap .i64 (bt t1087.1 3)))))) KR KR)
                            have ha := ha.bool 86 KR (ineq_f hp1122)
                            refine yStep ha 87 KR ?_; intro l_ ha HK
                            refine stepp ha 87 (.string t1081.1) KR KR ?_; intro ax hax; exact HK _ _ _ hax rfl (Below.refl _ _)
                          · skip
                            intro a wr hn hd HW hs; have ha := hasNil hn hd
                            have ha := ha.add (seeF hs 87 38 (.string t1081.1) KR KR)
                            have ha := ha.add (seeF hs 86 37 (.bool ((t1087.1.size : Int) != (IntKind.wrap .i64 (4 + (IntKind.wrap .i64 (bt t1087.1 3)))))) KR KR)
                            have ha := ha.bool 86 KR (ineq_f hp1122)
                            refine yStep ha 88 KR ?_; intro l_ ha HK
                            refine stepssl ha 88 9 (.tmp 87) (.const (.int .i64 8)) t1081.1 .i64 8 rfl KR KR KR (by decide) (show (8 : Int) ≤ ((t1081.1).size : Int) from hA1123) KR ?_; intro ax hax; exact HK _ _ _ hax rfl (Below.refl _ _)
                          · skip
                            intro a wr hn hd HW hs; have ha := hasNil hn hd
                            have ha := ha.add (seeE hs 2 (.pointer (some ⟨b1060, 0, none⟩)) KR KR)
                            have ha := ha.add (seeF hs 86 37 (.bool ((t1087.1.size : Int) != (IntKind.wrap .i64 (4 + (IntKind.wrap .i64 (bt t1087.1 3)))))) KR KR)
                            have ha := ha.bool 86 KR (ineq_f hp1122)
                            refine yStep ha 89 KR ?_; intro l_ ha HK
                            refine stepp ha 89 (.pointer (some ⟨b1060, 1, none⟩)) KR KR ?_; intro ax hax; exact HK _ _ _ hax rfl (Below.refl _ _)
                          · skip
                            intro a wr hn hd HW hs; have ha := hasNil hn hd
                            have ha := ha.add (seeF hs 89 40 (.pointer (some ⟨b1060, 1, none⟩)) KR KR)
                            have ha := ha.add (seeF hs 86 37 (.bool ((t1087.1.size : Int) != (IntKind.wrap .i64 (4 + (IntKind.wrap .i64 (bt t1087.1 3)))))) KR KR)
                            have ha := ha.bool 86 KR (ineq_f hp1122)
                            refine yStep ha 90 KR ?_; intro l_ ha HK
                            refine stepl ha 90 (HW.ca (i := 0) (b := b1060) (C := #[.int .i64 a0.f0, .string a0.f1]) (T := 23) (fr := (0, 0)) KR) 9 1 (.tmp 89) (.string a0.f1) rfl KR KR KR ?_; intro ax hax; exact HK _ _ _ hax rfl (Below.refl _ _)
                          · skip
                            intro a wr hn hd HW hs; have ha := hasNil hn hd
                            have ha := ha.add (seeF hs 88 39 (.string (t1081.1.extract (8 : Int).toNat (t1081.1).size)) KR KR)
                            have ha := ha.add (seeF hs 90 41 (.string a0.f1) KR KR)
                            have ha := ha.add (seeF hs 86 37 (.bool ((t1087.1.size : Int) != (IntKind.wrap .i64 (4 + (IntKind.wrap .i64 (bt t1087.1 3)))))) KR KR)
                            have ha := ha.bool 86 KR (ineq_f hp1122)
                            refine yStep ha 91 KR ?_; intro l_ ha HK
                            refine stepp ha 91 (.bool (!((t1081.1.extract (8 : Int).toNat (t1081.1).size).toList == a0.f1.toList))) KR KR ?_; intro ax hax; exact HK _ _ _ hax rfl (Below.refl _ _)
                          · skip
                            intro a wr hn hd HW hs; have ha := hasNil hn hd
                            have ha := ha.add (seeF hs 86 37 (.bool ((t1087.1.size : Int) != (IntKind.wrap .i64 (4 + (IntKind.wrap .i64 (bt t1087.1 3)))))) KR KR)
                            have ha := ha.bool 86 KR (ineq_f hp1122)
                            have ha := ha.add (seeF hs 91 42 (.bool (!((t1081.1.extract (8 : Int).toNat (t1081.1).size).toList == a0.f1.toList))) KR KR)
                            refine yStep ha 92 KR ?_; intro l_ ha HK
                            refine stepp ha 92 (.bool (!((t1081.1.extract (8 : Int).toNat (t1081.1).size).toList == a0.f1.toList))) KR KR ?_; intro ax hax; exact HK _ _ _ hax rfl (Below.refl _ _)
                          · skip
                            intro a wr hn hd HW hs; have ha := hasNil hn hd
                            have ha := ha.add (seeF hs 92 43 (.bool (!((t1081.1.extract (8 : Int).toNat (t1081.1).size).toList == a0.f1.toList))) KR KR)
                            refine yStep ha 93 KR ?_; intro l_ ha HK
                            refine stepp ha 93 (.bool (!((t1081.1.extract (8 : Int).toNat (t1081.1).size).toList == a0.f1.toList))) KR KR ?_; intro ax hax; exact HK _ _ _ hax rfl (Below.refl _ _)
                          · skip
                            intro a wr hn hd HW hs; have ha := hasNil hn hd
                            have ha := ha.add (seeE hs 11 (.string t1093) KR KR)
                            have ha := ha.add (seeF hs 93 44 (.bool (!((t1081.1.extract (8 : Int).toNat (t1081.1).size).toList == a0.f1.toList))) KR KR)
                            have ha := ha.bool 93 KR (str_ne_f hp1124)
                            refine yStep ha 94 KR ?_; intro l_ ha HK
                            refine stepp ha 94 (.string t1093) KR KR ?_; intro ax hax; exact HK _ _ _ hax rfl (Below.refl _ _)
                          · skip
                            intro a wr hn hd HW hs; have ha := hasNil hn hd
                            have ha := ha.add (seeF hs 94 45 (.string t1093) KR KR)
                            have ha := ha.add (seeF hs 93 44 (.bool (!((t1081.1.extract (8 : Int).toNat (t1081.1).size).toList == a0.f1.toList))) KR KR)
                            have ha := ha.bool 93 KR (str_ne_f hp1124)
                            refine yStep ha 95 KR ?_; intro l_ ha HK
                            refine stepp ha 95 (.int .i64 (t1093.size : Int)) KR KR ?_; intro ax hax; exact HK _ _ _ hax rfl (Below.refl _ _)
                          · skip
                            intro a wr hn hd HW hs; have ha := hasNil hn hd
                            have ha := ha.add (seeE hs 1 (.int .u8 a1) KR KR)
                            have ha := ha.add (seeF hs 93 44 (.bool (!((t1081.1.extract (8 : Int).toNat (t1081.1).size).toList == a0.f1.toList))) KR KR)
                            have ha := ha.bool 93 KR (str_ne_f hp1124)
                            refine yStep ha 96 KR ?_; intro l_ ha HK
                            refine stepp ha 96 (.int .u8 a1) KR KR ?_; intro ax hax; exact HK _ _ _ hax rfl (Below.refl _ _)
                          · skip
                            intro a wr hn hd HW hs; have ha := hasNil hn hd
                            have ha := ha.add (seeF hs 96 47 (.int .u8 a1) KR KR)
                            have ha := ha.add (seeF hs 93 44 (.bool (!((t1081.1.extract (8 : Int).toNat (t1081.1).size).toList == a0.f1.toList))) KR KR)
                            have ha := ha.bool 93 KR (str_ne_f hp1124)
                            refine yStep ha 97 KR ?_; intro l_ ha HK
                            refine stepp ha 97 (.int .i64 (IntKind.wrap .i64 a1)) KR KR ?_; intro ax hax; exact HK _ _ _ hax rfl (Below.refl _ _)
                          · skip
                            intro a wr hn hd HW hs; have ha := hasNil hn hd
                            have ha := ha.add (seeF hs 97 48 (.int .i64 (IntKind.wrap .i64 a1)) KR KR)
                            have ha := ha.add (seeF hs 93 44 (.bool (!((t1081.1.extract (8 : Int).toNat (t1081.1).size).toList == a0.f1.toList))) KR KR)
                            have ha := ha.bool 93 KR (str_ne_f hp1124)
                            refine yStep ha 98 KR ?_; intro l_ ha HK
                            refine stepp ha 98 (.int .i64 (IntKind.wrap .i64 (8 * (IntKind.wrap .i64 a1)))) KR KR ?_; intro ax hax; exact HK _ _ _ hax rfl (Below.refl _ _)
                          · skip
                            intro a wr hn hd HW hs; have ha := hasNil hn hd
                            have ha := ha.add (seeF hs 98 49 (.int .i64 (IntKind.wrap .i64 (8 * (IntKind.wrap .i64 a1)))) KR KR)
                            have ha := ha.add (seeF hs 93 44 (.bool (!((t1081.1.extract (8 : Int).toNat (t1081.1).size).toList == a0.f1.toList))) KR KR)
                            have ha := ha.bool 93 KR (str_ne_f hp1124)
                            refine yStep ha 99 KR ?_; intro l_ ha HK
                            refine stepp ha 99 (.int .i64 (IntKind.wrap .i64 (8 + (IntKind.wrap .i64 (8 * (IntKind.wrap .i64 a1)))))) KR KR ?_; intro ax hax; exact HK _ _ _ hax rfl (Below.refl _ _)
                          · skip
                            intro a wr hn hd HW hs; have ha := hasNil hn hd
                            have ha := ha.add (seeF hs 95 46 (.int .i64 (t1093.size : Int)) KR KR)
                            have ha := ha.add (seeF hs 99 50 (.int .i64 (IntKind.wrap .i64 (8 + (IntKind.wrap .i64 (8 * (IntKind.wrap .i64 a1)))))) KR KR)
                            have ha := ha.add (seeF hs 93 44 (.bool (!((t1081.1.extract (8 : Int).toNat (t1081.1).size).toList == a0.f1.toList))) KR KR)
                            have ha := ha.bool 93 KR (str_ne_f hp1124)
                            refine yStep ha 100 KR ?_; intro l_ ha HK
                            refine stepp ha 100 (.bool ((t1093.size : Int) != (IntKind.wrap .i64 (8 + (IntKind.wrap .i64 (8 * (IntKind.wrap .i64 a1))))))) KR KR ?_; intro ax hax; exact HK _ _ _ hax rfl (Below.refl _ _)
                          · skip
                            intro a wr hn hd HW hs; have ha := hasNil hn hd
                            have ha := ha.add (seeF hs 93 44 (.bool (!((t1081.1.extract (8 : Int).toNat (t1081.1).size).toList == a0.f1.toList))) KR KR)
                            have ha := ha.bool 93 KR (str_ne_f hp1124)
                            have ha := ha.add (seeF hs 100 51 (.bool ((t1093.size : Int) != (IntKind.wrap .i64 (8 + (IntKind.wrap .i64 (8 * (IntKind.wrap .i64 a1))))))) KR KR)
                            refine yStep ha 101 KR ?_; intro l_ ha HK
                            refine stepp ha 101 (.bool ((t1093.size : Int) != (IntKind.wrap .i64 (8 + (IntKind.wrap .i64 (8 * (IntKind.wrap .i64 a1))))))) KR KR ?_; intro ax hax; exact HK _ _ _ hax rfl (Below.refl _ _)
                        · skip
                          intro a W1125 ha HW he hf
                          replace ha := ha.add (he 1 (.int .u8 a1) KR KR)
                          replace ha := ha.add (he 11 (.string t1093) KR KR)
                          replace ha := ha.add (gotF (m := 53) (j := 52) (d := 101) (v := .bool ((t1093.size : Int) != (IntKind.wrap .i64 (8 + (IntKind.wrap .i64 (8 * (IntKind.wrap .i64 a1))))))) hf KR KR KR)
                          clear he hf
                          refine endl ?_
                          refine thenN (hK1113 _ _ ?_); clear hK1113
                          by_cases hp1133 : (t1093.size : Int) = (IntKind.wrap .i64 (8 + (IntKind.wrap .i64 (8 * (IntKind.wrap .i64 a1)))))
                          · skip
                            replace h := ite_pos' h hp1133
                            refine condF ha KR KR (t := ((t1093.size : Int) != (IntKind.wrap .i64 (8 + (IntKind.wrap .i64 (8 * (IntKind.wrap .i64 a1))))))) (ineq_f hp1133) ?_
                            refine wp_skip ?_
                            refine thenN (hK1111 _ _ ?_); clear hK1111
                            refine wp_seq_k (fun K1150 hK1151 => ?_)
                            refine wp_seq_k (fun K1152 hK1153 => ?_)
                            refine wp_region_lit ?_
                            refine stepp ha 12 (.int .i64 0) KR KR ?_; clear ha a; intro a ha
                            refine endl ?_
                            refine thenN (hK1153 _ _ ?_); clear hK1153
                            refine wp_block ?_
                            refine loopk (fun k => fun a W1195 => ∃ (x1194 : Int), headgatelaw17_InquiryReads.l0 K a1 t1093 k x1194 = some r ∧ Has 126 [(1, .int .u8 a1), (11, .string t1093), (12, .int .i64 x1194)] a ∧ Wd w W1195 [] []) K ?_ ?_
                            · skip
                              exact ⟨0, h, ha.sub (subs_cons KR (subs_cons KR (subs_cons KR (subs_nil _)))), HW.pick [] [] (by decide) (by decide) KR KR⟩
                            · skip
                              intro k a W1195 hI
                              obtain ⟨x1194, h, ha, HW⟩ := hI
                              cases k with
                              | zero => exact (none_some (show none = some r from h)).elim
                              | succ k1196 =>
                                replace h : headgatelaw17_InquiryReads.b0 K a1 t1093 (headgatelaw17_InquiryReads.l0 K a1 t1093 k1196) x1194 = some r := h
                                obtain ⟨again1193, hag1197⟩ : ∃ g_, g_ = headgatelaw17_InquiryReads.l0 K a1 t1093 k1196 := ⟨_, rfl⟩
                                rw [← hag1197] at h
                                unfold headgatelaw17_InquiryReads.b0 at h
                                refine wp_seq_k (fun K1198 hK1199 => ?_)
                                refine wp_seq_k (fun K1200 hK1201 => ?_)
                                refine wp_region_lit ?_
                                refine stepp ha 102 (.int .i64 x1194) KR KR ?_; clear ha a; intro a ha
                                refine stepp ha 103 (.int .u8 a1) KR KR ?_; clear ha a; intro a ha
                                refine stepp ha 104 (.int .i64 (IntKind.wrap .i64 a1)) KR KR ?_; clear ha a; intro a ha
                                refine stepp ha 105 (.bool (decide (x1194 < (IntKind.wrap .i64 a1)))) KR KR ?_; clear ha a; intro a ha
                                refine endl ?_
                                refine thenN (hK1201 _ _ ?_); clear hK1201
                                by_cases hp1202 : x1194 < (IntKind.wrap .i64 a1)
                                · skip
                                  replace h := ite_pos' h hp1202
                                  refine condT ha KR KR (t := decide (x1194 < (IntKind.wrap .i64 a1))) (decide_eq_true hp1202) ?_
                                  refine wp_skip ?_
                                  refine thenN (hK1199 _ _ ?_); clear hK1199
                                  refine wp_seq_k (fun K1203 hK1204 => ?_)
                                  refine wp_block ?_
                                  refine wp_seq_k (fun K1205 hK1206 => ?_)
                                  refine wp_region_lit ?_
                                  refine stepp ha 108 (.string t1093) KR KR ?_; clear ha a; intro a ha
                                  refine stepp ha 109 (.int .i64 x1194) KR KR ?_; clear ha a; intro a ha
                                  refine stepp ha 110 (.int .i64 (IntKind.wrap .i64 (8 * x1194))) KR KR ?_; clear ha a; intro a ha
                                  refine stepp ha 111 (.int .i64 (IntKind.wrap .i64 (8 + (IntKind.wrap .i64 (8 * x1194))))) KR KR ?_; clear ha a; intro a ha
                                  refine stepp ha 112 (.int .i64 (IntKind.wrap .i64 ((IntKind.wrap .i64 (8 + (IntKind.wrap .i64 (8 * x1194)))) + 1))) KR KR ?_; clear ha a; intro a ha
                                  obtain ⟨hA1207, h_⟩ := asrt_some h; clear h; have h := h_; clear h_
                                  obtain ⟨hA1208, h_⟩ := asrt_some h; clear h; have h := h_; clear h_
                                  refine stepsi ha 113 9 (.tmp 108) (.tmp 112) t1093 .i64 (IntKind.wrap .i64 ((IntKind.wrap .i64 (8 + (IntKind.wrap .i64 (8 * x1194)))) + 1)) rfl KR KR KR hA1207 (show (IntKind.wrap .i64 ((IntKind.wrap .i64 (8 + (IntKind.wrap .i64 (8 * x1194)))) + 1) : Int) < ((t1093).size : Int) from hA1208) KR ?_; clear ha a; intro a ha
                                  refine stepp ha 114 (.int .i64 (IntKind.wrap .i64 (bt t1093 (IntKind.wrap .i64 ((IntKind.wrap .i64 (8 + (IntKind.wrap .i64 (8 * x1194)))) + 1))))) KR KR ?_; clear ha a; intro a ha
                                  refine stepp ha 115 (.int .i64 x1194) KR KR ?_; clear ha a; intro a ha
                                  refine stepp ha 116 (.bool ((IntKind.wrap .i64 (bt t1093 (IntKind.wrap .i64 ((IntKind.wrap .i64 (8 + (IntKind.wrap .i64 (8 * x1194)))) + 1)))) != x1194)) KR KR ?_; clear ha a; intro a ha
                                  refine stepp ha 117 (.bool ((IntKind.wrap .i64 (bt t1093 (IntKind.wrap .i64 ((IntKind.wrap .i64 (8 + (IntKind.wrap .i64 (8 * x1194)))) + 1)))) != x1194)) KR KR ?_; clear ha a; intro a ha
                                  by_cases hp1209 : (IntKind.wrap .i64 (bt t1093 (IntKind.wrap .i64 ((IntKind.wrap .i64 (8 + (IntKind.wrap .i64 (8 * x1194)))) + 1)))) = x1194
                                  · skip
                                    replace h := ite_pos' h hp1209
                                    replace ha := ha.bool 117 KR (ineq_f hp1209)
                                    refine stepp ha 118 (.string t1093) KR KR ?_; clear ha a; intro a ha
                                    refine stepp ha 119 (.int .i64 x1194) KR KR ?_; clear ha a; intro a ha
                                    refine stepp ha 120 (.int .i64 (IntKind.wrap .i64 (8 * x1194))) KR KR ?_; clear ha a; intro a ha
                                    refine stepp ha 121 (.int .i64 (IntKind.wrap .i64 (8 + (IntKind.wrap .i64 (8 * x1194))))) KR KR ?_; clear ha a; intro a ha
                                    obtain ⟨hA1210, h_⟩ := asrt_some h; clear h; have h := h_; clear h_
                                    obtain ⟨hA1211, h_⟩ := asrt_some h; clear h; have h := h_; clear h_
                                    refine stepsi ha 122 9 (.tmp 118) (.tmp 121) t1093 .i64 (IntKind.wrap .i64 (8 + (IntKind.wrap .i64 (8 * x1194)))) rfl KR KR KR hA1210 (show (IntKind.wrap .i64 (8 + (IntKind.wrap .i64 (8 * x1194))) : Int) < ((t1093).size : Int) from hA1211) KR ?_; clear ha a; intro a ha
                                    refine stepp ha 123 (.bool ((bt t1093 (IntKind.wrap .i64 (8 + (IntKind.wrap .i64 (8 * x1194))))) != 0)) KR KR ?_; clear ha a; intro a ha
                                    refine stepp ha 124 (.bool ((bt t1093 (IntKind.wrap .i64 (8 + (IntKind.wrap .i64 (8 * x1194))))) != 0)) KR KR ?_; clear ha a; intro a ha
                                    refine endl ?_
                                    refine thenN (hK1206 _ _ ?_); clear hK1206
                                    by_cases hp1212 : (bt t1093 (IntKind.wrap .i64 (8 + (IntKind.wrap .i64 (8 * x1194))))) = 0
                                    · skip
                                      replace h := ite_pos' h hp1212
                                      refine condF ha KR KR (t := ((bt t1093 (IntKind.wrap .i64 (8 + (IntKind.wrap .i64 (8 * x1194))))) != 0)) (ineq_f hp1212) ?_
                                      refine wp_skip ?_
                                      refine blkN ?_
                                      refine thenN (hK1204 _ _ ?_); clear hK1204
                                      refine wp_region_lit ?_
                                      refine stepp ha 106 (.int .i64 x1194) KR KR ?_; clear ha a; intro a ha
                                      refine stepp ha 107 (.int .i64 (IntKind.wrap .i64 (x1194 + 1))) KR KR ?_; clear ha a; intro a ha
                                      refine stepp ha 12 (.int .i64 (IntKind.wrap .i64 (x1194 + 1))) KR KR ?_; clear ha a; intro a ha
                                      refine endl ?_
                                      exact thenN ⟨k1196, Nat.lt_succ_self k1196, IntKind.wrap .i64 (x1194 + 1), (by rw [← hag1197]; exact h), ha.sub (subs_cons KR (subs_cons KR (subs_cons KR (subs_nil _)))), HW.pick [] [] (by decide) (by decide) KR KR⟩
                                    · skip
                                      replace h := ite_neg' h hp1212
                                      refine condT ha KR KR (t := ((bt t1093 (IntKind.wrap .i64 (8 + (IntKind.wrap .i64 (8 * x1194))))) != 0)) (ineq_t hp1212) ?_
                                      refine wp_seq_k (fun K1213 hK1214 => ?_)
                                      refine wp_region_lit ?_
                                      refine stepp ha 4 (.bool false) KR KR ?_; clear ha a; intro a ha
                                      refine endl ?_
                                      refine thenN (hK1214 _ _ ?_); clear hK1214
                                      refine wp_ret ?_
                                      refine blkR ?_
                                      refine thenR ?_
                                      refine thenR ?_
                                      refine blkR ?_
                                      refine thenR ?_
                                      obtain rfl := Option.some.inj h
                                      exact finv ha _ _ rfl (.tmp (v := .bool false) KR .nil) (.bool false) rfl ⟨rfl, HW.pick [] [] (by decide) (by decide) rfl KR⟩
                                  · skip
                                    replace h := ite_neg' h hp1209
                                    replace ha := ha.bool 117 KR (ineq_t hp1209)
                                    refine stepo ha 118 KR ?_; clear ha a; intro a ha
                                    refine stepo ha 119 KR ?_; clear ha a; intro a ha
                                    refine stepo ha 120 KR ?_; clear ha a; intro a ha
                                    refine stepo ha 121 KR ?_; clear ha a; intro a ha
                                    refine stepo ha 122 KR ?_; clear ha a; intro a ha
                                    refine stepo ha 123 KR ?_; clear ha a; intro a ha
                                    refine stepp ha 124 (.bool true) KR KR ?_; clear ha a; intro a ha
                                    refine endl ?_
                                    refine thenN (hK1206 _ _ ?_); clear hK1206
                                    refine condT ha KR KR (t := true) (rfl) ?_
                                    refine wp_seq_k (fun K1215 hK1216 => ?_)
                                    refine wp_region_lit ?_
                                    refine stepp ha 4 (.bool false) KR KR ?_; clear ha a; intro a ha
                                    refine endl ?_
                                    refine thenN (hK1216 _ _ ?_); clear hK1216
                                    refine wp_ret ?_
                                    refine blkR ?_
                                    refine thenR ?_
                                    refine thenR ?_
                                    refine blkR ?_
                                    refine thenR ?_
                                    obtain rfl := Option.some.inj h
                                    exact finv ha _ _ rfl (.tmp (v := .bool false) KR .nil) (.bool false) rfl ⟨rfl, HW.pick [] [] (by decide) (by decide) rfl KR⟩
                                · skip
                                  replace h := ite_neg' h hp1202
                                  refine condF ha KR KR (t := decide (x1194 < (IntKind.wrap .i64 a1))) (decide_eq_false hp1202) ?_
                                  refine wp_exit ?_
                                  refine thenE ?_
                                  refine thenE ?_
                                  refine inBlk ?_
                                  refine thenN (hK1151 _ _ ?_); clear hK1151
                                  refine wp_seq_k (fun K1217 hK1218 => ?_)
                                  refine wp_region_lit ?_
                                  obtain ⟨t1219, ht1220, h_⟩ := bind_some' h; clear h; have h := h_; clear h_
                                  refine stepc ha 125 KR KR (headgatelaw17_wakes.calls K t1219 _ ht1220) ?_; clear ha a; rintro e W1221 ⟨rfl, HX1222⟩
                                  refine ⟨_, rfl, ?_⟩; intro a ha; replace HW := HW.callw HX1222; clear HX1222
                                  refine stepp ha 4 (.bool t1219) KR KR ?_; clear ha a; intro a ha
                                  refine endl ?_
                                  refine thenN (hK1218 _ _ ?_); clear hK1218
                                  refine wp_ret ?_
                                  obtain rfl := Option.some.inj h
                                  exact finv ha _ _ rfl (.tmp (v := .bool t1219) KR .nil) (.bool t1219) rfl ⟨rfl, HW.pick [] [] (by decide) (by decide) rfl KR⟩
                          · skip
                            replace h := ite_neg' h hp1133
                            refine condT ha KR KR (t := ((t1093.size : Int) != (IntKind.wrap .i64 (8 + (IntKind.wrap .i64 (8 * (IntKind.wrap .i64 a1))))))) (ineq_t hp1133) ?_
                            refine wp_seq_k (fun K1134 hK1135 => ?_)
                            refine wp_region_lit ?_
                            refine stepp ha 4 (.bool false) KR KR ?_; clear ha a; intro a ha
                            refine endl ?_
                            refine thenN (hK1135 _ _ ?_); clear hK1135
                            refine wp_ret ?_
                            refine thenR ?_
                            obtain rfl := Option.some.inj h
                            exact finv ha _ _ rfl (.tmp (v := .bool false) KR .nil) (.bool false) rfl ⟨rfl, HW.pick [] [] (by decide) (by decide) rfl KR⟩
                      · skip
                        replace h := ite_neg' h hp1124
                        refine regionG 53 KR KR ha HW [.fix (.int .i64 t1075.2), .fix (.bool (t1075.2 != 0)), .fix (.bool (t1075.2 != 0)), .fix (.int .i64 t1081.2), .fix (.bool (t1081.2 != 0)), .fix (.bool (t1081.2 != 0)), .fix (.bool (t1081.2 != 0)), .fix (.int .i64 t1087.2), .fix (.bool (t1087.2 != 0)), .fix (.bool (t1087.2 != 0)), .fix (.bool (t1087.2 != 0)), .fix (.string t1075.1), .fix (.int .i64 (t1075.1.size : Int)), .fix (.string t1075.1), .fix (.int .u8 (bt t1075.1 3)), .fix (.int .i64 (IntKind.wrap .i64 (bt t1075.1 3))), .fix (.int .i64 (IntKind.wrap .i64 (4 + (IntKind.wrap .i64 (bt t1075.1 3))))), .fix (.bool ((t1075.1.size : Int) != (IntKind.wrap .i64 (4 + (IntKind.wrap .i64 (bt t1075.1 3)))))), .fix (.bool ((t1075.1.size : Int) != (IntKind.wrap .i64 (4 + (IntKind.wrap .i64 (bt t1075.1 3)))))), .fix (.bool ((t1075.1.size : Int) != (IntKind.wrap .i64 (4 + (IntKind.wrap .i64 (bt t1075.1 3)))))), .fix (.string t1081.1), .fix (.int .i64 (t1081.1.size : Int)), .fix (.string t1081.1), .fix (.int .u8 (bt t1081.1 3)), .fix (.int .i64 (IntKind.wrap .i64 (bt t1081.1 3))), .fix (.int .i64 (IntKind.wrap .i64 (4 + (IntKind.wrap .i64 (bt t1081.1 3))))), .fix (.bool ((t1081.1.size : Int) != (IntKind.wrap .i64 (4 + (IntKind.wrap .i64 (bt t1081.1 3)))))), .fix (.bool ((t1081.1.size : Int) != (IntKind.wrap .i64 (4 + (IntKind.wrap .i64 (bt t1081.1 3)))))), .fix (.bool ((t1081.1.size : Int) != (IntKind.wrap .i64 (4 + (IntKind.wrap .i64 (bt t1081.1 3)))))), .fix (.string t1087.1), .fix (.int .i64 (t1087.1.size : Int)), .fix (.string t1087.1), .fix (.int .u8 (bt t1087.1 3)), .fix (.int .i64 (IntKind.wrap .i64 (bt t1087.1 3))), .fix (.int .i64 (IntKind.wrap .i64 (4 + (IntKind.wrap .i64 (bt t1087.1 3))))), .fix (.bool ((t1087.1.size : Int) != (IntKind.wrap .i64 (4 + (IntKind.wrap .i64 (bt t1087.1 3)))))), .fix (.bool ((t1087.1.size : Int) != (IntKind.wrap .i64 (4 + (IntKind.wrap .i64 (bt t1087.1 3)))))), .fix (.bool ((t1087.1.size : Int) != (IntKind.wrap .i64 (4 + (IntKind.wrap .i64 (bt t1087.1 3)))))), .fix (.string t1081.1), .fix (.string (t1081.1.extract (8 : Int).toNat (t1081.1).size)), .fix (.pointer (some ⟨b1060, 1, none⟩)), .fix (.string a0.f1), .fix (.bool (!((t1081.1.extract (8 : Int).toNat (t1081.1).size).toList == a0.f1.toList))), .fix (.bool (!((t1081.1.extract (8 : Int).toNat (t1081.1).size).toList == a0.f1.toList))), .fix (.bool (!((t1081.1.extract (8 : Int).toNat (t1081.1).size).toList == a0.f1.toList))), .fix undef, .fix undef, .fix undef, .fix undef, .fix undef, .fix undef, .fix undef, .fix (.bool true)] ?_ ?_
                        · skip
                          refine ⟨?_, ?_, ?_, ?_, ?_, ?_, ?_, ?_, ?_, ?_, ?_, ?_, ?_, ?_, ?_, ?_, ?_, ?_, ?_, ?_, ?_, ?_, ?_, ?_, ?_, ?_, ?_, ?_, ?_, ?_, ?_, ?_, ?_, ?_, ?_, ?_, ?_, ?_, ?_, ?_, ?_, ?_, ?_, ?_, ?_, ?_, ?_, ?_, ?_, ?_, ?_, ?_, ?_, trivial⟩
                          · skip
                            intro a wr hn hd HW hs; have ha := hasNil hn hd
                            have ha := ha.add (seeE hs 6 (.int .i64 t1075.2) KR KR)
                            refine yStep ha 49 KR ?_; intro l_ ha HK
                            refine stepp ha 49 (.int .i64 t1075.2) KR KR ?_; intro ax hax; exact HK _ _ _ hax rfl (Below.refl _ _)
                          · skip
                            intro a wr hn hd HW hs; have ha := hasNil hn hd
                            have ha := ha.add (seeF hs 49 0 (.int .i64 t1075.2) KR KR)
                            refine yStep ha 50 KR ?_; intro l_ ha HK
                            refine stepp ha 50 (.bool (t1075.2 != 0)) KR KR ?_; intro ax hax; exact HK _ _ _ hax rfl (Below.refl _ _)
                          · skip
                            intro a wr hn hd HW hs; have ha := hasNil hn hd
                            have ha := ha.add (seeF hs 50 1 (.bool (t1075.2 != 0)) KR KR)
                            refine yStep ha 51 KR ?_; intro l_ ha HK
                            refine stepp ha 51 (.bool (t1075.2 != 0)) KR KR ?_; intro ax hax; exact HK _ _ _ hax rfl (Below.refl _ _)
                          · skip
                            intro a wr hn hd HW hs; have ha := hasNil hn hd
                            have ha := ha.add (seeE hs 8 (.int .i64 t1081.2) KR KR)
                            have ha := ha.add (seeF hs 51 2 (.bool (t1075.2 != 0)) KR KR)
                            have ha := ha.bool 51 KR (ineq_f hp1114)
                            refine yStep ha 52 KR ?_; intro l_ ha HK
                            refine stepp ha 52 (.int .i64 t1081.2) KR KR ?_; intro ax hax; exact HK _ _ _ hax rfl (Below.refl _ _)
                          · skip
                            intro a wr hn hd HW hs; have ha := hasNil hn hd
                            have ha := ha.add (seeF hs 52 3 (.int .i64 t1081.2) KR KR)
                            have ha := ha.add (seeF hs 51 2 (.bool (t1075.2 != 0)) KR KR)
                            have ha := ha.bool 51 KR (ineq_f hp1114)
                            refine yStep ha 53 KR ?_; intro l_ ha HK
                            refine stepp ha 53 (.bool (t1081.2 != 0)) KR KR ?_; intro ax hax; exact HK _ _ _ hax rfl (Below.refl _ _)
                          · skip
                            intro a wr hn hd HW hs; have ha := hasNil hn hd
                            have ha := ha.add (seeF hs 51 2 (.bool (t1075.2 != 0)) KR KR)
                            have ha := ha.bool 51 KR (ineq_f hp1114)
                            have ha := ha.add (seeF hs 53 4 (.bool (t1081.2 != 0)) KR KR)
                            refine yStep ha 54 KR ?_; intro l_ ha HK
                            refine stepp ha 54 (.bool (t1081.2 != 0)) KR KR ?_; intro ax hax; exact HK _ _ _ hax rfl (Below.refl _ _)
                          · skip
                            intro a wr hn hd HW hs; have ha := hasNil hn hd
                            have ha := ha.add (seeF hs 54 5 (.bool (t1081.2 != 0)) KR KR)
                            refine yStep ha 55 KR ?_; intro l_ ha HK
                            refine stepp ha 55 (.bool (t1081.2 != 0)) KR KR ?_; intro ax hax; exact HK _ _ _ hax rfl (Below.refl _ _)
                          · skip
                            intro a wr hn hd HW hs; have ha := hasNil hn hd
                            have ha := ha.add (seeE hs 10 (.int .i64 t1087.2) KR KR)
                            have ha := ha.add (seeF hs 55 6 (.bool (t1081.2 != 0)) KR KR)
                            have ha := ha.bool 55 KR (ineq_f hp1115)
                            refine yStep ha 56 KR ?_; intro l_ ha HK
                            refine stepp ha 56 (.int .i64 t1087.2) KR KR ?_; intro ax hax; exact HK _ _ _ hax rfl (Below.refl _ _)
                          · skip
                            intro a wr hn hd HW hs; have ha := hasNil hn hd
                            have ha := ha.add (seeF hs 56 7 (.int .i64 t1087.2) KR KR)
                            have ha := ha.add (seeF hs 55 6 (.bool (t1081.2 != 0)) KR KR)
                            have ha := ha.bool 55 KR (ineq_f hp1115)
                            refine yStep ha 57 KR ?_; intro l_ ha HK
                            refine stepp ha 57 (.bool (t1087.2 != 0)) KR KR ?_; intro ax hax; exact HK _ _ _ hax rfl (Below.refl _ _)
                          · skip
                            intro a wr hn hd HW hs; have ha := hasNil hn hd
                            have ha := ha.add (seeF hs 55 6 (.bool (t1081.2 != 0)) KR KR)
                            have ha := ha.bool 55 KR (ineq_f hp1115)
                            have ha := ha.add (seeF hs 57 8 (.bool (t1087.2 != 0)) KR KR)
                            refine yStep ha 58 KR ?_; intro l_ ha HK
                            refine stepp ha 58 (.bool (t1087.2 != 0)) KR KR ?_; intro ax hax; exact HK _ _ _ hax rfl (Below.refl _ _)
                          · skip
                            intro a wr hn hd HW hs; have ha := hasNil hn hd
                            have ha := ha.add (seeF hs 58 9 (.bool (t1087.2 != 0)) KR KR)
                            refine yStep ha 59 KR ?_; intro l_ ha HK
                            refine stepp ha 59 (.bool (t1087.2 != 0)) KR KR ?_; intro ax hax; exact HK _ _ _ hax rfl (Below.refl _ _)
                          · skip
                            intro a wr hn hd HW hs; have ha := hasNil hn hd
                            have ha := ha.add (seeE hs 5 (.string t1075.1) KR KR)
                            have ha := ha.add (seeF hs 59 10 (.bool (t1087.2 != 0)) KR KR)
                            have ha := ha.bool 59 KR (ineq_f hp1116)
                            refine yStep ha 60 KR ?_; intro l_ ha HK
                            refine stepp ha 60 (.string t1075.1) KR KR ?_; intro ax hax; exact HK _ _ _ hax rfl (Below.refl _ _)
                          · skip
                            intro a wr hn hd HW hs; have ha := hasNil hn hd
                            have ha := ha.add (seeF hs 60 11 (.string t1075.1) KR KR)
                            have ha := ha.add (seeF hs 59 10 (.bool (t1087.2 != 0)) KR KR)
                            have ha := ha.bool 59 KR (ineq_f hp1116)
                            refine yStep ha 61 KR ?_; intro l_ ha HK
                            refine stepp ha 61 (.int .i64 (t1075.1.size : Int)) KR KR ?_; intro ax hax; exact HK _ _ _ hax rfl (Below.refl _ _)
                          · skip
                            intro a wr hn hd HW hs; have ha := hasNil hn hd
                            have ha := ha.add (seeE hs 5 (.string t1075.1) KR KR)
                            have ha := ha.add (seeF hs 59 10 (.bool (t1087.2 != 0)) KR KR)
                            have ha := ha.bool 59 KR (ineq_f hp1116)
                            refine yStep ha 62 KR ?_; intro l_ ha HK
                            refine stepp ha 62 (.string t1075.1) KR KR ?_; intro ax hax; exact HK _ _ _ hax rfl (Below.refl _ _)
                          · skip
                            intro a wr hn hd HW hs; have ha := hasNil hn hd
                            have ha := ha.add (seeF hs 62 13 (.string t1075.1) KR KR)
                            have ha := ha.add (seeF hs 59 10 (.bool (t1087.2 != 0)) KR KR)
                            have ha := ha.bool 59 KR (ineq_f hp1116)
                            refine yStep ha 63 KR ?_; intro l_ ha HK
                            refine stepsi ha 63 9 (.tmp 62) (.const (.int .i64 3)) t1075.1 .i64 3 rfl KR KR KR (by decide) (show (3 : Int) < ((t1075.1).size : Int) from hA1117) KR ?_; intro ax hax; exact HK _ _ _ hax rfl (Below.refl _ _)
                          · skip
                            intro a wr hn hd HW hs; have ha := hasNil hn hd
                            have ha := ha.add (seeF hs 63 14 (.int .u8 (bt t1075.1 3)) KR KR)
                            have ha := ha.add (seeF hs 59 10 (.bool (t1087.2 != 0)) KR KR)
                            have ha := ha.bool 59 KR (ineq_f hp1116)
                            refine yStep ha 64 KR ?_; intro l_ ha HK
                            refine stepp ha 64 (.int .i64 (IntKind.wrap .i64 (bt t1075.1 3))) KR KR ?_; intro ax hax; exact HK _ _ _ hax rfl (Below.refl _ _)
                          · skip
                            intro a wr hn hd HW hs; have ha := hasNil hn hd
                            have ha := ha.add (seeF hs 64 15 (.int .i64 (IntKind.wrap .i64 (bt t1075.1 3))) KR KR)
                            have ha := ha.add (seeF hs 59 10 (.bool (t1087.2 != 0)) KR KR)
                            have ha := ha.bool 59 KR (ineq_f hp1116)
                            refine yStep ha 65 KR ?_; intro l_ ha HK
                            refine stepp ha 65 (.int .i64 (IntKind.wrap .i64 (4 + (IntKind.wrap .i64 (bt t1075.1 3))))) KR KR ?_; intro ax hax; exact HK _ _ _ hax rfl (Below.refl _ _)
                          · skip
                            intro a wr hn hd HW hs; have ha := hasNil hn hd
                            have ha := ha.add (seeF hs 61 12 (.int .i64 (t1075.1.size : Int)) KR KR)
                            have ha := ha.add (seeF hs 65 16 (.int .i64 (IntKind.wrap .i64 (4 + (IntKind.wrap .i64 (bt t1075.1 3))))) KR KR)
                            have ha := ha.add (seeF hs 59 10 (.bool (t1087.2 != 0)) KR KR)
                            have ha := ha.bool 59 KR (ineq_f hp1116)
                            refine yStep ha 66 KR ?_; intro l_ ha HK
                            refine stepp ha 66 (.bool ((t1075.1.size : Int) != (IntKind.wrap .i64 (4 + (IntKind.wrap .i64 (bt t1075.1 3)))))) KR KR ?_; intro ax hax; exact HK _ _ _ hax rfl (Below.refl _ _)
                          · skip
                            intro a wr hn hd HW hs; have ha := hasNil hn hd
                            have ha := ha.add (seeF hs 59 10 (.bool (t1087.2 != 0)) KR KR)
                            have ha := ha.bool 59 KR (ineq_f hp1116)
                            have ha := ha.add (seeF hs 66 17 (.bool ((t1075.1.size : Int) != (IntKind.wrap .i64 (4 + (IntKind.wrap .i64 (bt t1075.1 3)))))) KR KR)
                            refine yStep ha 67 KR ?_; intro l_ ha HK
                            refine stepp ha 67 (.bool ((t1075.1.size : Int) != (IntKind.wrap .i64 (4 + (IntKind.wrap .i64 (bt t1075.1 3)))))) KR KR ?_; intro ax hax; exact HK _ _ _ hax rfl (Below.refl _ _)
                          · skip
                            intro a wr hn hd HW hs; have ha := hasNil hn hd
                            have ha := ha.add (seeF hs 67 18 (.bool ((t1075.1.size : Int) != (IntKind.wrap .i64 (4 + (IntKind.wrap .i64 (bt t1075.1 3)))))) KR KR)
                            refine yStep ha 68 KR ?_; intro l_ ha HK
                            refine stepp ha 68 (.bool ((t1075.1.size : Int) != (IntKind.wrap .i64 (4 + (IntKind.wrap .i64 (bt t1075.1 3)))))) KR KR ?_; intro ax hax; exact HK _ _ _ hax rfl (Below.refl _ _)
                          · skip
                            intro a wr hn hd HW hs; have ha := hasNil hn hd
                            have ha := ha.add (seeE hs 7 (.string t1081.1) KR KR)
                            have ha := ha.add (seeF hs 68 19 (.bool ((t1075.1.size : Int) != (IntKind.wrap .i64 (4 + (IntKind.wrap .i64 (bt t1075.1 3)))))) KR KR)
                            have ha := ha.bool 68 KR (ineq_f hp1118)
                            refine yStep ha 69 KR ?_; intro l_ ha HK
                            refine stepp ha 69 (.string t1081.1) KR KR ?_; intro ax hax; exact HK _ _ _ hax rfl (Below.refl _ _)
                          · skip
                            intro a wr hn hd HW hs; have ha := hasNil hn hd
                            have ha := ha.add (seeF hs 69 20 (.string t1081.1) KR KR)
                            have ha := ha.add (seeF hs 68 19 (.bool ((t1075.1.size : Int) != (IntKind.wrap .i64 (4 + (IntKind.wrap .i64 (bt t1075.1 3)))))) KR KR)
                            have ha := ha.bool 68 KR (ineq_f hp1118)
                            refine yStep ha 70 KR ?_; intro l_ ha HK
                            refine stepp ha 70 (.int .i64 (t1081.1.size : Int)) KR KR ?_; intro ax hax; exact HK _ _ _ hax rfl (Below.refl _ _)
                          · skip
                            intro a wr hn hd HW hs; have ha := hasNil hn hd
                            have ha := ha.add (seeE hs 7 (.string t1081.1) KR KR)
                            have ha := ha.add (seeF hs 68 19 (.bool ((t1075.1.size : Int) != (IntKind.wrap .i64 (4 + (IntKind.wrap .i64 (bt t1075.1 3)))))) KR KR)
                            have ha := ha.bool 68 KR (ineq_f hp1118)
                            refine yStep ha 71 KR ?_; intro l_ ha HK
                            refine stepp ha 71 (.string t1081.1) KR KR ?_; intro ax hax; exact HK _ _ _ hax rfl (Below.refl _ _)
                          · skip
                            intro a wr hn hd HW hs; have ha := hasNil hn hd
                            have ha := ha.add (seeF hs 71 22 (.string t1081.1) KR KR)
                            have ha := ha.add (seeF hs 68 19 (.bool ((t1075.1.size : Int) != (IntKind.wrap .i64 (4 + (IntKind.wrap .i64 (bt t1075.1 3)))))) KR KR)
                            have ha := ha.bool 68 KR (ineq_f hp1118)
                            refine yStep ha 72 KR ?_; intro l_ ha HK
                            refine stepsi ha 72 9 (.tmp 71) (.const (.int .i64 3)) t1081.1 .i64 3 rfl KR KR KR (by decide) (show (3 : Int) < ((t1081.1).size : Int) from hA1119) KR ?_; intro ax hax; exact HK _ _ _ hax rfl (Below.refl _ _)
                          · skip
                            intro a wr hn hd HW hs; have ha := hasNil hn hd
                            have ha := ha.add (seeF hs 72 23 (.int .u8 (bt t1081.1 3)) KR KR)
                            have ha := ha.add (seeF hs 68 19 (.bool ((t1075.1.size : Int) != (IntKind.wrap .i64 (4 + (IntKind.wrap .i64 (bt t1075.1 3)))))) KR KR)
                            have ha := ha.bool 68 KR (ineq_f hp1118)
                            refine yStep ha 73 KR ?_; intro l_ ha HK
                            refine stepp ha 73 (.int .i64 (IntKind.wrap .i64 (bt t1081.1 3))) KR KR ?_; intro ax hax; exact HK _ _ _ hax rfl (Below.refl _ _)
                          · skip
                            intro a wr hn hd HW hs; have ha := hasNil hn hd
                            have ha := ha.add (seeF hs 73 24 (.int .i64 (IntKind.wrap .i64 (bt t1081.1 3))) KR KR)
                            have ha := ha.add (seeF hs 68 19 (.bool ((t1075.1.size : Int) != (IntKind.wrap .i64 (4 + (IntKind.wrap .i64 (bt t1075.1 3)))))) KR KR)
                            have ha := ha.bool 68 KR (ineq_f hp1118)
                            refine yStep ha 74 KR ?_; intro l_ ha HK
                            refine stepp ha 74 (.int .i64 (IntKind.wrap .i64 (4 + (IntKind.wrap .i64 (bt t1081.1 3))))) KR KR ?_; intro ax hax; exact HK _ _ _ hax rfl (Below.refl _ _)
                          · skip
                            intro a wr hn hd HW hs; have ha := hasNil hn hd
                            have ha := ha.add (seeF hs 70 21 (.int .i64 (t1081.1.size : Int)) KR KR)
                            have ha := ha.add (seeF hs 74 25 (.int .i64 (IntKind.wrap .i64 (4 + (IntKind.wrap .i64 (bt t1081.1 3))))) KR KR)
                            have ha := ha.add (seeF hs 68 19 (.bool ((t1075.1.size : Int) != (IntKind.wrap .i64 (4 + (IntKind.wrap .i64 (bt t1075.1 3)))))) KR KR)
                            have ha := ha.bool 68 KR (ineq_f hp1118)
                            refine yStep ha 75 KR ?_; intro l_ ha HK
                            refine stepp ha 75 (.bool ((t1081.1.size : Int) != (IntKind.wrap .i64 (4 + (IntKind.wrap .i64 (bt t1081.1 3)))))) KR KR ?_; intro ax hax; exact HK _ _ _ hax rfl (Below.refl _ _)
                          · skip
                            intro a wr hn hd HW hs; have ha := hasNil hn hd
                            have ha := ha.add (seeF hs 68 19 (.bool ((t1075.1.size : Int) != (IntKind.wrap .i64 (4 + (IntKind.wrap .i64 (bt t1075.1 3)))))) KR KR)
                            have ha := ha.bool 68 KR (ineq_f hp1118)
                            have ha := ha.add (seeF hs 75 26 (.bool ((t1081.1.size : Int) != (IntKind.wrap .i64 (4 + (IntKind.wrap .i64 (bt t1081.1 3)))))) KR KR)
                            refine yStep ha 76 KR ?_; intro l_ ha HK
                            refine stepp ha 76 (.bool ((t1081.1.size : Int) != (IntKind.wrap .i64 (4 + (IntKind.wrap .i64 (bt t1081.1 3)))))) KR KR ?_; intro ax hax; exact HK _ _ _ hax rfl (Below.refl _ _)
                          · skip
                            intro a wr hn hd HW hs; have ha := hasNil hn hd
                            have ha := ha.add (seeF hs 76 27 (.bool ((t1081.1.size : Int) != (IntKind.wrap .i64 (4 + (IntKind.wrap .i64 (bt t1081.1 3)))))) KR KR)
                            refine yStep ha 77 KR ?_; intro l_ ha HK
                            refine stepp ha 77 (.bool ((t1081.1.size : Int) != (IntKind.wrap .i64 (4 + (IntKind.wrap .i64 (bt t1081.1 3)))))) KR KR ?_; intro ax hax; exact HK _ _ _ hax rfl (Below.refl _ _)
                          · skip
                            intro a wr hn hd HW hs; have ha := hasNil hn hd
                            have ha := ha.add (seeE hs 9 (.string t1087.1) KR KR)
                            have ha := ha.add (seeF hs 77 28 (.bool ((t1081.1.size : Int) != (IntKind.wrap .i64 (4 + (IntKind.wrap .i64 (bt t1081.1 3)))))) KR KR)
                            have ha := ha.bool 77 KR (ineq_f hp1120)
                            refine yStep ha 78 KR ?_; intro l_ ha HK
                            refine stepp ha 78 (.string t1087.1) KR KR ?_; intro ax hax; exact HK _ _ _ hax rfl (Below.refl _ _)
                          · skip
                            intro a wr hn hd HW hs; have ha := hasNil hn hd
                            have ha := ha.add (seeF hs 78 29 (.string t1087.1) KR KR)
                            have ha := ha.add (seeF hs 77 28 (.bool ((t1081.1.size : Int) != (IntKind.wrap .i64 (4 + (IntKind.wrap .i64 (bt t1081.1 3)))))) KR KR)
                            have ha := ha.bool 77 KR (ineq_f hp1120)
                            refine yStep ha 79 KR ?_; intro l_ ha HK
                            refine stepp ha 79 (.int .i64 (t1087.1.size : Int)) KR KR ?_; intro ax hax; exact HK _ _ _ hax rfl (Below.refl _ _)
                          · skip
                            intro a wr hn hd HW hs; have ha := hasNil hn hd
                            have ha := ha.add (seeE hs 9 (.string t1087.1) KR KR)
                            have ha := ha.add (seeF hs 77 28 (.bool ((t1081.1.size : Int) != (IntKind.wrap .i64 (4 + (IntKind.wrap .i64 (bt t1081.1 3)))))) KR KR)
                            have ha := ha.bool 77 KR (ineq_f hp1120)
                            refine yStep ha 80 KR ?_; intro l_ ha HK
                            refine stepp ha 80 (.string t1087.1) KR KR ?_; intro ax hax; exact HK _ _ _ hax rfl (Below.refl _ _)
                          · skip
                            intro a wr hn hd HW hs; have ha := hasNil hn hd
                            have ha := ha.add (seeF hs 80 31 (.string t1087.1) KR KR)
                            have ha := ha.add (seeF hs 77 28 (.bool ((t1081.1.size : Int) != (IntKind.wrap .i64 (4 + (IntKind.wrap .i64 (bt t1081.1 3)))))) KR KR)
                            have ha := ha.bool 77 KR (ineq_f hp1120)
                            refine yStep ha 81 KR ?_; intro l_ ha HK
                            refine stepsi ha 81 9 (.tmp 80) (.const (.int .i64 3)) t1087.1 .i64 3 rfl KR KR KR (by decide) (show (3 : Int) < ((t1087.1).size : Int) from hA1121) KR ?_; intro ax hax; exact HK _ _ _ hax rfl (Below.refl _ _)
                          · skip
                            intro a wr hn hd HW hs; have ha := hasNil hn hd
                            have ha := ha.add (seeF hs 81 32 (.int .u8 (bt t1087.1 3)) KR KR)
                            have ha := ha.add (seeF hs 77 28 (.bool ((t1081.1.size : Int) != (IntKind.wrap .i64 (4 + (IntKind.wrap .i64 (bt t1081.1 3)))))) KR KR)
                            have ha := ha.bool 77 KR (ineq_f hp1120)
                            refine yStep ha 82 KR ?_; intro l_ ha HK
                            refine stepp ha 82 (.int .i64 (IntKind.wrap .i64 (bt t1087.1 3))) KR KR ?_; intro ax hax; exact HK _ _ _ hax rfl (Below.refl _ _)
                          · skip
                            intro a wr hn hd HW hs; have ha := hasNil hn hd
                            have ha := ha.add (seeF hs 82 33 (.int .i64 (IntKind.wrap .i64 (bt t1087.1 3))) KR KR)
                            have ha := ha.add (seeF hs 77 28 (.bool ((t1081.1.size : Int) != (IntKind.wrap .i64 (4 + (IntKind.wrap .i64 (bt t1081.1 3)))))) KR KR)
                            have ha := ha.bool 77 KR (ineq_f hp1120)
                            refine yStep ha 83 KR ?_; intro l_ ha HK
                            refine stepp ha 83 (.int .i64 (IntKind.wrap .i64 (4 + (IntKind.wrap .i64 (bt t1087.1 3))))) KR KR ?_; intro ax hax; exact HK _ _ _ hax rfl (Below.refl _ _)
                          · skip
                            intro a wr hn hd HW hs; have ha := hasNil hn hd
                            have ha := ha.add (seeF hs 79 30 (.int .i64 (t1087.1.size : Int)) KR KR)
                            have ha := ha.add (seeF hs 83 34 (.int .i64 (IntKind.wrap .i64 (4 + (IntKind.wrap .i64 (bt t1087.1 3))))) KR KR)
                            have ha := ha.add (seeF hs 77 28 (.bool ((t1081.1.size : Int) != (IntKind.wrap .i64 (4 + (IntKind.wrap .i64 (bt t1081.1 3)))))) KR KR)
                            have ha := ha.bool 77 KR (ineq_f hp1120)
                            refine yStep ha 84 KR ?_; intro l_ ha HK
                            refine stepp ha 84 (.bool ((t1087.1.size : Int) != (IntKind.wrap .i64 (4 + (IntKind.wrap .i64 (bt t1087.1 3)))))) KR KR ?_; intro ax hax; exact HK _ _ _ hax rfl (Below.refl _ _)
                          · skip
                            intro a wr hn hd HW hs; have ha := hasNil hn hd
                            have ha := ha.add (seeF hs 77 28 (.bool ((t1081.1.size : Int) != (IntKind.wrap .i64 (4 + (IntKind.wrap .i64 (bt t1081.1 3)))))) KR KR)
                            have ha := ha.bool 77 KR (ineq_f hp1120)
                            have ha := ha.add (seeF hs 84 35 (.bool ((t1087.1.size : Int) != (IntKind.wrap .i64 (4 + (IntKind.wrap .i64 (bt t1087.1 3)))))) KR KR)
                            refine yStep ha 85 KR ?_; intro l_ ha HK
                            refine stepp ha 85 (.bool ((t1087.1.size : Int) != (IntKind.wrap .i64 (4 + (IntKind.wrap .i64 (bt t1087.1 3)))))) KR KR ?_; intro ax hax; exact HK _ _ _ hax rfl (Below.refl _ _)
                          · skip
                            intro a wr hn hd HW hs; have ha := hasNil hn hd
                            have ha := ha.add (seeF hs 85 36 (.bool ((t1087.1.size : Int) != (IntKind.wrap .i64 (4 + (IntKind.wrap .i64 (bt t1087.1 3)))))) KR KR)
                            refine yStep ha 86 KR ?_; intro l_ ha HK
                            refine stepp ha 86 (.bool ((t1087.1.size : Int) != (IntKind.wrap .i64 (4 + (IntKind.wrap .i64 (bt t1087.1 3)))))) KR KR ?_; intro ax hax; exact HK _ _ _ hax rfl (Below.refl _ _)
                          · skip
                            intro a wr hn hd HW hs; have ha := hasNil hn hd
                            have ha := ha.add (seeE hs 7 (.string t1081.1) KR KR)
                            have ha := ha.add (seeF hs 86 37 (.bool ((t1087.1.size : Int) != (IntKind.wrap .i64 (4 + (IntKind.wrap .i64 (bt t1087.1 3)))))) KR KR)
                            have ha := ha.bool 86 KR (ineq_f hp1122)
                            refine yStep ha 87 KR ?_; intro l_ ha HK
                            refine stepp ha 87 (.string t1081.1) KR KR ?_; intro ax hax; exact HK _ _ _ hax rfl (Below.refl _ _)
                          · skip
                            intro a wr hn hd HW hs; have ha := hasNil hn hd
                            have ha := ha.add (seeF hs 87 38 (.string t1081.1) KR KR)
                            have ha := ha.add (seeF hs 86 37 (.bool ((t1087.1.size : Int) != (IntKind.wrap .i64 (4 + (IntKind.wrap .i64 (bt t1087.1 3)))))) KR KR)
                            have ha := ha.bool 86 KR (ineq_f hp1122)
                            refine yStep ha 88 KR ?_; intro l_ ha HK
                            refine stepssl ha 88 9 (.tmp 87) (.const (.int .i64 8)) t1081.1 .i64 8 rfl KR KR KR (by decide) (show (8 : Int) ≤ ((t1081.1).size : Int) from hA1123) KR ?_; intro ax hax; exact HK _ _ _ hax rfl (Below.refl _ _)
                          · skip
                            intro a wr hn hd HW hs; have ha := hasNil hn hd
                            have ha := ha.add (seeE hs 2 (.pointer (some ⟨b1060, 0, none⟩)) KR KR)
                            have ha := ha.add (seeF hs 86 37 (.bool ((t1087.1.size : Int) != (IntKind.wrap .i64 (4 + (IntKind.wrap .i64 (bt t1087.1 3)))))) KR KR)
                            have ha := ha.bool 86 KR (ineq_f hp1122)
                            refine yStep ha 89 KR ?_; intro l_ ha HK
                            refine stepp ha 89 (.pointer (some ⟨b1060, 1, none⟩)) KR KR ?_; intro ax hax; exact HK _ _ _ hax rfl (Below.refl _ _)
                          · skip
                            intro a wr hn hd HW hs; have ha := hasNil hn hd
                            have ha := ha.add (seeF hs 89 40 (.pointer (some ⟨b1060, 1, none⟩)) KR KR)
                            have ha := ha.add (seeF hs 86 37 (.bool ((t1087.1.size : Int) != (IntKind.wrap .i64 (4 + (IntKind.wrap .i64 (bt t1087.1 3)))))) KR KR)
                            have ha := ha.bool 86 KR (ineq_f hp1122)
                            refine yStep ha 90 KR ?_; intro l_ ha HK
                            refine stepl ha 90 (HW.ca (i := 0) (b := b1060) (C := #[.int .i64 a0.f0, .string a0.f1]) (T := 23) (fr := (0, 0)) KR) 9 1 (.tmp 89) (.string a0.f1) rfl KR KR KR ?_; intro ax hax; exact HK _ _ _ hax rfl (Below.refl _ _)
                          · skip
                            intro a wr hn hd HW hs; have ha := hasNil hn hd
                            have ha := ha.add (seeF hs 88 39 (.string (t1081.1.extract (8 : Int).toNat (t1081.1).size)) KR KR)
                            have ha := ha.add (seeF hs 90 41 (.string a0.f1) KR KR)
                            have ha := ha.add (seeF hs 86 37 (.bool ((t1087.1.size : Int) != (IntKind.wrap .i64 (4 + (IntKind.wrap .i64 (bt t1087.1 3)))))) KR KR)
                            have ha := ha.bool 86 KR (ineq_f hp1122)
                            refine yStep ha 91 KR ?_; intro l_ ha HK
                            refine stepp ha 91 (.bool (!((t1081.1.extract (8 : Int).toNat (t1081.1).size).toList == a0.f1.toList))) KR KR ?_; intro ax hax; exact HK _ _ _ hax rfl (Below.refl _ _)
                          · skip
                            intro a wr hn hd HW hs; have ha := hasNil hn hd
                            have ha := ha.add (seeF hs 86 37 (.bool ((t1087.1.size : Int) != (IntKind.wrap .i64 (4 + (IntKind.wrap .i64 (bt t1087.1 3)))))) KR KR)
                            have ha := ha.bool 86 KR (ineq_f hp1122)
                            have ha := ha.add (seeF hs 91 42 (.bool (!((t1081.1.extract (8 : Int).toNat (t1081.1).size).toList == a0.f1.toList))) KR KR)
                            refine yStep ha 92 KR ?_; intro l_ ha HK
                            refine stepp ha 92 (.bool (!((t1081.1.extract (8 : Int).toNat (t1081.1).size).toList == a0.f1.toList))) KR KR ?_; intro ax hax; exact HK _ _ _ hax rfl (Below.refl _ _)
                          · skip
                            intro a wr hn hd HW hs; have ha := hasNil hn hd
                            have ha := ha.add (seeF hs 92 43 (.bool (!((t1081.1.extract (8 : Int).toNat (t1081.1).size).toList == a0.f1.toList))) KR KR)
                            refine yStep ha 93 KR ?_; intro l_ ha HK
                            refine stepp ha 93 (.bool (!((t1081.1.extract (8 : Int).toNat (t1081.1).size).toList == a0.f1.toList))) KR KR ?_; intro ax hax; exact HK _ _ _ hax rfl (Below.refl _ _)
                          · skip
                            intro a wr hn hd HW hs; have ha := hasNil hn hd
                            have ha := ha.add (seeE hs 11 (.string t1093) KR KR)
                            have ha := ha.add (seeF hs 93 44 (.bool (!((t1081.1.extract (8 : Int).toNat (t1081.1).size).toList == a0.f1.toList))) KR KR)
                            have ha := ha.bool 93 KR (str_ne_t hp1124)
                            exact yo ha KR rfl
                          · skip
                            intro a wr hn hd HW hs; have ha := hasNil hn hd
                            have ha := ha.add (seeF hs 94 45 (undef) KR KR)
                            have ha := ha.add (seeF hs 93 44 (.bool (!((t1081.1.extract (8 : Int).toNat (t1081.1).size).toList == a0.f1.toList))) KR KR)
                            have ha := ha.bool 93 KR (str_ne_t hp1124)
                            exact yo ha KR rfl
                          · skip
                            intro a wr hn hd HW hs; have ha := hasNil hn hd
                            have ha := ha.add (seeE hs 1 (.int .u8 a1) KR KR)
                            have ha := ha.add (seeF hs 93 44 (.bool (!((t1081.1.extract (8 : Int).toNat (t1081.1).size).toList == a0.f1.toList))) KR KR)
                            have ha := ha.bool 93 KR (str_ne_t hp1124)
                            exact yo ha KR rfl
                          · skip
                            intro a wr hn hd HW hs; have ha := hasNil hn hd
                            have ha := ha.add (seeF hs 96 47 (undef) KR KR)
                            have ha := ha.add (seeF hs 93 44 (.bool (!((t1081.1.extract (8 : Int).toNat (t1081.1).size).toList == a0.f1.toList))) KR KR)
                            have ha := ha.bool 93 KR (str_ne_t hp1124)
                            exact yo ha KR rfl
                          · skip
                            intro a wr hn hd HW hs; have ha := hasNil hn hd
                            have ha := ha.add (seeF hs 97 48 (undef) KR KR)
                            have ha := ha.add (seeF hs 93 44 (.bool (!((t1081.1.extract (8 : Int).toNat (t1081.1).size).toList == a0.f1.toList))) KR KR)
                            have ha := ha.bool 93 KR (str_ne_t hp1124)
                            exact yo ha KR rfl
                          · skip
                            intro a wr hn hd HW hs; have ha := hasNil hn hd
                            have ha := ha.add (seeF hs 98 49 (undef) KR KR)
                            have ha := ha.add (seeF hs 93 44 (.bool (!((t1081.1.extract (8 : Int).toNat (t1081.1).size).toList == a0.f1.toList))) KR KR)
                            have ha := ha.bool 93 KR (str_ne_t hp1124)
                            exact yo ha KR rfl
                          · skip
                            intro a wr hn hd HW hs; have ha := hasNil hn hd
                            have ha := ha.add (seeF hs 95 46 (undef) KR KR)
                            have ha := ha.add (seeF hs 99 50 (undef) KR KR)
                            have ha := ha.add (seeF hs 93 44 (.bool (!((t1081.1.extract (8 : Int).toNat (t1081.1).size).toList == a0.f1.toList))) KR KR)
                            have ha := ha.bool 93 KR (str_ne_t hp1124)
                            exact yo ha KR rfl
                          · skip
                            intro a wr hn hd HW hs; have ha := hasNil hn hd
                            have ha := ha.add (seeF hs 93 44 (.bool (!((t1081.1.extract (8 : Int).toNat (t1081.1).size).toList == a0.f1.toList))) KR KR)
                            have ha := ha.bool 93 KR (str_ne_t hp1124)
                            have ha := ha.add (seeF hs 100 51 (undef) KR KR)
                            refine yStep ha 101 KR ?_; intro l_ ha HK
                            refine stepp ha 101 (.bool true) KR KR ?_; intro ax hax; exact HK _ _ _ hax rfl (Below.refl _ _)
                        · skip
                          intro a W1126 ha HW he hf
                          replace ha := ha.add (he 1 (.int .u8 a1) KR KR)
                          replace ha := ha.add (he 11 (.string t1093) KR KR)
                          replace ha := ha.add (gotF (m := 53) (j := 52) (d := 101) (v := .bool true) hf KR KR KR)
                          clear he hf
                          refine endl ?_
                          refine thenN (hK1113 _ _ ?_); clear hK1113
                          refine condT ha KR KR (t := true) (rfl) ?_
                          refine wp_seq_k (fun K1136 hK1137 => ?_)
                          refine wp_region_lit ?_
                          refine stepp ha 4 (.bool false) KR KR ?_; clear ha a; intro a ha
                          refine endl ?_
                          refine thenN (hK1137 _ _ ?_); clear hK1137
                          refine wp_ret ?_
                          refine thenR ?_
                          obtain rfl := Option.some.inj h
                          exact finv ha _ _ rfl (.tmp (v := .bool false) KR .nil) (.bool false) rfl ⟨rfl, HW.pick [] [] (by decide) (by decide) rfl KR⟩
                    · skip
                      replace h := ite_neg' h hp1122
                      refine regionG 53 KR KR ha HW [.fix (.int .i64 t1075.2), .fix (.bool (t1075.2 != 0)), .fix (.bool (t1075.2 != 0)), .fix (.int .i64 t1081.2), .fix (.bool (t1081.2 != 0)), .fix (.bool (t1081.2 != 0)), .fix (.bool (t1081.2 != 0)), .fix (.int .i64 t1087.2), .fix (.bool (t1087.2 != 0)), .fix (.bool (t1087.2 != 0)), .fix (.bool (t1087.2 != 0)), .fix (.string t1075.1), .fix (.int .i64 (t1075.1.size : Int)), .fix (.string t1075.1), .fix (.int .u8 (bt t1075.1 3)), .fix (.int .i64 (IntKind.wrap .i64 (bt t1075.1 3))), .fix (.int .i64 (IntKind.wrap .i64 (4 + (IntKind.wrap .i64 (bt t1075.1 3))))), .fix (.bool ((t1075.1.size : Int) != (IntKind.wrap .i64 (4 + (IntKind.wrap .i64 (bt t1075.1 3)))))), .fix (.bool ((t1075.1.size : Int) != (IntKind.wrap .i64 (4 + (IntKind.wrap .i64 (bt t1075.1 3)))))), .fix (.bool ((t1075.1.size : Int) != (IntKind.wrap .i64 (4 + (IntKind.wrap .i64 (bt t1075.1 3)))))), .fix (.string t1081.1), .fix (.int .i64 (t1081.1.size : Int)), .fix (.string t1081.1), .fix (.int .u8 (bt t1081.1 3)), .fix (.int .i64 (IntKind.wrap .i64 (bt t1081.1 3))), .fix (.int .i64 (IntKind.wrap .i64 (4 + (IntKind.wrap .i64 (bt t1081.1 3))))), .fix (.bool ((t1081.1.size : Int) != (IntKind.wrap .i64 (4 + (IntKind.wrap .i64 (bt t1081.1 3)))))), .fix (.bool ((t1081.1.size : Int) != (IntKind.wrap .i64 (4 + (IntKind.wrap .i64 (bt t1081.1 3)))))), .fix (.bool ((t1081.1.size : Int) != (IntKind.wrap .i64 (4 + (IntKind.wrap .i64 (bt t1081.1 3)))))), .fix (.string t1087.1), .fix (.int .i64 (t1087.1.size : Int)), .fix (.string t1087.1), .fix (.int .u8 (bt t1087.1 3)), .fix (.int .i64 (IntKind.wrap .i64 (bt t1087.1 3))), .fix (.int .i64 (IntKind.wrap .i64 (4 + (IntKind.wrap .i64 (bt t1087.1 3))))), .fix (.bool ((t1087.1.size : Int) != (IntKind.wrap .i64 (4 + (IntKind.wrap .i64 (bt t1087.1 3)))))), .fix (.bool ((t1087.1.size : Int) != (IntKind.wrap .i64 (4 + (IntKind.wrap .i64 (bt t1087.1 3)))))), .fix (.bool ((t1087.1.size : Int) != (IntKind.wrap .i64 (4 + (IntKind.wrap .i64 (bt t1087.1 3)))))), .fix undef, .fix undef, .fix undef, .fix undef, .fix undef, .fix (.bool true), .fix (.bool true), .fix undef, .fix undef, .fix undef, .fix undef, .fix undef, .fix undef, .fix undef, .fix (.bool true)] ?_ ?_
                      · skip
                        refine ⟨?_, ?_, ?_, ?_, ?_, ?_, ?_, ?_, ?_, ?_, ?_, ?_, ?_, ?_, ?_, ?_, ?_, ?_, ?_, ?_, ?_, ?_, ?_, ?_, ?_, ?_, ?_, ?_, ?_, ?_, ?_, ?_, ?_, ?_, ?_, ?_, ?_, ?_, ?_, ?_, ?_, ?_, ?_, ?_, ?_, ?_, ?_, ?_, ?_, ?_, ?_, ?_, ?_, trivial⟩
                        · skip
                          intro a wr hn hd HW hs; have ha := hasNil hn hd
                          have ha := ha.add (seeE hs 6 (.int .i64 t1075.2) KR KR)
                          refine yStep ha 49 KR ?_; intro l_ ha HK
                          refine stepp ha 49 (.int .i64 t1075.2) KR KR ?_; intro ax hax; exact HK _ _ _ hax rfl (Below.refl _ _)
                        · skip
                          intro a wr hn hd HW hs; have ha := hasNil hn hd
                          have ha := ha.add (seeF hs 49 0 (.int .i64 t1075.2) KR KR)
                          refine yStep ha 50 KR ?_; intro l_ ha HK
                          refine stepp ha 50 (.bool (t1075.2 != 0)) KR KR ?_; intro ax hax; exact HK _ _ _ hax rfl (Below.refl _ _)
                        · skip
                          intro a wr hn hd HW hs; have ha := hasNil hn hd
                          have ha := ha.add (seeF hs 50 1 (.bool (t1075.2 != 0)) KR KR)
                          refine yStep ha 51 KR ?_; intro l_ ha HK
                          refine stepp ha 51 (.bool (t1075.2 != 0)) KR KR ?_; intro ax hax; exact HK _ _ _ hax rfl (Below.refl _ _)
                        · skip
                          intro a wr hn hd HW hs; have ha := hasNil hn hd
                          have ha := ha.add (seeE hs 8 (.int .i64 t1081.2) KR KR)
                          have ha := ha.add (seeF hs 51 2 (.bool (t1075.2 != 0)) KR KR)
                          have ha := ha.bool 51 KR (ineq_f hp1114)
                          refine yStep ha 52 KR ?_; intro l_ ha HK
                          refine stepp ha 52 (.int .i64 t1081.2) KR KR ?_; intro ax hax; exact HK _ _ _ hax rfl (Below.refl _ _)
                        · skip
                          intro a wr hn hd HW hs; have ha := hasNil hn hd
                          have ha := ha.add (seeF hs 52 3 (.int .i64 t1081.2) KR KR)
                          have ha := ha.add (seeF hs 51 2 (.bool (t1075.2 != 0)) KR KR)
                          have ha := ha.bool 51 KR (ineq_f hp1114)
                          refine yStep ha 53 KR ?_; intro l_ ha HK
                          refine stepp ha 53 (.bool (t1081.2 != 0)) KR KR ?_; intro ax hax; exact HK _ _ _ hax rfl (Below.refl _ _)
                        · skip
                          intro a wr hn hd HW hs; have ha := hasNil hn hd
                          have ha := ha.add (seeF hs 51 2 (.bool (t1075.2 != 0)) KR KR)
                          have ha := ha.bool 51 KR (ineq_f hp1114)
                          have ha := ha.add (seeF hs 53 4 (.bool (t1081.2 != 0)) KR KR)
                          refine yStep ha 54 KR ?_; intro l_ ha HK
                          refine stepp ha 54 (.bool (t1081.2 != 0)) KR KR ?_; intro ax hax; exact HK _ _ _ hax rfl (Below.refl _ _)
                        · skip
                          intro a wr hn hd HW hs; have ha := hasNil hn hd
                          have ha := ha.add (seeF hs 54 5 (.bool (t1081.2 != 0)) KR KR)
                          refine yStep ha 55 KR ?_; intro l_ ha HK
                          refine stepp ha 55 (.bool (t1081.2 != 0)) KR KR ?_; intro ax hax; exact HK _ _ _ hax rfl (Below.refl _ _)
                        · skip
                          intro a wr hn hd HW hs; have ha := hasNil hn hd
                          have ha := ha.add (seeE hs 10 (.int .i64 t1087.2) KR KR)
                          have ha := ha.add (seeF hs 55 6 (.bool (t1081.2 != 0)) KR KR)
                          have ha := ha.bool 55 KR (ineq_f hp1115)
                          refine yStep ha 56 KR ?_; intro l_ ha HK
                          refine stepp ha 56 (.int .i64 t1087.2) KR KR ?_; intro ax hax; exact HK _ _ _ hax rfl (Below.refl _ _)
                        · skip
                          intro a wr hn hd HW hs; have ha := hasNil hn hd
                          have ha := ha.add (seeF hs 56 7 (.int .i64 t1087.2) KR KR)
                          have ha := ha.add (seeF hs 55 6 (.bool (t1081.2 != 0)) KR KR)
                          have ha := ha.bool 55 KR (ineq_f hp1115)
                          refine yStep ha 57 KR ?_; intro l_ ha HK
                          refine stepp ha 57 (.bool (t1087.2 != 0)) KR KR ?_; intro ax hax; exact HK _ _ _ hax rfl (Below.refl _ _)
                        · skip
                          intro a wr hn hd HW hs; have ha := hasNil hn hd
                          have ha := ha.add (seeF hs 55 6 (.bool (t1081.2 != 0)) KR KR)
                          have ha := ha.bool 55 KR (ineq_f hp1115)
                          have ha := ha.add (seeF hs 57 8 (.bool (t1087.2 != 0)) KR KR)
                          refine yStep ha 58 KR ?_; intro l_ ha HK
                          refine stepp ha 58 (.bool (t1087.2 != 0)) KR KR ?_; intro ax hax; exact HK _ _ _ hax rfl (Below.refl _ _)
                        · skip
                          intro a wr hn hd HW hs; have ha := hasNil hn hd
                          have ha := ha.add (seeF hs 58 9 (.bool (t1087.2 != 0)) KR KR)
                          refine yStep ha 59 KR ?_; intro l_ ha HK
                          refine stepp ha 59 (.bool (t1087.2 != 0)) KR KR ?_; intro ax hax; exact HK _ _ _ hax rfl (Below.refl _ _)
                        · skip
                          intro a wr hn hd HW hs; have ha := hasNil hn hd
                          have ha := ha.add (seeE hs 5 (.string t1075.1) KR KR)
                          have ha := ha.add (seeF hs 59 10 (.bool (t1087.2 != 0)) KR KR)
                          have ha := ha.bool 59 KR (ineq_f hp1116)
                          refine yStep ha 60 KR ?_; intro l_ ha HK
                          refine stepp ha 60 (.string t1075.1) KR KR ?_; intro ax hax; exact HK _ _ _ hax rfl (Below.refl _ _)
                        · skip
                          intro a wr hn hd HW hs; have ha := hasNil hn hd
                          have ha := ha.add (seeF hs 60 11 (.string t1075.1) KR KR)
                          have ha := ha.add (seeF hs 59 10 (.bool (t1087.2 != 0)) KR KR)
                          have ha := ha.bool 59 KR (ineq_f hp1116)
                          refine yStep ha 61 KR ?_; intro l_ ha HK
                          refine stepp ha 61 (.int .i64 (t1075.1.size : Int)) KR KR ?_; intro ax hax; exact HK _ _ _ hax rfl (Below.refl _ _)
                        · skip
                          intro a wr hn hd HW hs; have ha := hasNil hn hd
                          have ha := ha.add (seeE hs 5 (.string t1075.1) KR KR)
                          have ha := ha.add (seeF hs 59 10 (.bool (t1087.2 != 0)) KR KR)
                          have ha := ha.bool 59 KR (ineq_f hp1116)
                          refine yStep ha 62 KR ?_; intro l_ ha HK
                          refine stepp ha 62 (.string t1075.1) KR KR ?_; intro ax hax; exact HK _ _ _ hax rfl (Below.refl _ _)
                        · skip
                          intro a wr hn hd HW hs; have ha := hasNil hn hd
                          have ha := ha.add (seeF hs 62 13 (.string t1075.1) KR KR)
                          have ha := ha.add (seeF hs 59 10 (.bool (t1087.2 != 0)) KR KR)
                          have ha := ha.bool 59 KR (ineq_f hp1116)
                          refine yStep ha 63 KR ?_; intro l_ ha HK
                          refine stepsi ha 63 9 (.tmp 62) (.const (.int .i64 3)) t1075.1 .i64 3 rfl KR KR KR (by decide) (show (3 : Int) < ((t1075.1).size : Int) from hA1117) KR ?_; intro ax hax; exact HK _ _ _ hax rfl (Below.refl _ _)
                        · skip
                          intro a wr hn hd HW hs; have ha := hasNil hn hd
                          have ha := ha.add (seeF hs 63 14 (.int .u8 (bt t1075.1 3)) KR KR)
                          have ha := ha.add (seeF hs 59 10 (.bool (t1087.2 != 0)) KR KR)
                          have ha := ha.bool 59 KR (ineq_f hp1116)
                          refine yStep ha 64 KR ?_; intro l_ ha HK
                          refine stepp ha 64 (.int .i64 (IntKind.wrap .i64 (bt t1075.1 3))) KR KR ?_; intro ax hax; exact HK _ _ _ hax rfl (Below.refl _ _)
                        · skip
                          intro a wr hn hd HW hs; have ha := hasNil hn hd
                          have ha := ha.add (seeF hs 64 15 (.int .i64 (IntKind.wrap .i64 (bt t1075.1 3))) KR KR)
                          have ha := ha.add (seeF hs 59 10 (.bool (t1087.2 != 0)) KR KR)
                          have ha := ha.bool 59 KR (ineq_f hp1116)
                          refine yStep ha 65 KR ?_; intro l_ ha HK
                          refine stepp ha 65 (.int .i64 (IntKind.wrap .i64 (4 + (IntKind.wrap .i64 (bt t1075.1 3))))) KR KR ?_; intro ax hax; exact HK _ _ _ hax rfl (Below.refl _ _)
                        · skip
                          intro a wr hn hd HW hs; have ha := hasNil hn hd
                          have ha := ha.add (seeF hs 61 12 (.int .i64 (t1075.1.size : Int)) KR KR)
                          have ha := ha.add (seeF hs 65 16 (.int .i64 (IntKind.wrap .i64 (4 + (IntKind.wrap .i64 (bt t1075.1 3))))) KR KR)
                          have ha := ha.add (seeF hs 59 10 (.bool (t1087.2 != 0)) KR KR)
                          have ha := ha.bool 59 KR (ineq_f hp1116)
                          refine yStep ha 66 KR ?_; intro l_ ha HK
                          refine stepp ha 66 (.bool ((t1075.1.size : Int) != (IntKind.wrap .i64 (4 + (IntKind.wrap .i64 (bt t1075.1 3)))))) KR KR ?_; intro ax hax; exact HK _ _ _ hax rfl (Below.refl _ _)
                        · skip
                          intro a wr hn hd HW hs; have ha := hasNil hn hd
                          have ha := ha.add (seeF hs 59 10 (.bool (t1087.2 != 0)) KR KR)
                          have ha := ha.bool 59 KR (ineq_f hp1116)
                          have ha := ha.add (seeF hs 66 17 (.bool ((t1075.1.size : Int) != (IntKind.wrap .i64 (4 + (IntKind.wrap .i64 (bt t1075.1 3)))))) KR KR)
                          refine yStep ha 67 KR ?_; intro l_ ha HK
                          refine stepp ha 67 (.bool ((t1075.1.size : Int) != (IntKind.wrap .i64 (4 + (IntKind.wrap .i64 (bt t1075.1 3)))))) KR KR ?_; intro ax hax; exact HK _ _ _ hax rfl (Below.refl _ _)
                        · skip
                          intro a wr hn hd HW hs; have ha := hasNil hn hd
                          have ha := ha.add (seeF hs 67 18 (.bool ((t1075.1.size : Int) != (IntKind.wrap .i64 (4 + (IntKind.wrap .i64 (bt t1075.1 3)))))) KR KR)
                          refine yStep ha 68 KR ?_; intro l_ ha HK
                          refine stepp ha 68 (.bool ((t1075.1.size : Int) != (IntKind.wrap .i64 (4 + (IntKind.wrap .i64 (bt t1075.1 3)))))) KR KR ?_; intro ax hax; exact HK _ _ _ hax rfl (Below.refl _ _)
                        · skip
                          intro a wr hn hd HW hs; have ha := hasNil hn hd
                          have ha := ha.add (seeE hs 7 (.string t1081.1) KR KR)
                          have ha := ha.add (seeF hs 68 19 (.bool ((t1075.1.size : Int) != (IntKind.wrap .i64 (4 + (IntKind.wrap .i64 (bt t1075.1 3)))))) KR KR)
                          have ha := ha.bool 68 KR (ineq_f hp1118)
                          refine yStep ha 69 KR ?_; intro l_ ha HK
                          refine stepp ha 69 (.string t1081.1) KR KR ?_; intro ax hax; exact HK _ _ _ hax rfl (Below.refl _ _)
                        · skip
                          intro a wr hn hd HW hs; have ha := hasNil hn hd
                          have ha := ha.add (seeF hs 69 20 (.string t1081.1) KR KR)
                          have ha := ha.add (seeF hs 68 19 (.bool ((t1075.1.size : Int) != (IntKind.wrap .i64 (4 + (IntKind.wrap .i64 (bt t1075.1 3)))))) KR KR)
                          have ha := ha.bool 68 KR (ineq_f hp1118)
                          refine yStep ha 70 KR ?_; intro l_ ha HK
                          refine stepp ha 70 (.int .i64 (t1081.1.size : Int)) KR KR ?_; intro ax hax; exact HK _ _ _ hax rfl (Below.refl _ _)
                        · skip
                          intro a wr hn hd HW hs; have ha := hasNil hn hd
                          have ha := ha.add (seeE hs 7 (.string t1081.1) KR KR)
                          have ha := ha.add (seeF hs 68 19 (.bool ((t1075.1.size : Int) != (IntKind.wrap .i64 (4 + (IntKind.wrap .i64 (bt t1075.1 3)))))) KR KR)
                          have ha := ha.bool 68 KR (ineq_f hp1118)
                          refine yStep ha 71 KR ?_; intro l_ ha HK
                          refine stepp ha 71 (.string t1081.1) KR KR ?_; intro ax hax; exact HK _ _ _ hax rfl (Below.refl _ _)
                        · skip
                          intro a wr hn hd HW hs; have ha := hasNil hn hd
                          have ha := ha.add (seeF hs 71 22 (.string t1081.1) KR KR)
                          have ha := ha.add (seeF hs 68 19 (.bool ((t1075.1.size : Int) != (IntKind.wrap .i64 (4 + (IntKind.wrap .i64 (bt t1075.1 3)))))) KR KR)
                          have ha := ha.bool 68 KR (ineq_f hp1118)
                          refine yStep ha 72 KR ?_; intro l_ ha HK
                          refine stepsi ha 72 9 (.tmp 71) (.const (.int .i64 3)) t1081.1 .i64 3 rfl KR KR KR (by decide) (show (3 : Int) < ((t1081.1).size : Int) from hA1119) KR ?_; intro ax hax; exact HK _ _ _ hax rfl (Below.refl _ _)
                        · skip
                          intro a wr hn hd HW hs; have ha := hasNil hn hd
                          have ha := ha.add (seeF hs 72 23 (.int .u8 (bt t1081.1 3)) KR KR)
                          have ha := ha.add (seeF hs 68 19 (.bool ((t1075.1.size : Int) != (IntKind.wrap .i64 (4 + (IntKind.wrap .i64 (bt t1075.1 3)))))) KR KR)
                          have ha := ha.bool 68 KR (ineq_f hp1118)
                          refine yStep ha 73 KR ?_; intro l_ ha HK
                          refine stepp ha 73 (.int .i64 (IntKind.wrap .i64 (bt t1081.1 3))) KR KR ?_; intro ax hax; exact HK _ _ _ hax rfl (Below.refl _ _)
                        · skip
                          intro a wr hn hd HW hs; have ha := hasNil hn hd
                          have ha := ha.add (seeF hs 73 24 (.int .i64 (IntKind.wrap .i64 (bt t1081.1 3))) KR KR)
                          have ha := ha.add (seeF hs 68 19 (.bool ((t1075.1.size : Int) != (IntKind.wrap .i64 (4 + (IntKind.wrap .i64 (bt t1075.1 3)))))) KR KR)
                          have ha := ha.bool 68 KR (ineq_f hp1118)
                          refine yStep ha 74 KR ?_; intro l_ ha HK
                          refine stepp ha 74 (.int .i64 (IntKind.wrap .i64 (4 + (IntKind.wrap .i64 (bt t1081.1 3))))) KR KR ?_; intro ax hax; exact HK _ _ _ hax rfl (Below.refl _ _)
                        · skip
                          intro a wr hn hd HW hs; have ha := hasNil hn hd
                          have ha := ha.add (seeF hs 70 21 (.int .i64 (t1081.1.size : Int)) KR KR)
                          have ha := ha.add (seeF hs 74 25 (.int .i64 (IntKind.wrap .i64 (4 + (IntKind.wrap .i64 (bt t1081.1 3))))) KR KR)
                          have ha := ha.add (seeF hs 68 19 (.bool ((t1075.1.size : Int) != (IntKind.wrap .i64 (4 + (IntKind.wrap .i64 (bt t1075.1 3)))))) KR KR)
                          have ha := ha.bool 68 KR (ineq_f hp1118)
                          refine yStep ha 75 KR ?_; intro l_ ha HK
                          refine stepp ha 75 (.bool ((t1081.1.size : Int) != (IntKind.wrap .i64 (4 + (IntKind.wrap .i64 (bt t1081.1 3)))))) KR KR ?_; intro ax hax; exact HK _ _ _ hax rfl (Below.refl _ _)
                        · skip
                          intro a wr hn hd HW hs; have ha := hasNil hn hd
                          have ha := ha.add (seeF hs 68 19 (.bool ((t1075.1.size : Int) != (IntKind.wrap .i64 (4 + (IntKind.wrap .i64 (bt t1075.1 3)))))) KR KR)
                          have ha := ha.bool 68 KR (ineq_f hp1118)
                          have ha := ha.add (seeF hs 75 26 (.bool ((t1081.1.size : Int) != (IntKind.wrap .i64 (4 + (IntKind.wrap .i64 (bt t1081.1 3)))))) KR KR)
                          refine yStep ha 76 KR ?_; intro l_ ha HK
                          refine stepp ha 76 (.bool ((t1081.1.size : Int) != (IntKind.wrap .i64 (4 + (IntKind.wrap .i64 (bt t1081.1 3)))))) KR KR ?_; intro ax hax; exact HK _ _ _ hax rfl (Below.refl _ _)
                        · skip
                          intro a wr hn hd HW hs; have ha := hasNil hn hd
                          have ha := ha.add (seeF hs 76 27 (.bool ((t1081.1.size : Int) != (IntKind.wrap .i64 (4 + (IntKind.wrap .i64 (bt t1081.1 3)))))) KR KR)
                          refine yStep ha 77 KR ?_; intro l_ ha HK
                          refine stepp ha 77 (.bool ((t1081.1.size : Int) != (IntKind.wrap .i64 (4 + (IntKind.wrap .i64 (bt t1081.1 3)))))) KR KR ?_; intro ax hax; exact HK _ _ _ hax rfl (Below.refl _ _)
                        · skip
                          intro a wr hn hd HW hs; have ha := hasNil hn hd
                          have ha := ha.add (seeE hs 9 (.string t1087.1) KR KR)
                          have ha := ha.add (seeF hs 77 28 (.bool ((t1081.1.size : Int) != (IntKind.wrap .i64 (4 + (IntKind.wrap .i64 (bt t1081.1 3)))))) KR KR)
                          have ha := ha.bool 77 KR (ineq_f hp1120)
                          refine yStep ha 78 KR ?_; intro l_ ha HK
                          refine stepp ha 78 (.string t1087.1) KR KR ?_; intro ax hax; exact HK _ _ _ hax rfl (Below.refl _ _)
                        · skip
                          intro a wr hn hd HW hs; have ha := hasNil hn hd
                          have ha := ha.add (seeF hs 78 29 (.string t1087.1) KR KR)
                          have ha := ha.add (seeF hs 77 28 (.bool ((t1081.1.size : Int) != (IntKind.wrap .i64 (4 + (IntKind.wrap .i64 (bt t1081.1 3)))))) KR KR)
                          have ha := ha.bool 77 KR (ineq_f hp1120)
                          refine yStep ha 79 KR ?_; intro l_ ha HK
                          refine stepp ha 79 (.int .i64 (t1087.1.size : Int)) KR KR ?_; intro ax hax; exact HK _ _ _ hax rfl (Below.refl _ _)
                        · skip
                          intro a wr hn hd HW hs; have ha := hasNil hn hd
                          have ha := ha.add (seeE hs 9 (.string t1087.1) KR KR)
                          have ha := ha.add (seeF hs 77 28 (.bool ((t1081.1.size : Int) != (IntKind.wrap .i64 (4 + (IntKind.wrap .i64 (bt t1081.1 3)))))) KR KR)
                          have ha := ha.bool 77 KR (ineq_f hp1120)
                          refine yStep ha 80 KR ?_; intro l_ ha HK
                          refine stepp ha 80 (.string t1087.1) KR KR ?_; intro ax hax; exact HK _ _ _ hax rfl (Below.refl _ _)
                        · skip
                          intro a wr hn hd HW hs; have ha := hasNil hn hd
                          have ha := ha.add (seeF hs 80 31 (.string t1087.1) KR KR)
                          have ha := ha.add (seeF hs 77 28 (.bool ((t1081.1.size : Int) != (IntKind.wrap .i64 (4 + (IntKind.wrap .i64 (bt t1081.1 3)))))) KR KR)
                          have ha := ha.bool 77 KR (ineq_f hp1120)
                          refine yStep ha 81 KR ?_; intro l_ ha HK
                          refine stepsi ha 81 9 (.tmp 80) (.const (.int .i64 3)) t1087.1 .i64 3 rfl KR KR KR (by decide) (show (3 : Int) < ((t1087.1).size : Int) from hA1121) KR ?_; intro ax hax; exact HK _ _ _ hax rfl (Below.refl _ _)
                        · skip
                          intro a wr hn hd HW hs; have ha := hasNil hn hd
                          have ha := ha.add (seeF hs 81 32 (.int .u8 (bt t1087.1 3)) KR KR)
                          have ha := ha.add (seeF hs 77 28 (.bool ((t1081.1.size : Int) != (IntKind.wrap .i64 (4 + (IntKind.wrap .i64 (bt t1081.1 3)))))) KR KR)
                          have ha := ha.bool 77 KR (ineq_f hp1120)
                          refine yStep ha 82 KR ?_; intro l_ ha HK
                          refine stepp ha 82 (.int .i64 (IntKind.wrap .i64 (bt t1087.1 3))) KR KR ?_; intro ax hax; exact HK _ _ _ hax rfl (Below.refl _ _)
                        · skip
                          intro a wr hn hd HW hs; have ha := hasNil hn hd
                          have ha := ha.add (seeF hs 82 33 (.int .i64 (IntKind.wrap .i64 (bt t1087.1 3))) KR KR)
                          have ha := ha.add (seeF hs 77 28 (.bool ((t1081.1.size : Int) != (IntKind.wrap .i64 (4 + (IntKind.wrap .i64 (bt t1081.1 3)))))) KR KR)
                          have ha := ha.bool 77 KR (ineq_f hp1120)
                          refine yStep ha 83 KR ?_; intro l_ ha HK
                          refine stepp ha 83 (.int .i64 (IntKind.wrap .i64 (4 + (IntKind.wrap .i64 (bt t1087.1 3))))) KR KR ?_; intro ax hax; exact HK _ _ _ hax rfl (Below.refl _ _)
                        · skip
                          intro a wr hn hd HW hs; have ha := hasNil hn hd
                          have ha := ha.add (seeF hs 79 30 (.int .i64 (t1087.1.size : Int)) KR KR)
                          have ha := ha.add (seeF hs 83 34 (.int .i64 (IntKind.wrap .i64 (4 + (IntKind.wrap .i64 (bt t1087.1 3))))) KR KR)
                          have ha := ha.add (seeF hs 77 28 (.bool ((t1081.1.size : Int) != (IntKind.wrap .i64 (4 + (IntKind.wrap .i64 (bt t1081.1 3)))))) KR KR)
                          have ha := ha.bool 77 KR (ineq_f hp1120)
                          refine yStep ha 84 KR ?_; intro l_ ha HK
                          refine stepp ha 84 (.bool ((t1087.1.size : Int) != (IntKind.wrap .i64 (4 + (IntKind.wrap .i64 (bt t1087.1 3)))))) KR KR ?_; intro ax hax; exact HK _ _ _ hax rfl (Below.refl _ _)
                        · skip
                          intro a wr hn hd HW hs; have ha := hasNil hn hd
                          have ha := ha.add (seeF hs 77 28 (.bool ((t1081.1.size : Int) != (IntKind.wrap .i64 (4 + (IntKind.wrap .i64 (bt t1081.1 3)))))) KR KR)
                          have ha := ha.bool 77 KR (ineq_f hp1120)
                          have ha := ha.add (seeF hs 84 35 (.bool ((t1087.1.size : Int) != (IntKind.wrap .i64 (4 + (IntKind.wrap .i64 (bt t1087.1 3)))))) KR KR)
                          refine yStep ha 85 KR ?_; intro l_ ha HK
                          refine stepp ha 85 (.bool ((t1087.1.size : Int) != (IntKind.wrap .i64 (4 + (IntKind.wrap .i64 (bt t1087.1 3)))))) KR KR ?_; intro ax hax; exact HK _ _ _ hax rfl (Below.refl _ _)
                        · skip
                          intro a wr hn hd HW hs; have ha := hasNil hn hd
                          have ha := ha.add (seeF hs 85 36 (.bool ((t1087.1.size : Int) != (IntKind.wrap .i64 (4 + (IntKind.wrap .i64 (bt t1087.1 3)))))) KR KR)
                          refine yStep ha 86 KR ?_; intro l_ ha HK
                          refine stepp ha 86 (.bool ((t1087.1.size : Int) != (IntKind.wrap .i64 (4 + (IntKind.wrap .i64 (bt t1087.1 3)))))) KR KR ?_; intro ax hax; exact HK _ _ _ hax rfl (Below.refl _ _)
                        · skip
                          intro a wr hn hd HW hs; have ha := hasNil hn hd
                          have ha := ha.add (seeE hs 7 (.string t1081.1) KR KR)
                          have ha := ha.add (seeF hs 86 37 (.bool ((t1087.1.size : Int) != (IntKind.wrap .i64 (4 + (IntKind.wrap .i64 (bt t1087.1 3)))))) KR KR)
                          have ha := ha.bool 86 KR (ineq_t hp1122)
                          exact yo ha KR rfl
                        · skip
                          intro a wr hn hd HW hs; have ha := hasNil hn hd
                          have ha := ha.add (seeF hs 87 38 (undef) KR KR)
                          have ha := ha.add (seeF hs 86 37 (.bool ((t1087.1.size : Int) != (IntKind.wrap .i64 (4 + (IntKind.wrap .i64 (bt t1087.1 3)))))) KR KR)
                          have ha := ha.bool 86 KR (ineq_t hp1122)
                          exact yo ha KR rfl
                        · skip
                          intro a wr hn hd HW hs; have ha := hasNil hn hd
                          have ha := ha.add (seeE hs 2 (.pointer (some ⟨b1060, 0, none⟩)) KR KR)
                          have ha := ha.add (seeF hs 86 37 (.bool ((t1087.1.size : Int) != (IntKind.wrap .i64 (4 + (IntKind.wrap .i64 (bt t1087.1 3)))))) KR KR)
                          have ha := ha.bool 86 KR (ineq_t hp1122)
                          exact yo ha KR rfl
                        · skip
                          intro a wr hn hd HW hs; have ha := hasNil hn hd
                          have ha := ha.add (seeF hs 89 40 (undef) KR KR)
                          have ha := ha.add (seeF hs 86 37 (.bool ((t1087.1.size : Int) != (IntKind.wrap .i64 (4 + (IntKind.wrap .i64 (bt t1087.1 3)))))) KR KR)
                          have ha := ha.bool 86 KR (ineq_t hp1122)
                          exact yo ha KR rfl
                        · skip
                          intro a wr hn hd HW hs; have ha := hasNil hn hd
                          have ha := ha.add (seeF hs 88 39 (undef) KR KR)
                          have ha := ha.add (seeF hs 90 41 (undef) KR KR)
                          have ha := ha.add (seeF hs 86 37 (.bool ((t1087.1.size : Int) != (IntKind.wrap .i64 (4 + (IntKind.wrap .i64 (bt t1087.1 3)))))) KR KR)
                          have ha := ha.bool 86 KR (ineq_t hp1122)
                          exact yo ha KR rfl
                        · skip
                          intro a wr hn hd HW hs; have ha := hasNil hn hd
                          have ha := ha.add (seeF hs 86 37 (.bool ((t1087.1.size : Int) != (IntKind.wrap .i64 (4 + (IntKind.wrap .i64 (bt t1087.1 3)))))) KR KR)
                          have ha := ha.bool 86 KR (ineq_t hp1122)
                          have ha := ha.add (seeF hs 91 42 (undef) KR KR)
                          refine yStep ha 92 KR ?_; intro l_ ha HK
                          refine stepp ha 92 (.bool true) KR KR ?_; intro ax hax; exact HK _ _ _ hax rfl (Below.refl _ _)
                        · skip
                          intro a wr hn hd HW hs; have ha := hasNil hn hd
                          have ha := ha.add (seeF hs 92 43 (.bool true) KR KR)
                          refine yStep ha 93 KR ?_; intro l_ ha HK
                          refine stepp ha 93 (.bool true) KR KR ?_; intro ax hax; exact HK _ _ _ hax rfl (Below.refl _ _)
                        · skip
                          intro a wr hn hd HW hs; have ha := hasNil hn hd
                          have ha := ha.add (seeE hs 11 (.string t1093) KR KR)
                          have ha := ha.add (seeF hs 93 44 (.bool true) KR KR)
                          exact yo ha KR rfl
                        · skip
                          intro a wr hn hd HW hs; have ha := hasNil hn hd
                          have ha := ha.add (seeF hs 94 45 (undef) KR KR)
                          have ha := ha.add (seeF hs 93 44 (.bool true) KR KR)
                          exact yo ha KR rfl
                        · skip
                          intro a wr hn hd HW hs; have ha := hasNil hn hd
                          have ha := ha.add (seeE hs 1 (.int .u8 a1) KR KR)
                          have ha := ha.add (seeF hs 93 44 (.bool true) KR KR)
                          exact yo ha KR rfl
                        · skip
                          intro a wr hn hd HW hs; have ha := hasNil hn hd
                          have ha := ha.add (seeF hs 96 47 (undef) KR KR)
                          have ha := ha.add (seeF hs 93 44 (.bool true) KR KR)
                          exact yo ha KR rfl
                        · skip
                          intro a wr hn hd HW hs; have ha := hasNil hn hd
                          have ha := ha.add (seeF hs 97 48 (undef) KR KR)
                          have ha := ha.add (seeF hs 93 44 (.bool true) KR KR)
                          exact yo ha KR rfl
                        · skip
                          intro a wr hn hd HW hs; have ha := hasNil hn hd
                          have ha := ha.add (seeF hs 98 49 (undef) KR KR)
                          have ha := ha.add (seeF hs 93 44 (.bool true) KR KR)
                          exact yo ha KR rfl
                        · skip
                          intro a wr hn hd HW hs; have ha := hasNil hn hd
                          have ha := ha.add (seeF hs 95 46 (undef) KR KR)
                          have ha := ha.add (seeF hs 99 50 (undef) KR KR)
                          have ha := ha.add (seeF hs 93 44 (.bool true) KR KR)
                          exact yo ha KR rfl
                        · skip
                          intro a wr hn hd HW hs; have ha := hasNil hn hd
                          have ha := ha.add (seeF hs 93 44 (.bool true) KR KR)
                          have ha := ha.add (seeF hs 100 51 (undef) KR KR)
                          refine yStep ha 101 KR ?_; intro l_ ha HK
                          refine stepp ha 101 (.bool true) KR KR ?_; intro ax hax; exact HK _ _ _ hax rfl (Below.refl _ _)
                      · skip
                        intro a W1127 ha HW he hf
                        replace ha := ha.add (he 1 (.int .u8 a1) KR KR)
                        replace ha := ha.add (he 11 (.string t1093) KR KR)
                        replace ha := ha.add (gotF (m := 53) (j := 52) (d := 101) (v := .bool true) hf KR KR KR)
                        clear he hf
                        refine endl ?_
                        refine thenN (hK1113 _ _ ?_); clear hK1113
                        refine condT ha KR KR (t := true) (rfl) ?_
                        refine wp_seq_k (fun K1138 hK1139 => ?_)
                        refine wp_region_lit ?_
                        refine stepp ha 4 (.bool false) KR KR ?_; clear ha a; intro a ha
                        refine endl ?_
                        refine thenN (hK1139 _ _ ?_); clear hK1139
                        refine wp_ret ?_
                        refine thenR ?_
                        obtain rfl := Option.some.inj h
                        exact finv ha _ _ rfl (.tmp (v := .bool false) KR .nil) (.bool false) rfl ⟨rfl, HW.pick [] [] (by decide) (by decide) rfl KR⟩
                  · skip
                    replace h := ite_neg' h hp1120
                    refine regionG 53 KR KR ha HW [.fix (.int .i64 t1075.2), .fix (.bool (t1075.2 != 0)), .fix (.bool (t1075.2 != 0)), .fix (.int .i64 t1081.2), .fix (.bool (t1081.2 != 0)), .fix (.bool (t1081.2 != 0)), .fix (.bool (t1081.2 != 0)), .fix (.int .i64 t1087.2), .fix (.bool (t1087.2 != 0)), .fix (.bool (t1087.2 != 0)), .fix (.bool (t1087.2 != 0)), .fix (.string t1075.1), .fix (.int .i64 (t1075.1.size : Int)), .fix (.string t1075.1), .fix (.int .u8 (bt t1075.1 3)), .fix (.int .i64 (IntKind.wrap .i64 (bt t1075.1 3))), .fix (.int .i64 (IntKind.wrap .i64 (4 + (IntKind.wrap .i64 (bt t1075.1 3))))), .fix (.bool ((t1075.1.size : Int) != (IntKind.wrap .i64 (4 + (IntKind.wrap .i64 (bt t1075.1 3)))))), .fix (.bool ((t1075.1.size : Int) != (IntKind.wrap .i64 (4 + (IntKind.wrap .i64 (bt t1075.1 3)))))), .fix (.bool ((t1075.1.size : Int) != (IntKind.wrap .i64 (4 + (IntKind.wrap .i64 (bt t1075.1 3)))))), .fix (.string t1081.1), .fix (.int .i64 (t1081.1.size : Int)), .fix (.string t1081.1), .fix (.int .u8 (bt t1081.1 3)), .fix (.int .i64 (IntKind.wrap .i64 (bt t1081.1 3))), .fix (.int .i64 (IntKind.wrap .i64 (4 + (IntKind.wrap .i64 (bt t1081.1 3))))), .fix (.bool ((t1081.1.size : Int) != (IntKind.wrap .i64 (4 + (IntKind.wrap .i64 (bt t1081.1 3)))))), .fix (.bool ((t1081.1.size : Int) != (IntKind.wrap .i64 (4 + (IntKind.wrap .i64 (bt t1081.1 3)))))), .fix (.bool ((t1081.1.size : Int) != (IntKind.wrap .i64 (4 + (IntKind.wrap .i64 (bt t1081.1 3)))))), .fix undef, .fix undef, .fix undef, .fix undef, .fix undef, .fix undef, .fix undef, .fix (.bool true), .fix (.bool true), .fix undef, .fix undef, .fix undef, .fix undef, .fix undef, .fix (.bool true), .fix (.bool true), .fix undef, .fix undef, .fix undef, .fix undef, .fix undef, .fix undef, .fix undef, .fix (.bool true)] ?_ ?_
                    · skip
                      refine ⟨?_, ?_, ?_, ?_, ?_, ?_, ?_, ?_, ?_, ?_, ?_, ?_, ?_, ?_, ?_, ?_, ?_, ?_, ?_, ?_, ?_, ?_, ?_, ?_, ?_, ?_, ?_, ?_, ?_, ?_, ?_, ?_, ?_, ?_, ?_, ?_, ?_, ?_, ?_, ?_, ?_, ?_, ?_, ?_, ?_, ?_, ?_, ?_, ?_, ?_, ?_, ?_, ?_, trivial⟩
                      · skip
                        intro a wr hn hd HW hs; have ha := hasNil hn hd
                        have ha := ha.add (seeE hs 6 (.int .i64 t1075.2) KR KR)
                        refine yStep ha 49 KR ?_; intro l_ ha HK
                        refine stepp ha 49 (.int .i64 t1075.2) KR KR ?_; intro ax hax; exact HK _ _ _ hax rfl (Below.refl _ _)
                      · skip
                        intro a wr hn hd HW hs; have ha := hasNil hn hd
                        have ha := ha.add (seeF hs 49 0 (.int .i64 t1075.2) KR KR)
                        refine yStep ha 50 KR ?_; intro l_ ha HK
                        refine stepp ha 50 (.bool (t1075.2 != 0)) KR KR ?_; intro ax hax; exact HK _ _ _ hax rfl (Below.refl _ _)
                      · skip
                        intro a wr hn hd HW hs; have ha := hasNil hn hd
                        have ha := ha.add (seeF hs 50 1 (.bool (t1075.2 != 0)) KR KR)
                        refine yStep ha 51 KR ?_; intro l_ ha HK
                        refine stepp ha 51 (.bool (t1075.2 != 0)) KR KR ?_; intro ax hax; exact HK _ _ _ hax rfl (Below.refl _ _)
                      · skip
                        intro a wr hn hd HW hs; have ha := hasNil hn hd
                        have ha := ha.add (seeE hs 8 (.int .i64 t1081.2) KR KR)
                        have ha := ha.add (seeF hs 51 2 (.bool (t1075.2 != 0)) KR KR)
                        have ha := ha.bool 51 KR (ineq_f hp1114)
                        refine yStep ha 52 KR ?_; intro l_ ha HK
                        refine stepp ha 52 (.int .i64 t1081.2) KR KR ?_; intro ax hax; exact HK _ _ _ hax rfl (Below.refl _ _)
                      · skip
                        intro a wr hn hd HW hs; have ha := hasNil hn hd
                        have ha := ha.add (seeF hs 52 3 (.int .i64 t1081.2) KR KR)
                        have ha := ha.add (seeF hs 51 2 (.bool (t1075.2 != 0)) KR KR)
                        have ha := ha.bool 51 KR (ineq_f hp1114)
                        refine yStep ha 53 KR ?_; intro l_ ha HK
                        refine stepp ha 53 (.bool (t1081.2 != 0)) KR KR ?_; intro ax hax; exact HK _ _ _ hax rfl (Below.refl _ _)
                      · skip
                        intro a wr hn hd HW hs; have ha := hasNil hn hd
                        have ha := ha.add (seeF hs 51 2 (.bool (t1075.2 != 0)) KR KR)
                        have ha := ha.bool 51 KR (ineq_f hp1114)
                        have ha := ha.add (seeF hs 53 4 (.bool (t1081.2 != 0)) KR KR)
                        refine yStep ha 54 KR ?_; intro l_ ha HK
                        refine stepp ha 54 (.bool (t1081.2 != 0)) KR KR ?_; intro ax hax; exact HK _ _ _ hax rfl (Below.refl _ _)
                      · skip
                        intro a wr hn hd HW hs; have ha := hasNil hn hd
                        have ha := ha.add (seeF hs 54 5 (.bool (t1081.2 != 0)) KR KR)
                        refine yStep ha 55 KR ?_; intro l_ ha HK
                        refine stepp ha 55 (.bool (t1081.2 != 0)) KR KR ?_; intro ax hax; exact HK _ _ _ hax rfl (Below.refl _ _)
                      · skip
                        intro a wr hn hd HW hs; have ha := hasNil hn hd
                        have ha := ha.add (seeE hs 10 (.int .i64 t1087.2) KR KR)
                        have ha := ha.add (seeF hs 55 6 (.bool (t1081.2 != 0)) KR KR)
                        have ha := ha.bool 55 KR (ineq_f hp1115)
                        refine yStep ha 56 KR ?_; intro l_ ha HK
                        refine stepp ha 56 (.int .i64 t1087.2) KR KR ?_; intro ax hax; exact HK _ _ _ hax rfl (Below.refl _ _)
                      · skip
                        intro a wr hn hd HW hs; have ha := hasNil hn hd
                        have ha := ha.add (seeF hs 56 7 (.int .i64 t1087.2) KR KR)
                        have ha := ha.add (seeF hs 55 6 (.bool (t1081.2 != 0)) KR KR)
                        have ha := ha.bool 55 KR (ineq_f hp1115)
                        refine yStep ha 57 KR ?_; intro l_ ha HK
                        refine stepp ha 57 (.bool (t1087.2 != 0)) KR KR ?_; intro ax hax; exact HK _ _ _ hax rfl (Below.refl _ _)
                      · skip
                        intro a wr hn hd HW hs; have ha := hasNil hn hd
                        have ha := ha.add (seeF hs 55 6 (.bool (t1081.2 != 0)) KR KR)
                        have ha := ha.bool 55 KR (ineq_f hp1115)
                        have ha := ha.add (seeF hs 57 8 (.bool (t1087.2 != 0)) KR KR)
                        refine yStep ha 58 KR ?_; intro l_ ha HK
                        refine stepp ha 58 (.bool (t1087.2 != 0)) KR KR ?_; intro ax hax; exact HK _ _ _ hax rfl (Below.refl _ _)
                      · skip
                        intro a wr hn hd HW hs; have ha := hasNil hn hd
                        have ha := ha.add (seeF hs 58 9 (.bool (t1087.2 != 0)) KR KR)
                        refine yStep ha 59 KR ?_; intro l_ ha HK
                        refine stepp ha 59 (.bool (t1087.2 != 0)) KR KR ?_; intro ax hax; exact HK _ _ _ hax rfl (Below.refl _ _)
                      · skip
                        intro a wr hn hd HW hs; have ha := hasNil hn hd
                        have ha := ha.add (seeE hs 5 (.string t1075.1) KR KR)
                        have ha := ha.add (seeF hs 59 10 (.bool (t1087.2 != 0)) KR KR)
                        have ha := ha.bool 59 KR (ineq_f hp1116)
                        refine yStep ha 60 KR ?_; intro l_ ha HK
                        refine stepp ha 60 (.string t1075.1) KR KR ?_; intro ax hax; exact HK _ _ _ hax rfl (Below.refl _ _)
                      · skip
                        intro a wr hn hd HW hs; have ha := hasNil hn hd
                        have ha := ha.add (seeF hs 60 11 (.string t1075.1) KR KR)
                        have ha := ha.add (seeF hs 59 10 (.bool (t1087.2 != 0)) KR KR)
                        have ha := ha.bool 59 KR (ineq_f hp1116)
                        refine yStep ha 61 KR ?_; intro l_ ha HK
                        refine stepp ha 61 (.int .i64 (t1075.1.size : Int)) KR KR ?_; intro ax hax; exact HK _ _ _ hax rfl (Below.refl _ _)
                      · skip
                        intro a wr hn hd HW hs; have ha := hasNil hn hd
                        have ha := ha.add (seeE hs 5 (.string t1075.1) KR KR)
                        have ha := ha.add (seeF hs 59 10 (.bool (t1087.2 != 0)) KR KR)
                        have ha := ha.bool 59 KR (ineq_f hp1116)
                        refine yStep ha 62 KR ?_; intro l_ ha HK
                        refine stepp ha 62 (.string t1075.1) KR KR ?_; intro ax hax; exact HK _ _ _ hax rfl (Below.refl _ _)
                      · skip
                        intro a wr hn hd HW hs; have ha := hasNil hn hd
                        have ha := ha.add (seeF hs 62 13 (.string t1075.1) KR KR)
                        have ha := ha.add (seeF hs 59 10 (.bool (t1087.2 != 0)) KR KR)
                        have ha := ha.bool 59 KR (ineq_f hp1116)
                        refine yStep ha 63 KR ?_; intro l_ ha HK
                        refine stepsi ha 63 9 (.tmp 62) (.const (.int .i64 3)) t1075.1 .i64 3 rfl KR KR KR (by decide) (show (3 : Int) < ((t1075.1).size : Int) from hA1117) KR ?_; intro ax hax; exact HK _ _ _ hax rfl (Below.refl _ _)
                      · skip
                        intro a wr hn hd HW hs; have ha := hasNil hn hd
                        have ha := ha.add (seeF hs 63 14 (.int .u8 (bt t1075.1 3)) KR KR)
                        have ha := ha.add (seeF hs 59 10 (.bool (t1087.2 != 0)) KR KR)
                        have ha := ha.bool 59 KR (ineq_f hp1116)
                        refine yStep ha 64 KR ?_; intro l_ ha HK
                        refine stepp ha 64 (.int .i64 (IntKind.wrap .i64 (bt t1075.1 3))) KR KR ?_; intro ax hax; exact HK _ _ _ hax rfl (Below.refl _ _)
                      · skip
                        intro a wr hn hd HW hs; have ha := hasNil hn hd
                        have ha := ha.add (seeF hs 64 15 (.int .i64 (IntKind.wrap .i64 (bt t1075.1 3))) KR KR)
                        have ha := ha.add (seeF hs 59 10 (.bool (t1087.2 != 0)) KR KR)
                        have ha := ha.bool 59 KR (ineq_f hp1116)
                        refine yStep ha 65 KR ?_; intro l_ ha HK
                        refine stepp ha 65 (.int .i64 (IntKind.wrap .i64 (4 + (IntKind.wrap .i64 (bt t1075.1 3))))) KR KR ?_; intro ax hax; exact HK _ _ _ hax rfl (Below.refl _ _)
                      · skip
                        intro a wr hn hd HW hs; have ha := hasNil hn hd
                        have ha := ha.add (seeF hs 61 12 (.int .i64 (t1075.1.size : Int)) KR KR)
                        have ha := ha.add (seeF hs 65 16 (.int .i64 (IntKind.wrap .i64 (4 + (IntKind.wrap .i64 (bt t1075.1 3))))) KR KR)
                        have ha := ha.add (seeF hs 59 10 (.bool (t1087.2 != 0)) KR KR)
                        have ha := ha.bool 59 KR (ineq_f hp1116)
                        refine yStep ha 66 KR ?_; intro l_ ha HK
                        refine stepp ha 66 (.bool ((t1075.1.size : Int) != (IntKind.wrap .i64 (4 + (IntKind.wrap .i64 (bt t1075.1 3)))))) KR KR ?_; intro ax hax; exact HK _ _ _ hax rfl (Below.refl _ _)
                      · skip
                        intro a wr hn hd HW hs; have ha := hasNil hn hd
                        have ha := ha.add (seeF hs 59 10 (.bool (t1087.2 != 0)) KR KR)
                        have ha := ha.bool 59 KR (ineq_f hp1116)
                        have ha := ha.add (seeF hs 66 17 (.bool ((t1075.1.size : Int) != (IntKind.wrap .i64 (4 + (IntKind.wrap .i64 (bt t1075.1 3)))))) KR KR)
                        refine yStep ha 67 KR ?_; intro l_ ha HK
                        refine stepp ha 67 (.bool ((t1075.1.size : Int) != (IntKind.wrap .i64 (4 + (IntKind.wrap .i64 (bt t1075.1 3)))))) KR KR ?_; intro ax hax; exact HK _ _ _ hax rfl (Below.refl _ _)
                      · skip
                        intro a wr hn hd HW hs; have ha := hasNil hn hd
                        have ha := ha.add (seeF hs 67 18 (.bool ((t1075.1.size : Int) != (IntKind.wrap .i64 (4 + (IntKind.wrap .i64 (bt t1075.1 3)))))) KR KR)
                        refine yStep ha 68 KR ?_; intro l_ ha HK
                        refine stepp ha 68 (.bool ((t1075.1.size : Int) != (IntKind.wrap .i64 (4 + (IntKind.wrap .i64 (bt t1075.1 3)))))) KR KR ?_; intro ax hax; exact HK _ _ _ hax rfl (Below.refl _ _)
                      · skip
                        intro a wr hn hd HW hs; have ha := hasNil hn hd
                        have ha := ha.add (seeE hs 7 (.string t1081.1) KR KR)
                        have ha := ha.add (seeF hs 68 19 (.bool ((t1075.1.size : Int) != (IntKind.wrap .i64 (4 + (IntKind.wrap .i64 (bt t1075.1 3)))))) KR KR)
                        have ha := ha.bool 68 KR (ineq_f hp1118)
                        refine yStep ha 69 KR ?_; intro l_ ha HK
                        refine stepp ha 69 (.string t1081.1) KR KR ?_; intro ax hax; exact HK _ _ _ hax rfl (Below.refl _ _)
                      · skip
                        intro a wr hn hd HW hs; have ha := hasNil hn hd
                        have ha := ha.add (seeF hs 69 20 (.string t1081.1) KR KR)
                        have ha := ha.add (seeF hs 68 19 (.bool ((t1075.1.size : Int) != (IntKind.wrap .i64 (4 + (IntKind.wrap .i64 (bt t1075.1 3)))))) KR KR)
                        have ha := ha.bool 68 KR (ineq_f hp1118)
                        refine yStep ha 70 KR ?_; intro l_ ha HK
                        refine stepp ha 70 (.int .i64 (t1081.1.size : Int)) KR KR ?_; intro ax hax; exact HK _ _ _ hax rfl (Below.refl _ _)
                      · skip
                        intro a wr hn hd HW hs; have ha := hasNil hn hd
                        have ha := ha.add (seeE hs 7 (.string t1081.1) KR KR)
                        have ha := ha.add (seeF hs 68 19 (.bool ((t1075.1.size : Int) != (IntKind.wrap .i64 (4 + (IntKind.wrap .i64 (bt t1075.1 3)))))) KR KR)
                        have ha := ha.bool 68 KR (ineq_f hp1118)
                        refine yStep ha 71 KR ?_; intro l_ ha HK
                        refine stepp ha 71 (.string t1081.1) KR KR ?_; intro ax hax; exact HK _ _ _ hax rfl (Below.refl _ _)
                      · skip
                        intro a wr hn hd HW hs; have ha := hasNil hn hd
                        have ha := ha.add (seeF hs 71 22 (.string t1081.1) KR KR)
                        have ha := ha.add (seeF hs 68 19 (.bool ((t1075.1.size : Int) != (IntKind.wrap .i64 (4 + (IntKind.wrap .i64 (bt t1075.1 3)))))) KR KR)
                        have ha := ha.bool 68 KR (ineq_f hp1118)
                        refine yStep ha 72 KR ?_; intro l_ ha HK
                        refine stepsi ha 72 9 (.tmp 71) (.const (.int .i64 3)) t1081.1 .i64 3 rfl KR KR KR (by decide) (show (3 : Int) < ((t1081.1).size : Int) from hA1119) KR ?_; intro ax hax; exact HK _ _ _ hax rfl (Below.refl _ _)
                      · skip
                        intro a wr hn hd HW hs; have ha := hasNil hn hd
                        have ha := ha.add (seeF hs 72 23 (.int .u8 (bt t1081.1 3)) KR KR)
                        have ha := ha.add (seeF hs 68 19 (.bool ((t1075.1.size : Int) != (IntKind.wrap .i64 (4 + (IntKind.wrap .i64 (bt t1075.1 3)))))) KR KR)
                        have ha := ha.bool 68 KR (ineq_f hp1118)
                        refine yStep ha 73 KR ?_; intro l_ ha HK
                        refine stepp ha 73 (.int .i64 (IntKind.wrap .i64 (bt t1081.1 3))) KR KR ?_; intro ax hax; exact HK _ _ _ hax rfl (Below.refl _ _)
                      · skip
                        intro a wr hn hd HW hs; have ha := hasNil hn hd
                        have ha := ha.add (seeF hs 73 24 (.int .i64 (IntKind.wrap .i64 (bt t1081.1 3))) KR KR)
                        have ha := ha.add (seeF hs 68 19 (.bool ((t1075.1.size : Int) != (IntKind.wrap .i64 (4 + (IntKind.wrap .i64 (bt t1075.1 3)))))) KR KR)
                        have ha := ha.bool 68 KR (ineq_f hp1118)
                        refine yStep ha 74 KR ?_; intro l_ ha HK
                        refine stepp ha 74 (.int .i64 (IntKind.wrap .i64 (4 + (IntKind.wrap .i64 (bt t1081.1 3))))) KR KR ?_; intro ax hax; exact HK _ _ _ hax rfl (Below.refl _ _)
                      · skip
                        intro a wr hn hd HW hs; have ha := hasNil hn hd
                        have ha := ha.add (seeF hs 70 21 (.int .i64 (t1081.1.size : Int)) KR KR)
                        have ha := ha.add (seeF hs 74 25 (.int .i64 (IntKind.wrap .i64 (4 + (IntKind.wrap .i64 (bt t1081.1 3))))) KR KR)
                        have ha := ha.add (seeF hs 68 19 (.bool ((t1075.1.size : Int) != (IntKind.wrap .i64 (4 + (IntKind.wrap .i64 (bt t1075.1 3)))))) KR KR)
                        have ha := ha.bool 68 KR (ineq_f hp1118)
                        refine yStep ha 75 KR ?_; intro l_ ha HK
                        refine stepp ha 75 (.bool ((t1081.1.size : Int) != (IntKind.wrap .i64 (4 + (IntKind.wrap .i64 (bt t1081.1 3)))))) KR KR ?_; intro ax hax; exact HK _ _ _ hax rfl (Below.refl _ _)
                      · skip
                        intro a wr hn hd HW hs; have ha := hasNil hn hd
                        have ha := ha.add (seeF hs 68 19 (.bool ((t1075.1.size : Int) != (IntKind.wrap .i64 (4 + (IntKind.wrap .i64 (bt t1075.1 3)))))) KR KR)
                        have ha := ha.bool 68 KR (ineq_f hp1118)
                        have ha := ha.add (seeF hs 75 26 (.bool ((t1081.1.size : Int) != (IntKind.wrap .i64 (4 + (IntKind.wrap .i64 (bt t1081.1 3)))))) KR KR)
                        refine yStep ha 76 KR ?_; intro l_ ha HK
                        refine stepp ha 76 (.bool ((t1081.1.size : Int) != (IntKind.wrap .i64 (4 + (IntKind.wrap .i64 (bt t1081.1 3)))))) KR KR ?_; intro ax hax; exact HK _ _ _ hax rfl (Below.refl _ _)
                      · skip
                        intro a wr hn hd HW hs; have ha := hasNil hn hd
                        have ha := ha.add (seeF hs 76 27 (.bool ((t1081.1.size : Int) != (IntKind.wrap .i64 (4 + (IntKind.wrap .i64 (bt t1081.1 3)))))) KR KR)
                        refine yStep ha 77 KR ?_; intro l_ ha HK
                        refine stepp ha 77 (.bool ((t1081.1.size : Int) != (IntKind.wrap .i64 (4 + (IntKind.wrap .i64 (bt t1081.1 3)))))) KR KR ?_; intro ax hax; exact HK _ _ _ hax rfl (Below.refl _ _)
                      · skip
                        intro a wr hn hd HW hs; have ha := hasNil hn hd
                        have ha := ha.add (seeE hs 9 (.string t1087.1) KR KR)
                        have ha := ha.add (seeF hs 77 28 (.bool ((t1081.1.size : Int) != (IntKind.wrap .i64 (4 + (IntKind.wrap .i64 (bt t1081.1 3)))))) KR KR)
                        have ha := ha.bool 77 KR (ineq_t hp1120)
                        exact yo ha KR rfl
                      · skip
                        intro a wr hn hd HW hs; have ha := hasNil hn hd
                        have ha := ha.add (seeF hs 78 29 (undef) KR KR)
                        have ha := ha.add (seeF hs 77 28 (.bool ((t1081.1.size : Int) != (IntKind.wrap .i64 (4 + (IntKind.wrap .i64 (bt t1081.1 3)))))) KR KR)
                        have ha := ha.bool 77 KR (ineq_t hp1120)
                        exact yo ha KR rfl
                      · skip
                        intro a wr hn hd HW hs; have ha := hasNil hn hd
                        have ha := ha.add (seeE hs 9 (.string t1087.1) KR KR)
                        have ha := ha.add (seeF hs 77 28 (.bool ((t1081.1.size : Int) != (IntKind.wrap .i64 (4 + (IntKind.wrap .i64 (bt t1081.1 3)))))) KR KR)
                        have ha := ha.bool 77 KR (ineq_t hp1120)
                        exact yo ha KR rfl
                      · skip
                        intro a wr hn hd HW hs; have ha := hasNil hn hd
                        have ha := ha.add (seeF hs 80 31 (undef) KR KR)
                        have ha := ha.add (seeF hs 77 28 (.bool ((t1081.1.size : Int) != (IntKind.wrap .i64 (4 + (IntKind.wrap .i64 (bt t1081.1 3)))))) KR KR)
                        have ha := ha.bool 77 KR (ineq_t hp1120)
                        exact yo ha KR rfl
                      · skip
                        intro a wr hn hd HW hs; have ha := hasNil hn hd
                        have ha := ha.add (seeF hs 81 32 (undef) KR KR)
                        have ha := ha.add (seeF hs 77 28 (.bool ((t1081.1.size : Int) != (IntKind.wrap .i64 (4 + (IntKind.wrap .i64 (bt t1081.1 3)))))) KR KR)
                        have ha := ha.bool 77 KR (ineq_t hp1120)
                        exact yo ha KR rfl
                      · skip
                        intro a wr hn hd HW hs; have ha := hasNil hn hd
                        have ha := ha.add (seeF hs 82 33 (undef) KR KR)
                        have ha := ha.add (seeF hs 77 28 (.bool ((t1081.1.size : Int) != (IntKind.wrap .i64 (4 + (IntKind.wrap .i64 (bt t1081.1 3)))))) KR KR)
                        have ha := ha.bool 77 KR (ineq_t hp1120)
                        exact yo ha KR rfl
                      · skip
                        intro a wr hn hd HW hs; have ha := hasNil hn hd
                        have ha := ha.add (seeF hs 79 30 (undef) KR KR)
                        have ha := ha.add (seeF hs 83 34 (undef) KR KR)
                        have ha := ha.add (seeF hs 77 28 (.bool ((t1081.1.size : Int) != (IntKind.wrap .i64 (4 + (IntKind.wrap .i64 (bt t1081.1 3)))))) KR KR)
                        have ha := ha.bool 77 KR (ineq_t hp1120)
                        exact yo ha KR rfl
                      · skip
                        intro a wr hn hd HW hs; have ha := hasNil hn hd
                        have ha := ha.add (seeF hs 77 28 (.bool ((t1081.1.size : Int) != (IntKind.wrap .i64 (4 + (IntKind.wrap .i64 (bt t1081.1 3)))))) KR KR)
                        have ha := ha.bool 77 KR (ineq_t hp1120)
                        have ha := ha.add (seeF hs 84 35 (undef) KR KR)
                        refine yStep ha 85 KR ?_; intro l_ ha HK
                        refine stepp ha 85 (.bool true) KR KR ?_; intro ax hax; exact HK _ _ _ hax rfl (Below.refl _ _)
                      · skip
                        intro a wr hn hd HW hs; have ha := hasNil hn hd
                        have ha := ha.add (seeF hs 85 36 (.bool true) KR KR)
                        refine yStep ha 86 KR ?_; intro l_ ha HK
                        refine stepp ha 86 (.bool true) KR KR ?_; intro ax hax; exact HK _ _ _ hax rfl (Below.refl _ _)
                      · skip
                        intro a wr hn hd HW hs; have ha := hasNil hn hd
                        have ha := ha.add (seeE hs 7 (.string t1081.1) KR KR)
                        have ha := ha.add (seeF hs 86 37 (.bool true) KR KR)
                        exact yo ha KR rfl
                      · skip
                        intro a wr hn hd HW hs; have ha := hasNil hn hd
                        have ha := ha.add (seeF hs 87 38 (undef) KR KR)
                        have ha := ha.add (seeF hs 86 37 (.bool true) KR KR)
                        exact yo ha KR rfl
                      · skip
                        intro a wr hn hd HW hs; have ha := hasNil hn hd
                        have ha := ha.add (seeE hs 2 (.pointer (some ⟨b1060, 0, none⟩)) KR KR)
                        have ha := ha.add (seeF hs 86 37 (.bool true) KR KR)
                        exact yo ha KR rfl
                      · skip
                        intro a wr hn hd HW hs; have ha := hasNil hn hd
                        have ha := ha.add (seeF hs 89 40 (undef) KR KR)
                        have ha := ha.add (seeF hs 86 37 (.bool true) KR KR)
                        exact yo ha KR rfl
                      · skip
                        intro a wr hn hd HW hs; have ha := hasNil hn hd
                        have ha := ha.add (seeF hs 88 39 (undef) KR KR)
                        have ha := ha.add (seeF hs 90 41 (undef) KR KR)
                        have ha := ha.add (seeF hs 86 37 (.bool true) KR KR)
                        exact yo ha KR rfl
                      · skip
                        intro a wr hn hd HW hs; have ha := hasNil hn hd
                        have ha := ha.add (seeF hs 86 37 (.bool true) KR KR)
                        have ha := ha.add (seeF hs 91 42 (undef) KR KR)
                        refine yStep ha 92 KR ?_; intro l_ ha HK
                        refine stepp ha 92 (.bool true) KR KR ?_; intro ax hax; exact HK _ _ _ hax rfl (Below.refl _ _)
                      · skip
                        intro a wr hn hd HW hs; have ha := hasNil hn hd
                        have ha := ha.add (seeF hs 92 43 (.bool true) KR KR)
                        refine yStep ha 93 KR ?_; intro l_ ha HK
                        refine stepp ha 93 (.bool true) KR KR ?_; intro ax hax; exact HK _ _ _ hax rfl (Below.refl _ _)
                      · skip
                        intro a wr hn hd HW hs; have ha := hasNil hn hd
                        have ha := ha.add (seeE hs 11 (.string t1093) KR KR)
                        have ha := ha.add (seeF hs 93 44 (.bool true) KR KR)
                        exact yo ha KR rfl
                      · skip
                        intro a wr hn hd HW hs; have ha := hasNil hn hd
                        have ha := ha.add (seeF hs 94 45 (undef) KR KR)
                        have ha := ha.add (seeF hs 93 44 (.bool true) KR KR)
                        exact yo ha KR rfl
                      · skip
                        intro a wr hn hd HW hs; have ha := hasNil hn hd
                        have ha := ha.add (seeE hs 1 (.int .u8 a1) KR KR)
                        have ha := ha.add (seeF hs 93 44 (.bool true) KR KR)
                        exact yo ha KR rfl
                      · skip
                        intro a wr hn hd HW hs; have ha := hasNil hn hd
                        have ha := ha.add (seeF hs 96 47 (undef) KR KR)
                        have ha := ha.add (seeF hs 93 44 (.bool true) KR KR)
                        exact yo ha KR rfl
                      · skip
                        intro a wr hn hd HW hs; have ha := hasNil hn hd
                        have ha := ha.add (seeF hs 97 48 (undef) KR KR)
                        have ha := ha.add (seeF hs 93 44 (.bool true) KR KR)
                        exact yo ha KR rfl
                      · skip
                        intro a wr hn hd HW hs; have ha := hasNil hn hd
                        have ha := ha.add (seeF hs 98 49 (undef) KR KR)
                        have ha := ha.add (seeF hs 93 44 (.bool true) KR KR)
                        exact yo ha KR rfl
                      · skip
                        intro a wr hn hd HW hs; have ha := hasNil hn hd
                        have ha := ha.add (seeF hs 95 46 (undef) KR KR)
                        have ha := ha.add (seeF hs 99 50 (undef) KR KR)
                        have ha := ha.add (seeF hs 93 44 (.bool true) KR KR)
                        exact yo ha KR rfl
                      · skip
                        intro a wr hn hd HW hs; have ha := hasNil hn hd
                        have ha := ha.add (seeF hs 93 44 (.bool true) KR KR)
                        have ha := ha.add (seeF hs 100 51 (undef) KR KR)
                        refine yStep ha 101 KR ?_; intro l_ ha HK
                        refine stepp ha 101 (.bool true) KR KR ?_; intro ax hax; exact HK _ _ _ hax rfl (Below.refl _ _)
                    · skip
                      intro a W1128 ha HW he hf
                      replace ha := ha.add (he 1 (.int .u8 a1) KR KR)
                      replace ha := ha.add (he 11 (.string t1093) KR KR)
                      replace ha := ha.add (gotF (m := 53) (j := 52) (d := 101) (v := .bool true) hf KR KR KR)
                      clear he hf
                      refine endl ?_
                      refine thenN (hK1113 _ _ ?_); clear hK1113
                      refine condT ha KR KR (t := true) (rfl) ?_
                      refine wp_seq_k (fun K1140 hK1141 => ?_)
                      refine wp_region_lit ?_
                      refine stepp ha 4 (.bool false) KR KR ?_; clear ha a; intro a ha
                      refine endl ?_
                      refine thenN (hK1141 _ _ ?_); clear hK1141
                      refine wp_ret ?_
                      refine thenR ?_
                      obtain rfl := Option.some.inj h
                      exact finv ha _ _ rfl (.tmp (v := .bool false) KR .nil) (.bool false) rfl ⟨rfl, HW.pick [] [] (by decide) (by decide) rfl KR⟩
                · skip
                  replace h := ite_neg' h hp1118
                  refine regionG 53 KR KR ha HW [.fix (.int .i64 t1075.2), .fix (.bool (t1075.2 != 0)), .fix (.bool (t1075.2 != 0)), .fix (.int .i64 t1081.2), .fix (.bool (t1081.2 != 0)), .fix (.bool (t1081.2 != 0)), .fix (.bool (t1081.2 != 0)), .fix (.int .i64 t1087.2), .fix (.bool (t1087.2 != 0)), .fix (.bool (t1087.2 != 0)), .fix (.bool (t1087.2 != 0)), .fix (.string t1075.1), .fix (.int .i64 (t1075.1.size : Int)), .fix (.string t1075.1), .fix (.int .u8 (bt t1075.1 3)), .fix (.int .i64 (IntKind.wrap .i64 (bt t1075.1 3))), .fix (.int .i64 (IntKind.wrap .i64 (4 + (IntKind.wrap .i64 (bt t1075.1 3))))), .fix (.bool ((t1075.1.size : Int) != (IntKind.wrap .i64 (4 + (IntKind.wrap .i64 (bt t1075.1 3)))))), .fix (.bool ((t1075.1.size : Int) != (IntKind.wrap .i64 (4 + (IntKind.wrap .i64 (bt t1075.1 3)))))), .fix (.bool ((t1075.1.size : Int) != (IntKind.wrap .i64 (4 + (IntKind.wrap .i64 (bt t1075.1 3)))))), .fix undef, .fix undef, .fix undef, .fix undef, .fix undef, .fix undef, .fix undef, .fix (.bool true), .fix (.bool true), .fix undef, .fix undef, .fix undef, .fix undef, .fix undef, .fix undef, .fix undef, .fix (.bool true), .fix (.bool true), .fix undef, .fix undef, .fix undef, .fix undef, .fix undef, .fix (.bool true), .fix (.bool true), .fix undef, .fix undef, .fix undef, .fix undef, .fix undef, .fix undef, .fix undef, .fix (.bool true)] ?_ ?_
                  · skip
                    refine ⟨?_, ?_, ?_, ?_, ?_, ?_, ?_, ?_, ?_, ?_, ?_, ?_, ?_, ?_, ?_, ?_, ?_, ?_, ?_, ?_, ?_, ?_, ?_, ?_, ?_, ?_, ?_, ?_, ?_, ?_, ?_, ?_, ?_, ?_, ?_, ?_, ?_, ?_, ?_, ?_, ?_, ?_, ?_, ?_, ?_, ?_, ?_, ?_, ?_, ?_, ?_, ?_, ?_, trivial⟩
                    · skip
                      intro a wr hn hd HW hs; have ha := hasNil hn hd
                      have ha := ha.add (seeE hs 6 (.int .i64 t1075.2) KR KR)
                      refine yStep ha 49 KR ?_; intro l_ ha HK
                      refine stepp ha 49 (.int .i64 t1075.2) KR KR ?_; intro ax hax; exact HK _ _ _ hax rfl (Below.refl _ _)
                    · skip
                      intro a wr hn hd HW hs; have ha := hasNil hn hd
                      have ha := ha.add (seeF hs 49 0 (.int .i64 t1075.2) KR KR)
                      refine yStep ha 50 KR ?_; intro l_ ha HK
                      refine stepp ha 50 (.bool (t1075.2 != 0)) KR KR ?_; intro ax hax; exact HK _ _ _ hax rfl (Below.refl _ _)
                    · skip
                      intro a wr hn hd HW hs; have ha := hasNil hn hd
                      have ha := ha.add (seeF hs 50 1 (.bool (t1075.2 != 0)) KR KR)
                      refine yStep ha 51 KR ?_; intro l_ ha HK
                      refine stepp ha 51 (.bool (t1075.2 != 0)) KR KR ?_; intro ax hax; exact HK _ _ _ hax rfl (Below.refl _ _)
                    · skip
                      intro a wr hn hd HW hs; have ha := hasNil hn hd
                      have ha := ha.add (seeE hs 8 (.int .i64 t1081.2) KR KR)
                      have ha := ha.add (seeF hs 51 2 (.bool (t1075.2 != 0)) KR KR)
                      have ha := ha.bool 51 KR (ineq_f hp1114)
                      refine yStep ha 52 KR ?_; intro l_ ha HK
                      refine stepp ha 52 (.int .i64 t1081.2) KR KR ?_; intro ax hax; exact HK _ _ _ hax rfl (Below.refl _ _)
                    · skip
                      intro a wr hn hd HW hs; have ha := hasNil hn hd
                      have ha := ha.add (seeF hs 52 3 (.int .i64 t1081.2) KR KR)
                      have ha := ha.add (seeF hs 51 2 (.bool (t1075.2 != 0)) KR KR)
                      have ha := ha.bool 51 KR (ineq_f hp1114)
                      refine yStep ha 53 KR ?_; intro l_ ha HK
                      refine stepp ha 53 (.bool (t1081.2 != 0)) KR KR ?_; intro ax hax; exact HK _ _ _ hax rfl (Below.refl _ _)
                    · skip
                      intro a wr hn hd HW hs; have ha := hasNil hn hd
                      have ha := ha.add (seeF hs 51 2 (.bool (t1075.2 != 0)) KR KR)
                      have ha := ha.bool 51 KR (ineq_f hp1114)
                      have ha := ha.add (seeF hs 53 4 (.bool (t1081.2 != 0)) KR KR)
                      refine yStep ha 54 KR ?_; intro l_ ha HK
                      refine stepp ha 54 (.bool (t1081.2 != 0)) KR KR ?_; intro ax hax; exact HK _ _ _ hax rfl (Below.refl _ _)
                    · skip
                      intro a wr hn hd HW hs; have ha := hasNil hn hd
                      have ha := ha.add (seeF hs 54 5 (.bool (t1081.2 != 0)) KR KR)
                      refine yStep ha 55 KR ?_; intro l_ ha HK
                      refine stepp ha 55 (.bool (t1081.2 != 0)) KR KR ?_; intro ax hax; exact HK _ _ _ hax rfl (Below.refl _ _)
                    · skip
                      intro a wr hn hd HW hs; have ha := hasNil hn hd
                      have ha := ha.add (seeE hs 10 (.int .i64 t1087.2) KR KR)
                      have ha := ha.add (seeF hs 55 6 (.bool (t1081.2 != 0)) KR KR)
                      have ha := ha.bool 55 KR (ineq_f hp1115)
                      refine yStep ha 56 KR ?_; intro l_ ha HK
                      refine stepp ha 56 (.int .i64 t1087.2) KR KR ?_; intro ax hax; exact HK _ _ _ hax rfl (Below.refl _ _)
                    · skip
                      intro a wr hn hd HW hs; have ha := hasNil hn hd
                      have ha := ha.add (seeF hs 56 7 (.int .i64 t1087.2) KR KR)
                      have ha := ha.add (seeF hs 55 6 (.bool (t1081.2 != 0)) KR KR)
                      have ha := ha.bool 55 KR (ineq_f hp1115)
                      refine yStep ha 57 KR ?_; intro l_ ha HK
                      refine stepp ha 57 (.bool (t1087.2 != 0)) KR KR ?_; intro ax hax; exact HK _ _ _ hax rfl (Below.refl _ _)
                    · skip
                      intro a wr hn hd HW hs; have ha := hasNil hn hd
                      have ha := ha.add (seeF hs 55 6 (.bool (t1081.2 != 0)) KR KR)
                      have ha := ha.bool 55 KR (ineq_f hp1115)
                      have ha := ha.add (seeF hs 57 8 (.bool (t1087.2 != 0)) KR KR)
                      refine yStep ha 58 KR ?_; intro l_ ha HK
                      refine stepp ha 58 (.bool (t1087.2 != 0)) KR KR ?_; intro ax hax; exact HK _ _ _ hax rfl (Below.refl _ _)
                    · skip
                      intro a wr hn hd HW hs; have ha := hasNil hn hd
                      have ha := ha.add (seeF hs 58 9 (.bool (t1087.2 != 0)) KR KR)
                      refine yStep ha 59 KR ?_; intro l_ ha HK
                      refine stepp ha 59 (.bool (t1087.2 != 0)) KR KR ?_; intro ax hax; exact HK _ _ _ hax rfl (Below.refl _ _)
                    · skip
                      intro a wr hn hd HW hs; have ha := hasNil hn hd
                      have ha := ha.add (seeE hs 5 (.string t1075.1) KR KR)
                      have ha := ha.add (seeF hs 59 10 (.bool (t1087.2 != 0)) KR KR)
                      have ha := ha.bool 59 KR (ineq_f hp1116)
                      refine yStep ha 60 KR ?_; intro l_ ha HK
                      refine stepp ha 60 (.string t1075.1) KR KR ?_; intro ax hax; exact HK _ _ _ hax rfl (Below.refl _ _)
                    · skip
                      intro a wr hn hd HW hs; have ha := hasNil hn hd
                      have ha := ha.add (seeF hs 60 11 (.string t1075.1) KR KR)
                      have ha := ha.add (seeF hs 59 10 (.bool (t1087.2 != 0)) KR KR)
                      have ha := ha.bool 59 KR (ineq_f hp1116)
                      refine yStep ha 61 KR ?_; intro l_ ha HK
                      refine stepp ha 61 (.int .i64 (t1075.1.size : Int)) KR KR ?_; intro ax hax; exact HK _ _ _ hax rfl (Below.refl _ _)
                    · skip
                      intro a wr hn hd HW hs; have ha := hasNil hn hd
                      have ha := ha.add (seeE hs 5 (.string t1075.1) KR KR)
                      have ha := ha.add (seeF hs 59 10 (.bool (t1087.2 != 0)) KR KR)
                      have ha := ha.bool 59 KR (ineq_f hp1116)
                      refine yStep ha 62 KR ?_; intro l_ ha HK
                      refine stepp ha 62 (.string t1075.1) KR KR ?_; intro ax hax; exact HK _ _ _ hax rfl (Below.refl _ _)
                    · skip
                      intro a wr hn hd HW hs; have ha := hasNil hn hd
                      have ha := ha.add (seeF hs 62 13 (.string t1075.1) KR KR)
                      have ha := ha.add (seeF hs 59 10 (.bool (t1087.2 != 0)) KR KR)
                      have ha := ha.bool 59 KR (ineq_f hp1116)
                      refine yStep ha 63 KR ?_; intro l_ ha HK
                      refine stepsi ha 63 9 (.tmp 62) (.const (.int .i64 3)) t1075.1 .i64 3 rfl KR KR KR (by decide) (show (3 : Int) < ((t1075.1).size : Int) from hA1117) KR ?_; intro ax hax; exact HK _ _ _ hax rfl (Below.refl _ _)
                    · skip
                      intro a wr hn hd HW hs; have ha := hasNil hn hd
                      have ha := ha.add (seeF hs 63 14 (.int .u8 (bt t1075.1 3)) KR KR)
                      have ha := ha.add (seeF hs 59 10 (.bool (t1087.2 != 0)) KR KR)
                      have ha := ha.bool 59 KR (ineq_f hp1116)
                      refine yStep ha 64 KR ?_; intro l_ ha HK
                      refine stepp ha 64 (.int .i64 (IntKind.wrap .i64 (bt t1075.1 3))) KR KR ?_; intro ax hax; exact HK _ _ _ hax rfl (Below.refl _ _)
                    · skip
                      intro a wr hn hd HW hs; have ha := hasNil hn hd
                      have ha := ha.add (seeF hs 64 15 (.int .i64 (IntKind.wrap .i64 (bt t1075.1 3))) KR KR)
                      have ha := ha.add (seeF hs 59 10 (.bool (t1087.2 != 0)) KR KR)
                      have ha := ha.bool 59 KR (ineq_f hp1116)
                      refine yStep ha 65 KR ?_; intro l_ ha HK
                      refine stepp ha 65 (.int .i64 (IntKind.wrap .i64 (4 + (IntKind.wrap .i64 (bt t1075.1 3))))) KR KR ?_; intro ax hax; exact HK _ _ _ hax rfl (Below.refl _ _)
                    · skip
                      intro a wr hn hd HW hs; have ha := hasNil hn hd
                      have ha := ha.add (seeF hs 61 12 (.int .i64 (t1075.1.size : Int)) KR KR)
                      have ha := ha.add (seeF hs 65 16 (.int .i64 (IntKind.wrap .i64 (4 + (IntKind.wrap .i64 (bt t1075.1 3))))) KR KR)
                      have ha := ha.add (seeF hs 59 10 (.bool (t1087.2 != 0)) KR KR)
                      have ha := ha.bool 59 KR (ineq_f hp1116)
                      refine yStep ha 66 KR ?_; intro l_ ha HK
                      refine stepp ha 66 (.bool ((t1075.1.size : Int) != (IntKind.wrap .i64 (4 + (IntKind.wrap .i64 (bt t1075.1 3)))))) KR KR ?_; intro ax hax; exact HK _ _ _ hax rfl (Below.refl _ _)
                    · skip
                      intro a wr hn hd HW hs; have ha := hasNil hn hd
                      have ha := ha.add (seeF hs 59 10 (.bool (t1087.2 != 0)) KR KR)
                      have ha := ha.bool 59 KR (ineq_f hp1116)
                      have ha := ha.add (seeF hs 66 17 (.bool ((t1075.1.size : Int) != (IntKind.wrap .i64 (4 + (IntKind.wrap .i64 (bt t1075.1 3)))))) KR KR)
                      refine yStep ha 67 KR ?_; intro l_ ha HK
                      refine stepp ha 67 (.bool ((t1075.1.size : Int) != (IntKind.wrap .i64 (4 + (IntKind.wrap .i64 (bt t1075.1 3)))))) KR KR ?_; intro ax hax; exact HK _ _ _ hax rfl (Below.refl _ _)
                    · skip
                      intro a wr hn hd HW hs; have ha := hasNil hn hd
                      have ha := ha.add (seeF hs 67 18 (.bool ((t1075.1.size : Int) != (IntKind.wrap .i64 (4 + (IntKind.wrap .i64 (bt t1075.1 3)))))) KR KR)
                      refine yStep ha 68 KR ?_; intro l_ ha HK
                      refine stepp ha 68 (.bool ((t1075.1.size : Int) != (IntKind.wrap .i64 (4 + (IntKind.wrap .i64 (bt t1075.1 3)))))) KR KR ?_; intro ax hax; exact HK _ _ _ hax rfl (Below.refl _ _)
                    · skip
                      intro a wr hn hd HW hs; have ha := hasNil hn hd
                      have ha := ha.add (seeE hs 7 (.string t1081.1) KR KR)
                      have ha := ha.add (seeF hs 68 19 (.bool ((t1075.1.size : Int) != (IntKind.wrap .i64 (4 + (IntKind.wrap .i64 (bt t1075.1 3)))))) KR KR)
                      have ha := ha.bool 68 KR (ineq_t hp1118)
                      exact yo ha KR rfl
                    · skip
                      intro a wr hn hd HW hs; have ha := hasNil hn hd
                      have ha := ha.add (seeF hs 69 20 (undef) KR KR)
                      have ha := ha.add (seeF hs 68 19 (.bool ((t1075.1.size : Int) != (IntKind.wrap .i64 (4 + (IntKind.wrap .i64 (bt t1075.1 3)))))) KR KR)
                      have ha := ha.bool 68 KR (ineq_t hp1118)
                      exact yo ha KR rfl
                    · skip
                      intro a wr hn hd HW hs; have ha := hasNil hn hd
                      have ha := ha.add (seeE hs 7 (.string t1081.1) KR KR)
                      have ha := ha.add (seeF hs 68 19 (.bool ((t1075.1.size : Int) != (IntKind.wrap .i64 (4 + (IntKind.wrap .i64 (bt t1075.1 3)))))) KR KR)
                      have ha := ha.bool 68 KR (ineq_t hp1118)
                      exact yo ha KR rfl
                    · skip
                      intro a wr hn hd HW hs; have ha := hasNil hn hd
                      have ha := ha.add (seeF hs 71 22 (undef) KR KR)
                      have ha := ha.add (seeF hs 68 19 (.bool ((t1075.1.size : Int) != (IntKind.wrap .i64 (4 + (IntKind.wrap .i64 (bt t1075.1 3)))))) KR KR)
                      have ha := ha.bool 68 KR (ineq_t hp1118)
                      exact yo ha KR rfl
                    · skip
                      intro a wr hn hd HW hs; have ha := hasNil hn hd
                      have ha := ha.add (seeF hs 72 23 (undef) KR KR)
                      have ha := ha.add (seeF hs 68 19 (.bool ((t1075.1.size : Int) != (IntKind.wrap .i64 (4 + (IntKind.wrap .i64 (bt t1075.1 3)))))) KR KR)
                      have ha := ha.bool 68 KR (ineq_t hp1118)
                      exact yo ha KR rfl
                    · skip
                      intro a wr hn hd HW hs; have ha := hasNil hn hd
                      have ha := ha.add (seeF hs 73 24 (undef) KR KR)
                      have ha := ha.add (seeF hs 68 19 (.bool ((t1075.1.size : Int) != (IntKind.wrap .i64 (4 + (IntKind.wrap .i64 (bt t1075.1 3)))))) KR KR)
                      have ha := ha.bool 68 KR (ineq_t hp1118)
                      exact yo ha KR rfl
                    · skip
                      intro a wr hn hd HW hs; have ha := hasNil hn hd
                      have ha := ha.add (seeF hs 70 21 (undef) KR KR)
                      have ha := ha.add (seeF hs 74 25 (undef) KR KR)
                      have ha := ha.add (seeF hs 68 19 (.bool ((t1075.1.size : Int) != (IntKind.wrap .i64 (4 + (IntKind.wrap .i64 (bt t1075.1 3)))))) KR KR)
                      have ha := ha.bool 68 KR (ineq_t hp1118)
                      exact yo ha KR rfl
                    · skip
                      intro a wr hn hd HW hs; have ha := hasNil hn hd
                      have ha := ha.add (seeF hs 68 19 (.bool ((t1075.1.size : Int) != (IntKind.wrap .i64 (4 + (IntKind.wrap .i64 (bt t1075.1 3)))))) KR KR)
                      have ha := ha.bool 68 KR (ineq_t hp1118)
                      have ha := ha.add (seeF hs 75 26 (undef) KR KR)
                      refine yStep ha 76 KR ?_; intro l_ ha HK
                      refine stepp ha 76 (.bool true) KR KR ?_; intro ax hax; exact HK _ _ _ hax rfl (Below.refl _ _)
                    · skip
                      intro a wr hn hd HW hs; have ha := hasNil hn hd
                      have ha := ha.add (seeF hs 76 27 (.bool true) KR KR)
                      refine yStep ha 77 KR ?_; intro l_ ha HK
                      refine stepp ha 77 (.bool true) KR KR ?_; intro ax hax; exact HK _ _ _ hax rfl (Below.refl _ _)
                    · skip
                      intro a wr hn hd HW hs; have ha := hasNil hn hd
                      have ha := ha.add (seeE hs 9 (.string t1087.1) KR KR)
                      have ha := ha.add (seeF hs 77 28 (.bool true) KR KR)
                      exact yo ha KR rfl
                    · skip
                      intro a wr hn hd HW hs; have ha := hasNil hn hd
                      have ha := ha.add (seeF hs 78 29 (undef) KR KR)
                      have ha := ha.add (seeF hs 77 28 (.bool true) KR KR)
                      exact yo ha KR rfl
                    · skip
                      intro a wr hn hd HW hs; have ha := hasNil hn hd
                      have ha := ha.add (seeE hs 9 (.string t1087.1) KR KR)
                      have ha := ha.add (seeF hs 77 28 (.bool true) KR KR)
                      exact yo ha KR rfl
                    · skip
                      intro a wr hn hd HW hs; have ha := hasNil hn hd
                      have ha := ha.add (seeF hs 80 31 (undef) KR KR)
                      have ha := ha.add (seeF hs 77 28 (.bool true) KR KR)
                      exact yo ha KR rfl
                    · skip
                      intro a wr hn hd HW hs; have ha := hasNil hn hd
                      have ha := ha.add (seeF hs 81 32 (undef) KR KR)
                      have ha := ha.add (seeF hs 77 28 (.bool true) KR KR)
                      exact yo ha KR rfl
                    · skip
                      intro a wr hn hd HW hs; have ha := hasNil hn hd
                      have ha := ha.add (seeF hs 82 33 (undef) KR KR)
                      have ha := ha.add (seeF hs 77 28 (.bool true) KR KR)
                      exact yo ha KR rfl
                    · skip
                      intro a wr hn hd HW hs; have ha := hasNil hn hd
                      have ha := ha.add (seeF hs 79 30 (undef) KR KR)
                      have ha := ha.add (seeF hs 83 34 (undef) KR KR)
                      have ha := ha.add (seeF hs 77 28 (.bool true) KR KR)
                      exact yo ha KR rfl
                    · skip
                      intro a wr hn hd HW hs; have ha := hasNil hn hd
                      have ha := ha.add (seeF hs 77 28 (.bool true) KR KR)
                      have ha := ha.add (seeF hs 84 35 (undef) KR KR)
                      refine yStep ha 85 KR ?_; intro l_ ha HK
                      refine stepp ha 85 (.bool true) KR KR ?_; intro ax hax; exact HK _ _ _ hax rfl (Below.refl _ _)
                    · skip
                      intro a wr hn hd HW hs; have ha := hasNil hn hd
                      have ha := ha.add (seeF hs 85 36 (.bool true) KR KR)
                      refine yStep ha 86 KR ?_; intro l_ ha HK
                      refine stepp ha 86 (.bool true) KR KR ?_; intro ax hax; exact HK _ _ _ hax rfl (Below.refl _ _)
                    · skip
                      intro a wr hn hd HW hs; have ha := hasNil hn hd
                      have ha := ha.add (seeE hs 7 (.string t1081.1) KR KR)
                      have ha := ha.add (seeF hs 86 37 (.bool true) KR KR)
                      exact yo ha KR rfl
                    · skip
                      intro a wr hn hd HW hs; have ha := hasNil hn hd
                      have ha := ha.add (seeF hs 87 38 (undef) KR KR)
                      have ha := ha.add (seeF hs 86 37 (.bool true) KR KR)
                      exact yo ha KR rfl
                    · skip
                      intro a wr hn hd HW hs; have ha := hasNil hn hd
                      have ha := ha.add (seeE hs 2 (.pointer (some ⟨b1060, 0, none⟩)) KR KR)
                      have ha := ha.add (seeF hs 86 37 (.bool true) KR KR)
                      exact yo ha KR rfl
                    · skip
                      intro a wr hn hd HW hs; have ha := hasNil hn hd
                      have ha := ha.add (seeF hs 89 40 (undef) KR KR)
                      have ha := ha.add (seeF hs 86 37 (.bool true) KR KR)
                      exact yo ha KR rfl
                    · skip
                      intro a wr hn hd HW hs; have ha := hasNil hn hd
                      have ha := ha.add (seeF hs 88 39 (undef) KR KR)
                      have ha := ha.add (seeF hs 90 41 (undef) KR KR)
                      have ha := ha.add (seeF hs 86 37 (.bool true) KR KR)
                      exact yo ha KR rfl
                    · skip
                      intro a wr hn hd HW hs; have ha := hasNil hn hd
                      have ha := ha.add (seeF hs 86 37 (.bool true) KR KR)
                      have ha := ha.add (seeF hs 91 42 (undef) KR KR)
                      refine yStep ha 92 KR ?_; intro l_ ha HK
                      refine stepp ha 92 (.bool true) KR KR ?_; intro ax hax; exact HK _ _ _ hax rfl (Below.refl _ _)
                    · skip
                      intro a wr hn hd HW hs; have ha := hasNil hn hd
                      have ha := ha.add (seeF hs 92 43 (.bool true) KR KR)
                      refine yStep ha 93 KR ?_; intro l_ ha HK
                      refine stepp ha 93 (.bool true) KR KR ?_; intro ax hax; exact HK _ _ _ hax rfl (Below.refl _ _)
                    · skip
                      intro a wr hn hd HW hs; have ha := hasNil hn hd
                      have ha := ha.add (seeE hs 11 (.string t1093) KR KR)
                      have ha := ha.add (seeF hs 93 44 (.bool true) KR KR)
                      exact yo ha KR rfl
                    · skip
                      intro a wr hn hd HW hs; have ha := hasNil hn hd
                      have ha := ha.add (seeF hs 94 45 (undef) KR KR)
                      have ha := ha.add (seeF hs 93 44 (.bool true) KR KR)
                      exact yo ha KR rfl
                    · skip
                      intro a wr hn hd HW hs; have ha := hasNil hn hd
                      have ha := ha.add (seeE hs 1 (.int .u8 a1) KR KR)
                      have ha := ha.add (seeF hs 93 44 (.bool true) KR KR)
                      exact yo ha KR rfl
                    · skip
                      intro a wr hn hd HW hs; have ha := hasNil hn hd
                      have ha := ha.add (seeF hs 96 47 (undef) KR KR)
                      have ha := ha.add (seeF hs 93 44 (.bool true) KR KR)
                      exact yo ha KR rfl
                    · skip
                      intro a wr hn hd HW hs; have ha := hasNil hn hd
                      have ha := ha.add (seeF hs 97 48 (undef) KR KR)
                      have ha := ha.add (seeF hs 93 44 (.bool true) KR KR)
                      exact yo ha KR rfl
                    · skip
                      intro a wr hn hd HW hs; have ha := hasNil hn hd
                      have ha := ha.add (seeF hs 98 49 (undef) KR KR)
                      have ha := ha.add (seeF hs 93 44 (.bool true) KR KR)
                      exact yo ha KR rfl
                    · skip
                      intro a wr hn hd HW hs; have ha := hasNil hn hd
                      have ha := ha.add (seeF hs 95 46 (undef) KR KR)
                      have ha := ha.add (seeF hs 99 50 (undef) KR KR)
                      have ha := ha.add (seeF hs 93 44 (.bool true) KR KR)
                      exact yo ha KR rfl
                    · skip
                      intro a wr hn hd HW hs; have ha := hasNil hn hd
                      have ha := ha.add (seeF hs 93 44 (.bool true) KR KR)
                      have ha := ha.add (seeF hs 100 51 (undef) KR KR)
                      refine yStep ha 101 KR ?_; intro l_ ha HK
                      refine stepp ha 101 (.bool true) KR KR ?_; intro ax hax; exact HK _ _ _ hax rfl (Below.refl _ _)
                  · skip
                    intro a W1129 ha HW he hf
                    replace ha := ha.add (he 1 (.int .u8 a1) KR KR)
                    replace ha := ha.add (he 11 (.string t1093) KR KR)
                    replace ha := ha.add (gotF (m := 53) (j := 52) (d := 101) (v := .bool true) hf KR KR KR)
                    clear he hf
                    refine endl ?_
                    refine thenN (hK1113 _ _ ?_); clear hK1113
                    refine condT ha KR KR (t := true) (rfl) ?_
                    refine wp_seq_k (fun K1142 hK1143 => ?_)
                    refine wp_region_lit ?_
                    refine stepp ha 4 (.bool false) KR KR ?_; clear ha a; intro a ha
                    refine endl ?_
                    refine thenN (hK1143 _ _ ?_); clear hK1143
                    refine wp_ret ?_
                    refine thenR ?_
                    obtain rfl := Option.some.inj h
                    exact finv ha _ _ rfl (.tmp (v := .bool false) KR .nil) (.bool false) rfl ⟨rfl, HW.pick [] [] (by decide) (by decide) rfl KR⟩
              · skip
                replace h := ite_neg' h hp1116
                refine regionG 53 KR KR ha HW [.fix (.int .i64 t1075.2), .fix (.bool (t1075.2 != 0)), .fix (.bool (t1075.2 != 0)), .fix (.int .i64 t1081.2), .fix (.bool (t1081.2 != 0)), .fix (.bool (t1081.2 != 0)), .fix (.bool (t1081.2 != 0)), .fix (.int .i64 t1087.2), .fix (.bool (t1087.2 != 0)), .fix (.bool (t1087.2 != 0)), .fix (.bool (t1087.2 != 0)), .fix undef, .fix undef, .fix undef, .fix undef, .fix undef, .fix undef, .fix undef, .fix (.bool true), .fix (.bool true), .fix undef, .fix undef, .fix undef, .fix undef, .fix undef, .fix undef, .fix undef, .fix (.bool true), .fix (.bool true), .fix undef, .fix undef, .fix undef, .fix undef, .fix undef, .fix undef, .fix undef, .fix (.bool true), .fix (.bool true), .fix undef, .fix undef, .fix undef, .fix undef, .fix undef, .fix (.bool true), .fix (.bool true), .fix undef, .fix undef, .fix undef, .fix undef, .fix undef, .fix undef, .fix undef, .fix (.bool true)] ?_ ?_
                · skip
                  refine ⟨?_, ?_, ?_, ?_, ?_, ?_, ?_, ?_, ?_, ?_, ?_, ?_, ?_, ?_, ?_, ?_, ?_, ?_, ?_, ?_, ?_, ?_, ?_, ?_, ?_, ?_, ?_, ?_, ?_, ?_, ?_, ?_, ?_, ?_, ?_, ?_, ?_, ?_, ?_, ?_, ?_, ?_, ?_, ?_, ?_, ?_, ?_, ?_, ?_, ?_, ?_, ?_, ?_, trivial⟩
                  · skip
                    intro a wr hn hd HW hs; have ha := hasNil hn hd
                    have ha := ha.add (seeE hs 6 (.int .i64 t1075.2) KR KR)
                    refine yStep ha 49 KR ?_; intro l_ ha HK
                    refine stepp ha 49 (.int .i64 t1075.2) KR KR ?_; intro ax hax; exact HK _ _ _ hax rfl (Below.refl _ _)
                  · skip
                    intro a wr hn hd HW hs; have ha := hasNil hn hd
                    have ha := ha.add (seeF hs 49 0 (.int .i64 t1075.2) KR KR)
                    refine yStep ha 50 KR ?_; intro l_ ha HK
                    refine stepp ha 50 (.bool (t1075.2 != 0)) KR KR ?_; intro ax hax; exact HK _ _ _ hax rfl (Below.refl _ _)
                  · skip
                    intro a wr hn hd HW hs; have ha := hasNil hn hd
                    have ha := ha.add (seeF hs 50 1 (.bool (t1075.2 != 0)) KR KR)
                    refine yStep ha 51 KR ?_; intro l_ ha HK
                    refine stepp ha 51 (.bool (t1075.2 != 0)) KR KR ?_; intro ax hax; exact HK _ _ _ hax rfl (Below.refl _ _)
                  · skip
                    intro a wr hn hd HW hs; have ha := hasNil hn hd
                    have ha := ha.add (seeE hs 8 (.int .i64 t1081.2) KR KR)
                    have ha := ha.add (seeF hs 51 2 (.bool (t1075.2 != 0)) KR KR)
                    have ha := ha.bool 51 KR (ineq_f hp1114)
                    refine yStep ha 52 KR ?_; intro l_ ha HK
                    refine stepp ha 52 (.int .i64 t1081.2) KR KR ?_; intro ax hax; exact HK _ _ _ hax rfl (Below.refl _ _)
                  · skip
                    intro a wr hn hd HW hs; have ha := hasNil hn hd
                    have ha := ha.add (seeF hs 52 3 (.int .i64 t1081.2) KR KR)
                    have ha := ha.add (seeF hs 51 2 (.bool (t1075.2 != 0)) KR KR)
                    have ha := ha.bool 51 KR (ineq_f hp1114)
                    refine yStep ha 53 KR ?_; intro l_ ha HK
                    refine stepp ha 53 (.bool (t1081.2 != 0)) KR KR ?_; intro ax hax; exact HK _ _ _ hax rfl (Below.refl _ _)
                  · skip
                    intro a wr hn hd HW hs; have ha := hasNil hn hd
                    have ha := ha.add (seeF hs 51 2 (.bool (t1075.2 != 0)) KR KR)
                    have ha := ha.bool 51 KR (ineq_f hp1114)
                    have ha := ha.add (seeF hs 53 4 (.bool (t1081.2 != 0)) KR KR)
                    refine yStep ha 54 KR ?_; intro l_ ha HK
                    refine stepp ha 54 (.bool (t1081.2 != 0)) KR KR ?_; intro ax hax; exact HK _ _ _ hax rfl (Below.refl _ _)
                  · skip
                    intro a wr hn hd HW hs; have ha := hasNil hn hd
                    have ha := ha.add (seeF hs 54 5 (.bool (t1081.2 != 0)) KR KR)
                    refine yStep ha 55 KR ?_; intro l_ ha HK
                    refine stepp ha 55 (.bool (t1081.2 != 0)) KR KR ?_; intro ax hax; exact HK _ _ _ hax rfl (Below.refl _ _)
                  · skip
                    intro a wr hn hd HW hs; have ha := hasNil hn hd
                    have ha := ha.add (seeE hs 10 (.int .i64 t1087.2) KR KR)
                    have ha := ha.add (seeF hs 55 6 (.bool (t1081.2 != 0)) KR KR)
                    have ha := ha.bool 55 KR (ineq_f hp1115)
                    refine yStep ha 56 KR ?_; intro l_ ha HK
                    refine stepp ha 56 (.int .i64 t1087.2) KR KR ?_; intro ax hax; exact HK _ _ _ hax rfl (Below.refl _ _)
                  · skip
                    intro a wr hn hd HW hs; have ha := hasNil hn hd
                    have ha := ha.add (seeF hs 56 7 (.int .i64 t1087.2) KR KR)
                    have ha := ha.add (seeF hs 55 6 (.bool (t1081.2 != 0)) KR KR)
                    have ha := ha.bool 55 KR (ineq_f hp1115)
                    refine yStep ha 57 KR ?_; intro l_ ha HK
                    refine stepp ha 57 (.bool (t1087.2 != 0)) KR KR ?_; intro ax hax; exact HK _ _ _ hax rfl (Below.refl _ _)
                  · skip
                    intro a wr hn hd HW hs; have ha := hasNil hn hd
                    have ha := ha.add (seeF hs 55 6 (.bool (t1081.2 != 0)) KR KR)
                    have ha := ha.bool 55 KR (ineq_f hp1115)
                    have ha := ha.add (seeF hs 57 8 (.bool (t1087.2 != 0)) KR KR)
                    refine yStep ha 58 KR ?_; intro l_ ha HK
                    refine stepp ha 58 (.bool (t1087.2 != 0)) KR KR ?_; intro ax hax; exact HK _ _ _ hax rfl (Below.refl _ _)
                  · skip
                    intro a wr hn hd HW hs; have ha := hasNil hn hd
                    have ha := ha.add (seeF hs 58 9 (.bool (t1087.2 != 0)) KR KR)
                    refine yStep ha 59 KR ?_; intro l_ ha HK
                    refine stepp ha 59 (.bool (t1087.2 != 0)) KR KR ?_; intro ax hax; exact HK _ _ _ hax rfl (Below.refl _ _)
                  · skip
                    intro a wr hn hd HW hs; have ha := hasNil hn hd
                    have ha := ha.add (seeE hs 5 (.string t1075.1) KR KR)
                    have ha := ha.add (seeF hs 59 10 (.bool (t1087.2 != 0)) KR KR)
                    have ha := ha.bool 59 KR (ineq_t hp1116)
                    exact yo ha KR rfl
                  · skip
                    intro a wr hn hd HW hs; have ha := hasNil hn hd
                    have ha := ha.add (seeF hs 60 11 (undef) KR KR)
                    have ha := ha.add (seeF hs 59 10 (.bool (t1087.2 != 0)) KR KR)
                    have ha := ha.bool 59 KR (ineq_t hp1116)
                    exact yo ha KR rfl
                  · skip
                    intro a wr hn hd HW hs; have ha := hasNil hn hd
                    have ha := ha.add (seeE hs 5 (.string t1075.1) KR KR)
                    have ha := ha.add (seeF hs 59 10 (.bool (t1087.2 != 0)) KR KR)
                    have ha := ha.bool 59 KR (ineq_t hp1116)
                    exact yo ha KR rfl
                  · skip
                    intro a wr hn hd HW hs; have ha := hasNil hn hd
                    have ha := ha.add (seeF hs 62 13 (undef) KR KR)
                    have ha := ha.add (seeF hs 59 10 (.bool (t1087.2 != 0)) KR KR)
                    have ha := ha.bool 59 KR (ineq_t hp1116)
                    exact yo ha KR rfl
                  · skip
                    intro a wr hn hd HW hs; have ha := hasNil hn hd
                    have ha := ha.add (seeF hs 63 14 (undef) KR KR)
                    have ha := ha.add (seeF hs 59 10 (.bool (t1087.2 != 0)) KR KR)
                    have ha := ha.bool 59 KR (ineq_t hp1116)
                    exact yo ha KR rfl
                  · skip
                    intro a wr hn hd HW hs; have ha := hasNil hn hd
                    have ha := ha.add (seeF hs 64 15 (undef) KR KR)
                    have ha := ha.add (seeF hs 59 10 (.bool (t1087.2 != 0)) KR KR)
                    have ha := ha.bool 59 KR (ineq_t hp1116)
                    exact yo ha KR rfl
                  · skip
                    intro a wr hn hd HW hs; have ha := hasNil hn hd
                    have ha := ha.add (seeF hs 61 12 (undef) KR KR)
                    have ha := ha.add (seeF hs 65 16 (undef) KR KR)
                    have ha := ha.add (seeF hs 59 10 (.bool (t1087.2 != 0)) KR KR)
                    have ha := ha.bool 59 KR (ineq_t hp1116)
                    exact yo ha KR rfl
                  · skip
                    intro a wr hn hd HW hs; have ha := hasNil hn hd
                    have ha := ha.add (seeF hs 59 10 (.bool (t1087.2 != 0)) KR KR)
                    have ha := ha.bool 59 KR (ineq_t hp1116)
                    have ha := ha.add (seeF hs 66 17 (undef) KR KR)
                    refine yStep ha 67 KR ?_; intro l_ ha HK
                    refine stepp ha 67 (.bool true) KR KR ?_; intro ax hax; exact HK _ _ _ hax rfl (Below.refl _ _)
                  · skip
                    intro a wr hn hd HW hs; have ha := hasNil hn hd
                    have ha := ha.add (seeF hs 67 18 (.bool true) KR KR)
                    refine yStep ha 68 KR ?_; intro l_ ha HK
                    refine stepp ha 68 (.bool true) KR KR ?_; intro ax hax; exact HK _ _ _ hax rfl (Below.refl _ _)
                  · skip
                    intro a wr hn hd HW hs; have ha := hasNil hn hd
                    have ha := ha.add (seeE hs 7 (.string t1081.1) KR KR)
                    have ha := ha.add (seeF hs 68 19 (.bool true) KR KR)
                    exact yo ha KR rfl
                  · skip
                    intro a wr hn hd HW hs; have ha := hasNil hn hd
                    have ha := ha.add (seeF hs 69 20 (undef) KR KR)
                    have ha := ha.add (seeF hs 68 19 (.bool true) KR KR)
                    exact yo ha KR rfl
                  · skip
                    intro a wr hn hd HW hs; have ha := hasNil hn hd
                    have ha := ha.add (seeE hs 7 (.string t1081.1) KR KR)
                    have ha := ha.add (seeF hs 68 19 (.bool true) KR KR)
                    exact yo ha KR rfl
                  · skip
                    intro a wr hn hd HW hs; have ha := hasNil hn hd
                    have ha := ha.add (seeF hs 71 22 (undef) KR KR)
                    have ha := ha.add (seeF hs 68 19 (.bool true) KR KR)
                    exact yo ha KR rfl
                  · skip
                    intro a wr hn hd HW hs; have ha := hasNil hn hd
                    have ha := ha.add (seeF hs 72 23 (undef) KR KR)
                    have ha := ha.add (seeF hs 68 19 (.bool true) KR KR)
                    exact yo ha KR rfl
                  · skip
                    intro a wr hn hd HW hs; have ha := hasNil hn hd
                    have ha := ha.add (seeF hs 73 24 (undef) KR KR)
                    have ha := ha.add (seeF hs 68 19 (.bool true) KR KR)
                    exact yo ha KR rfl
                  · skip
                    intro a wr hn hd HW hs; have ha := hasNil hn hd
                    have ha := ha.add (seeF hs 70 21 (undef) KR KR)
                    have ha := ha.add (seeF hs 74 25 (undef) KR KR)
                    have ha := ha.add (seeF hs 68 19 (.bool true) KR KR)
                    exact yo ha KR rfl
                  · skip
                    intro a wr hn hd HW hs; have ha := hasNil hn hd
                    have ha := ha.add (seeF hs 68 19 (.bool true) KR KR)
                    have ha := ha.add (seeF hs 75 26 (undef) KR KR)
                    refine yStep ha 76 KR ?_; intro l_ ha HK
                    refine stepp ha 76 (.bool true) KR KR ?_; intro ax hax; exact HK _ _ _ hax rfl (Below.refl _ _)
                  · skip
                    intro a wr hn hd HW hs; have ha := hasNil hn hd
                    have ha := ha.add (seeF hs 76 27 (.bool true) KR KR)
                    refine yStep ha 77 KR ?_; intro l_ ha HK
                    refine stepp ha 77 (.bool true) KR KR ?_; intro ax hax; exact HK _ _ _ hax rfl (Below.refl _ _)
                  · skip
                    intro a wr hn hd HW hs; have ha := hasNil hn hd
                    have ha := ha.add (seeE hs 9 (.string t1087.1) KR KR)
                    have ha := ha.add (seeF hs 77 28 (.bool true) KR KR)
                    exact yo ha KR rfl
                  · skip
                    intro a wr hn hd HW hs; have ha := hasNil hn hd
                    have ha := ha.add (seeF hs 78 29 (undef) KR KR)
                    have ha := ha.add (seeF hs 77 28 (.bool true) KR KR)
                    exact yo ha KR rfl
                  · skip
                    intro a wr hn hd HW hs; have ha := hasNil hn hd
                    have ha := ha.add (seeE hs 9 (.string t1087.1) KR KR)
                    have ha := ha.add (seeF hs 77 28 (.bool true) KR KR)
                    exact yo ha KR rfl
                  · skip
                    intro a wr hn hd HW hs; have ha := hasNil hn hd
                    have ha := ha.add (seeF hs 80 31 (undef) KR KR)
                    have ha := ha.add (seeF hs 77 28 (.bool true) KR KR)
                    exact yo ha KR rfl
                  · skip
                    intro a wr hn hd HW hs; have ha := hasNil hn hd
                    have ha := ha.add (seeF hs 81 32 (undef) KR KR)
                    have ha := ha.add (seeF hs 77 28 (.bool true) KR KR)
                    exact yo ha KR rfl
                  · skip
                    intro a wr hn hd HW hs; have ha := hasNil hn hd
                    have ha := ha.add (seeF hs 82 33 (undef) KR KR)
                    have ha := ha.add (seeF hs 77 28 (.bool true) KR KR)
                    exact yo ha KR rfl
                  · skip
                    intro a wr hn hd HW hs; have ha := hasNil hn hd
                    have ha := ha.add (seeF hs 79 30 (undef) KR KR)
                    have ha := ha.add (seeF hs 83 34 (undef) KR KR)
                    have ha := ha.add (seeF hs 77 28 (.bool true) KR KR)
                    exact yo ha KR rfl
                  · skip
                    intro a wr hn hd HW hs; have ha := hasNil hn hd
                    have ha := ha.add (seeF hs 77 28 (.bool true) KR KR)
                    have ha := ha.add (seeF hs 84 35 (undef) KR KR)
                    refine yStep ha 85 KR ?_; intro l_ ha HK
                    refine stepp ha 85 (.bool true) KR KR ?_; intro ax hax; exact HK _ _ _ hax rfl (Below.refl _ _)
                  · skip
                    intro a wr hn hd HW hs; have ha := hasNil hn hd
                    have ha := ha.add (seeF hs 85 36 (.bool true) KR KR)
                    refine yStep ha 86 KR ?_; intro l_ ha HK
                    refine stepp ha 86 (.bool true) KR KR ?_; intro ax hax; exact HK _ _ _ hax rfl (Below.refl _ _)
                  · skip
                    intro a wr hn hd HW hs; have ha := hasNil hn hd
                    have ha := ha.add (seeE hs 7 (.string t1081.1) KR KR)
                    have ha := ha.add (seeF hs 86 37 (.bool true) KR KR)
                    exact yo ha KR rfl
                  · skip
                    intro a wr hn hd HW hs; have ha := hasNil hn hd
                    have ha := ha.add (seeF hs 87 38 (undef) KR KR)
                    have ha := ha.add (seeF hs 86 37 (.bool true) KR KR)
                    exact yo ha KR rfl
                  · skip
                    intro a wr hn hd HW hs; have ha := hasNil hn hd
                    have ha := ha.add (seeE hs 2 (.pointer (some ⟨b1060, 0, none⟩)) KR KR)
                    have ha := ha.add (seeF hs 86 37 (.bool true) KR KR)
                    exact yo ha KR rfl
                  · skip
                    intro a wr hn hd HW hs; have ha := hasNil hn hd
                    have ha := ha.add (seeF hs 89 40 (undef) KR KR)
                    have ha := ha.add (seeF hs 86 37 (.bool true) KR KR)
                    exact yo ha KR rfl
                  · skip
                    intro a wr hn hd HW hs; have ha := hasNil hn hd
                    have ha := ha.add (seeF hs 88 39 (undef) KR KR)
                    have ha := ha.add (seeF hs 90 41 (undef) KR KR)
                    have ha := ha.add (seeF hs 86 37 (.bool true) KR KR)
                    exact yo ha KR rfl
                  · skip
                    intro a wr hn hd HW hs; have ha := hasNil hn hd
                    have ha := ha.add (seeF hs 86 37 (.bool true) KR KR)
                    have ha := ha.add (seeF hs 91 42 (undef) KR KR)
                    refine yStep ha 92 KR ?_; intro l_ ha HK
                    refine stepp ha 92 (.bool true) KR KR ?_; intro ax hax; exact HK _ _ _ hax rfl (Below.refl _ _)
                  · skip
                    intro a wr hn hd HW hs; have ha := hasNil hn hd
                    have ha := ha.add (seeF hs 92 43 (.bool true) KR KR)
                    refine yStep ha 93 KR ?_; intro l_ ha HK
                    refine stepp ha 93 (.bool true) KR KR ?_; intro ax hax; exact HK _ _ _ hax rfl (Below.refl _ _)
                  · skip
                    intro a wr hn hd HW hs; have ha := hasNil hn hd
                    have ha := ha.add (seeE hs 11 (.string t1093) KR KR)
                    have ha := ha.add (seeF hs 93 44 (.bool true) KR KR)
                    exact yo ha KR rfl
                  · skip
                    intro a wr hn hd HW hs; have ha := hasNil hn hd
                    have ha := ha.add (seeF hs 94 45 (undef) KR KR)
                    have ha := ha.add (seeF hs 93 44 (.bool true) KR KR)
                    exact yo ha KR rfl
                  · skip
                    intro a wr hn hd HW hs; have ha := hasNil hn hd
                    have ha := ha.add (seeE hs 1 (.int .u8 a1) KR KR)
                    have ha := ha.add (seeF hs 93 44 (.bool true) KR KR)
                    exact yo ha KR rfl
                  · skip
                    intro a wr hn hd HW hs; have ha := hasNil hn hd
                    have ha := ha.add (seeF hs 96 47 (undef) KR KR)
                    have ha := ha.add (seeF hs 93 44 (.bool true) KR KR)
                    exact yo ha KR rfl
                  · skip
                    intro a wr hn hd HW hs; have ha := hasNil hn hd
                    have ha := ha.add (seeF hs 97 48 (undef) KR KR)
                    have ha := ha.add (seeF hs 93 44 (.bool true) KR KR)
                    exact yo ha KR rfl
                  · skip
                    intro a wr hn hd HW hs; have ha := hasNil hn hd
                    have ha := ha.add (seeF hs 98 49 (undef) KR KR)
                    have ha := ha.add (seeF hs 93 44 (.bool true) KR KR)
                    exact yo ha KR rfl
                  · skip
                    intro a wr hn hd HW hs; have ha := hasNil hn hd
                    have ha := ha.add (seeF hs 95 46 (undef) KR KR)
                    have ha := ha.add (seeF hs 99 50 (undef) KR KR)
                    have ha := ha.add (seeF hs 93 44 (.bool true) KR KR)
                    exact yo ha KR rfl
                  · skip
                    intro a wr hn hd HW hs; have ha := hasNil hn hd
                    have ha := ha.add (seeF hs 93 44 (.bool true) KR KR)
                    have ha := ha.add (seeF hs 100 51 (undef) KR KR)
                    refine yStep ha 101 KR ?_; intro l_ ha HK
                    refine stepp ha 101 (.bool true) KR KR ?_; intro ax hax; exact HK _ _ _ hax rfl (Below.refl _ _)
                · skip
                  intro a W1130 ha HW he hf
                  replace ha := ha.add (he 1 (.int .u8 a1) KR KR)
                  replace ha := ha.add (he 11 (.string t1093) KR KR)
                  replace ha := ha.add (gotF (m := 53) (j := 52) (d := 101) (v := .bool true) hf KR KR KR)
                  clear he hf
                  refine endl ?_
                  refine thenN (hK1113 _ _ ?_); clear hK1113
                  refine condT ha KR KR (t := true) (rfl) ?_
                  refine wp_seq_k (fun K1144 hK1145 => ?_)
                  refine wp_region_lit ?_
                  refine stepp ha 4 (.bool false) KR KR ?_; clear ha a; intro a ha
                  refine endl ?_
                  refine thenN (hK1145 _ _ ?_); clear hK1145
                  refine wp_ret ?_
                  refine thenR ?_
                  obtain rfl := Option.some.inj h
                  exact finv ha _ _ rfl (.tmp (v := .bool false) KR .nil) (.bool false) rfl ⟨rfl, HW.pick [] [] (by decide) (by decide) rfl KR⟩
            · skip
              replace h := ite_neg' h hp1115
              refine regionG 53 KR KR ha HW [.fix (.int .i64 t1075.2), .fix (.bool (t1075.2 != 0)), .fix (.bool (t1075.2 != 0)), .fix (.int .i64 t1081.2), .fix (.bool (t1081.2 != 0)), .fix (.bool (t1081.2 != 0)), .fix (.bool (t1081.2 != 0)), .fix undef, .fix undef, .fix (.bool true), .fix (.bool true), .fix undef, .fix undef, .fix undef, .fix undef, .fix undef, .fix undef, .fix undef, .fix (.bool true), .fix (.bool true), .fix undef, .fix undef, .fix undef, .fix undef, .fix undef, .fix undef, .fix undef, .fix (.bool true), .fix (.bool true), .fix undef, .fix undef, .fix undef, .fix undef, .fix undef, .fix undef, .fix undef, .fix (.bool true), .fix (.bool true), .fix undef, .fix undef, .fix undef, .fix undef, .fix undef, .fix (.bool true), .fix (.bool true), .fix undef, .fix undef, .fix undef, .fix undef, .fix undef, .fix undef, .fix undef, .fix (.bool true)] ?_ ?_
              · skip
                refine ⟨?_, ?_, ?_, ?_, ?_, ?_, ?_, ?_, ?_, ?_, ?_, ?_, ?_, ?_, ?_, ?_, ?_, ?_, ?_, ?_, ?_, ?_, ?_, ?_, ?_, ?_, ?_, ?_, ?_, ?_, ?_, ?_, ?_, ?_, ?_, ?_, ?_, ?_, ?_, ?_, ?_, ?_, ?_, ?_, ?_, ?_, ?_, ?_, ?_, ?_, ?_, ?_, ?_, trivial⟩
                · skip
                  intro a wr hn hd HW hs; have ha := hasNil hn hd
                  have ha := ha.add (seeE hs 6 (.int .i64 t1075.2) KR KR)
                  refine yStep ha 49 KR ?_; intro l_ ha HK
                  refine stepp ha 49 (.int .i64 t1075.2) KR KR ?_; intro ax hax; exact HK _ _ _ hax rfl (Below.refl _ _)
                · skip
                  intro a wr hn hd HW hs; have ha := hasNil hn hd
                  have ha := ha.add (seeF hs 49 0 (.int .i64 t1075.2) KR KR)
                  refine yStep ha 50 KR ?_; intro l_ ha HK
                  refine stepp ha 50 (.bool (t1075.2 != 0)) KR KR ?_; intro ax hax; exact HK _ _ _ hax rfl (Below.refl _ _)
                · skip
                  intro a wr hn hd HW hs; have ha := hasNil hn hd
                  have ha := ha.add (seeF hs 50 1 (.bool (t1075.2 != 0)) KR KR)
                  refine yStep ha 51 KR ?_; intro l_ ha HK
                  refine stepp ha 51 (.bool (t1075.2 != 0)) KR KR ?_; intro ax hax; exact HK _ _ _ hax rfl (Below.refl _ _)
                · skip
                  intro a wr hn hd HW hs; have ha := hasNil hn hd
                  have ha := ha.add (seeE hs 8 (.int .i64 t1081.2) KR KR)
                  have ha := ha.add (seeF hs 51 2 (.bool (t1075.2 != 0)) KR KR)
                  have ha := ha.bool 51 KR (ineq_f hp1114)
                  refine yStep ha 52 KR ?_; intro l_ ha HK
                  refine stepp ha 52 (.int .i64 t1081.2) KR KR ?_; intro ax hax; exact HK _ _ _ hax rfl (Below.refl _ _)
                · skip
                  intro a wr hn hd HW hs; have ha := hasNil hn hd
                  have ha := ha.add (seeF hs 52 3 (.int .i64 t1081.2) KR KR)
                  have ha := ha.add (seeF hs 51 2 (.bool (t1075.2 != 0)) KR KR)
                  have ha := ha.bool 51 KR (ineq_f hp1114)
                  refine yStep ha 53 KR ?_; intro l_ ha HK
                  refine stepp ha 53 (.bool (t1081.2 != 0)) KR KR ?_; intro ax hax; exact HK _ _ _ hax rfl (Below.refl _ _)
                · skip
                  intro a wr hn hd HW hs; have ha := hasNil hn hd
                  have ha := ha.add (seeF hs 51 2 (.bool (t1075.2 != 0)) KR KR)
                  have ha := ha.bool 51 KR (ineq_f hp1114)
                  have ha := ha.add (seeF hs 53 4 (.bool (t1081.2 != 0)) KR KR)
                  refine yStep ha 54 KR ?_; intro l_ ha HK
                  refine stepp ha 54 (.bool (t1081.2 != 0)) KR KR ?_; intro ax hax; exact HK _ _ _ hax rfl (Below.refl _ _)
                · skip
                  intro a wr hn hd HW hs; have ha := hasNil hn hd
                  have ha := ha.add (seeF hs 54 5 (.bool (t1081.2 != 0)) KR KR)
                  refine yStep ha 55 KR ?_; intro l_ ha HK
                  refine stepp ha 55 (.bool (t1081.2 != 0)) KR KR ?_; intro ax hax; exact HK _ _ _ hax rfl (Below.refl _ _)
                · skip
                  intro a wr hn hd HW hs; have ha := hasNil hn hd
                  have ha := ha.add (seeE hs 10 (.int .i64 t1087.2) KR KR)
                  have ha := ha.add (seeF hs 55 6 (.bool (t1081.2 != 0)) KR KR)
                  have ha := ha.bool 55 KR (ineq_t hp1115)
                  exact yo ha KR rfl
                · skip
                  intro a wr hn hd HW hs; have ha := hasNil hn hd
                  have ha := ha.add (seeF hs 56 7 (undef) KR KR)
                  have ha := ha.add (seeF hs 55 6 (.bool (t1081.2 != 0)) KR KR)
                  have ha := ha.bool 55 KR (ineq_t hp1115)
                  exact yo ha KR rfl
                · skip
                  intro a wr hn hd HW hs; have ha := hasNil hn hd
                  have ha := ha.add (seeF hs 55 6 (.bool (t1081.2 != 0)) KR KR)
                  have ha := ha.bool 55 KR (ineq_t hp1115)
                  have ha := ha.add (seeF hs 57 8 (undef) KR KR)
                  refine yStep ha 58 KR ?_; intro l_ ha HK
                  refine stepp ha 58 (.bool true) KR KR ?_; intro ax hax; exact HK _ _ _ hax rfl (Below.refl _ _)
                · skip
                  intro a wr hn hd HW hs; have ha := hasNil hn hd
                  have ha := ha.add (seeF hs 58 9 (.bool true) KR KR)
                  refine yStep ha 59 KR ?_; intro l_ ha HK
                  refine stepp ha 59 (.bool true) KR KR ?_; intro ax hax; exact HK _ _ _ hax rfl (Below.refl _ _)
                · skip
                  intro a wr hn hd HW hs; have ha := hasNil hn hd
                  have ha := ha.add (seeE hs 5 (.string t1075.1) KR KR)
                  have ha := ha.add (seeF hs 59 10 (.bool true) KR KR)
                  exact yo ha KR rfl
                · skip
                  intro a wr hn hd HW hs; have ha := hasNil hn hd
                  have ha := ha.add (seeF hs 60 11 (undef) KR KR)
                  have ha := ha.add (seeF hs 59 10 (.bool true) KR KR)
                  exact yo ha KR rfl
                · skip
                  intro a wr hn hd HW hs; have ha := hasNil hn hd
                  have ha := ha.add (seeE hs 5 (.string t1075.1) KR KR)
                  have ha := ha.add (seeF hs 59 10 (.bool true) KR KR)
                  exact yo ha KR rfl
                · skip
                  intro a wr hn hd HW hs; have ha := hasNil hn hd
                  have ha := ha.add (seeF hs 62 13 (undef) KR KR)
                  have ha := ha.add (seeF hs 59 10 (.bool true) KR KR)
                  exact yo ha KR rfl
                · skip
                  intro a wr hn hd HW hs; have ha := hasNil hn hd
                  have ha := ha.add (seeF hs 63 14 (undef) KR KR)
                  have ha := ha.add (seeF hs 59 10 (.bool true) KR KR)
                  exact yo ha KR rfl
                · skip
                  intro a wr hn hd HW hs; have ha := hasNil hn hd
                  have ha := ha.add (seeF hs 64 15 (undef) KR KR)
                  have ha := ha.add (seeF hs 59 10 (.bool true) KR KR)
                  exact yo ha KR rfl
                · skip
                  intro a wr hn hd HW hs; have ha := hasNil hn hd
                  have ha := ha.add (seeF hs 61 12 (undef) KR KR)
                  have ha := ha.add (seeF hs 65 16 (undef) KR KR)
                  have ha := ha.add (seeF hs 59 10 (.bool true) KR KR)
                  exact yo ha KR rfl
                · skip
                  intro a wr hn hd HW hs; have ha := hasNil hn hd
                  have ha := ha.add (seeF hs 59 10 (.bool true) KR KR)
                  have ha := ha.add (seeF hs 66 17 (undef) KR KR)
                  refine yStep ha 67 KR ?_; intro l_ ha HK
                  refine stepp ha 67 (.bool true) KR KR ?_; intro ax hax; exact HK _ _ _ hax rfl (Below.refl _ _)
                · skip
                  intro a wr hn hd HW hs; have ha := hasNil hn hd
                  have ha := ha.add (seeF hs 67 18 (.bool true) KR KR)
                  refine yStep ha 68 KR ?_; intro l_ ha HK
                  refine stepp ha 68 (.bool true) KR KR ?_; intro ax hax; exact HK _ _ _ hax rfl (Below.refl _ _)
                · skip
                  intro a wr hn hd HW hs; have ha := hasNil hn hd
                  have ha := ha.add (seeE hs 7 (.string t1081.1) KR KR)
                  have ha := ha.add (seeF hs 68 19 (.bool true) KR KR)
                  exact yo ha KR rfl
                · skip
                  intro a wr hn hd HW hs; have ha := hasNil hn hd
                  have ha := ha.add (seeF hs 69 20 (undef) KR KR)
                  have ha := ha.add (seeF hs 68 19 (.bool true) KR KR)
                  exact yo ha KR rfl
                · skip
                  intro a wr hn hd HW hs; have ha := hasNil hn hd
                  have ha := ha.add (seeE hs 7 (.string t1081.1) KR KR)
                  have ha := ha.add (seeF hs 68 19 (.bool true) KR KR)
                  exact yo ha KR rfl
                · skip
                  intro a wr hn hd HW hs; have ha := hasNil hn hd
                  have ha := ha.add (seeF hs 71 22 (undef) KR KR)
                  have ha := ha.add (seeF hs 68 19 (.bool true) KR KR)
                  exact yo ha KR rfl
                · skip
                  intro a wr hn hd HW hs; have ha := hasNil hn hd
                  have ha := ha.add (seeF hs 72 23 (undef) KR KR)
                  have ha := ha.add (seeF hs 68 19 (.bool true) KR KR)
                  exact yo ha KR rfl
                · skip
                  intro a wr hn hd HW hs; have ha := hasNil hn hd
                  have ha := ha.add (seeF hs 73 24 (undef) KR KR)
                  have ha := ha.add (seeF hs 68 19 (.bool true) KR KR)
                  exact yo ha KR rfl
                · skip
                  intro a wr hn hd HW hs; have ha := hasNil hn hd
                  have ha := ha.add (seeF hs 70 21 (undef) KR KR)
                  have ha := ha.add (seeF hs 74 25 (undef) KR KR)
                  have ha := ha.add (seeF hs 68 19 (.bool true) KR KR)
                  exact yo ha KR rfl
                · skip
                  intro a wr hn hd HW hs; have ha := hasNil hn hd
                  have ha := ha.add (seeF hs 68 19 (.bool true) KR KR)
                  have ha := ha.add (seeF hs 75 26 (undef) KR KR)
                  refine yStep ha 76 KR ?_; intro l_ ha HK
                  refine stepp ha 76 (.bool true) KR KR ?_; intro ax hax; exact HK _ _ _ hax rfl (Below.refl _ _)
                · skip
                  intro a wr hn hd HW hs; have ha := hasNil hn hd
                  have ha := ha.add (seeF hs 76 27 (.bool true) KR KR)
                  refine yStep ha 77 KR ?_; intro l_ ha HK
                  refine stepp ha 77 (.bool true) KR KR ?_; intro ax hax; exact HK _ _ _ hax rfl (Below.refl _ _)
                · skip
                  intro a wr hn hd HW hs; have ha := hasNil hn hd
                  have ha := ha.add (seeE hs 9 (.string t1087.1) KR KR)
                  have ha := ha.add (seeF hs 77 28 (.bool true) KR KR)
                  exact yo ha KR rfl
                · skip
                  intro a wr hn hd HW hs; have ha := hasNil hn hd
                  have ha := ha.add (seeF hs 78 29 (undef) KR KR)
                  have ha := ha.add (seeF hs 77 28 (.bool true) KR KR)
                  exact yo ha KR rfl
                · skip
                  intro a wr hn hd HW hs; have ha := hasNil hn hd
                  have ha := ha.add (seeE hs 9 (.string t1087.1) KR KR)
                  have ha := ha.add (seeF hs 77 28 (.bool true) KR KR)
                  exact yo ha KR rfl
                · skip
                  intro a wr hn hd HW hs; have ha := hasNil hn hd
                  have ha := ha.add (seeF hs 80 31 (undef) KR KR)
                  have ha := ha.add (seeF hs 77 28 (.bool true) KR KR)
                  exact yo ha KR rfl
                · skip
                  intro a wr hn hd HW hs; have ha := hasNil hn hd
                  have ha := ha.add (seeF hs 81 32 (undef) KR KR)
                  have ha := ha.add (seeF hs 77 28 (.bool true) KR KR)
                  exact yo ha KR rfl
                · skip
                  intro a wr hn hd HW hs; have ha := hasNil hn hd
                  have ha := ha.add (seeF hs 82 33 (undef) KR KR)
                  have ha := ha.add (seeF hs 77 28 (.bool true) KR KR)
                  exact yo ha KR rfl
                · skip
                  intro a wr hn hd HW hs; have ha := hasNil hn hd
                  have ha := ha.add (seeF hs 79 30 (undef) KR KR)
                  have ha := ha.add (seeF hs 83 34 (undef) KR KR)
                  have ha := ha.add (seeF hs 77 28 (.bool true) KR KR)
                  exact yo ha KR rfl
                · skip
                  intro a wr hn hd HW hs; have ha := hasNil hn hd
                  have ha := ha.add (seeF hs 77 28 (.bool true) KR KR)
                  have ha := ha.add (seeF hs 84 35 (undef) KR KR)
                  refine yStep ha 85 KR ?_; intro l_ ha HK
                  refine stepp ha 85 (.bool true) KR KR ?_; intro ax hax; exact HK _ _ _ hax rfl (Below.refl _ _)
                · skip
                  intro a wr hn hd HW hs; have ha := hasNil hn hd
                  have ha := ha.add (seeF hs 85 36 (.bool true) KR KR)
                  refine yStep ha 86 KR ?_; intro l_ ha HK
                  refine stepp ha 86 (.bool true) KR KR ?_; intro ax hax; exact HK _ _ _ hax rfl (Below.refl _ _)
                · skip
                  intro a wr hn hd HW hs; have ha := hasNil hn hd
                  have ha := ha.add (seeE hs 7 (.string t1081.1) KR KR)
                  have ha := ha.add (seeF hs 86 37 (.bool true) KR KR)
                  exact yo ha KR rfl
                · skip
                  intro a wr hn hd HW hs; have ha := hasNil hn hd
                  have ha := ha.add (seeF hs 87 38 (undef) KR KR)
                  have ha := ha.add (seeF hs 86 37 (.bool true) KR KR)
                  exact yo ha KR rfl
                · skip
                  intro a wr hn hd HW hs; have ha := hasNil hn hd
                  have ha := ha.add (seeE hs 2 (.pointer (some ⟨b1060, 0, none⟩)) KR KR)
                  have ha := ha.add (seeF hs 86 37 (.bool true) KR KR)
                  exact yo ha KR rfl
                · skip
                  intro a wr hn hd HW hs; have ha := hasNil hn hd
                  have ha := ha.add (seeF hs 89 40 (undef) KR KR)
                  have ha := ha.add (seeF hs 86 37 (.bool true) KR KR)
                  exact yo ha KR rfl
                · skip
                  intro a wr hn hd HW hs; have ha := hasNil hn hd
                  have ha := ha.add (seeF hs 88 39 (undef) KR KR)
                  have ha := ha.add (seeF hs 90 41 (undef) KR KR)
                  have ha := ha.add (seeF hs 86 37 (.bool true) KR KR)
                  exact yo ha KR rfl
                · skip
                  intro a wr hn hd HW hs; have ha := hasNil hn hd
                  have ha := ha.add (seeF hs 86 37 (.bool true) KR KR)
                  have ha := ha.add (seeF hs 91 42 (undef) KR KR)
                  refine yStep ha 92 KR ?_; intro l_ ha HK
                  refine stepp ha 92 (.bool true) KR KR ?_; intro ax hax; exact HK _ _ _ hax rfl (Below.refl _ _)
                · skip
                  intro a wr hn hd HW hs; have ha := hasNil hn hd
                  have ha := ha.add (seeF hs 92 43 (.bool true) KR KR)
                  refine yStep ha 93 KR ?_; intro l_ ha HK
                  refine stepp ha 93 (.bool true) KR KR ?_; intro ax hax; exact HK _ _ _ hax rfl (Below.refl _ _)
                · skip
                  intro a wr hn hd HW hs; have ha := hasNil hn hd
                  have ha := ha.add (seeE hs 11 (.string t1093) KR KR)
                  have ha := ha.add (seeF hs 93 44 (.bool true) KR KR)
                  exact yo ha KR rfl
                · skip
                  intro a wr hn hd HW hs; have ha := hasNil hn hd
                  have ha := ha.add (seeF hs 94 45 (undef) KR KR)
                  have ha := ha.add (seeF hs 93 44 (.bool true) KR KR)
                  exact yo ha KR rfl
                · skip
                  intro a wr hn hd HW hs; have ha := hasNil hn hd
                  have ha := ha.add (seeE hs 1 (.int .u8 a1) KR KR)
                  have ha := ha.add (seeF hs 93 44 (.bool true) KR KR)
                  exact yo ha KR rfl
                · skip
                  intro a wr hn hd HW hs; have ha := hasNil hn hd
                  have ha := ha.add (seeF hs 96 47 (undef) KR KR)
                  have ha := ha.add (seeF hs 93 44 (.bool true) KR KR)
                  exact yo ha KR rfl
                · skip
                  intro a wr hn hd HW hs; have ha := hasNil hn hd
                  have ha := ha.add (seeF hs 97 48 (undef) KR KR)
                  have ha := ha.add (seeF hs 93 44 (.bool true) KR KR)
                  exact yo ha KR rfl
                · skip
                  intro a wr hn hd HW hs; have ha := hasNil hn hd
                  have ha := ha.add (seeF hs 98 49 (undef) KR KR)
                  have ha := ha.add (seeF hs 93 44 (.bool true) KR KR)
                  exact yo ha KR rfl
                · skip
                  intro a wr hn hd HW hs; have ha := hasNil hn hd
                  have ha := ha.add (seeF hs 95 46 (undef) KR KR)
                  have ha := ha.add (seeF hs 99 50 (undef) KR KR)
                  have ha := ha.add (seeF hs 93 44 (.bool true) KR KR)
                  exact yo ha KR rfl
                · skip
                  intro a wr hn hd HW hs; have ha := hasNil hn hd
                  have ha := ha.add (seeF hs 93 44 (.bool true) KR KR)
                  have ha := ha.add (seeF hs 100 51 (undef) KR KR)
                  refine yStep ha 101 KR ?_; intro l_ ha HK
                  refine stepp ha 101 (.bool true) KR KR ?_; intro ax hax; exact HK _ _ _ hax rfl (Below.refl _ _)
              · skip
                intro a W1131 ha HW he hf
                replace ha := ha.add (he 1 (.int .u8 a1) KR KR)
                replace ha := ha.add (he 11 (.string t1093) KR KR)
                replace ha := ha.add (gotF (m := 53) (j := 52) (d := 101) (v := .bool true) hf KR KR KR)
                clear he hf
                refine endl ?_
                refine thenN (hK1113 _ _ ?_); clear hK1113
                refine condT ha KR KR (t := true) (rfl) ?_
                refine wp_seq_k (fun K1146 hK1147 => ?_)
                refine wp_region_lit ?_
                refine stepp ha 4 (.bool false) KR KR ?_; clear ha a; intro a ha
                refine endl ?_
                refine thenN (hK1147 _ _ ?_); clear hK1147
                refine wp_ret ?_
                refine thenR ?_
                obtain rfl := Option.some.inj h
                exact finv ha _ _ rfl (.tmp (v := .bool false) KR .nil) (.bool false) rfl ⟨rfl, HW.pick [] [] (by decide) (by decide) rfl KR⟩
          · skip
            replace h := ite_neg' h hp1114
            refine regionG 53 KR KR ha HW [.fix (.int .i64 t1075.2), .fix (.bool (t1075.2 != 0)), .fix (.bool (t1075.2 != 0)), .fix undef, .fix undef, .fix (.bool true), .fix (.bool true), .fix undef, .fix undef, .fix (.bool true), .fix (.bool true), .fix undef, .fix undef, .fix undef, .fix undef, .fix undef, .fix undef, .fix undef, .fix (.bool true), .fix (.bool true), .fix undef, .fix undef, .fix undef, .fix undef, .fix undef, .fix undef, .fix undef, .fix (.bool true), .fix (.bool true), .fix undef, .fix undef, .fix undef, .fix undef, .fix undef, .fix undef, .fix undef, .fix (.bool true), .fix (.bool true), .fix undef, .fix undef, .fix undef, .fix undef, .fix undef, .fix (.bool true), .fix (.bool true), .fix undef, .fix undef, .fix undef, .fix undef, .fix undef, .fix undef, .fix undef, .fix (.bool true)] ?_ ?_
            · skip
              refine ⟨?_, ?_, ?_, ?_, ?_, ?_, ?_, ?_, ?_, ?_, ?_, ?_, ?_, ?_, ?_, ?_, ?_, ?_, ?_, ?_, ?_, ?_, ?_, ?_, ?_, ?_, ?_, ?_, ?_, ?_, ?_, ?_, ?_, ?_, ?_, ?_, ?_, ?_, ?_, ?_, ?_, ?_, ?_, ?_, ?_, ?_, ?_, ?_, ?_, ?_, ?_, ?_, ?_, trivial⟩
              · skip
                intro a wr hn hd HW hs; have ha := hasNil hn hd
                have ha := ha.add (seeE hs 6 (.int .i64 t1075.2) KR KR)
                refine yStep ha 49 KR ?_; intro l_ ha HK
                refine stepp ha 49 (.int .i64 t1075.2) KR KR ?_; intro ax hax; exact HK _ _ _ hax rfl (Below.refl _ _)
              · skip
                intro a wr hn hd HW hs; have ha := hasNil hn hd
                have ha := ha.add (seeF hs 49 0 (.int .i64 t1075.2) KR KR)
                refine yStep ha 50 KR ?_; intro l_ ha HK
                refine stepp ha 50 (.bool (t1075.2 != 0)) KR KR ?_; intro ax hax; exact HK _ _ _ hax rfl (Below.refl _ _)
              · skip
                intro a wr hn hd HW hs; have ha := hasNil hn hd
                have ha := ha.add (seeF hs 50 1 (.bool (t1075.2 != 0)) KR KR)
                refine yStep ha 51 KR ?_; intro l_ ha HK
                refine stepp ha 51 (.bool (t1075.2 != 0)) KR KR ?_; intro ax hax; exact HK _ _ _ hax rfl (Below.refl _ _)
              · skip
                intro a wr hn hd HW hs; have ha := hasNil hn hd
                have ha := ha.add (seeE hs 8 (.int .i64 t1081.2) KR KR)
                have ha := ha.add (seeF hs 51 2 (.bool (t1075.2 != 0)) KR KR)
                have ha := ha.bool 51 KR (ineq_t hp1114)
                exact yo ha KR rfl
              · skip
                intro a wr hn hd HW hs; have ha := hasNil hn hd
                have ha := ha.add (seeF hs 52 3 (undef) KR KR)
                have ha := ha.add (seeF hs 51 2 (.bool (t1075.2 != 0)) KR KR)
                have ha := ha.bool 51 KR (ineq_t hp1114)
                exact yo ha KR rfl
              · skip
                intro a wr hn hd HW hs; have ha := hasNil hn hd
                have ha := ha.add (seeF hs 51 2 (.bool (t1075.2 != 0)) KR KR)
                have ha := ha.bool 51 KR (ineq_t hp1114)
                have ha := ha.add (seeF hs 53 4 (undef) KR KR)
                refine yStep ha 54 KR ?_; intro l_ ha HK
                refine stepp ha 54 (.bool true) KR KR ?_; intro ax hax; exact HK _ _ _ hax rfl (Below.refl _ _)
              · skip
                intro a wr hn hd HW hs; have ha := hasNil hn hd
                have ha := ha.add (seeF hs 54 5 (.bool true) KR KR)
                refine yStep ha 55 KR ?_; intro l_ ha HK
                refine stepp ha 55 (.bool true) KR KR ?_; intro ax hax; exact HK _ _ _ hax rfl (Below.refl _ _)
              · skip
                intro a wr hn hd HW hs; have ha := hasNil hn hd
                have ha := ha.add (seeE hs 10 (.int .i64 t1087.2) KR KR)
                have ha := ha.add (seeF hs 55 6 (.bool true) KR KR)
                exact yo ha KR rfl
              · skip
                intro a wr hn hd HW hs; have ha := hasNil hn hd
                have ha := ha.add (seeF hs 56 7 (undef) KR KR)
                have ha := ha.add (seeF hs 55 6 (.bool true) KR KR)
                exact yo ha KR rfl
              · skip
                intro a wr hn hd HW hs; have ha := hasNil hn hd
                have ha := ha.add (seeF hs 55 6 (.bool true) KR KR)
                have ha := ha.add (seeF hs 57 8 (undef) KR KR)
                refine yStep ha 58 KR ?_; intro l_ ha HK
                refine stepp ha 58 (.bool true) KR KR ?_; intro ax hax; exact HK _ _ _ hax rfl (Below.refl _ _)
              · skip
                intro a wr hn hd HW hs; have ha := hasNil hn hd
                have ha := ha.add (seeF hs 58 9 (.bool true) KR KR)
                refine yStep ha 59 KR ?_; intro l_ ha HK
                refine stepp ha 59 (.bool true) KR KR ?_; intro ax hax; exact HK _ _ _ hax rfl (Below.refl _ _)
              · skip
                intro a wr hn hd HW hs; have ha := hasNil hn hd
                have ha := ha.add (seeE hs 5 (.string t1075.1) KR KR)
                have ha := ha.add (seeF hs 59 10 (.bool true) KR KR)
                exact yo ha KR rfl
              · skip
                intro a wr hn hd HW hs; have ha := hasNil hn hd
                have ha := ha.add (seeF hs 60 11 (undef) KR KR)
                have ha := ha.add (seeF hs 59 10 (.bool true) KR KR)
                exact yo ha KR rfl
              · skip
                intro a wr hn hd HW hs; have ha := hasNil hn hd
                have ha := ha.add (seeE hs 5 (.string t1075.1) KR KR)
                have ha := ha.add (seeF hs 59 10 (.bool true) KR KR)
                exact yo ha KR rfl
              · skip
                intro a wr hn hd HW hs; have ha := hasNil hn hd
                have ha := ha.add (seeF hs 62 13 (undef) KR KR)
                have ha := ha.add (seeF hs 59 10 (.bool true) KR KR)
                exact yo ha KR rfl
              · skip
                intro a wr hn hd HW hs; have ha := hasNil hn hd
                have ha := ha.add (seeF hs 63 14 (undef) KR KR)
                have ha := ha.add (seeF hs 59 10 (.bool true) KR KR)
                exact yo ha KR rfl
              · skip
                intro a wr hn hd HW hs; have ha := hasNil hn hd
                have ha := ha.add (seeF hs 64 15 (undef) KR KR)
                have ha := ha.add (seeF hs 59 10 (.bool true) KR KR)
                exact yo ha KR rfl
              · skip
                intro a wr hn hd HW hs; have ha := hasNil hn hd
                have ha := ha.add (seeF hs 61 12 (undef) KR KR)
                have ha := ha.add (seeF hs 65 16 (undef) KR KR)
                have ha := ha.add (seeF hs 59 10 (.bool true) KR KR)
                exact yo ha KR rfl
              · skip
                intro a wr hn hd HW hs; have ha := hasNil hn hd
                have ha := ha.add (seeF hs 59 10 (.bool true) KR KR)
                have ha := ha.add (seeF hs 66 17 (undef) KR KR)
                refine yStep ha 67 KR ?_; intro l_ ha HK
                refine stepp ha 67 (.bool true) KR KR ?_; intro ax hax; exact HK _ _ _ hax rfl (Below.refl _ _)
              · skip
                intro a wr hn hd HW hs; have ha := hasNil hn hd
                have ha := ha.add (seeF hs 67 18 (.bool true) KR KR)
                refine yStep ha 68 KR ?_; intro l_ ha HK
                refine stepp ha 68 (.bool true) KR KR ?_; intro ax hax; exact HK _ _ _ hax rfl (Below.refl _ _)
              · skip
                intro a wr hn hd HW hs; have ha := hasNil hn hd
                have ha := ha.add (seeE hs 7 (.string t1081.1) KR KR)
                have ha := ha.add (seeF hs 68 19 (.bool true) KR KR)
                exact yo ha KR rfl
              · skip
                intro a wr hn hd HW hs; have ha := hasNil hn hd
                have ha := ha.add (seeF hs 69 20 (undef) KR KR)
                have ha := ha.add (seeF hs 68 19 (.bool true) KR KR)
                exact yo ha KR rfl
              · skip
                intro a wr hn hd HW hs; have ha := hasNil hn hd
                have ha := ha.add (seeE hs 7 (.string t1081.1) KR KR)
                have ha := ha.add (seeF hs 68 19 (.bool true) KR KR)
                exact yo ha KR rfl
              · skip
                intro a wr hn hd HW hs; have ha := hasNil hn hd
                have ha := ha.add (seeF hs 71 22 (undef) KR KR)
                have ha := ha.add (seeF hs 68 19 (.bool true) KR KR)
                exact yo ha KR rfl
              · skip
                intro a wr hn hd HW hs; have ha := hasNil hn hd
                have ha := ha.add (seeF hs 72 23 (undef) KR KR)
                have ha := ha.add (seeF hs 68 19 (.bool true) KR KR)
                exact yo ha KR rfl
              · skip
                intro a wr hn hd HW hs; have ha := hasNil hn hd
                have ha := ha.add (seeF hs 73 24 (undef) KR KR)
                have ha := ha.add (seeF hs 68 19 (.bool true) KR KR)
                exact yo ha KR rfl
              · skip
                intro a wr hn hd HW hs; have ha := hasNil hn hd
                have ha := ha.add (seeF hs 70 21 (undef) KR KR)
                have ha := ha.add (seeF hs 74 25 (undef) KR KR)
                have ha := ha.add (seeF hs 68 19 (.bool true) KR KR)
                exact yo ha KR rfl
              · skip
                intro a wr hn hd HW hs; have ha := hasNil hn hd
                have ha := ha.add (seeF hs 68 19 (.bool true) KR KR)
                have ha := ha.add (seeF hs 75 26 (undef) KR KR)
                refine yStep ha 76 KR ?_; intro l_ ha HK
                refine stepp ha 76 (.bool true) KR KR ?_; intro ax hax; exact HK _ _ _ hax rfl (Below.refl _ _)
              · skip
                intro a wr hn hd HW hs; have ha := hasNil hn hd
                have ha := ha.add (seeF hs 76 27 (.bool true) KR KR)
                refine yStep ha 77 KR ?_; intro l_ ha HK
                refine stepp ha 77 (.bool true) KR KR ?_; intro ax hax; exact HK _ _ _ hax rfl (Below.refl _ _)
              · skip
                intro a wr hn hd HW hs; have ha := hasNil hn hd
                have ha := ha.add (seeE hs 9 (.string t1087.1) KR KR)
                have ha := ha.add (seeF hs 77 28 (.bool true) KR KR)
                exact yo ha KR rfl
              · skip
                intro a wr hn hd HW hs; have ha := hasNil hn hd
                have ha := ha.add (seeF hs 78 29 (undef) KR KR)
                have ha := ha.add (seeF hs 77 28 (.bool true) KR KR)
                exact yo ha KR rfl
              · skip
                intro a wr hn hd HW hs; have ha := hasNil hn hd
                have ha := ha.add (seeE hs 9 (.string t1087.1) KR KR)
                have ha := ha.add (seeF hs 77 28 (.bool true) KR KR)
                exact yo ha KR rfl
              · skip
                intro a wr hn hd HW hs; have ha := hasNil hn hd
                have ha := ha.add (seeF hs 80 31 (undef) KR KR)
                have ha := ha.add (seeF hs 77 28 (.bool true) KR KR)
                exact yo ha KR rfl
              · skip
                intro a wr hn hd HW hs; have ha := hasNil hn hd
                have ha := ha.add (seeF hs 81 32 (undef) KR KR)
                have ha := ha.add (seeF hs 77 28 (.bool true) KR KR)
                exact yo ha KR rfl
              · skip
                intro a wr hn hd HW hs; have ha := hasNil hn hd
                have ha := ha.add (seeF hs 82 33 (undef) KR KR)
                have ha := ha.add (seeF hs 77 28 (.bool true) KR KR)
                exact yo ha KR rfl
              · skip
                intro a wr hn hd HW hs; have ha := hasNil hn hd
                have ha := ha.add (seeF hs 79 30 (undef) KR KR)
                have ha := ha.add (seeF hs 83 34 (undef) KR KR)
                have ha := ha.add (seeF hs 77 28 (.bool true) KR KR)
                exact yo ha KR rfl
              · skip
                intro a wr hn hd HW hs; have ha := hasNil hn hd
                have ha := ha.add (seeF hs 77 28 (.bool true) KR KR)
                have ha := ha.add (seeF hs 84 35 (undef) KR KR)
                refine yStep ha 85 KR ?_; intro l_ ha HK
                refine stepp ha 85 (.bool true) KR KR ?_; intro ax hax; exact HK _ _ _ hax rfl (Below.refl _ _)
              · skip
                intro a wr hn hd HW hs; have ha := hasNil hn hd
                have ha := ha.add (seeF hs 85 36 (.bool true) KR KR)
                refine yStep ha 86 KR ?_; intro l_ ha HK
                refine stepp ha 86 (.bool true) KR KR ?_; intro ax hax; exact HK _ _ _ hax rfl (Below.refl _ _)
              · skip
                intro a wr hn hd HW hs; have ha := hasNil hn hd
                have ha := ha.add (seeE hs 7 (.string t1081.1) KR KR)
                have ha := ha.add (seeF hs 86 37 (.bool true) KR KR)
                exact yo ha KR rfl
              · skip
                intro a wr hn hd HW hs; have ha := hasNil hn hd
                have ha := ha.add (seeF hs 87 38 (undef) KR KR)
                have ha := ha.add (seeF hs 86 37 (.bool true) KR KR)
                exact yo ha KR rfl
              · skip
                intro a wr hn hd HW hs; have ha := hasNil hn hd
                have ha := ha.add (seeE hs 2 (.pointer (some ⟨b1060, 0, none⟩)) KR KR)
                have ha := ha.add (seeF hs 86 37 (.bool true) KR KR)
                exact yo ha KR rfl
              · skip
                intro a wr hn hd HW hs; have ha := hasNil hn hd
                have ha := ha.add (seeF hs 89 40 (undef) KR KR)
                have ha := ha.add (seeF hs 86 37 (.bool true) KR KR)
                exact yo ha KR rfl
              · skip
                intro a wr hn hd HW hs; have ha := hasNil hn hd
                have ha := ha.add (seeF hs 88 39 (undef) KR KR)
                have ha := ha.add (seeF hs 90 41 (undef) KR KR)
                have ha := ha.add (seeF hs 86 37 (.bool true) KR KR)
                exact yo ha KR rfl
              · skip
                intro a wr hn hd HW hs; have ha := hasNil hn hd
                have ha := ha.add (seeF hs 86 37 (.bool true) KR KR)
                have ha := ha.add (seeF hs 91 42 (undef) KR KR)
                refine yStep ha 92 KR ?_; intro l_ ha HK
                refine stepp ha 92 (.bool true) KR KR ?_; intro ax hax; exact HK _ _ _ hax rfl (Below.refl _ _)
              · skip
                intro a wr hn hd HW hs; have ha := hasNil hn hd
                have ha := ha.add (seeF hs 92 43 (.bool true) KR KR)
                refine yStep ha 93 KR ?_; intro l_ ha HK
                refine stepp ha 93 (.bool true) KR KR ?_; intro ax hax; exact HK _ _ _ hax rfl (Below.refl _ _)
              · skip
                intro a wr hn hd HW hs; have ha := hasNil hn hd
                have ha := ha.add (seeE hs 11 (.string t1093) KR KR)
                have ha := ha.add (seeF hs 93 44 (.bool true) KR KR)
                exact yo ha KR rfl
              · skip
                intro a wr hn hd HW hs; have ha := hasNil hn hd
                have ha := ha.add (seeF hs 94 45 (undef) KR KR)
                have ha := ha.add (seeF hs 93 44 (.bool true) KR KR)
                exact yo ha KR rfl
              · skip
                intro a wr hn hd HW hs; have ha := hasNil hn hd
                have ha := ha.add (seeE hs 1 (.int .u8 a1) KR KR)
                have ha := ha.add (seeF hs 93 44 (.bool true) KR KR)
                exact yo ha KR rfl
              · skip
                intro a wr hn hd HW hs; have ha := hasNil hn hd
                have ha := ha.add (seeF hs 96 47 (undef) KR KR)
                have ha := ha.add (seeF hs 93 44 (.bool true) KR KR)
                exact yo ha KR rfl
              · skip
                intro a wr hn hd HW hs; have ha := hasNil hn hd
                have ha := ha.add (seeF hs 97 48 (undef) KR KR)
                have ha := ha.add (seeF hs 93 44 (.bool true) KR KR)
                exact yo ha KR rfl
              · skip
                intro a wr hn hd HW hs; have ha := hasNil hn hd
                have ha := ha.add (seeF hs 98 49 (undef) KR KR)
                have ha := ha.add (seeF hs 93 44 (.bool true) KR KR)
                exact yo ha KR rfl
              · skip
                intro a wr hn hd HW hs; have ha := hasNil hn hd
                have ha := ha.add (seeF hs 95 46 (undef) KR KR)
                have ha := ha.add (seeF hs 99 50 (undef) KR KR)
                have ha := ha.add (seeF hs 93 44 (.bool true) KR KR)
                exact yo ha KR rfl
              · skip
                intro a wr hn hd HW hs; have ha := hasNil hn hd
                have ha := ha.add (seeF hs 93 44 (.bool true) KR KR)
                have ha := ha.add (seeF hs 100 51 (undef) KR KR)
                refine yStep ha 101 KR ?_; intro l_ ha HK
                refine stepp ha 101 (.bool true) KR KR ?_; intro ax hax; exact HK _ _ _ hax rfl (Below.refl _ _)
            · skip
              intro a W1132 ha HW he hf
              replace ha := ha.add (he 1 (.int .u8 a1) KR KR)
              replace ha := ha.add (he 11 (.string t1093) KR KR)
              replace ha := ha.add (gotF (m := 53) (j := 52) (d := 101) (v := .bool true) hf KR KR KR)
              clear he hf
              refine endl ?_
              refine thenN (hK1113 _ _ ?_); clear hK1113
              refine condT ha KR KR (t := true) (rfl) ?_
              refine wp_seq_k (fun K1148 hK1149 => ?_)
              refine wp_region_lit ?_
              refine stepp ha 4 (.bool false) KR KR ?_; clear ha a; intro a ha
              refine endl ?_
              refine thenN (hK1149 _ _ ?_); clear hK1149
              refine wp_ret ?_
              refine thenR ?_
              obtain rfl := Option.some.inj h
              exact finv ha _ _ rfl (.tmp (v := .bool false) KR .nil) (.bool false) rfl ⟨rfl, HW.pick [] [] (by decide) (by decide) rfl KR⟩
  · skip
    replace h := ite_neg' h hp1066
    refine condT ha KR KR (t := ((a0.f1.size : Int) != 16)) (ineq_t hp1066) ?_
    refine wp_seq_k (fun K1067 hK1068 => ?_)
    refine wp_region_lit ?_
    obtain ⟨t1069, ht1070, h_⟩ := bind_some' h; clear h; have h := h_; clear h_
    refine stepc ha 17 KR KR (headgatelaw17_wakes.calls K t1069 _ ht1070) ?_; clear ha a; rintro e W1071 ⟨rfl, HX1072⟩
    refine ⟨_, rfl, ?_⟩; intro a ha; replace HW := HW.callw HX1072; clear HX1072
    refine stepp ha 4 (.bool t1069) KR KR ?_; clear ha a; intro a ha
    refine endl ?_
    refine thenN (hK1068 _ _ ?_); clear hK1068
    refine wp_ret ?_
    refine thenR ?_
    obtain rfl := Option.some.inj h
    exact finv ha _ _ rfl (.tmp (v := .bool t1069) KR .nil) (.bool t1069) rfl ⟨rfl, HW.pick [] [] (by decide) (by decide) rfl KR⟩
end Go.Proofs.Ytccmdlbdpapigaa.F
