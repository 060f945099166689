/- headgate/headgateref01.PutBig, headgate/headgateref01.Pad, headgate/headgateref05.Put, headgate/headgatelaw05.FramePuts: plain functions, and that the calls come to what they say. No condition. -/
import Derived.Test.YtdcojinnjpihaaaDoorFT
import Derived.Test.YtdcojinnjpihaaaDoorF9
import Derived.Test.YtdcojinnjpihaaaDoorF36
import Derived.Test.YtdcojinnjpihaaaDoorF45
namespace Go.Proofs.YtdcojinnjpihaaaDoor.F
open Go Go.RowKit Go.Proofs.YtdcojinnjpihaaaDoor.X
set_option linter.unusedVariables false
set_option linter.unusedSimpArgs false
/-! ### headgate/headgateref01.PutBig: function 24 -/
def headgateref01_PutBig.b0 (K : Nat) (again1167 : Int → (List Int) → Int → Option ByteArray) (x1168 : Int) (x1169 : List Int) (x1173 : Int) : Option ByteArray :=
  if x1173 ≥ 0 then (asrt (0 ≤ x1173) (asrt (x1173 < (x1169.length : Int)) (again1167 (IntKind.wrap .u64 (Int.tdiv x1168 256)) (x1169.set (x1173 : Int).toNat (IntKind.wrap .u8 (Int.tmod x1168 256))) (IntKind.wrap .i64 (x1173 - 1))))) else (some (strOfNums x1169))
def headgateref01_PutBig.l0 (K : Nat)  : Nat → Int → (List Int) → Int → Option ByteArray
  | 0, _, _, _ => none
  | k_ + 1, x1168, x1169, x1173 => headgateref01_PutBig.b0 K  (headgateref01_PutBig.l0 K  k_) x1168 x1169 x1173
def headgateref01_PutBig.f (K : Nat) (a0 : Int) (a1 : Int) : Option ByteArray :=
  if a1 < 1 then (some (⟨#[]⟩ : ByteArray)) else (if a1 > 8 then (some (⟨#[]⟩ : ByteArray)) else (asrt (0 ≤ a1) (asrt (a1 ≤ 281474976710656) (headgateref01_PutBig.l0 K  K a0 (List.replicate (a1 : Int).toNat (0 : Int)) (IntKind.wrap .i64 (a1 - 1))))))
set_option maxRecDepth 100000 in
set_option maxHeartbeats 4000000 in
theorem headgateref01_PutBig.calls (K : Nat) (a0 : Int) (a1 : Int)  (r : ByteArray) (w : World)  (h : headgateref01_PutBig.f K a0 a1 = some r) :
    Calls Tryd.prog 24 #[.int .u64 a0, .int .i64 a1] w (fun e W' => e = .returned (.string r) ∧ Wd w W' [] [] ) := by
  refine sxstart (n := 31) (l := [(0, .int .u64 a0), (1, .int .i64 a1)]) Tryd.func24 rfl rfl (Nat.le_of_ble_eq_true KR) (subsA_cons rfl (subsA_cons rfl (subsA_nil _))) ?_
  intro a ha
  have HW := Wd.refl w
  unfold headgateref01_PutBig.f at h
  refine wp_seq_k (fun K1108 hK1109 => ?_)
  refine wp_region_lit ?_
  refine stepp ha 4 (.string (⟨#[]⟩ : ByteArray)) KR KR ?_; clear ha a; intro a ha
  refine endl ?_
  refine thenN (hK1109 _ _ ?_); clear hK1109
  refine wp_seq_k (fun K1110 hK1111 => ?_)
  refine wp_seq_k (fun K1112 hK1113 => ?_)
  refine wp_region_lit ?_
  refine stepp ha 7 (.int .i64 a1) KR KR ?_; clear ha a; intro a ha
  refine stepp ha 8 (.bool (decide (a1 < 1))) KR KR ?_; clear ha a; intro a ha
  refine stepp ha 9 (.bool (decide (a1 < 1))) KR KR ?_; clear ha a; intro a ha
  by_cases hp1114 : a1 < 1
  · skip
    replace h := ite_pos' h hp1114
    replace ha := ha.bool 9 KR (decide_eq_true hp1114)
    refine stepo ha 10 KR ?_; clear ha a; intro a ha
    refine stepo ha 11 KR ?_; clear ha a; intro a ha
    refine stepp ha 12 (.bool true) KR KR ?_; clear ha a; intro a ha
    refine endl ?_
    refine thenN (hK1113 _ _ ?_); clear hK1113
    refine condT ha KR KR (t := true) (rfl) ?_
    refine wp_seq_k (fun K1115 hK1116 => ?_)
    refine wp_region_lit ?_
    refine stepp ha 4 (.string (⟨#[]⟩ : ByteArray)) KR KR ?_; clear ha a; intro a ha
    refine endl ?_
    refine thenN (hK1116 _ _ ?_); clear hK1116
    refine wp_ret ?_
    refine thenR ?_
    obtain rfl := Option.some.inj h
    exact finv ha _ _ rfl (.tmp (v := .string (⟨#[]⟩ : ByteArray)) KR .nil) (.string (⟨#[]⟩ : ByteArray)) rfl ⟨rfl, HW.pick [] [] (by decide) (by decide) rfl KR⟩
  · skip
    replace h := ite_neg' h hp1114
    replace ha := ha.bool 9 KR (decide_eq_false hp1114)
    refine stepp ha 10 (.int .i64 a1) KR KR ?_; clear ha a; intro a ha
    refine stepp ha 11 (.bool (decide (a1 > 8))) KR KR ?_; clear ha a; intro a ha
    refine stepp ha 12 (.bool (decide (a1 > 8))) KR KR ?_; clear ha a; intro a ha
    refine endl ?_
    refine thenN (hK1113 _ _ ?_); clear hK1113
    by_cases hp1117 : a1 > 8
    · skip
      replace h := ite_pos' h hp1117
      refine condT ha KR KR (t := decide (a1 > 8)) (decide_eq_true hp1117) ?_
      refine wp_seq_k (fun K1118 hK1119 => ?_)
      refine wp_region_lit ?_
      refine stepp ha 4 (.string (⟨#[]⟩ : ByteArray)) KR KR ?_; clear ha a; intro a ha
      refine endl ?_
      refine thenN (hK1119 _ _ ?_); clear hK1119
      refine wp_ret ?_
      refine thenR ?_
      obtain rfl := Option.some.inj h
      exact finv ha _ _ rfl (.tmp (v := .string (⟨#[]⟩ : ByteArray)) KR .nil) (.string (⟨#[]⟩ : ByteArray)) rfl ⟨rfl, HW.pick [] [] (by decide) (by decide) rfl KR⟩
    · skip
      replace h := ite_neg' h hp1117
      refine condF ha KR KR (t := decide (a1 > 8)) (decide_eq_false hp1117) ?_
      refine wp_skip ?_
      refine thenN (hK1111 _ _ ?_); clear hK1111
      refine wp_seq_k (fun K1120 hK1121 => ?_)
      refine wp_region_lit ?_
      refine stepp ha 13 (.int .i64 a1) KR KR ?_; clear ha a; intro a ha
      obtain ⟨hA1122, h_⟩ := asrt_some h; clear h; have h := h_; clear h_
      obtain ⟨hA1123, h_⟩ := asrt_some h; clear h; have h := h_; clear h_
      refine stepmk (encIK .u8) (0 : Int) ha HW 14 40 5 (.tmp 13) (.tmp 13) .i64 .i64 a1 (.int .u8 0) 1 rfl KR KR KR KR rfl rfl hA1122 (by have := hA1123; omega) (by have := hA1123; omega) KR ?_; clear ha HW a; intro b1124 a W1125 HW ha
      refine stepp ha 5 (.slice (some ⟨b1124, 0, none⟩) (List.replicate (a1 : Int).toNat (0 : Int)).length ((a1 : Int).toNat)) KR KR ?_; clear ha a; intro a ha
      refine endl ?_
      refine thenN (hK1121 _ _ ?_); clear hK1121
      refine wp_seq_k (fun K1127 hK1128 => ?_)
      refine wp_seq_k (fun K1129 hK1130 => ?_)
      refine wp_region_lit ?_
      refine stepp ha 15 (.int .i64 a1) KR KR ?_; clear ha a; intro a ha
      refine stepp ha 16 (.int .i64 (IntKind.wrap .i64 (a1 - 1))) KR KR ?_; clear ha a; intro a ha
      refine stepp ha 6 (.int .i64 (IntKind.wrap .i64 (a1 - 1))) KR KR ?_; clear ha a; intro a ha
      refine endl ?_
      refine thenN (hK1130 _ _ ?_); clear hK1130
      refine wp_block ?_
      refine loopk (fun k => fun a W1174 => ∃ (x1168 : Int), ∃ (x1169 : List Int), ∃ A1170, ∃ c1171, ∃ (x1173 : Int), headgateref01_PutBig.l0 K  k x1168 x1169 x1173 = some r ∧ Has 31 [(0, .int .u64 x1168), (5, .slice A1170 x1169.length c1171), (6, .int .i64 x1173)] a ∧ Wd w W1174 [] [⟨5, 1, .slice A1170 x1169.length c1171, x1169.length, encs (encIK .u8) x1169⟩]) K ?_ ?_
      · skip
        exact ⟨a0, List.replicate (a1 : Int).toNat (0 : Int), some ⟨b1124, 0, none⟩, (a1 : Int).toNat, IntKind.wrap .i64 (a1 - 1), h, ha.sub (subs_cons KR (subs_cons KR (subs_cons KR (subs_nil _)))), HW.pick [] [0] (by decide) (by decide) KR KR⟩
      · skip
        intro k a W1174 hI
        obtain ⟨x1168, x1169, A1170, c1171, x1173, h, ha, HW⟩ := hI
        cases k with
        | zero => exact (none_some (show none = some r from h)).elim
        | succ k1175 =>
          replace h : headgateref01_PutBig.b0 K  (headgateref01_PutBig.l0 K  k1175) x1168 x1169 x1173 = some r := h
          obtain ⟨again1167, hag1176⟩ : ∃ g_, g_ = headgateref01_PutBig.l0 K  k1175 := ⟨_, rfl⟩
          rw [← hag1176] at h
          unfold headgateref01_PutBig.b0 at h
          refine wp_seq_k (fun K1177 hK1178 => ?_)
          refine wp_seq_k (fun K1179 hK1180 => ?_)
          refine wp_region_lit ?_
          refine stepp ha 17 (.int .i64 x1173) KR KR ?_; clear ha a; intro a ha
          refine stepp ha 18 (.bool (decide (x1173 ≥ 0))) KR KR ?_; clear ha a; intro a ha
          refine endl ?_
          refine thenN (hK1180 _ _ ?_); clear hK1180
          by_cases hp1181 : x1173 ≥ 0
          · skip
            replace h := ite_pos' h hp1181
            refine condT ha KR KR (t := decide (x1173 ≥ 0)) (decide_eq_true hp1181) ?_
            refine wp_skip ?_
            refine thenN (hK1178 _ _ ?_); clear hK1178
            refine wp_seq_k (fun K1182 hK1183 => ?_)
            refine wp_block ?_
            refine wp_seq_k (fun K1184 hK1185 => ?_)
            refine wp_region_lit ?_
            refine stepp ha 21 (.slice A1170 x1169.length c1171) KR KR ?_; clear ha a; intro a ha
            refine stepp ha 22 (.int .i64 x1173) KR KR ?_; clear ha a; intro a ha
            refine stepp ha 23 (.int .u64 x1168) KR KR ?_; clear ha a; intro a ha
            refine stepp ha 24 (.int .u64 (Int.tmod x1168 256)) KR KR ?_; clear ha a; intro a ha
            refine stepp ha 25 (.int .u8 (IntKind.wrap .u8 (Int.tmod x1168 256))) KR KR ?_; clear ha a; intro a ha
            obtain ⟨hA1186, h_⟩ := asrt_some h; clear h; have h := h_; clear h_
            obtain ⟨hA1187, h_⟩ := asrt_some h; clear h; have h := h_; clear h_
            refine stepio (encIK .u8) ha HW 26 0 (sz := 1) (e := 5) (v := .slice A1170 x1169.length c1171) (xs := x1169) KR 40 (.tmp 21) (.tmp 22) .i64 x1173 rfl KR KR KR KR hA1186 (show (x1173 : Int) < ((x1169).length : Int) from hA1187) KR ?_; clear ha a; intro b1188 a hb1189 ha
            refine stepos (encIK .u8) (0 : Int) ha HW 0 (sz := 1) (e := 5) (fun _ => rfl) (v := .slice A1170 x1169.length c1171) (xs := x1169) KR hb1189 x1173 hA1186 (show (x1173 : Int) < ((x1169).length : Int) from hA1187) 5 0 (.tmp 26) (.tmp 25) (.int .u8 (IntKind.wrap .u8 (Int.tmod x1168 256))) (IntKind.wrap .u8 (Int.tmod x1168 256)) rfl KR KR KR KR KR KR KR (.slice A1170 (x1169.set (x1173 : Int).toNat (IntKind.wrap .u8 (Int.tmod x1168 256))).length c1171) (by rw [List.length_set]) ?_; clear ha HW a; intro a W1190 HW ha
            replace ha := ha.turn 5 (v := .slice A1170 (x1169.set (x1173 : Int).toNat (IntKind.wrap .u8 (Int.tmod x1168 256))).length c1171) KR (by rw [List.length_set])
            replace ha := ha.turn 21 (v := .slice A1170 (x1169.set (x1173 : Int).toNat (IntKind.wrap .u8 (Int.tmod x1168 256))).length c1171) KR (by rw [List.length_set])
            replace HW : Wd w W1190 [] [⟨5, 1, .slice A1170 (x1169.set (x1173 : Int).toNat (IntKind.wrap .u8 (Int.tmod x1168 256))).length c1171, (x1169.set (x1173 : Int).toNat (IntKind.wrap .u8 (Int.tmod x1168 256))).length, encs (encIK .u8) (x1169.set (x1173 : Int).toNat (IntKind.wrap .u8 (Int.tmod x1168 256)))⟩] := HW
            refine endl ?_
            refine thenN (hK1185 _ _ ?_); clear hK1185
            refine wp_region_lit ?_
            refine stepp ha 27 (.int .u64 x1168) KR KR ?_; clear ha a; intro a ha
            refine stepp ha 28 (.int .u64 (IntKind.wrap .u64 (Int.tdiv x1168 256))) KR KR ?_; clear ha a; intro a ha
            refine stepp ha 0 (.int .u64 (IntKind.wrap .u64 (Int.tdiv x1168 256))) KR KR ?_; clear ha a; intro a ha
            refine endl ?_
            refine blkN ?_
            refine thenN (hK1183 _ _ ?_); clear hK1183
            refine wp_region_lit ?_
            refine stepp ha 19 (.int .i64 x1173) KR KR ?_; clear ha a; intro a ha
            refine stepp ha 20 (.int .i64 (IntKind.wrap .i64 (x1173 - 1))) KR KR ?_; clear ha a; intro a ha
            refine stepp ha 6 (.int .i64 (IntKind.wrap .i64 (x1173 - 1))) KR KR ?_; clear ha a; intro a ha
            refine endl ?_
            exact thenN ⟨k1175, Nat.lt_succ_self k1175, IntKind.wrap .u64 (Int.tdiv x1168 256), x1169.set (x1173 : Int).toNat (IntKind.wrap .u8 (Int.tmod x1168 256)), A1170, c1171, IntKind.wrap .i64 (x1173 - 1), (by rw [← hag1176]; exact h), ha.sub (subs_cons KR (subs_cons KR (subs_cons KR (subs_nil _)))), HW.pick [] [0] (by decide) (by decide) KR KR⟩
          · skip
            replace h := ite_neg' h hp1181
            refine condF ha KR KR (t := decide (x1173 ≥ 0)) (decide_eq_false hp1181) ?_
            refine wp_exit ?_
            refine thenE ?_
            refine thenE ?_
            refine inBlk ?_
            refine thenN (hK1128 _ _ ?_); clear hK1128
            refine wp_seq_k (fun K1191 hK1192 => ?_)
            refine wp_region_lit ?_
            refine stepp ha 29 (.slice A1170 x1169.length c1171) KR KR ?_; clear ha a; intro a ha
            refine stepbt ha 30 40 9 5 (.tmp 29) (v := .slice A1170 x1169.length c1171) (xs := x1169) (HW.rdo (i := 0) (q := ⟨5, 1, .slice A1170 x1169.length c1171, x1169.length, encs (encIK .u8) x1169⟩) KR) rfl KR KR KR KR KR ?_; clear ha a; intro a ha
            refine stepp ha 4 (.string (strOfNums x1169)) KR KR ?_; clear ha a; intro a ha
            refine endl ?_
            refine thenN (hK1192 _ _ ?_); clear hK1192
            refine wp_ret ?_
            obtain rfl := Option.some.inj h
            exact finv ha _ _ rfl (.tmp (v := .string (strOfNums x1169)) KR .nil) (.string (strOfNums x1169)) rfl ⟨rfl, HW.pick [] [] (by decide) (by decide) rfl KR⟩
/-! ### headgate/headgateref01.Pad: function 25 -/
def headgateref01_Pad.f (a0 : ByteArray) (a1 : Int) : Option ByteArray :=
  if a1 < 1 then (some a0) else (if a1 > 4096 then (some a0) else (asrt (¬ a1 = 0) (if (Int.tmod (a0.size : Int) a1) = 0 then (some a0) else (asrt (0 ≤ (IntKind.wrap .i64 (a1 - (Int.tmod (a0.size : Int) a1)))) (asrt ((IntKind.wrap .i64 (a1 - (Int.tmod (a0.size : Int) a1))) ≤ 281474976710656) (asrt (a0.size + (strOfNums (List.replicate (IntKind.wrap .i64 (a1 - (Int.tmod (a0.size : Int) a1)) : Int).toNat (0 : Int))).size ≤ 9223372036854775807) (some (a0 ++ (strOfNums (List.replicate (IntKind.wrap .i64 (a1 - (Int.tmod (a0.size : Int) a1)) : Int).toNat (0 : Int)))))))))))
set_option maxRecDepth 100000 in
set_option maxHeartbeats 4000000 in
theorem headgateref01_Pad.calls (a0 : ByteArray) (a1 : Int)  (r : ByteArray) (w : World)  (h : headgateref01_Pad.f a0 a1 = some r) :
    Calls Tryd.prog 25 #[.string a0, .int .i64 a1] w (fun e W' => e = .returned (.string r) ∧ Wd w W' [] [] ) := by
  refine sxstart (n := 29) (l := [(0, .string a0), (1, .int .i64 a1)]) Tryd.func25 rfl rfl (Nat.le_of_ble_eq_true KR) (subsA_cons rfl (subsA_cons rfl (subsA_nil _))) ?_
  intro a ha
  have HW := Wd.refl w
  unfold headgateref01_Pad.f at h
  refine wp_seq_k (fun K1193 hK1194 => ?_)
  refine wp_region_lit ?_
  refine stepp ha 4 (.string (⟨#[]⟩ : ByteArray)) KR KR ?_; clear ha a; intro a ha
  refine endl ?_
  refine thenN (hK1194 _ _ ?_); clear hK1194
  refine wp_seq_k (fun K1195 hK1196 => ?_)
  refine wp_seq_k (fun K1197 hK1198 => ?_)
  refine wp_region_lit ?_
  refine stepp ha 5 (.int .i64 a1) KR KR ?_; clear ha a; intro a ha
  refine stepp ha 6 (.bool (decide (a1 < 1))) KR KR ?_; clear ha a; intro a ha
  refine stepp ha 7 (.bool (decide (a1 < 1))) KR KR ?_; clear ha a; intro a ha
  by_cases hp1199 : a1 < 1
  · skip
    replace h := ite_pos' h hp1199
    replace ha := ha.bool 7 KR (decide_eq_true hp1199)
    refine stepo ha 8 KR ?_; clear ha a; intro a ha
    refine stepo ha 9 KR ?_; clear ha a; intro a ha
    refine stepp ha 10 (.bool true) KR KR ?_; clear ha a; intro a ha
    refine stepp ha 11 (.bool true) KR KR ?_; clear ha a; intro a ha
    refine stepo ha 12 KR ?_; clear ha a; intro a ha
    refine stepo ha 13 KR ?_; clear ha a; intro a ha
    refine stepo ha 14 KR ?_; clear ha a; intro a ha
    refine stepo ha 15 KR ?_; clear ha a; intro a ha
    refine stepo ha 16 KR ?_; clear ha a; intro a ha
    refine stepp ha 17 (.bool true) KR KR ?_; clear ha a; intro a ha
    refine endl ?_
    refine thenN (hK1198 _ _ ?_); clear hK1198
    refine condT ha KR KR (t := true) (rfl) ?_
    refine wp_seq_k (fun K1202 hK1203 => ?_)
    refine wp_region_lit ?_
    refine stepp ha 18 (.string a0) KR KR ?_; clear ha a; intro a ha
    refine stepp ha 4 (.string a0) KR KR ?_; clear ha a; intro a ha
    refine endl ?_
    refine thenN (hK1203 _ _ ?_); clear hK1203
    refine wp_ret ?_
    refine thenR ?_
    obtain rfl := Option.some.inj h
    exact finv ha _ _ rfl (.tmp (v := .string a0) KR .nil) (.string a0) rfl ⟨rfl, HW.pick [] [] (by decide) (by decide) rfl KR⟩
  · skip
    replace h := ite_neg' h hp1199
    replace ha := ha.bool 7 KR (decide_eq_false hp1199)
    refine stepp ha 8 (.int .i64 a1) KR KR ?_; clear ha a; intro a ha
    refine stepp ha 9 (.bool (decide (a1 > 4096))) KR KR ?_; clear ha a; intro a ha
    refine stepp ha 10 (.bool (decide (a1 > 4096))) KR KR ?_; clear ha a; intro a ha
    refine stepp ha 11 (.bool (decide (a1 > 4096))) KR KR ?_; clear ha a; intro a ha
    by_cases hp1200 : a1 > 4096
    · skip
      replace h := ite_pos' h hp1200
      replace ha := ha.bool 11 KR (decide_eq_true hp1200)
      refine stepo ha 12 KR ?_; clear ha a; intro a ha
      refine stepo ha 13 KR ?_; clear ha a; intro a ha
      refine stepo ha 14 KR ?_; clear ha a; intro a ha
      refine stepo ha 15 KR ?_; clear ha a; intro a ha
      refine stepo ha 16 KR ?_; clear ha a; intro a ha
      refine stepp ha 17 (.bool true) KR KR ?_; clear ha a; intro a ha
      refine endl ?_
      refine thenN (hK1198 _ _ ?_); clear hK1198
      refine condT ha KR KR (t := true) (rfl) ?_
      refine wp_seq_k (fun K1204 hK1205 => ?_)
      refine wp_region_lit ?_
      refine stepp ha 18 (.string a0) KR KR ?_; clear ha a; intro a ha
      refine stepp ha 4 (.string a0) KR KR ?_; clear ha a; intro a ha
      refine endl ?_
      refine thenN (hK1205 _ _ ?_); clear hK1205
      refine wp_ret ?_
      refine thenR ?_
      obtain rfl := Option.some.inj h
      exact finv ha _ _ rfl (.tmp (v := .string a0) KR .nil) (.string a0) rfl ⟨rfl, HW.pick [] [] (by decide) (by decide) rfl KR⟩
    · skip
      replace h := ite_neg' h hp1200
      replace ha := ha.bool 11 KR (decide_eq_false hp1200)
      refine stepp ha 12 (.string a0) KR KR ?_; clear ha a; intro a ha
      refine stepp ha 13 (.int .i64 (a0.size : Int)) KR KR ?_; clear ha a; intro a ha
      refine stepp ha 14 (.int .i64 a1) KR KR ?_; clear ha a; intro a ha
      obtain ⟨hA1201, h_⟩ := asrt_some h; clear h; have h := h_; clear h_
      refine steprem ha 15 3 3 (.tmp 13) (.tmp 14) .i64 (a0.size : Int) a1 rfl KR KR hA1201 KR ?_; clear ha a; intro a ha
      refine stepp ha 16 (.bool ((Int.tmod (a0.size : Int) a1) == 0)) KR KR ?_; clear ha a; intro a ha
      refine stepp ha 17 (.bool ((Int.tmod (a0.size : Int) a1) == 0)) KR KR ?_; clear ha a; intro a ha
      refine endl ?_
      refine thenN (hK1198 _ _ ?_); clear hK1198
      by_cases hp1206 : (Int.tmod (a0.size : Int) a1) = 0
      · skip
        replace h := ite_pos' h hp1206
        refine condT ha KR KR (t := ((Int.tmod (a0.size : Int) a1) == 0)) (ieq_t hp1206) ?_
        refine wp_seq_k (fun K1207 hK1208 => ?_)
        refine wp_region_lit ?_
        refine stepp ha 18 (.string a0) KR KR ?_; clear ha a; intro a ha
        refine stepp ha 4 (.string a0) KR KR ?_; clear ha a; intro a ha
        refine endl ?_
        refine thenN (hK1208 _ _ ?_); clear hK1208
        refine wp_ret ?_
        refine thenR ?_
        obtain rfl := Option.some.inj h
        exact finv ha _ _ rfl (.tmp (v := .string a0) KR .nil) (.string a0) rfl ⟨rfl, HW.pick [] [] (by decide) (by decide) rfl KR⟩
      · skip
        replace h := ite_neg' h hp1206
        refine condF ha KR KR (t := ((Int.tmod (a0.size : Int) a1) == 0)) (ieq_f hp1206) ?_
        refine wp_skip ?_
        refine thenN (hK1196 _ _ ?_); clear hK1196
        refine wp_seq_k (fun K1209 hK1210 => ?_)
        refine wp_region_lit ?_
        refine stepp ha 19 (.string a0) KR KR ?_; clear ha a; intro a ha
        refine stepp ha 20 (.int .i64 a1) KR KR ?_; clear ha a; intro a ha
        refine stepp ha 21 (.string a0) KR KR ?_; clear ha a; intro a ha
        refine stepp ha 22 (.int .i64 (a0.size : Int)) KR KR ?_; clear ha a; intro a ha
        refine stepp ha 23 (.int .i64 a1) KR KR ?_; clear ha a; intro a ha
        refine steprem ha 24 3 3 (.tmp 22) (.tmp 23) .i64 (a0.size : Int) a1 rfl KR KR hA1201 KR ?_; clear ha a; intro a ha
        refine stepp ha 25 (.int .i64 (IntKind.wrap .i64 (a1 - (Int.tmod (a0.size : Int) a1)))) KR KR ?_; clear ha a; intro a ha
        obtain ⟨hA1211, h_⟩ := asrt_some h; clear h; have h := h_; clear h_
        obtain ⟨hA1212, h_⟩ := asrt_some h; clear h; have h := h_; clear h_
        refine stepmk (encIK .u8) (0 : Int) ha HW 26 40 5 (.tmp 25) (.tmp 25) .i64 .i64 (IntKind.wrap .i64 (a1 - (Int.tmod (a0.size : Int) a1))) (.int .u8 0) 1 rfl KR KR KR KR rfl rfl hA1211 (by have := hA1212; omega) (by have := hA1212; omega) KR ?_; clear ha HW a; intro b1213 a W1214 HW ha
        refine stepbt ha 27 40 9 5 (.tmp 26) (v := .slice (some ⟨b1213, 0, none⟩) (List.replicate (IntKind.wrap .i64 (a1 - (Int.tmod (a0.size : Int) a1)) : Int).toNat (0 : Int)).length ((IntKind.wrap .i64 (a1 - (Int.tmod (a0.size : Int) a1)) : Int).toNat)) (xs := List.replicate (IntKind.wrap .i64 (a1 - (Int.tmod (a0.size : Int) a1)) : Int).toNat (0 : Int)) (HW.rdo (i := 0) (q := ⟨5, 1, .slice (some ⟨b1213, 0, none⟩) (List.replicate (IntKind.wrap .i64 (a1 - (Int.tmod (a0.size : Int) a1)) : Int).toNat (0 : Int)).length ((IntKind.wrap .i64 (a1 - (Int.tmod (a0.size : Int) a1)) : Int).toNat), (List.replicate (IntKind.wrap .i64 (a1 - (Int.tmod (a0.size : Int) a1)) : Int).toNat (0 : Int)).length, encs (encIK .u8) (List.replicate (IntKind.wrap .i64 (a1 - (Int.tmod (a0.size : Int) a1)) : Int).toNat (0 : Int))⟩) KR) rfl KR KR KR KR KR ?_; clear ha a; intro a ha
        obtain ⟨hA1216, h_⟩ := asrt_some h; clear h; have h := h_; clear h_
        refine stepsa ha 28 9 9 (.tmp 19) (.tmp 27) a0 (strOfNums (List.replicate (IntKind.wrap .i64 (a1 - (Int.tmod (a0.size : Int) a1)) : Int).toNat (0 : Int))) rfl KR KR (show (a0).size + (strOfNums (List.replicate (IntKind.wrap .i64 (a1 - (Int.tmod (a0.size : Int) a1)) : Int).toNat (0 : Int))).size ≤ 9223372036854775807 from hA1216) KR ?_; clear ha a; intro a ha
        refine stepp ha 4 (.string (a0 ++ (strOfNums (List.replicate (IntKind.wrap .i64 (a1 - (Int.tmod (a0.size : Int) a1)) : Int).toNat (0 : Int))))) KR KR ?_; clear ha a; intro a ha
        refine endl ?_
        refine thenN (hK1210 _ _ ?_); clear hK1210
        refine wp_ret ?_
        obtain rfl := Option.some.inj h
        exact finv ha _ _ rfl (.tmp (v := .string (a0 ++ (strOfNums (List.replicate (IntKind.wrap .i64 (a1 - (Int.tmod (a0.size : Int) a1)) : Int).toNat (0 : Int))))) KR .nil) (.string (a0 ++ (strOfNums (List.replicate (IntKind.wrap .i64 (a1 - (Int.tmod (a0.size : Int) a1)) : Int).toNat (0 : Int))))) rfl ⟨rfl, HW.pick [] [] (by decide) (by decide) rfl KR⟩
/-! ### headgate/headgateref05.Put: function 11 -/
def headgateref05_Put.f (K : Nat) (a0 : Int) (a1 : ByteArray) : Option (ByteArray × Int) :=
  if (a1.size : Int) > 65536 then (some ((⟨#[]⟩ : ByteArray), 2)) else ((headgateref01_PutBig.f K a0 8).bind fun t1437 => (asrt (4 + t1437.size ≤ 9223372036854775807) ((headgateref01_PutBig.f K (IntKind.wrap .u64 (a1.size : Int)) 4).bind fun t1442 => (asrt (((⟨#[72, 71, 70, 82]⟩ : ByteArray) ++ t1437).size + t1442.size ≤ 9223372036854775807) ((headgateref02_Digest.f K (((⟨#[72, 71, 70, 82]⟩ : ByteArray) ++ t1437) ++ t1442)).bind fun t1449 => (asrt ((((⟨#[72, 71, 70, 82]⟩ : ByteArray) ++ t1437) ++ t1442).size + t1449.size ≤ 9223372036854775807) (asrt (((((⟨#[72, 71, 70, 82]⟩ : ByteArray) ++ t1437) ++ t1442) ++ t1449).size + a1.size ≤ 9223372036854775807) ((headgateref02_Digest.f K a1).bind fun t1455 => (asrt ((((((⟨#[72, 71, 70, 82]⟩ : ByteArray) ++ t1437) ++ t1442) ++ t1449) ++ a1).size + t1455.size ≤ 9223372036854775807) ((headgateref01_Pad.f ((((((⟨#[72, 71, 70, 82]⟩ : ByteArray) ++ t1437) ++ t1442) ++ t1449) ++ a1) ++ t1455) 512).bind fun t1460 => (some (t1460, 0))))))))))))
set_option maxRecDepth 100000 in
set_option maxHeartbeats 4000000 in
theorem headgateref05_Put.calls (K : Nat) (a0 : Int) (a1 : ByteArray)  (r : ByteArray × Int) (w : World)  (h : headgateref05_Put.f K a0 a1 = some r) :
    Calls Tryd.prog 11 #[.int .u64 a0, .string a1] w (fun e W' => e = .returned (.tuple #[.string r.1, .int .i64 r.2]) ∧ Wd w W' [] [] ) := by
  refine sxstart (n := 28) (l := [(0, .int .u64 a0), (1, .string a1)]) Tryd.func11 rfl rfl (Nat.le_of_ble_eq_true KR) (subsA_cons rfl (subsA_cons rfl (subsA_nil _))) ?_
  intro a ha
  have HW := Wd.refl w
  unfold headgateref05_Put.f at h
  refine wp_seq_k (fun K1426 hK1427 => ?_)
  refine wp_region_lit ?_
  refine stepp ha 4 (.string (⟨#[]⟩ : ByteArray)) KR KR ?_; clear ha a; intro a ha
  refine stepp ha 5 (.int .i64 0) KR KR ?_; clear ha a; intro a ha
  refine endl ?_
  refine thenN (hK1427 _ _ ?_); clear hK1427
  refine wp_seq_k (fun K1428 hK1429 => ?_)
  refine wp_seq_k (fun K1430 hK1431 => ?_)
  refine wp_region_lit ?_
  refine stepp ha 7 (.string a1) KR KR ?_; clear ha a; intro a ha
  refine stepp ha 8 (.int .i64 (a1.size : Int)) KR KR ?_; clear ha a; intro a ha
  refine stepp ha 9 (.bool (decide ((a1.size : Int) > 65536))) KR KR ?_; clear ha a; intro a ha
  refine endl ?_
  refine thenN (hK1431 _ _ ?_); clear hK1431
  by_cases hp1432 : (a1.size : Int) > 65536
  · skip
    replace h := ite_pos' h hp1432
    refine condT ha KR KR (t := decide ((a1.size : Int) > 65536)) (decide_eq_true hp1432) ?_
    refine wp_seq_k (fun K1433 hK1434 => ?_)
    refine wp_region_lit ?_
    refine stepp ha 4 (.string (⟨#[]⟩ : ByteArray)) KR KR ?_; clear ha a; intro a ha
    refine stepp ha 5 (.int .i64 2) KR KR ?_; clear ha a; intro a ha
    refine endl ?_
    refine thenN (hK1434 _ _ ?_); clear hK1434
    refine wp_ret ?_
    refine thenR ?_
    obtain rfl := Option.some.inj h
    exact finv ha _ _ rfl (.tmp (v := .string (⟨#[]⟩ : ByteArray)) KR (.tmp (v := .int .i64 2) KR .nil)) (.tuple #[.string (⟨#[]⟩ : ByteArray), .int .i64 2]) rfl ⟨rfl, HW.pick [] [] (by decide) (by decide) rfl KR⟩
  · skip
    replace h := ite_neg' h hp1432
    refine condF ha KR KR (t := decide ((a1.size : Int) > 65536)) (decide_eq_false hp1432) ?_
    refine wp_skip ?_
    refine thenN (hK1429 _ _ ?_); clear hK1429
    refine wp_seq_k (fun K1435 hK1436 => ?_)
    refine wp_region_lit ?_
    refine stepp ha 10 (.int .u64 a0) KR KR ?_; clear ha a; intro a ha
    obtain ⟨t1437, ht1438, h_⟩ := bind_some' h; clear h; have h := h_; clear h_
    refine stepc ha 11 KR KR (headgateref01_PutBig.calls K a0 8 t1437 _ ht1438) ?_; clear ha a; rintro e W1439 ⟨rfl, HX1440⟩
    refine ⟨_, rfl, ?_⟩; intro a ha; replace HW := HW.callw HX1440; clear HX1440
    obtain ⟨hA1441, h_⟩ := asrt_some h; clear h; have h := h_; clear h_
    refine stepsa ha 12 9 9 (.const (.string (⟨#[72, 71, 70, 82]⟩ : ByteArray))) (.tmp 11) (⟨#[72, 71, 70, 82]⟩ : ByteArray) t1437 rfl KR KR (show ((⟨#[72, 71, 70, 82]⟩ : ByteArray)).size + (t1437).size ≤ 9223372036854775807 from hA1441) KR ?_; clear ha a; intro a ha
    refine stepp ha 13 (.string a1) KR KR ?_; clear ha a; intro a ha
    refine stepp ha 14 (.int .i64 (a1.size : Int)) KR KR ?_; clear ha a; intro a ha
    refine stepp ha 15 (.int .u64 (IntKind.wrap .u64 (a1.size : Int))) KR KR ?_; clear ha a; intro a ha
    obtain ⟨t1442, ht1443, h_⟩ := bind_some' h; clear h; have h := h_; clear h_
    refine stepc ha 16 KR KR (headgateref01_PutBig.calls K (IntKind.wrap .u64 (a1.size : Int)) 4 t1442 _ ht1443) ?_; clear ha a; rintro e W1444 ⟨rfl, HX1445⟩
    refine ⟨_, rfl, ?_⟩; intro a ha; replace HW := HW.callw HX1445; clear HX1445
    obtain ⟨hA1446, h_⟩ := asrt_some h; clear h; have h := h_; clear h_
    refine stepsa ha 17 9 9 (.tmp 12) (.tmp 16) ((⟨#[72, 71, 70, 82]⟩ : ByteArray) ++ t1437) t1442 rfl KR KR (show ((⟨#[72, 71, 70, 82]⟩ : ByteArray) ++ t1437).size + (t1442).size ≤ 9223372036854775807 from hA1446) KR ?_; clear ha a; intro a ha
    refine stepp ha 6 (.string (((⟨#[72, 71, 70, 82]⟩ : ByteArray) ++ t1437) ++ t1442)) KR KR ?_; clear ha a; intro a ha
    refine endl ?_
    refine thenN (hK1436 _ _ ?_); clear hK1436
    refine wp_seq_k (fun K1447 hK1448 => ?_)
    refine wp_region_lit ?_
    refine stepp ha 18 (.string (((⟨#[72, 71, 70, 82]⟩ : ByteArray) ++ t1437) ++ t1442)) KR KR ?_; clear ha a; intro a ha
    refine stepp ha 19 (.string (((⟨#[72, 71, 70, 82]⟩ : ByteArray) ++ t1437) ++ t1442)) KR KR ?_; clear ha a; intro a ha
    obtain ⟨t1449, ht1450, h_⟩ := bind_some' h; clear h; have h := h_; clear h_
    refine stepc ha 20 KR KR (headgateref02_Digest.calls K (((⟨#[72, 71, 70, 82]⟩ : ByteArray) ++ t1437) ++ t1442) t1449 _ ht1450) ?_; clear ha a; rintro e W1451 ⟨rfl, HX1452⟩
    refine ⟨_, rfl, ?_⟩; intro a ha; replace HW := HW.callw HX1452; clear HX1452
    obtain ⟨hA1453, h_⟩ := asrt_some h; clear h; have h := h_; clear h_
    refine stepsa ha 21 9 9 (.tmp 18) (.tmp 20) (((⟨#[72, 71, 70, 82]⟩ : ByteArray) ++ t1437) ++ t1442) t1449 rfl KR KR (show (((⟨#[72, 71, 70, 82]⟩ : ByteArray) ++ t1437) ++ t1442).size + (t1449).size ≤ 9223372036854775807 from hA1453) KR ?_; clear ha a; intro a ha
    refine stepp ha 22 (.string a1) KR KR ?_; clear ha a; intro a ha
    obtain ⟨hA1454, h_⟩ := asrt_some h; clear h; have h := h_; clear h_
    refine stepsa ha 23 9 9 (.tmp 21) (.tmp 22) ((((⟨#[72, 71, 70, 82]⟩ : ByteArray) ++ t1437) ++ t1442) ++ t1449) a1 rfl KR KR (show ((((⟨#[72, 71, 70, 82]⟩ : ByteArray) ++ t1437) ++ t1442) ++ t1449).size + (a1).size ≤ 9223372036854775807 from hA1454) KR ?_; clear ha a; intro a ha
    refine stepp ha 24 (.string a1) KR KR ?_; clear ha a; intro a ha
    obtain ⟨t1455, ht1456, h_⟩ := bind_some' h; clear h; have h := h_; clear h_
    refine stepc ha 25 KR KR (headgateref02_Digest.calls K a1 t1455 _ ht1456) ?_; clear ha a; rintro e W1457 ⟨rfl, HX1458⟩
    refine ⟨_, rfl, ?_⟩; intro a ha; replace HW := HW.callw HX1458; clear HX1458
    obtain ⟨hA1459, h_⟩ := asrt_some h; clear h; have h := h_; clear h_
    refine stepsa ha 26 9 9 (.tmp 23) (.tmp 25) (((((⟨#[72, 71, 70, 82]⟩ : ByteArray) ++ t1437) ++ t1442) ++ t1449) ++ a1) t1455 rfl KR KR (show (((((⟨#[72, 71, 70, 82]⟩ : ByteArray) ++ t1437) ++ t1442) ++ t1449) ++ a1).size + (t1455).size ≤ 9223372036854775807 from hA1459) KR ?_; clear ha a; intro a ha
    obtain ⟨t1460, ht1461, h_⟩ := bind_some' h; clear h; have h := h_; clear h_
    refine stepc ha 27 KR KR (headgateref01_Pad.calls ((((((⟨#[72, 71, 70, 82]⟩ : ByteArray) ++ t1437) ++ t1442) ++ t1449) ++ a1) ++ t1455) 512 t1460 _ ht1461) ?_; clear ha a; rintro e W1462 ⟨rfl, HX1463⟩
    refine ⟨_, rfl, ?_⟩; intro a ha; replace HW := HW.callw HX1463; clear HX1463
    refine stepp ha 4 (.string t1460) KR KR ?_; clear ha a; intro a ha
    refine stepp ha 5 (.int .i64 0) KR KR ?_; clear ha a; intro a ha
    refine endl ?_
    refine thenN (hK1448 _ _ ?_); clear hK1448
    refine wp_ret ?_
    obtain rfl := Option.some.inj h
    exact finv ha _ _ rfl (.tmp (v := .string t1460) KR (.tmp (v := .int .i64 0) KR .nil)) (.tuple #[.string t1460, .int .i64 0]) rfl ⟨rfl, HW.pick [] [] (by decide) (by decide) rfl KR⟩
/-! ### headgate/headgatelaw05.FramePuts: function 3 -/
def headgatelaw05_FramePuts.f (K : Nat) (a0 : Int) (a1 : ByteArray) (a2 : Int) : Option Bool :=
  if (a1.size : Int) > 70000 then ((headgatelaw05_wakes.f K).bind fun t1487 => (some t1487)) else ((frame_Put.f K a0 a1).bind fun t1493 => ((headgateref05_Put.f K a0 a1).bind fun t1499 => (if t1493.1 = t1499.1 then (if t1493.2 = t1499.2 then ((frame_Sectors.f a2).bind fun t1507 => ((headgateref05_Sectors.f a2).bind fun t1511 => (if t1507 = t1511 then ((headgatelaw05_wakes.f K).bind fun t1516 => (some t1516)) else (some false)))) else (some false)) else (some false))))
set_option maxRecDepth 100000 in
set_option maxHeartbeats 4000000 in
theorem headgatelaw05_FramePuts.calls (K : Nat) (a0 : Int) (a1 : ByteArray) (a2 : Int)  (r : Bool) (w : World) (hG0 : CA w 0 0 (encs (encIK .u32) G_crc_steps).toArray) (h : headgatelaw05_FramePuts.f K a0 a1 a2 = some r) :
    Calls Tryd.prog 3 #[.int .u64 a0, .string a1, .int .i64 a2] w (fun e W' => e = .returned (.bool r) ∧ Wd w W' [] [] ) := by
  refine sxstart (n := 45) (l := [(0, .int .u64 a0), (1, .string a1), (2, .int .i64 a2)]) Tryd.func3 rfl rfl (Nat.le_of_ble_eq_true KR) (subsA_cons rfl (subsA_cons rfl (subsA_cons rfl (subsA_nil _)))) ?_
  intro a ha
  have HW := Wd.refl w
  unfold headgatelaw05_FramePuts.f at h
  refine wp_seq_k (fun K1478 hK1479 => ?_)
  refine wp_region_lit ?_
  refine stepp ha 6 (.bool false) KR KR ?_; clear ha a; intro a ha
  refine endl ?_
  refine thenN (hK1479 _ _ ?_); clear hK1479
  refine wp_seq_k (fun K1480 hK1481 => ?_)
  refine wp_seq_k (fun K1482 hK1483 => ?_)
  refine wp_region_lit ?_
  refine stepp ha 11 (.string a1) KR KR ?_; clear ha a; intro a ha
  refine stepp ha 12 (.int .i64 (a1.size : Int)) KR KR ?_; clear ha a; intro a ha
  refine stepp ha 13 (.bool (decide ((a1.size : Int) > 70000))) KR KR ?_; clear ha a; intro a ha
  refine endl ?_
  refine thenN (hK1483 _ _ ?_); clear hK1483
  by_cases hp1484 : (a1.size : Int) > 70000
  · skip
    replace h := ite_pos' h hp1484
    refine condT ha KR KR (t := decide ((a1.size : Int) > 70000)) (decide_eq_true hp1484) ?_
    refine wp_seq_k (fun K1485 hK1486 => ?_)
    refine wp_region_lit ?_
    obtain ⟨t1487, ht1488, h_⟩ := bind_some' h; clear h; have h := h_; clear h_
    refine stepc ha 14 KR KR (headgatelaw05_wakes.calls K t1487 _ (HW.ca0 hG0) ht1488) ?_; clear ha a; rintro e W1489 ⟨rfl, HX1490⟩
    refine ⟨_, rfl, ?_⟩; intro a ha; replace HW := HW.callw HX1490; clear HX1490
    refine stepp ha 6 (.bool t1487) KR KR ?_; clear ha a; intro a ha
    refine endl ?_
    refine thenN (hK1486 _ _ ?_); clear hK1486
    refine wp_ret ?_
    refine thenR ?_
    obtain rfl := Option.some.inj h
    exact finv ha _ _ rfl (.tmp (v := .bool t1487) KR .nil) (.bool t1487) rfl ⟨rfl, HW.pick [] [] (by decide) (by decide) rfl KR⟩
  · skip
    replace h := ite_neg' h hp1484
    refine condF ha KR KR (t := decide ((a1.size : Int) > 70000)) (decide_eq_false hp1484) ?_
    refine wp_skip ?_
    refine thenN (hK1481 _ _ ?_); clear hK1481
    refine wp_seq_k (fun K1491 hK1492 => ?_)
    refine wp_region_lit ?_
    refine stepp ha 16 (.int .u64 a0) KR KR ?_; clear ha a; intro a ha
    refine stepp ha 17 (.string a1) KR KR ?_; clear ha a; intro a ha
    obtain ⟨t1493, ht1494, h_⟩ := bind_some' h; clear h; have h := h_; clear h_
    refine stepc ha 18 KR KR (frame_Put.calls K a0 a1 t1493 _ (HW.ca0 hG0) ht1494) ?_; clear ha a; rintro e W1495 ⟨rfl, HX1496⟩
    refine ⟨_, rfl, ?_⟩; intro a ha; replace HW := HW.callw HX1496; clear HX1496
    refine stepp ha 15 (.tuple #[.string t1493.1, .int .i64 t1493.2]) KR KR ?_; clear ha a; intro a ha
    refine stepp ha 19 (.string t1493.1) KR KR ?_; clear ha a; intro a ha
    refine stepp ha 20 (.int .i64 t1493.2) KR KR ?_; clear ha a; intro a ha
    refine stepp ha 7 (.string t1493.1) KR KR ?_; clear ha a; intro a ha
    refine stepp ha 8 (.int .i64 t1493.2) KR KR ?_; clear ha a; intro a ha
    refine endl ?_
    refine thenN (hK1492 _ _ ?_); clear hK1492
    refine wp_seq_k (fun K1497 hK1498 => ?_)
    refine wp_region_lit ?_
    refine stepp ha 22 (.int .u64 a0) KR KR ?_; clear ha a; intro a ha
    refine stepp ha 23 (.string a1) KR KR ?_; clear ha a; intro a ha
    obtain ⟨t1499, ht1500, h_⟩ := bind_some' h; clear h; have h := h_; clear h_
    refine stepc ha 24 KR KR (headgateref05_Put.calls K a0 a1 t1499 _ ht1500) ?_; clear ha a; rintro e W1501 ⟨rfl, HX1502⟩
    refine ⟨_, rfl, ?_⟩; intro a ha; replace HW := HW.callw HX1502; clear HX1502
    refine stepp ha 21 (.tuple #[.string t1499.1, .int .i64 t1499.2]) KR KR ?_; clear ha a; intro a ha
    refine stepp ha 25 (.string t1499.1) KR KR ?_; clear ha a; intro a ha
    refine stepp ha 26 (.int .i64 t1499.2) KR KR ?_; clear ha a; intro a ha
    refine stepp ha 9 (.string t1499.1) KR KR ?_; clear ha a; intro a ha
    refine stepp ha 10 (.int .i64 t1499.2) KR KR ?_; clear ha a; intro a ha
    refine endl ?_
    refine thenN (hK1498 _ _ ?_); clear hK1498
    refine wp_seq_k (fun K1503 hK1504 => ?_)
    refine wp_region_lit ?_
    refine stepp ha 27 (.string t1493.1) KR KR ?_; clear ha a; intro a ha
    refine stepp ha 28 (.string t1499.1) KR KR ?_; clear ha a; intro a ha
    refine stepp ha 29 (.bool (t1493.1.toList == t1499.1.toList)) KR KR ?_; clear ha a; intro a ha
    refine stepp ha 30 (.bool (t1493.1.toList == t1499.1.toList)) KR KR ?_; clear ha a; intro a ha
    by_cases hp1505 : t1493.1 = t1499.1
    · skip
      replace h := ite_pos' h hp1505
      replace ha := ha.bool 30 KR (str_eq_t hp1505)
      refine stepp ha 31 (.int .i64 t1493.2) KR KR ?_; clear ha a; intro a ha
      refine stepp ha 32 (.int .i64 t1499.2) KR KR ?_; clear ha a; intro a ha
      refine stepp ha 33 (.bool (t1493.2 == t1499.2)) KR KR ?_; clear ha a; intro a ha
      refine stepp ha 34 (.bool (t1493.2 == t1499.2)) KR KR ?_; clear ha a; intro a ha
      refine stepp ha 35 (.bool (t1493.2 == t1499.2)) KR KR ?_; clear ha a; intro a ha
      by_cases hp1506 : t1493.2 = t1499.2
      · skip
        replace h := ite_pos' h hp1506
        replace ha := ha.bool 35 KR (ieq_t hp1506)
        refine stepp ha 36 (.int .i64 a2) KR KR ?_; clear ha a; intro a ha
        obtain ⟨t1507, ht1508, h_⟩ := bind_some' h; clear h; have h := h_; clear h_
        refine stepc ha 37 KR KR (frame_Sectors.calls a2 t1507 _ ht1508) ?_; clear ha a; rintro e W1509 ⟨rfl, HX1510⟩
        refine ⟨_, rfl, ?_⟩; intro a ha; replace HW := HW.callw HX1510; clear HX1510
        refine stepp ha 38 (.int .i64 a2) KR KR ?_; clear ha a; intro a ha
        obtain ⟨t1511, ht1512, h_⟩ := bind_some' h; clear h; have h := h_; clear h_
        refine stepc ha 39 KR KR (headgateref05_Sectors.calls a2 t1511 _ ht1512) ?_; clear ha a; rintro e W1513 ⟨rfl, HX1514⟩
        refine ⟨_, rfl, ?_⟩; intro a ha; replace HW := HW.callw HX1514; clear HX1514
        refine stepp ha 40 (.bool (t1507 == t1511)) KR KR ?_; clear ha a; intro a ha
        refine stepp ha 41 (.bool (t1507 == t1511)) KR KR ?_; clear ha a; intro a ha
        refine stepp ha 42 (.bool (t1507 == t1511)) KR KR ?_; clear ha a; intro a ha
        by_cases hp1515 : t1507 = t1511
        · skip
          replace h := ite_pos' h hp1515
          replace ha := ha.bool 42 KR (ieq_t hp1515)
          obtain ⟨t1516, ht1517, h_⟩ := bind_some' h; clear h; have h := h_; clear h_
          refine stepc ha 43 KR KR (headgatelaw05_wakes.calls K t1516 _ (HW.ca0 hG0) ht1517) ?_; clear ha a; rintro e W1518 ⟨rfl, HX1519⟩
          refine ⟨_, rfl, ?_⟩; intro a ha; replace HW := HW.callw HX1519; clear HX1519
          refine stepp ha 44 (.bool t1516) KR KR ?_; clear ha a; intro a ha
          refine stepp ha 6 (.bool t1516) KR KR ?_; clear ha a; intro a ha
          refine endl ?_
          refine thenN (hK1504 _ _ ?_); clear hK1504
          refine wp_ret ?_
          obtain rfl := Option.some.inj h
          exact finv ha _ _ rfl (.tmp (v := .bool t1516) KR .nil) (.bool t1516) rfl ⟨rfl, HW.pick [] [] (by decide) (by decide) rfl KR⟩
        · skip
          replace h := ite_neg' h hp1515
          replace ha := ha.bool 42 KR (ieq_f hp1515)
          refine stepo ha 43 KR ?_; clear ha a; intro a ha
          refine stepp ha 44 (.bool false) KR KR ?_; clear ha a; intro a ha
          refine stepp ha 6 (.bool false) KR KR ?_; clear ha a; intro a ha
          refine endl ?_
          refine thenN (hK1504 _ _ ?_); clear hK1504
          refine wp_ret ?_
          obtain rfl := Option.some.inj h
          exact finv ha _ _ rfl (.tmp (v := .bool false) KR .nil) (.bool false) rfl ⟨rfl, HW.pick [] [] (by decide) (by decide) rfl KR⟩
      · skip
        replace h := ite_neg' h hp1506
        replace ha := ha.bool 35 KR (ieq_f hp1506)
        refine stepo ha 36 KR ?_; clear ha a; intro a ha
        refine stepo ha 37 KR ?_; clear ha a; intro a ha
        refine stepo ha 38 KR ?_; clear ha a; intro a ha
        refine stepo ha 39 KR ?_; clear ha a; intro a ha
        refine stepo ha 40 KR ?_; clear ha a; intro a ha
        refine stepp ha 41 (.bool false) KR KR ?_; clear ha a; intro a ha
        refine stepp ha 42 (.bool false) KR KR ?_; clear ha a; intro a ha
        refine stepo ha 43 KR ?_; clear ha a; intro a ha
        refine stepp ha 44 (.bool false) KR KR ?_; clear ha a; intro a ha
        refine stepp ha 6 (.bool false) KR KR ?_; clear ha a; intro a ha
        refine endl ?_
        refine thenN (hK1504 _ _ ?_); clear hK1504
        refine wp_ret ?_
        obtain rfl := Option.some.inj h
        exact finv ha _ _ rfl (.tmp (v := .bool false) KR .nil) (.bool false) rfl ⟨rfl, HW.pick [] [] (by decide) (by decide) rfl KR⟩
    · skip
      replace h := ite_neg' h hp1505
      replace ha := ha.bool 30 KR (str_eq_f hp1505)
      refine stepo ha 31 KR ?_; clear ha a; intro a ha
      refine stepo ha 32 KR ?_; clear ha a; intro a ha
      refine stepo ha 33 KR ?_; clear ha a; intro a ha
      refine stepp ha 34 (.bool false) KR KR ?_; clear ha a; intro a ha
      refine stepp ha 35 (.bool false) KR KR ?_; clear ha a; intro a ha
      refine stepo ha 36 KR ?_; clear ha a; intro a ha
      refine stepo ha 37 KR ?_; clear ha a; intro a ha
      refine stepo ha 38 KR ?_; clear ha a; intro a ha
      refine stepo ha 39 KR ?_; clear ha a; intro a ha
      refine stepo ha 40 KR ?_; clear ha a; intro a ha
      refine stepp ha 41 (.bool false) KR KR ?_; clear ha a; intro a ha
      refine stepp ha 42 (.bool false) KR KR ?_; clear ha a; intro a ha
      refine stepo ha 43 KR ?_; clear ha a; intro a ha
      refine stepp ha 44 (.bool false) KR KR ?_; clear ha a; intro a ha
      refine stepp ha 6 (.bool false) KR KR ?_; clear ha a; intro a ha
      refine endl ?_
      refine thenN (hK1504 _ _ ?_); clear hK1504
      refine wp_ret ?_
      obtain rfl := Option.some.inj h
      exact finv ha _ _ rfl (.tmp (v := .bool false) KR .nil) (.bool false) rfl ⟨rfl, HW.pick [] [] (by decide) (by decide) rfl KR⟩
end Go.Proofs.YtdcojinnjpihaaaDoor.F
