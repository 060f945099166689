/- headgate/headgateref01.PutBig, headgate/headgateref01.there, headgate/headgateref01.Big: plain functions, and that the calls come to what they say. No condition. -/
import Derived.Test.YtdcojinnjpihaaaDoorFT
namespace Go.Proofs.YtdcojinnjpihaaaDoor.F
open Go Go.RowKit Go.Proofs.YtdcojinnjpihaaaDoor.X
set_option linter.unusedVariables false
set_option linter.unusedSimpArgs false
/-! ### headgate/headgateref01.PutBig: function 24 -/
def headgateref01_PutBig.b0 (K : Nat) (again1302 : Int → (List Int) → Int → Option ByteArray) (x1303 : Int) (x1304 : List Int) (x1308 : Int) : Option ByteArray :=
  if x1308 ≥ 0 then (asrt (0 ≤ x1308) (asrt (x1308 < (x1304.length : Int)) (again1302 (IntKind.wrap .u64 (Int.tdiv x1303 256)) (x1304.set (x1308 : Int).toNat (IntKind.wrap .u8 (Int.tmod x1303 256))) (IntKind.wrap .i64 (x1308 - 1))))) else (some (strOfNums x1304))
def headgateref01_PutBig.l0 (K : Nat)  : Nat → Int → (List Int) → Int → Option ByteArray
  | 0, _, _, _ => none
  | k_ + 1, x1303, x1304, x1308 => headgateref01_PutBig.b0 K  (headgateref01_PutBig.l0 K  k_) x1303 x1304 x1308
def headgateref01_PutBig.f (K : Nat) (a0 : Int) (a1 : Int) : Option ByteArray :=
  if a1 < 1 then (some (⟨#[]⟩ : ByteArray)) else (if a1 > 8 then (some (⟨#[]⟩ : ByteArray)) else (asrt (0 ≤ a1) (asrt (a1 ≤ 281474976710656) (headgateref01_PutBig.l0 K  K a0 (List.replicate (a1 : Int).toNat (0 : Int)) (IntKind.wrap .i64 (a1 - 1))))))
set_option maxRecDepth 100000 in
set_option maxHeartbeats 4000000 in
theorem headgateref01_PutBig.calls (K : Nat) (a0 : Int) (a1 : Int)  (r : ByteArray) (w : World)  (h : headgateref01_PutBig.f K a0 a1 = some r) :
    Calls Tryd.prog 24 #[.int .u64 a0, .int .i64 a1] w (fun e W' => e = .returned (.string r) ∧ Wd w W' [] [] ) := by
  refine sxstart (n := 31) (l := [(0, .int .u64 a0), (1, .int .i64 a1)]) Tryd.func24 rfl rfl (Nat.le_of_ble_eq_true KR) (subsA_cons rfl (subsA_cons rfl (subsA_nil _))) ?_
  intro a ha
  have HW := Wd.refl w
  unfold headgateref01_PutBig.f at h
  refine wp_seq_k (fun K1243 hK1244 => ?_)
  refine wp_region_lit ?_
  refine stepp ha 4 (.string (⟨#[]⟩ : ByteArray)) KR KR ?_; clear ha a; intro a ha
  refine endl ?_
  refine thenN (hK1244 _ _ ?_); clear hK1244
  refine wp_seq_k (fun K1245 hK1246 => ?_)
  refine wp_seq_k (fun K1247 hK1248 => ?_)
  refine wp_region_lit ?_
  refine stepp ha 7 (.int .i64 a1) KR KR ?_; clear ha a; intro a ha
  refine stepp ha 8 (.bool (decide (a1 < 1))) KR KR ?_; clear ha a; intro a ha
  refine stepp ha 9 (.bool (decide (a1 < 1))) KR KR ?_; clear ha a; intro a ha
  by_cases hp1249 : a1 < 1
  · skip
    replace h := ite_pos' h hp1249
    replace ha := ha.bool 9 KR (decide_eq_true hp1249)
    refine stepo ha 10 KR ?_; clear ha a; intro a ha
    refine stepo ha 11 KR ?_; clear ha a; intro a ha
    refine stepp ha 12 (.bool true) KR KR ?_; clear ha a; intro a ha
    refine endl ?_
    refine thenN (hK1248 _ _ ?_); clear hK1248
    refine condT ha KR KR (t := true) (rfl) ?_
    refine wp_seq_k (fun K1250 hK1251 => ?_)
    refine wp_region_lit ?_
    refine stepp ha 4 (.string (⟨#[]⟩ : ByteArray)) KR KR ?_; clear ha a; intro a ha
    refine endl ?_
    refine thenN (hK1251 _ _ ?_); clear hK1251
    refine wp_ret ?_
    refine thenR ?_
    obtain rfl := Option.some.inj h
    exact finv ha _ _ rfl (.tmp (v := .string (⟨#[]⟩ : ByteArray)) KR .nil) (.string (⟨#[]⟩ : ByteArray)) rfl ⟨rfl, HW.pick [] [] (by decide) (by decide) rfl KR⟩
  · skip
    replace h := ite_neg' h hp1249
    replace ha := ha.bool 9 KR (decide_eq_false hp1249)
    refine stepp ha 10 (.int .i64 a1) KR KR ?_; clear ha a; intro a ha
    refine stepp ha 11 (.bool (decide (a1 > 8))) KR KR ?_; clear ha a; intro a ha
    refine stepp ha 12 (.bool (decide (a1 > 8))) KR KR ?_; clear ha a; intro a ha
    refine endl ?_
    refine thenN (hK1248 _ _ ?_); clear hK1248
    by_cases hp1252 : a1 > 8
    · skip
      replace h := ite_pos' h hp1252
      refine condT ha KR KR (t := decide (a1 > 8)) (decide_eq_true hp1252) ?_
      refine wp_seq_k (fun K1253 hK1254 => ?_)
      refine wp_region_lit ?_
      refine stepp ha 4 (.string (⟨#[]⟩ : ByteArray)) KR KR ?_; clear ha a; intro a ha
      refine endl ?_
      refine thenN (hK1254 _ _ ?_); clear hK1254
      refine wp_ret ?_
      refine thenR ?_
      obtain rfl := Option.some.inj h
      exact finv ha _ _ rfl (.tmp (v := .string (⟨#[]⟩ : ByteArray)) KR .nil) (.string (⟨#[]⟩ : ByteArray)) rfl ⟨rfl, HW.pick [] [] (by decide) (by decide) rfl KR⟩
    · skip
      replace h := ite_neg' h hp1252
      refine condF ha KR KR (t := decide (a1 > 8)) (decide_eq_false hp1252) ?_
      refine wp_skip ?_
      refine thenN (hK1246 _ _ ?_); clear hK1246
      refine wp_seq_k (fun K1255 hK1256 => ?_)
      refine wp_region_lit ?_
      refine stepp ha 13 (.int .i64 a1) KR KR ?_; clear ha a; intro a ha
      obtain ⟨hA1257, h_⟩ := asrt_some h; clear h; have h := h_; clear h_
      obtain ⟨hA1258, h_⟩ := asrt_some h; clear h; have h := h_; clear h_
      refine stepmk (encIK .u8) (0 : Int) ha HW 14 40 5 (.tmp 13) (.tmp 13) .i64 .i64 a1 (.int .u8 0) 1 rfl KR KR KR KR rfl rfl hA1257 (by have := hA1258; omega) (by have := hA1258; omega) KR ?_; clear ha HW a; intro b1259 a W1260 HW ha
      refine stepp ha 5 (.slice (some ⟨b1259, 0, none⟩) (List.replicate (a1 : Int).toNat (0 : Int)).length ((a1 : Int).toNat)) KR KR ?_; clear ha a; intro a ha
      refine endl ?_
      refine thenN (hK1256 _ _ ?_); clear hK1256
      refine wp_seq_k (fun K1262 hK1263 => ?_)
      refine wp_seq_k (fun K1264 hK1265 => ?_)
      refine wp_region_lit ?_
      refine stepp ha 15 (.int .i64 a1) KR KR ?_; clear ha a; intro a ha
      refine stepp ha 16 (.int .i64 (IntKind.wrap .i64 (a1 - 1))) KR KR ?_; clear ha a; intro a ha
      refine stepp ha 6 (.int .i64 (IntKind.wrap .i64 (a1 - 1))) KR KR ?_; clear ha a; intro a ha
      refine endl ?_
      refine thenN (hK1265 _ _ ?_); clear hK1265
      refine wp_block ?_
      refine loopk (fun k => fun a W1309 => ∃ (x1303 : Int), ∃ (x1304 : List Int), ∃ A1305, ∃ c1306, ∃ (x1308 : Int), headgateref01_PutBig.l0 K  k x1303 x1304 x1308 = some r ∧ Has 31 [(0, .int .u64 x1303), (5, .slice A1305 x1304.length c1306), (6, .int .i64 x1308)] a ∧ Wd w W1309 [] [⟨5, 1, .slice A1305 x1304.length c1306, x1304.length, encs (encIK .u8) x1304⟩]) K ?_ ?_
      · skip
        exact ⟨a0, List.replicate (a1 : Int).toNat (0 : Int), some ⟨b1259, 0, none⟩, (a1 : Int).toNat, IntKind.wrap .i64 (a1 - 1), h, ha.sub (subs_cons KR (subs_cons KR (subs_cons KR (subs_nil _)))), HW.pick [] [0] (by decide) (by decide) KR KR⟩
      · skip
        intro k a W1309 hI
        obtain ⟨x1303, x1304, A1305, c1306, x1308, h, ha, HW⟩ := hI
        cases k with
        | zero => exact (none_some (show none = some r from h)).elim
        | succ k1310 =>
          replace h : headgateref01_PutBig.b0 K  (headgateref01_PutBig.l0 K  k1310) x1303 x1304 x1308 = some r := h
          obtain ⟨again1302, hag1311⟩ : ∃ g_, g_ = headgateref01_PutBig.l0 K  k1310 := ⟨_, rfl⟩
          rw [← hag1311] at h
          unfold headgateref01_PutBig.b0 at h
          refine wp_seq_k (fun K1312 hK1313 => ?_)
          refine wp_seq_k (fun K1314 hK1315 => ?_)
          refine wp_region_lit ?_
          refine stepp ha 17 (.int .i64 x1308) KR KR ?_; clear ha a; intro a ha
          refine stepp ha 18 (.bool (decide (x1308 ≥ 0))) KR KR ?_; clear ha a; intro a ha
          refine endl ?_
          refine thenN (hK1315 _ _ ?_); clear hK1315
          by_cases hp1316 : x1308 ≥ 0
          · skip
            replace h := ite_pos' h hp1316
            refine condT ha KR KR (t := decide (x1308 ≥ 0)) (decide_eq_true hp1316) ?_
            refine wp_skip ?_
            refine thenN (hK1313 _ _ ?_); clear hK1313
            refine wp_seq_k (fun K1317 hK1318 => ?_)
            refine wp_block ?_
            refine wp_seq_k (fun K1319 hK1320 => ?_)
            refine wp_region_lit ?_
            refine stepp ha 21 (.slice A1305 x1304.length c1306) KR KR ?_; clear ha a; intro a ha
            refine stepp ha 22 (.int .i64 x1308) KR KR ?_; clear ha a; intro a ha
            refine stepp ha 23 (.int .u64 x1303) KR KR ?_; clear ha a; intro a ha
            refine stepp ha 24 (.int .u64 (Int.tmod x1303 256)) KR KR ?_; clear ha a; intro a ha
            refine stepp ha 25 (.int .u8 (IntKind.wrap .u8 (Int.tmod x1303 256))) KR KR ?_; clear ha a; intro a ha
            obtain ⟨hA1321, h_⟩ := asrt_some h; clear h; have h := h_; clear h_
            obtain ⟨hA1322, h_⟩ := asrt_some h; clear h; have h := h_; clear h_
            refine stepio (encIK .u8) ha HW 26 0 (sz := 1) (e := 5) (v := .slice A1305 x1304.length c1306) (xs := x1304) KR 40 (.tmp 21) (.tmp 22) .i64 x1308 rfl KR KR KR KR hA1321 (show (x1308 : Int) < ((x1304).length : Int) from hA1322) KR ?_; clear ha a; intro b1323 a hb1324 ha
            refine stepos (encIK .u8) (0 : Int) ha HW 0 (sz := 1) (e := 5) (fun _ => rfl) (v := .slice A1305 x1304.length c1306) (xs := x1304) KR hb1324 x1308 hA1321 (show (x1308 : Int) < ((x1304).length : Int) from hA1322) 5 0 (.tmp 26) (.tmp 25) (.int .u8 (IntKind.wrap .u8 (Int.tmod x1303 256))) (IntKind.wrap .u8 (Int.tmod x1303 256)) rfl KR KR KR KR KR KR KR (.slice A1305 (x1304.set (x1308 : Int).toNat (IntKind.wrap .u8 (Int.tmod x1303 256))).length c1306) (by rw [List.length_set]) ?_; clear ha HW a; intro a W1325 HW ha
            replace ha := ha.turn 5 (v := .slice A1305 (x1304.set (x1308 : Int).toNat (IntKind.wrap .u8 (Int.tmod x1303 256))).length c1306) KR (by rw [List.length_set])
            replace ha := ha.turn 21 (v := .slice A1305 (x1304.set (x1308 : Int).toNat (IntKind.wrap .u8 (Int.tmod x1303 256))).length c1306) KR (by rw [List.length_set])
            replace HW : Wd w W1325 [] [⟨5, 1, .slice A1305 (x1304.set (x1308 : Int).toNat (IntKind.wrap .u8 (Int.tmod x1303 256))).length c1306, (x1304.set (x1308 : Int).toNat (IntKind.wrap .u8 (Int.tmod x1303 256))).length, encs (encIK .u8) (x1304.set (x1308 : Int).toNat (IntKind.wrap .u8 (Int.tmod x1303 256)))⟩] := HW
            refine endl ?_
            refine thenN (hK1320 _ _ ?_); clear hK1320
            refine wp_region_lit ?_
            refine stepp ha 27 (.int .u64 x1303) KR KR ?_; clear ha a; intro a ha
            refine stepp ha 28 (.int .u64 (IntKind.wrap .u64 (Int.tdiv x1303 256))) KR KR ?_; clear ha a; intro a ha
            refine stepp ha 0 (.int .u64 (IntKind.wrap .u64 (Int.tdiv x1303 256))) KR KR ?_; clear ha a; intro a ha
            refine endl ?_
            refine blkN ?_
            refine thenN (hK1318 _ _ ?_); clear hK1318
            refine wp_region_lit ?_
            refine stepp ha 19 (.int .i64 x1308) KR KR ?_; clear ha a; intro a ha
            refine stepp ha 20 (.int .i64 (IntKind.wrap .i64 (x1308 - 1))) KR KR ?_; clear ha a; intro a ha
            refine stepp ha 6 (.int .i64 (IntKind.wrap .i64 (x1308 - 1))) KR KR ?_; clear ha a; intro a ha
            refine endl ?_
            exact thenN ⟨k1310, Nat.lt_succ_self k1310, IntKind.wrap .u64 (Int.tdiv x1303 256), x1304.set (x1308 : Int).toNat (IntKind.wrap .u8 (Int.tmod x1303 256)), A1305, c1306, IntKind.wrap .i64 (x1308 - 1), (by rw [← hag1311]; exact h), ha.sub (subs_cons KR (subs_cons KR (subs_cons KR (subs_nil _)))), HW.pick [] [0] (by decide) (by decide) KR KR⟩
          · skip
            replace h := ite_neg' h hp1316
            refine condF ha KR KR (t := decide (x1308 ≥ 0)) (decide_eq_false hp1316) ?_
            refine wp_exit ?_
            refine thenE ?_
            refine thenE ?_
            refine inBlk ?_
            refine thenN (hK1263 _ _ ?_); clear hK1263
            refine wp_seq_k (fun K1326 hK1327 => ?_)
            refine wp_region_lit ?_
            refine stepp ha 29 (.slice A1305 x1304.length c1306) KR KR ?_; clear ha a; intro a ha
            refine stepbt ha 30 40 9 5 (.tmp 29) (v := .slice A1305 x1304.length c1306) (xs := x1304) (HW.rdo (i := 0) (q := ⟨5, 1, .slice A1305 x1304.length c1306, x1304.length, encs (encIK .u8) x1304⟩) KR) rfl KR KR KR KR KR ?_; clear ha a; intro a ha
            refine stepp ha 4 (.string (strOfNums x1304)) KR KR ?_; clear ha a; intro a ha
            refine endl ?_
            refine thenN (hK1327 _ _ ?_); clear hK1327
            refine wp_ret ?_
            obtain rfl := Option.some.inj h
            exact finv ha _ _ rfl (.tmp (v := .string (strOfNums x1304)) KR .nil) (.string (strOfNums x1304)) rfl ⟨rfl, HW.pick [] [] (by decide) (by decide) rfl KR⟩
/-! ### headgate/headgateref01.there: function 42 -/
def headgateref01_there.f (a0 : ByteArray) (a1 : Int) (a2 : Int) : Option Bool :=
  if a1 ≥ 0 then (if a2 ≥ 0 then (if a1 ≤ (a0.size : Int) then (some (decide (a2 ≤ (IntKind.wrap .i64 ((a0.size : Int) - a1))))) else (some false)) else (some false)) else (some false)
set_option maxRecDepth 100000 in
set_option maxHeartbeats 4000000 in
theorem headgateref01_there.calls (a0 : ByteArray) (a1 : Int) (a2 : Int)  (r : Bool) (w : World)  (h : headgateref01_there.f a0 a1 a2 = some r) :
    Calls Tryd.prog 42 #[.string a0, .int .i64 a1, .int .i64 a2] w (fun e W' => e = .returned (.bool r) ∧ Wd w W' [] [] ) := by
  refine sxstart (n := 27) (l := [(0, .string a0), (1, .int .i64 a1), (2, .int .i64 a2)]) Tryd.func42 rfl rfl (Nat.le_of_ble_eq_true KR) (subsA_cons rfl (subsA_cons rfl (subsA_cons rfl (subsA_nil _)))) ?_
  intro a ha
  have HW := Wd.refl w
  unfold headgateref01_there.f at h
  refine wp_seq_k (fun K1655 hK1656 => ?_)
  refine wp_region_lit ?_
  refine stepp ha 6 (.bool false) KR KR ?_; clear ha a; intro a ha
  refine endl ?_
  refine thenN (hK1656 _ _ ?_); clear hK1656
  refine wp_seq_k (fun K1657 hK1658 => ?_)
  refine wp_region_lit ?_
  refine stepp ha 7 (.int .i64 a1) KR KR ?_; clear ha a; intro a ha
  refine stepp ha 8 (.bool (decide (a1 ≥ 0))) KR KR ?_; clear ha a; intro a ha
  refine stepp ha 9 (.bool (decide (a1 ≥ 0))) KR KR ?_; clear ha a; intro a ha
  by_cases hp1659 : a1 ≥ 0
  · skip
    replace h := ite_pos' h hp1659
    replace ha := ha.bool 9 KR (decide_eq_true hp1659)
    refine stepp ha 10 (.int .i64 a2) KR KR ?_; clear ha a; intro a ha
    refine stepp ha 11 (.bool (decide (a2 ≥ 0))) KR KR ?_; clear ha a; intro a ha
    refine stepp ha 12 (.bool (decide (a2 ≥ 0))) KR KR ?_; clear ha a; intro a ha
    refine stepp ha 13 (.bool (decide (a2 ≥ 0))) KR KR ?_; clear ha a; intro a ha
    by_cases hp1660 : a2 ≥ 0
    · skip
      replace h := ite_pos' h hp1660
      replace ha := ha.bool 13 KR (decide_eq_true hp1660)
      refine stepp ha 14 (.int .i64 a1) KR KR ?_; clear ha a; intro a ha
      refine stepp ha 15 (.string a0) KR KR ?_; clear ha a; intro a ha
      refine stepp ha 16 (.int .i64 (a0.size : Int)) KR KR ?_; clear ha a; intro a ha
      refine stepp ha 17 (.bool (decide (a1 ≤ (a0.size : Int)))) KR KR ?_; clear ha a; intro a ha
      refine stepp ha 18 (.bool (decide (a1 ≤ (a0.size : Int)))) KR KR ?_; clear ha a; intro a ha
      refine stepp ha 19 (.bool (decide (a1 ≤ (a0.size : Int)))) KR KR ?_; clear ha a; intro a ha
      by_cases hp1661 : a1 ≤ (a0.size : Int)
      · skip
        replace h := ite_pos' h hp1661
        replace ha := ha.bool 19 KR (decide_eq_true hp1661)
        refine stepp ha 20 (.int .i64 a2) KR KR ?_; clear ha a; intro a ha
        refine stepp ha 21 (.string a0) KR KR ?_; clear ha a; intro a ha
        refine stepp ha 22 (.int .i64 (a0.size : Int)) KR KR ?_; clear ha a; intro a ha
        refine stepp ha 23 (.int .i64 a1) KR KR ?_; clear ha a; intro a ha
        refine stepp ha 24 (.int .i64 (IntKind.wrap .i64 ((a0.size : Int) - a1))) KR KR ?_; clear ha a; intro a ha
        refine stepp ha 25 (.bool (decide (a2 ≤ (IntKind.wrap .i64 ((a0.size : Int) - a1))))) KR KR ?_; clear ha a; intro a ha
        refine stepp ha 26 (.bool (decide (a2 ≤ (IntKind.wrap .i64 ((a0.size : Int) - a1))))) KR KR ?_; clear ha a; intro a ha
        refine stepp ha 6 (.bool (decide (a2 ≤ (IntKind.wrap .i64 ((a0.size : Int) - a1))))) KR KR ?_; clear ha a; intro a ha
        refine endl ?_
        refine thenN (hK1658 _ _ ?_); clear hK1658
        refine wp_ret ?_
        obtain rfl := Option.some.inj h
        exact finv ha _ _ rfl (.tmp (v := .bool (decide (a2 ≤ (IntKind.wrap .i64 ((a0.size : Int) - a1))))) KR .nil) (.bool (decide (a2 ≤ (IntKind.wrap .i64 ((a0.size : Int) - a1))))) rfl ⟨rfl, HW.pick [] [] (by decide) (by decide) rfl KR⟩
      · skip
        replace h := ite_neg' h hp1661
        replace ha := ha.bool 19 KR (decide_eq_false hp1661)
        refine stepo ha 20 KR ?_; clear ha a; intro a ha
        refine stepo ha 21 KR ?_; clear ha a; intro a ha
        refine stepo ha 22 KR ?_; clear ha a; intro a ha
        refine stepo ha 23 KR ?_; clear ha a; intro a ha
        refine stepo ha 24 KR ?_; clear ha a; intro a ha
        refine stepo ha 25 KR ?_; clear ha a; intro a ha
        refine stepp ha 26 (.bool false) KR KR ?_; clear ha a; intro a ha
        refine stepp ha 6 (.bool false) KR KR ?_; clear ha a; intro a ha
        refine endl ?_
        refine thenN (hK1658 _ _ ?_); clear hK1658
        refine wp_ret ?_
        obtain rfl := Option.some.inj h
        exact finv ha _ _ rfl (.tmp (v := .bool false) KR .nil) (.bool false) rfl ⟨rfl, HW.pick [] [] (by decide) (by decide) rfl KR⟩
    · skip
      replace h := ite_neg' h hp1660
      replace ha := ha.bool 13 KR (decide_eq_false hp1660)
      refine stepo ha 14 KR ?_; clear ha a; intro a ha
      refine stepo ha 15 KR ?_; clear ha a; intro a ha
      refine stepo ha 16 KR ?_; clear ha a; intro a ha
      refine stepo ha 17 KR ?_; clear ha a; intro a ha
      refine stepp ha 18 (.bool false) KR KR ?_; clear ha a; intro a ha
      refine stepp ha 19 (.bool false) KR KR ?_; clear ha a; intro a ha
      refine stepo ha 20 KR ?_; clear ha a; intro a ha
      refine stepo ha 21 KR ?_; clear ha a; intro a ha
      refine stepo ha 22 KR ?_; clear ha a; intro a ha
      refine stepo ha 23 KR ?_; clear ha a; intro a ha
      refine stepo ha 24 KR ?_; clear ha a; intro a ha
      refine stepo ha 25 KR ?_; clear ha a; intro a ha
      refine stepp ha 26 (.bool false) KR KR ?_; clear ha a; intro a ha
      refine stepp ha 6 (.bool false) KR KR ?_; clear ha a; intro a ha
      refine endl ?_
      refine thenN (hK1658 _ _ ?_); clear hK1658
      refine wp_ret ?_
      obtain rfl := Option.some.inj h
      exact finv ha _ _ rfl (.tmp (v := .bool false) KR .nil) (.bool false) rfl ⟨rfl, HW.pick [] [] (by decide) (by decide) rfl KR⟩
  · skip
    replace h := ite_neg' h hp1659
    replace ha := ha.bool 9 KR (decide_eq_false hp1659)
    refine stepo ha 10 KR ?_; clear ha a; intro a ha
    refine stepo ha 11 KR ?_; clear ha a; intro a ha
    refine stepp ha 12 (.bool false) KR KR ?_; clear ha a; intro a ha
    refine stepp ha 13 (.bool false) KR KR ?_; clear ha a; intro a ha
    refine stepo ha 14 KR ?_; clear ha a; intro a ha
    refine stepo ha 15 KR ?_; clear ha a; intro a ha
    refine stepo ha 16 KR ?_; clear ha a; intro a ha
    refine stepo ha 17 KR ?_; clear ha a; intro a ha
    refine stepp ha 18 (.bool false) KR KR ?_; clear ha a; intro a ha
    refine stepp ha 19 (.bool false) KR KR ?_; clear ha a; intro a ha
    refine stepo ha 20 KR ?_; clear ha a; intro a ha
    refine stepo ha 21 KR ?_; clear ha a; intro a ha
    refine stepo ha 22 KR ?_; clear ha a; intro a ha
    refine stepo ha 23 KR ?_; clear ha a; intro a ha
    refine stepo ha 24 KR ?_; clear ha a; intro a ha
    refine stepo ha 25 KR ?_; clear ha a; intro a ha
    refine stepp ha 26 (.bool false) KR KR ?_; clear ha a; intro a ha
    refine stepp ha 6 (.bool false) KR KR ?_; clear ha a; intro a ha
    refine endl ?_
    refine thenN (hK1658 _ _ ?_); clear hK1658
    refine wp_ret ?_
    obtain rfl := Option.some.inj h
    exact finv ha _ _ rfl (.tmp (v := .bool false) KR .nil) (.bool false) rfl ⟨rfl, HW.pick [] [] (by decide) (by decide) rfl KR⟩
/-! ### headgate/headgateref01.Big: function 29 -/
def headgateref01_Big.b0 (K : Nat) (a0 : ByteArray) (a1 : Int) (a2 : Int) (again1709 : Int → Int → Option (Int × Bool)) (x1710 : Int) (x1711 : Int) : Option (Int × Bool) :=
  if x1711 < a2 then (asrt (0 ≤ (IntKind.wrap .i64 (a1 + x1711))) (asrt ((IntKind.wrap .i64 (a1 + x1711)) < (a0.size : Int)) (again1709 (IntKind.wrap .u64 ((IntKind.wrap .u64 (x1710 * 256)) + (IntKind.wrap .u64 (bt a0 (IntKind.wrap .i64 (a1 + x1711)))))) (IntKind.wrap .i64 (x1711 + 1))))) else (some (x1710, true))
def headgateref01_Big.l0 (K : Nat) (a0 : ByteArray) (a1 : Int) (a2 : Int) : Nat → Int → Int → Option (Int × Bool)
  | 0, _, _ => none
  | k_ + 1, x1710, x1711 => headgateref01_Big.b0 K a0 a1 a2 (headgateref01_Big.l0 K a0 a1 a2 k_) x1710 x1711
def headgateref01_Big.f (K : Nat) (a0 : ByteArray) (a1 : Int) (a2 : Int) : Option (Int × Bool) :=
  if a2 < 1 then (some (0, false)) else (if a2 > 8 then (some (0, false)) else ((headgateref01_there.f a0 a1 a2).bind fun t1670 => (if t1670 = true then (headgateref01_Big.l0 K a0 a1 a2 K 0 0) else (some (0, false)))))
set_option maxRecDepth 100000 in
set_option maxHeartbeats 4000000 in
theorem headgateref01_Big.calls (K : Nat) (a0 : ByteArray) (a1 : Int) (a2 : Int)  (r : Int × Bool) (w : World)  (h : headgateref01_Big.f K a0 a1 a2 = some r) :
    Calls Tryd.prog 29 #[.string a0, .int .i64 a1, .int .i64 a2] w (fun e W' => e = .returned (.tuple #[.int .u64 r.1, .bool r.2]) ∧ Wd w W' [] [] ) := by
  refine sxstart (n := 38) (l := [(0, .string a0), (1, .int .i64 a1), (2, .int .i64 a2)]) Tryd.func29 rfl rfl (Nat.le_of_ble_eq_true KR) (subsA_cons rfl (subsA_cons rfl (subsA_cons rfl (subsA_nil _)))) ?_
  intro a ha
  have HW := Wd.refl w
  unfold headgateref01_Big.f at h
  refine wp_seq_k (fun K1662 hK1663 => ?_)
  refine wp_region_lit ?_
  refine stepp ha 6 (.int .u64 0) KR KR ?_; clear ha a; intro a ha
  refine stepp ha 7 (.bool false) KR KR ?_; clear ha a; intro a ha
  refine endl ?_
  refine thenN (hK1663 _ _ ?_); clear hK1663
  refine wp_seq_k (fun K1664 hK1665 => ?_)
  refine wp_seq_k (fun K1666 hK1667 => ?_)
  refine wp_region_lit ?_
  refine stepp ha 10 (.int .i64 a2) KR KR ?_; clear ha a; intro a ha
  refine stepp ha 11 (.bool (decide (a2 < 1))) KR KR ?_; clear ha a; intro a ha
  refine stepp ha 12 (.bool (decide (a2 < 1))) KR KR ?_; clear ha a; intro a ha
  by_cases hp1668 : a2 < 1
  · skip
    replace h := ite_pos' h hp1668
    replace ha := ha.bool 12 KR (decide_eq_true hp1668)
    refine stepo ha 13 KR ?_; clear ha a; intro a ha
    refine stepo ha 14 KR ?_; clear ha a; intro a ha
    refine stepp ha 15 (.bool true) KR KR ?_; clear ha a; intro a ha
    refine stepp ha 16 (.bool true) KR KR ?_; clear ha a; intro a ha
    refine stepo ha 17 KR ?_; clear ha a; intro a ha
    refine stepo ha 18 KR ?_; clear ha a; intro a ha
    refine stepo ha 19 KR ?_; clear ha a; intro a ha
    refine stepo ha 20 KR ?_; clear ha a; intro a ha
    refine stepo ha 21 KR ?_; clear ha a; intro a ha
    refine stepp ha 22 (.bool true) KR KR ?_; clear ha a; intro a ha
    refine endl ?_
    refine thenN (hK1667 _ _ ?_); clear hK1667
    refine condT ha KR KR (t := true) (rfl) ?_
    refine wp_seq_k (fun K1674 hK1675 => ?_)
    refine wp_region_lit ?_
    refine stepp ha 6 (.int .u64 0) KR KR ?_; clear ha a; intro a ha
    refine stepp ha 7 (.bool false) KR KR ?_; clear ha a; intro a ha
    refine endl ?_
    refine thenN (hK1675 _ _ ?_); clear hK1675
    refine wp_ret ?_
    refine thenR ?_
    obtain rfl := Option.some.inj h
    exact finv ha _ _ rfl (.tmp (v := .int .u64 0) KR (.tmp (v := .bool false) KR .nil)) (.tuple #[.int .u64 0, .bool false]) rfl ⟨rfl, HW.pick [] [] (by decide) (by decide) rfl KR⟩
  · skip
    replace h := ite_neg' h hp1668
    replace ha := ha.bool 12 KR (decide_eq_false hp1668)
    refine stepp ha 13 (.int .i64 a2) KR KR ?_; clear ha a; intro a ha
    refine stepp ha 14 (.bool (decide (a2 > 8))) KR KR ?_; clear ha a; intro a ha
    refine stepp ha 15 (.bool (decide (a2 > 8))) KR KR ?_; clear ha a; intro a ha
    refine stepp ha 16 (.bool (decide (a2 > 8))) KR KR ?_; clear ha a; intro a ha
    by_cases hp1669 : a2 > 8
    · skip
      replace h := ite_pos' h hp1669
      replace ha := ha.bool 16 KR (decide_eq_true hp1669)
      refine stepo ha 17 KR ?_; clear ha a; intro a ha
      refine stepo ha 18 KR ?_; clear ha a; intro a ha
      refine stepo ha 19 KR ?_; clear ha a; intro a ha
      refine stepo ha 20 KR ?_; clear ha a; intro a ha
      refine stepo ha 21 KR ?_; clear ha a; intro a ha
      refine stepp ha 22 (.bool true) KR KR ?_; clear ha a; intro a ha
      refine endl ?_
      refine thenN (hK1667 _ _ ?_); clear hK1667
      refine condT ha KR KR (t := true) (rfl) ?_
      refine wp_seq_k (fun K1676 hK1677 => ?_)
      refine wp_region_lit ?_
      refine stepp ha 6 (.int .u64 0) KR KR ?_; clear ha a; intro a ha
      refine stepp ha 7 (.bool false) KR KR ?_; clear ha a; intro a ha
      refine endl ?_
      refine thenN (hK1677 _ _ ?_); clear hK1677
      refine wp_ret ?_
      refine thenR ?_
      obtain rfl := Option.some.inj h
      exact finv ha _ _ rfl (.tmp (v := .int .u64 0) KR (.tmp (v := .bool false) KR .nil)) (.tuple #[.int .u64 0, .bool false]) rfl ⟨rfl, HW.pick [] [] (by decide) (by decide) rfl KR⟩
    · skip
      replace h := ite_neg' h hp1669
      replace ha := ha.bool 16 KR (decide_eq_false hp1669)
      refine stepp ha 17 (.string a0) KR KR ?_; clear ha a; intro a ha
      refine stepp ha 18 (.int .i64 a1) KR KR ?_; clear ha a; intro a ha
      refine stepp ha 19 (.int .i64 a2) KR KR ?_; clear ha a; intro a ha
      obtain ⟨t1670, ht1671, h_⟩ := bind_some' h; clear h; have h := h_; clear h_
      refine stepc ha 20 KR KR (headgateref01_there.calls a0 a1 a2 t1670 _ ht1671) ?_; clear ha a; rintro e W1672 ⟨rfl, HX1673⟩
      refine ⟨_, rfl, ?_⟩; intro a ha; replace HW := HW.callw HX1673; clear HX1673
      refine stepp ha 21 (.bool (!t1670)) KR KR ?_; clear ha a; intro a ha
      refine stepp ha 22 (.bool (!t1670)) KR KR ?_; clear ha a; intro a ha
      refine endl ?_
      refine thenN (hK1667 _ _ ?_); clear hK1667
      by_cases hp1678 : t1670 = true
      · skip
        replace h := ite_pos' h hp1678
        refine condF ha KR KR (t := (!t1670)) (not_f (hp1678)) ?_
        refine wp_skip ?_
        refine thenN (hK1665 _ _ ?_); clear hK1665
        refine wp_seq_k (fun K1681 hK1682 => ?_)
        refine wp_region_lit ?_
        refine stepp ha 8 (.int .u64 0) KR KR ?_; clear ha a; intro a ha
        refine endl ?_
        refine thenN (hK1682 _ _ ?_); clear hK1682
        refine wp_seq_k (fun K1683 hK1684 => ?_)
        refine wp_seq_k (fun K1685 hK1686 => ?_)
        refine wp_region_lit ?_
        refine stepp ha 9 (.int .i64 0) KR KR ?_; clear ha a; intro a ha
        refine endl ?_
        refine thenN (hK1686 _ _ ?_); clear hK1686
        refine wp_block ?_
        refine loopk (fun k => fun a W1712 => ∃ (x1710 : Int), ∃ (x1711 : Int), headgateref01_Big.l0 K a0 a1 a2 k x1710 x1711 = some r ∧ Has 38 [(0, .string a0), (1, .int .i64 a1), (2, .int .i64 a2), (8, .int .u64 x1710), (9, .int .i64 x1711)] a ∧ Wd w W1712 [] []) K ?_ ?_
        · skip
          exact ⟨0, 0, h, ha.sub (subs_cons KR (subs_cons KR (subs_cons KR (subs_cons KR (subs_cons KR (subs_nil _)))))), HW.pick [] [] (by decide) (by decide) KR KR⟩
        · skip
          intro k a W1712 hI
          obtain ⟨x1710, x1711, h, ha, HW⟩ := hI
          cases k with
          | zero => exact (none_some (show none = some r from h)).elim
          | succ k1713 =>
            replace h : headgateref01_Big.b0 K a0 a1 a2 (headgateref01_Big.l0 K a0 a1 a2 k1713) x1710 x1711 = some r := h
            obtain ⟨again1709, hag1714⟩ : ∃ g_, g_ = headgateref01_Big.l0 K a0 a1 a2 k1713 := ⟨_, rfl⟩
            rw [← hag1714] at h
            unfold headgateref01_Big.b0 at h
            refine wp_seq_k (fun K1715 hK1716 => ?_)
            refine wp_seq_k (fun K1717 hK1718 => ?_)
            refine wp_region_lit ?_
            refine stepp ha 23 (.int .i64 x1711) KR KR ?_; clear ha a; intro a ha
            refine stepp ha 24 (.int .i64 a2) KR KR ?_; clear ha a; intro a ha
            refine stepp ha 25 (.bool (decide (x1711 < a2))) KR KR ?_; clear ha a; intro a ha
            refine endl ?_
            refine thenN (hK1718 _ _ ?_); clear hK1718
            by_cases hp1719 : x1711 < a2
            · skip
              replace h := ite_pos' h hp1719
              refine condT ha KR KR (t := decide (x1711 < a2)) (decide_eq_true hp1719) ?_
              refine wp_skip ?_
              refine thenN (hK1716 _ _ ?_); clear hK1716
              refine wp_seq_k (fun K1720 hK1721 => ?_)
              refine wp_block ?_
              refine wp_region_lit ?_
              refine stepp ha 28 (.int .u64 x1710) KR KR ?_; clear ha a; intro a ha
              refine stepp ha 29 (.int .u64 (IntKind.wrap .u64 (x1710 * 256))) KR KR ?_; clear ha a; intro a ha
              refine stepp ha 30 (.string a0) KR KR ?_; clear ha a; intro a ha
              refine stepp ha 31 (.int .i64 a1) KR KR ?_; clear ha a; intro a ha
              refine stepp ha 32 (.int .i64 x1711) KR KR ?_; clear ha a; intro a ha
              refine stepp ha 33 (.int .i64 (IntKind.wrap .i64 (a1 + x1711))) KR KR ?_; clear ha a; intro a ha
              obtain ⟨hA1722, h_⟩ := asrt_some h; clear h; have h := h_; clear h_
              obtain ⟨hA1723, h_⟩ := asrt_some h; clear h; have h := h_; clear h_
              refine stepsi ha 34 9 (.tmp 30) (.tmp 33) a0 .i64 (IntKind.wrap .i64 (a1 + x1711)) rfl KR KR KR hA1722 (show (IntKind.wrap .i64 (a1 + x1711) : Int) < ((a0).size : Int) from hA1723) KR ?_; clear ha a; intro a ha
              refine stepp ha 35 (.int .u64 (IntKind.wrap .u64 (bt a0 (IntKind.wrap .i64 (a1 + x1711))))) KR KR ?_; clear ha a; intro a ha
              refine stepp ha 36 (.int .u64 (IntKind.wrap .u64 ((IntKind.wrap .u64 (x1710 * 256)) + (IntKind.wrap .u64 (bt a0 (IntKind.wrap .i64 (a1 + x1711))))))) KR KR ?_; clear ha a; intro a ha
              refine stepp ha 8 (.int .u64 (IntKind.wrap .u64 ((IntKind.wrap .u64 (x1710 * 256)) + (IntKind.wrap .u64 (bt a0 (IntKind.wrap .i64 (a1 + x1711))))))) KR KR ?_; clear ha a; intro a ha
              refine endl ?_
              refine blkN ?_
              refine thenN (hK1721 _ _ ?_); clear hK1721
              refine wp_region_lit ?_
              refine stepp ha 26 (.int .i64 x1711) KR KR ?_; clear ha a; intro a ha
              refine stepp ha 27 (.int .i64 (IntKind.wrap .i64 (x1711 + 1))) KR KR ?_; clear ha a; intro a ha
              refine stepp ha 9 (.int .i64 (IntKind.wrap .i64 (x1711 + 1))) KR KR ?_; clear ha a; intro a ha
              refine endl ?_
              exact thenN ⟨k1713, Nat.lt_succ_self k1713, IntKind.wrap .u64 ((IntKind.wrap .u64 (x1710 * 256)) + (IntKind.wrap .u64 (bt a0 (IntKind.wrap .i64 (a1 + x1711))))), IntKind.wrap .i64 (x1711 + 1), (by rw [← hag1714]; exact h), ha.sub (subs_cons KR (subs_cons KR (subs_cons KR (subs_cons KR (subs_cons KR (subs_nil _)))))), HW.pick [] [] (by decide) (by decide) KR KR⟩
            · skip
              replace h := ite_neg' h hp1719
              refine condF ha KR KR (t := decide (x1711 < a2)) (decide_eq_false hp1719) ?_
              refine wp_exit ?_
              refine thenE ?_
              refine thenE ?_
              refine inBlk ?_
              refine thenN (hK1684 _ _ ?_); clear hK1684
              refine wp_seq_k (fun K1724 hK1725 => ?_)
              refine wp_region_lit ?_
              refine stepp ha 37 (.int .u64 x1710) KR KR ?_; clear ha a; intro a ha
              refine stepp ha 6 (.int .u64 x1710) KR KR ?_; clear ha a; intro a ha
              refine stepp ha 7 (.bool true) KR KR ?_; clear ha a; intro a ha
              refine endl ?_
              refine thenN (hK1725 _ _ ?_); clear hK1725
              refine wp_ret ?_
              obtain rfl := Option.some.inj h
              exact finv ha _ _ rfl (.tmp (v := .int .u64 x1710) KR (.tmp (v := .bool true) KR .nil)) (.tuple #[.int .u64 x1710, .bool true]) rfl ⟨rfl, HW.pick [] [] (by decide) (by decide) rfl KR⟩
      · skip
        replace h := ite_neg' h hp1678
        refine condT ha KR KR (t := (!t1670)) (not_t (bool_f hp1678)) ?_
        refine wp_seq_k (fun K1679 hK1680 => ?_)
        refine wp_region_lit ?_
        refine stepp ha 6 (.int .u64 0) KR KR ?_; clear ha a; intro a ha
        refine stepp ha 7 (.bool false) KR KR ?_; clear ha a; intro a ha
        refine endl ?_
        refine thenN (hK1680 _ _ ?_); clear hK1680
        refine wp_ret ?_
        refine thenR ?_
        obtain rfl := Option.some.inj h
        exact finv ha _ _ rfl (.tmp (v := .int .u64 0) KR (.tmp (v := .bool false) KR .nil)) (.tuple #[.int .u64 0, .bool false]) rfl ⟨rfl, HW.pick [] [] (by decide) (by decide) rfl KR⟩
end Go.Proofs.YtdcojinnjpihaaaDoor.F
