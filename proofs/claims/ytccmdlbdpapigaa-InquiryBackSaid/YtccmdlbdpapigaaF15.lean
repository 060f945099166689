/- headgate/headgatekeep.CopyRanges, headgate/inquiry.Unmap, headgate/fields.get[uint64], headgate/fields.Big, headgate/inquiry.Ranges, headgate/headgatekeep.Ranges: plain functions, and that the calls come to what they say. No condition. -/
import Derived.Test.YtccmdlbdpapigaaFT
import Derived.Test.YtccmdlbdpapigaaF22
namespace Go.Proofs.Ytccmdlbdpapigaa.F
open Go Go.RowKit Go.Proofs.Ytccmdlbdpapigaa.X
set_option linter.unusedVariables false
set_option linter.unusedSimpArgs false
/-! ### headgate/headgatekeep.CopyRanges: function 15 -/
def headgatekeep_CopyRanges.f (a0 : List T_api_Range) : Option (List T_api_Range) :=
  asrt (([] : List T_api_Range).length + a0.length ≤ 8796093022208) (some (([] : List T_api_Range) ++ a0))
set_option maxRecDepth 100000 in
set_option maxHeartbeats 4000000 in
theorem headgatekeep_CopyRanges.calls (a0 : List T_api_Range) (A0_0 : Option Addr) (c0_0 : Nat) (r : List T_api_Range) (w : World) (hr0_0 : Rd 2 w (.slice A0_0 a0.length c0_0) a0.length (encs T_api_Range.enc a0)) (h : headgatekeep_CopyRanges.f a0 = some r) :
    Calls Try.prog 15 #[.slice A0_0 a0.length c0_0] w (fun e W' => ∃ A_0 c_0, e = .returned (.slice A_0 r.length c_0) ∧ Wd w W' [] [⟨53, 2, .slice A_0 r.length c_0, r.length, encs T_api_Range.enc r⟩] ) := by
  refine sxstart (n := 6) (l := [(0, .slice A0_0 a0.length c0_0)]) Try.func15 rfl rfl (Nat.le_of_ble_eq_true KR) (subsA_cons rfl (subsA_nil _)) ?_
  intro a ha
  have HW := Wd.refl w
  unfold headgatekeep_CopyRanges.f at h
  refine wp_seq_k (fun K1223 hK1224 => ?_)
  refine wp_region_lit ?_
  refine stepp ha 2 (.slice none 0 0) KR KR ?_; clear ha a; intro a ha
  refine endl ?_
  refine thenN (hK1224 _ _ ?_); clear hK1224
  refine wp_seq_k (fun K1225 hK1226 => ?_)
  refine wp_region_lit ?_
  refine stepbs ha HW 3 53 2 0 #[] [] (by decide) KR KR KR KR ?_; clear ha HW a; intro b1227 a W1228 HW ha
  replace HW : Wd w W1228 [] [⟨53, 2, .slice (some ⟨b1227, 0, none⟩) ([] : List T_api_Range).length 0, ([] : List T_api_Range).length, encs T_api_Range.enc ([] : List T_api_Range)⟩] := HW
  replace ha := ha.turn 3 (v := .slice (some ⟨b1227, 0, none⟩) ([] : List T_api_Range).length 0) KR rfl
  refine stepp ha 4 (.slice A0_0 a0.length c0_0) KR KR ?_; clear ha a; intro a ha
  obtain ⟨hA1230, h_⟩ := asrt_some h; clear h; have h := h_; clear h_
  refine stepape T_api_Range.enc ha HW 5 0 34 53 (.tmp 3) (.tmp 4) (.agg #[.int .i64 0, .int .i64 0]) 2 16 (.slice (some ⟨b1227, 0, none⟩) ([] : List T_api_Range).length 0) ([] : List T_api_Range) (.slice A0_0 a0.length c0_0) a0 KR rfl KR KR ((HW.rd0 hr0_0)) (fun _ => rfl) KR KR KR (by decide) (by have := hA1230; unfold maxLen; omega) (by have := hA1230; omega) KR ?_; clear ha HW a; intro A1231 c1232 a W1233 HW ha
  refine stepp ha 2 (.slice A1231 (([] : List T_api_Range) ++ a0).length c1232) KR KR ?_; clear ha a; intro a ha
  refine endl ?_
  refine thenN (hK1226 _ _ ?_); clear hK1226
  refine wp_ret ?_
  obtain rfl := Option.some.inj h
  exact finv ha _ _ rfl (.tmp (v := .slice A1231 (([] : List T_api_Range) ++ a0).length c1232) KR .nil) (.slice A1231 (([] : List T_api_Range) ++ a0).length c1232) rfl ⟨A1231, c1232, rfl, HW.pick [] [0] (by decide) (by decide) rfl KR⟩
/-! ### headgate/inquiry.Unmap: function 16 -/
def inquiry_Unmap.b0 (K : Nat) (a0 : List T_api_Range) (again1367 : ByteArray → Int → Option (ByteArray × Int)) (x1368 : ByteArray) (x1369 : Int) : Option (ByteArray × Int) :=
  if x1369 < (a0.length : Int) then (asrt (0 ≤ x1369) (if ((rdL T_api_Range.z a0 x1369).f0) < 0 then (some ((⟨#[]⟩ : ByteArray), 180)) else (if ((rdL T_api_Range.z a0 x1369).f0) ≥ 2147483648 then (some ((⟨#[]⟩ : ByteArray), 180)) else (if ((rdL T_api_Range.z a0 x1369).f1) < 0 then (some ((⟨#[]⟩ : ByteArray), 180)) else (if ((rdL T_api_Range.z a0 x1369).f1) ≥ 4294967296 then (some ((⟨#[]⟩ : ByteArray), 180)) else ((fields_PutBig.f K (IntKind.wrap .u64 ((rdL T_api_Range.z a0 x1369).f0)) 8).bind fun t1405 => ((inquiry_words.f K ((rdL T_api_Range.z a0 x1369).f1)).bind fun t1409 => (asrt (t1405.size + t1409.size ≤ 9223372036854775807) ((inquiry_words.f K 0).bind fun t1414 => (asrt ((t1405 ++ t1409).size + t1414.size ≤ 9223372036854775807) (asrt (x1368.size + ((t1405 ++ t1409) ++ t1414).size ≤ 9223372036854775807) (again1367 (x1368 ++ ((t1405 ++ t1409) ++ t1414)) (IntKind.wrap .i64 (x1369 + 1)))))))))))))) else (some (x1368, 0))
def inquiry_Unmap.l0 (K : Nat) (a0 : List T_api_Range) : Nat → ByteArray → Int → Option (ByteArray × Int)
  | 0, _, _ => none
  | k_ + 1, x1368, x1369 => inquiry_Unmap.b0 K a0 (inquiry_Unmap.l0 K a0 k_) x1368 x1369
def inquiry_Unmap.f (K : Nat) (a0 : List T_api_Range) : Option (ByteArray × Int) :=
  if (a0.length : Int) > 16 then (some ((⟨#[]⟩ : ByteArray), 180)) else ((fields_PutBig.f K (IntKind.wrap .u64 (IntKind.wrap .i64 (6 + (IntKind.wrap .i64 (16 * (a0.length : Int)))))) 2).bind fun t1249 => ((fields_PutBig.f K (IntKind.wrap .u64 (IntKind.wrap .i64 (16 * (a0.length : Int)))) 2).bind fun t1253 => (asrt (t1249.size + t1253.size ≤ 9223372036854775807) ((inquiry_words.f K 0).bind fun t1258 => (asrt ((t1249 ++ t1253).size + t1258.size ≤ 9223372036854775807) (inquiry_Unmap.l0 K a0 K ((t1249 ++ t1253) ++ t1258) 0))))))
set_option maxRecDepth 100000 in
set_option maxHeartbeats 4000000 in
theorem inquiry_Unmap.calls (K : Nat) (a0 : List T_api_Range) (A0_0 : Option Addr) (c0_0 : Nat) (r : ByteArray × Int) (w : World) (hr0_0 : Rd 2 w (.slice A0_0 a0.length c0_0) a0.length (encs T_api_Range.enc a0)) (h : inquiry_Unmap.f K a0 = some r) :
    Calls Try.prog 16 #[.slice A0_0 a0.length c0_0] w (fun e W' => e = .returned (.tuple #[.string r.1, .int .i64 r.2]) ∧ Wd w W' [] [] ) := by
  refine sxstart (n := 62) (l := [(0, .slice A0_0 a0.length c0_0)]) Try.func16 rfl rfl (Nat.le_of_ble_eq_true KR) (subsA_cons rfl (subsA_nil _)) ?_
  intro a ha
  have HW := Wd.refl w
  unfold inquiry_Unmap.f at h
  refine wp_seq_k (fun K1236 hK1237 => ?_)
  refine wp_region_lit ?_
  refine stepp ha 2 (.string (⟨#[]⟩ : ByteArray)) KR KR ?_; clear ha a; intro a ha
  refine stepp ha 3 (.int .i64 0) KR KR ?_; clear ha a; intro a ha
  refine endl ?_
  refine thenN (hK1237 _ _ ?_); clear hK1237
  refine wp_seq_k (fun K1238 hK1239 => ?_)
  refine wp_seq_k (fun K1240 hK1241 => ?_)
  refine wp_region_lit ?_
  refine stepp ha 8 (.slice A0_0 a0.length c0_0) KR KR ?_; clear ha a; intro a ha
  refine stepp ha 9 (.int .i64 (a0.length : Int)) KR KR ?_; clear ha a; intro a ha
  refine stepp ha 10 (.bool (decide ((a0.length : Int) > 16))) KR KR ?_; clear ha a; intro a ha
  refine endl ?_
  refine thenN (hK1241 _ _ ?_); clear hK1241
  by_cases hp1242 : (a0.length : Int) > 16
  · skip
    replace h := ite_pos' h hp1242
    refine condT ha KR KR (t := decide ((a0.length : Int) > 16)) (decide_eq_true hp1242) ?_
    refine wp_seq_k (fun K1243 hK1244 => ?_)
    refine wp_region_lit ?_
    refine stepp ha 2 (.string (⟨#[]⟩ : ByteArray)) KR KR ?_; clear ha a; intro a ha
    refine stepp ha 3 (.int .i64 180) KR KR ?_; clear ha a; intro a ha
    refine endl ?_
    refine thenN (hK1244 _ _ ?_); clear hK1244
    refine wp_ret ?_
    refine thenR ?_
    obtain rfl := Option.some.inj h
    exact finv ha _ _ rfl (.tmp (v := .string (⟨#[]⟩ : ByteArray)) KR (.tmp (v := .int .i64 180) KR .nil)) (.tuple #[.string (⟨#[]⟩ : ByteArray), .int .i64 180]) rfl ⟨rfl, HW.pick [] [] (by decide) (by decide) rfl KR⟩
  · skip
    replace h := ite_neg' h hp1242
    refine condF ha KR KR (t := decide ((a0.length : Int) > 16)) (decide_eq_false hp1242) ?_
    refine wp_skip ?_
    refine thenN (hK1239 _ _ ?_); clear hK1239
    refine wp_seq_k (fun K1245 hK1246 => ?_)
    refine wp_region_lit ?_
    refine stepp ha 11 (.slice A0_0 a0.length c0_0) KR KR ?_; clear ha a; intro a ha
    refine stepp ha 12 (.int .i64 (a0.length : Int)) KR KR ?_; clear ha a; intro a ha
    refine stepp ha 13 (.int .i64 (IntKind.wrap .i64 (16 * (a0.length : Int)))) KR KR ?_; clear ha a; intro a ha
    refine stepp ha 4 (.int .i64 (IntKind.wrap .i64 (16 * (a0.length : Int)))) KR KR ?_; clear ha a; intro a ha
    refine endl ?_
    refine thenN (hK1246 _ _ ?_); clear hK1246
    refine wp_seq_k (fun K1247 hK1248 => ?_)
    refine wp_region_lit ?_
    refine stepp ha 14 (.int .i64 (IntKind.wrap .i64 (16 * (a0.length : Int)))) KR KR ?_; clear ha a; intro a ha
    refine stepp ha 15 (.int .i64 (IntKind.wrap .i64 (6 + (IntKind.wrap .i64 (16 * (a0.length : Int)))))) KR KR ?_; clear ha a; intro a ha
    refine stepp ha 16 (.int .u64 (IntKind.wrap .u64 (IntKind.wrap .i64 (6 + (IntKind.wrap .i64 (16 * (a0.length : Int))))))) KR KR ?_; clear ha a; intro a ha
    obtain ⟨t1249, ht1250, h_⟩ := bind_some' h; clear h; have h := h_; clear h_
    refine stepc ha 17 KR KR (fields_PutBig.calls K (IntKind.wrap .u64 (IntKind.wrap .i64 (6 + (IntKind.wrap .i64 (16 * (a0.length : Int)))))) 2 t1249 _ ht1250) ?_; clear ha a; rintro e W1251 ⟨rfl, HX1252⟩
    refine ⟨_, rfl, ?_⟩; intro a ha; replace HW := HW.callw HX1252; clear HX1252
    refine stepp ha 18 (.int .i64 (IntKind.wrap .i64 (16 * (a0.length : Int)))) KR KR ?_; clear ha a; intro a ha
    refine stepp ha 19 (.int .u64 (IntKind.wrap .u64 (IntKind.wrap .i64 (16 * (a0.length : Int))))) KR KR ?_; clear ha a; intro a ha
    obtain ⟨t1253, ht1254, h_⟩ := bind_some' h; clear h; have h := h_; clear h_
    refine stepc ha 20 KR KR (fields_PutBig.calls K (IntKind.wrap .u64 (IntKind.wrap .i64 (16 * (a0.length : Int)))) 2 t1253 _ ht1254) ?_; clear ha a; rintro e W1255 ⟨rfl, HX1256⟩
    refine ⟨_, rfl, ?_⟩; intro a ha; replace HW := HW.callw HX1256; clear HX1256
    obtain ⟨hA1257, h_⟩ := asrt_some h; clear h; have h := h_; clear h_
    refine stepsa ha 21 9 9 (.tmp 17) (.tmp 20) t1249 t1253 rfl KR KR (show (t1249).size + (t1253).size ≤ 9223372036854775807 from hA1257) KR ?_; clear ha a; intro a ha
    obtain ⟨t1258, ht1259, h_⟩ := bind_some' h; clear h; have h := h_; clear h_
    refine stepc ha 22 KR KR (inquiry_words.calls K 0 t1258 _ ht1259) ?_; clear ha a; rintro e W1260 ⟨rfl, HX1261⟩
    refine ⟨_, rfl, ?_⟩; intro a ha; replace HW := HW.callw HX1261; clear HX1261
    obtain ⟨hA1262, h_⟩ := asrt_some h; clear h; have h := h_; clear h_
    refine stepsa ha 23 9 9 (.tmp 21) (.tmp 22) (t1249 ++ t1253) t1258 rfl KR KR (show (t1249 ++ t1253).size + (t1258).size ≤ 9223372036854775807 from hA1262) KR ?_; clear ha a; intro a ha
    refine stepp ha 5 (.string ((t1249 ++ t1253) ++ t1258)) KR KR ?_; clear ha a; intro a ha
    refine endl ?_
    refine thenN (hK1248 _ _ ?_); clear hK1248
    refine wp_seq_k (fun K1263 hK1264 => ?_)
    refine wp_seq_k (fun K1265 hK1266 => ?_)
    refine wp_region_lit ?_
    refine stepp ha 24 (.slice A0_0 a0.length c0_0) KR KR ?_; clear ha a; intro a ha
    refine stepp ha 25 (.int .i64 (a0.length : Int)) KR KR ?_; clear ha a; intro a ha
    refine stepp ha 26 (.int .i64 0) KR KR ?_; clear ha a; intro a ha
    refine endl ?_
    refine thenN (hK1266 _ _ ?_); clear hK1266
    refine wp_block ?_
    refine loopk (fun k => fun a W1370 => ∃ (x1368 : ByteArray), ∃ (x1369 : Int), inquiry_Unmap.l0 K a0 k x1368 x1369 = some r ∧ Has 62 [(5, .string x1368), (24, .slice A0_0 a0.length c0_0), (25, .int .i64 (a0.length : Int)), (26, .int .i64 x1369)] a ∧ Wd w W1370 [] []) K ?_ ?_
    · skip
      exact ⟨(t1249 ++ t1253) ++ t1258, 0, h, ha.sub (subs_cons KR (subs_cons KR (subs_cons KR (subs_cons KR (subs_nil _))))), HW.pick [] [] (by decide) (by decide) KR KR⟩
    · skip
      intro k a W1370 hI
      obtain ⟨x1368, x1369, h, ha, HW⟩ := hI
      cases k with
      | zero => exact (none_some (show none = some r from h)).elim
      | succ k1371 =>
        replace h : inquiry_Unmap.b0 K a0 (inquiry_Unmap.l0 K a0 k1371) x1368 x1369 = some r := h
        obtain ⟨again1367, hag1372⟩ : ∃ g_, g_ = inquiry_Unmap.l0 K a0 k1371 := ⟨_, rfl⟩
        rw [← hag1372] at h
        unfold inquiry_Unmap.b0 at h
        refine wp_seq_k (fun K1373 hK1374 => ?_)
        refine wp_region_lit ?_
        refine stepp ha 27 (.bool (decide (x1369 < (a0.length : Int)))) KR KR ?_; clear ha a; intro a ha
        refine endl ?_
        refine thenN (hK1374 _ _ ?_); clear hK1374
        refine wp_seq_k (fun K1375 hK1376 => ?_)
        by_cases hp1377 : x1369 < (a0.length : Int)
        · skip
          replace h := ite_pos' h hp1377
          refine condT ha KR KR (t := decide (x1369 < (a0.length : Int))) (decide_eq_true hp1377) ?_
          refine wp_skip ?_
          refine thenN (hK1376 _ _ ?_); clear hK1376
          refine wp_seq_k (fun K1378 hK1379 => ?_)
          refine wp_block ?_
          refine wp_seq_k (fun K1380 hK1381 => ?_)
          refine wp_region_lit ?_
          obtain ⟨hA1382, h_⟩ := asrt_some h; clear h; have h := h_; clear h_
          refine stepie T_api_Range.enc T_api_Range.z ha 28 (fun _ => rfl) (v := .slice A0_0 a0.length c0_0) (xs := a0) ((HW.rd0 hr0_0)) 34 53 (.tmp 24) (.tmp 26) .i64 x1369 rfl KR KR KR KR hA1382 (show (x1369 : Int) < ((a0).length : Int) from hp1377) KR ?_; clear ha a; intro b1383 off1384 a hC1385 ha
          refine stepl ha 29 hC1385 53 0 (.tmp 28) (.agg #[.int .i64 ((rdL T_api_Range.z a0 x1369).f0), .int .i64 ((rdL T_api_Range.z a0 x1369).f1)]) rfl KR KR KR ?_; clear ha a; intro a ha
          refine stepnew ha HW 7 #[.int .i64 0, .int .i64 0] 53 KR KR ?_; clear ha HW a; intro b1386 a W1387 HW ha
          refine stepst ha HW 0 (b := b1386) (C := #[.int .i64 0, .int .i64 0]) (T := 53) KR 53 0 (.tmp 7) (.tmp 29) (.agg #[.int .i64 ((rdL T_api_Range.z a0 x1369).f0), .int .i64 ((rdL T_api_Range.z a0 x1369).f1)]) #[.int .i64 ((rdL T_api_Range.z a0 x1369).f0), .int .i64 ((rdL T_api_Range.z a0 x1369).f1)] rfl KR KR KR KR KR KR KR ?_; clear ha HW a; intro a W1388 HW ha
          refine endl ?_
          refine thenN (hK1381 _ _ ?_); clear hK1381
          refine wp_seq_k (fun K1389 hK1390 => ?_)
          refine wp_seq_k (fun K1391 hK1392 => ?_)
          refine wp_region_lit ?_
          refine stepp ha 30 (.pointer (some ⟨b1386, 0, none⟩)) KR KR ?_; clear ha a; intro a ha
          refine stepl ha 31 (HW.ca (i := 0) (b := b1386) (C := #[.int .i64 ((rdL T_api_Range.z a0 x1369).f0), .int .i64 ((rdL T_api_Range.z a0 x1369).f1)]) (T := 53) (fr := (0, 0)) KR) 3 0 (.tmp 30) (.int .i64 ((rdL T_api_Range.z a0 x1369).f0)) rfl KR KR KR ?_; clear ha a; intro a ha
          refine stepp ha 32 (.bool (decide (((rdL T_api_Range.z a0 x1369).f0) < 0))) KR KR ?_; clear ha a; intro a ha
          refine stepp ha 33 (.bool (decide (((rdL T_api_Range.z a0 x1369).f0) < 0))) KR KR ?_; clear ha a; intro a ha
          by_cases hp1393 : ((rdL T_api_Range.z a0 x1369).f0) < 0
          · skip
            replace h := ite_pos' h hp1393
            replace ha := ha.bool 33 KR (decide_eq_true hp1393)
            refine stepo ha 34 KR ?_; clear ha a; intro a ha
            refine stepo ha 35 KR ?_; clear ha a; intro a ha
            refine stepo ha 36 KR ?_; clear ha a; intro a ha
            refine stepp ha 37 (.bool true) KR KR ?_; clear ha a; intro a ha
            refine stepp ha 38 (.bool true) KR KR ?_; clear ha a; intro a ha
            refine stepo ha 39 KR ?_; clear ha a; intro a ha
            refine stepo ha 40 KR ?_; clear ha a; intro a ha
            refine stepo ha 41 KR ?_; clear ha a; intro a ha
            refine stepp ha 42 (.bool true) KR KR ?_; clear ha a; intro a ha
            refine stepp ha 43 (.bool true) KR KR ?_; clear ha a; intro a ha
            refine stepo ha 44 KR ?_; clear ha a; intro a ha
            refine stepo ha 45 KR ?_; clear ha a; intro a ha
            refine stepo ha 46 KR ?_; clear ha a; intro a ha
            refine stepp ha 47 (.bool true) KR KR ?_; clear ha a; intro a ha
            refine endl ?_
            refine thenN (hK1392 _ _ ?_); clear hK1392
            refine condT ha KR KR (t := true) (rfl) ?_
            refine wp_seq_k (fun K1396 hK1397 => ?_)
            refine wp_region_lit ?_
            refine stepp ha 2 (.string (⟨#[]⟩ : ByteArray)) KR KR ?_; clear ha a; intro a ha
            refine stepp ha 3 (.int .i64 180) KR KR ?_; clear ha a; intro a ha
            refine endl ?_
            refine thenN (hK1397 _ _ ?_); clear hK1397
            refine wp_ret ?_
            refine thenR ?_
            refine blkR ?_
            refine thenR ?_
            refine thenR ?_
            refine blkR ?_
            refine thenR ?_
            obtain rfl := Option.some.inj h
            exact finv ha _ _ rfl (.tmp (v := .string (⟨#[]⟩ : ByteArray)) KR (.tmp (v := .int .i64 180) KR .nil)) (.tuple #[.string (⟨#[]⟩ : ByteArray), .int .i64 180]) rfl ⟨rfl, HW.pick [] [] (by decide) (by decide) rfl KR⟩
          · skip
            replace h := ite_neg' h hp1393
            replace ha := ha.bool 33 KR (decide_eq_false hp1393)
            refine stepp ha 34 (.pointer (some ⟨b1386, 0, none⟩)) KR KR ?_; clear ha a; intro a ha
            refine stepl ha 35 (HW.ca (i := 0) (b := b1386) (C := #[.int .i64 ((rdL T_api_Range.z a0 x1369).f0), .int .i64 ((rdL T_api_Range.z a0 x1369).f1)]) (T := 53) (fr := (0, 0)) KR) 3 0 (.tmp 34) (.int .i64 ((rdL T_api_Range.z a0 x1369).f0)) rfl KR KR KR ?_; clear ha a; intro a ha
            refine stepp ha 36 (.bool (decide (((rdL T_api_Range.z a0 x1369).f0) ≥ 2147483648))) KR KR ?_; clear ha a; intro a ha
            refine stepp ha 37 (.bool (decide (((rdL T_api_Range.z a0 x1369).f0) ≥ 2147483648))) KR KR ?_; clear ha a; intro a ha
            refine stepp ha 38 (.bool (decide (((rdL T_api_Range.z a0 x1369).f0) ≥ 2147483648))) KR KR ?_; clear ha a; intro a ha
            by_cases hp1394 : ((rdL T_api_Range.z a0 x1369).f0) ≥ 2147483648
            · skip
              replace h := ite_pos' h hp1394
              replace ha := ha.bool 38 KR (decide_eq_true hp1394)
              refine stepo ha 39 KR ?_; clear ha a; intro a ha
              refine stepo ha 40 KR ?_; clear ha a; intro a ha
              refine stepo ha 41 KR ?_; clear ha a; intro a ha
              refine stepp ha 42 (.bool true) KR KR ?_; clear ha a; intro a ha
              refine stepp ha 43 (.bool true) KR KR ?_; clear ha a; intro a ha
              refine stepo ha 44 KR ?_; clear ha a; intro a ha
              refine stepo ha 45 KR ?_; clear ha a; intro a ha
              refine stepo ha 46 KR ?_; clear ha a; intro a ha
              refine stepp ha 47 (.bool true) KR KR ?_; clear ha a; intro a ha
              refine endl ?_
              refine thenN (hK1392 _ _ ?_); clear hK1392
              refine condT ha KR KR (t := true) (rfl) ?_
              refine wp_seq_k (fun K1398 hK1399 => ?_)
              refine wp_region_lit ?_
              refine stepp ha 2 (.string (⟨#[]⟩ : ByteArray)) KR KR ?_; clear ha a; intro a ha
              refine stepp ha 3 (.int .i64 180) KR KR ?_; clear ha a; intro a ha
              refine endl ?_
              refine thenN (hK1399 _ _ ?_); clear hK1399
              refine wp_ret ?_
              refine thenR ?_
              refine blkR ?_
              refine thenR ?_
              refine thenR ?_
              refine blkR ?_
              refine thenR ?_
              obtain rfl := Option.some.inj h
              exact finv ha _ _ rfl (.tmp (v := .string (⟨#[]⟩ : ByteArray)) KR (.tmp (v := .int .i64 180) KR .nil)) (.tuple #[.string (⟨#[]⟩ : ByteArray), .int .i64 180]) rfl ⟨rfl, HW.pick [] [] (by decide) (by decide) rfl KR⟩
            · skip
              replace h := ite_neg' h hp1394
              replace ha := ha.bool 38 KR (decide_eq_false hp1394)
              refine stepp ha 39 (.pointer (some ⟨b1386, 1, none⟩)) KR KR ?_; clear ha a; intro a ha
              refine stepl ha 40 (HW.ca (i := 0) (b := b1386) (C := #[.int .i64 ((rdL T_api_Range.z a0 x1369).f0), .int .i64 ((rdL T_api_Range.z a0 x1369).f1)]) (T := 53) (fr := (0, 0)) KR) 3 1 (.tmp 39) (.int .i64 ((rdL T_api_Range.z a0 x1369).f1)) rfl KR KR KR ?_; clear ha a; intro a ha
              refine stepp ha 41 (.bool (decide (((rdL T_api_Range.z a0 x1369).f1) < 0))) KR KR ?_; clear ha a; intro a ha
              refine stepp ha 42 (.bool (decide (((rdL T_api_Range.z a0 x1369).f1) < 0))) KR KR ?_; clear ha a; intro a ha
              refine stepp ha 43 (.bool (decide (((rdL T_api_Range.z a0 x1369).f1) < 0))) KR KR ?_; clear ha a; intro a ha
              by_cases hp1395 : ((rdL T_api_Range.z a0 x1369).f1) < 0
              · skip
                replace h := ite_pos' h hp1395
                replace ha := ha.bool 43 KR (decide_eq_true hp1395)
                refine stepo ha 44 KR ?_; clear ha a; intro a ha
                refine stepo ha 45 KR ?_; clear ha a; intro a ha
                refine stepo ha 46 KR ?_; clear ha a; intro a ha
                refine stepp ha 47 (.bool true) KR KR ?_; clear ha a; intro a ha
                refine endl ?_
                refine thenN (hK1392 _ _ ?_); clear hK1392
                refine condT ha KR KR (t := true) (rfl) ?_
                refine wp_seq_k (fun K1400 hK1401 => ?_)
                refine wp_region_lit ?_
                refine stepp ha 2 (.string (⟨#[]⟩ : ByteArray)) KR KR ?_; clear ha a; intro a ha
                refine stepp ha 3 (.int .i64 180) KR KR ?_; clear ha a; intro a ha
                refine endl ?_
                refine thenN (hK1401 _ _ ?_); clear hK1401
                refine wp_ret ?_
                refine thenR ?_
                refine blkR ?_
                refine thenR ?_
                refine thenR ?_
                refine blkR ?_
                refine thenR ?_
                obtain rfl := Option.some.inj h
                exact finv ha _ _ rfl (.tmp (v := .string (⟨#[]⟩ : ByteArray)) KR (.tmp (v := .int .i64 180) KR .nil)) (.tuple #[.string (⟨#[]⟩ : ByteArray), .int .i64 180]) rfl ⟨rfl, HW.pick [] [] (by decide) (by decide) rfl KR⟩
              · skip
                replace h := ite_neg' h hp1395
                replace ha := ha.bool 43 KR (decide_eq_false hp1395)
                refine stepp ha 44 (.pointer (some ⟨b1386, 1, none⟩)) KR KR ?_; clear ha a; intro a ha
                refine stepl ha 45 (HW.ca (i := 0) (b := b1386) (C := #[.int .i64 ((rdL T_api_Range.z a0 x1369).f0), .int .i64 ((rdL T_api_Range.z a0 x1369).f1)]) (T := 53) (fr := (0, 0)) KR) 3 1 (.tmp 44) (.int .i64 ((rdL T_api_Range.z a0 x1369).f1)) rfl KR KR KR ?_; clear ha a; intro a ha
                refine stepp ha 46 (.bool (decide (((rdL T_api_Range.z a0 x1369).f1) ≥ 4294967296))) KR KR ?_; clear ha a; intro a ha
                refine stepp ha 47 (.bool (decide (((rdL T_api_Range.z a0 x1369).f1) ≥ 4294967296))) KR KR ?_; clear ha a; intro a ha
                refine endl ?_
                refine thenN (hK1392 _ _ ?_); clear hK1392
                by_cases hp1402 : ((rdL T_api_Range.z a0 x1369).f1) ≥ 4294967296
                · skip
                  replace h := ite_pos' h hp1402
                  refine condT ha KR KR (t := decide (((rdL T_api_Range.z a0 x1369).f1) ≥ 4294967296)) (decide_eq_true hp1402) ?_
                  refine wp_seq_k (fun K1403 hK1404 => ?_)
                  refine wp_region_lit ?_
                  refine stepp ha 2 (.string (⟨#[]⟩ : ByteArray)) KR KR ?_; clear ha a; intro a ha
                  refine stepp ha 3 (.int .i64 180) KR KR ?_; clear ha a; intro a ha
                  refine endl ?_
                  refine thenN (hK1404 _ _ ?_); clear hK1404
                  refine wp_ret ?_
                  refine thenR ?_
                  refine blkR ?_
                  refine thenR ?_
                  refine thenR ?_
                  refine blkR ?_
                  refine thenR ?_
                  obtain rfl := Option.some.inj h
                  exact finv ha _ _ rfl (.tmp (v := .string (⟨#[]⟩ : ByteArray)) KR (.tmp (v := .int .i64 180) KR .nil)) (.tuple #[.string (⟨#[]⟩ : ByteArray), .int .i64 180]) rfl ⟨rfl, HW.pick [] [] (by decide) (by decide) rfl KR⟩
                · skip
                  replace h := ite_neg' h hp1402
                  refine condF ha KR KR (t := decide (((rdL T_api_Range.z a0 x1369).f1) ≥ 4294967296)) (decide_eq_false hp1402) ?_
                  refine wp_skip ?_
                  refine thenN (hK1390 _ _ ?_); clear hK1390
                  obtain ⟨t1405, ht1406, h_⟩ := bind_some' h; clear h; have h := h_; clear h_
                  obtain ⟨t1409, ht1410, h_⟩ := bind_some' h; clear h; have h := h_; clear h_
                  obtain ⟨hA1413, h_⟩ := asrt_some h; clear h; have h := h_; clear h_
                  obtain ⟨t1414, ht1415, h_⟩ := bind_some' h; clear h; have h := h_; clear h_
                  obtain ⟨hA1418, h_⟩ := asrt_some h; clear h; have h := h_; clear h_
                  obtain ⟨hA1419, h_⟩ := asrt_some h; clear h; have h := h_; clear h_
                  refine regionG 12 KR KR ha HW [.fix (.string x1368), .fix (.pointer (some ⟨b1386, 0, none⟩)), .fix (.int .i64 ((rdL T_api_Range.z a0 x1369).f0)), .fix (.int .u64 (IntKind.wrap .u64 ((rdL T_api_Range.z a0 x1369).f0))), .fix (.string t1405), .fix (.pointer (some ⟨b1386, 1, none⟩)), .fix (.int .i64 ((rdL T_api_Range.z a0 x1369).f1)), .fix (.string t1409), .fix (.string (t1405 ++ t1409)), .fix (.string t1414), .fix (.string ((t1405 ++ t1409) ++ t1414)), .fix (.string (x1368 ++ ((t1405 ++ t1409) ++ t1414)))] ?_ ?_
                  · skip
                    refine ⟨?_, ?_, ?_, ?_, ?_, ?_, ?_, ?_, ?_, ?_, ?_, ?_, trivial⟩
                    · skip
                      intro a wr hn hd HW hs; have ha := hasNil hn hd
                      have ha := ha.add (seeE hs 5 (.string x1368) KR KR)
                      refine yStep ha 48 KR ?_; intro l_ ha HK
                      refine stepp ha 48 (.string x1368) KR KR ?_; intro ax hax; exact HK _ _ _ hax rfl (Below.refl _ _)
                    · skip
                      intro a wr hn hd HW hs; have ha := hasNil hn hd
                      have ha := ha.add (seeE hs 7 (.pointer (some ⟨b1386, 0, none⟩)) KR KR)
                      refine yStep ha 49 KR ?_; intro l_ ha HK
                      refine stepp ha 49 (.pointer (some ⟨b1386, 0, none⟩)) KR KR ?_; intro ax hax; exact HK _ _ _ hax rfl (Below.refl _ _)
                    · skip
                      intro a wr hn hd HW hs; have ha := hasNil hn hd
                      have ha := ha.add (seeF hs 49 1 (.pointer (some ⟨b1386, 0, none⟩)) KR KR)
                      refine yStep ha 50 KR ?_; intro l_ ha HK
                      refine stepl ha 50 (HW.ca (i := 0) (b := b1386) (C := #[.int .i64 ((rdL T_api_Range.z a0 x1369).f0), .int .i64 ((rdL T_api_Range.z a0 x1369).f1)]) (T := 53) (fr := (0, 0)) KR) 3 0 (.tmp 49) (.int .i64 ((rdL T_api_Range.z a0 x1369).f0)) rfl KR KR KR ?_; intro ax hax; exact HK _ _ _ hax rfl (Below.refl _ _)
                    · skip
                      intro a wr hn hd HW hs; have ha := hasNil hn hd
                      have ha := ha.add (seeF hs 50 2 (.int .i64 ((rdL T_api_Range.z a0 x1369).f0)) KR KR)
                      refine yStep ha 51 KR ?_; intro l_ ha HK
                      refine stepp ha 51 (.int .u64 (IntKind.wrap .u64 ((rdL T_api_Range.z a0 x1369).f0))) KR KR ?_; intro ax hax; exact HK _ _ _ hax rfl (Below.refl _ _)
                    · skip
                      intro a wr hn hd HW hs; have ha := hasNil hn hd
                      have ha := ha.add (seeF hs 51 3 (.int .u64 (IntKind.wrap .u64 ((rdL T_api_Range.z a0 x1369).f0))) KR KR)
                      refine yStep ha 52 KR ?_; intro l_ ha HK
                      refine stepc ha 52 KR KR (fields_PutBig.calls K (IntKind.wrap .u64 ((rdL T_api_Range.z a0 x1369).f0)) 8 t1405 _ ht1406) ?_; rintro e W1407 ⟨rfl, HX1408⟩
                      refine ⟨_, rfl, ?_⟩; intro ax hax; exact HK _ _ _ hax rfl HX1408.below
                    · skip
                      intro a wr hn hd HW hs; have ha := hasNil hn hd
                      have ha := ha.add (seeE hs 7 (.pointer (some ⟨b1386, 0, none⟩)) KR KR)
                      refine yStep ha 53 KR ?_; intro l_ ha HK
                      refine stepp ha 53 (.pointer (some ⟨b1386, 1, none⟩)) KR KR ?_; intro ax hax; exact HK _ _ _ hax rfl (Below.refl _ _)
                    · skip
                      intro a wr hn hd HW hs; have ha := hasNil hn hd
                      have ha := ha.add (seeF hs 53 5 (.pointer (some ⟨b1386, 1, none⟩)) KR KR)
                      refine yStep ha 54 KR ?_; intro l_ ha HK
                      refine stepl ha 54 (HW.ca (i := 0) (b := b1386) (C := #[.int .i64 ((rdL T_api_Range.z a0 x1369).f0), .int .i64 ((rdL T_api_Range.z a0 x1369).f1)]) (T := 53) (fr := (0, 0)) KR) 3 1 (.tmp 53) (.int .i64 ((rdL T_api_Range.z a0 x1369).f1)) rfl KR KR KR ?_; intro ax hax; exact HK _ _ _ hax rfl (Below.refl _ _)
                    · skip
                      intro a wr hn hd HW hs; have ha := hasNil hn hd
                      have ha := ha.add (seeF hs 54 6 (.int .i64 ((rdL T_api_Range.z a0 x1369).f1)) KR KR)
                      refine yStep ha 55 KR ?_; intro l_ ha HK
                      refine stepc ha 55 KR KR (inquiry_words.calls K ((rdL T_api_Range.z a0 x1369).f1) t1409 _ ht1410) ?_; rintro e W1411 ⟨rfl, HX1412⟩
                      refine ⟨_, rfl, ?_⟩; intro ax hax; exact HK _ _ _ hax rfl HX1412.below
                    · skip
                      intro a wr hn hd HW hs; have ha := hasNil hn hd
                      have ha := ha.add (seeF hs 52 4 (.string t1405) KR KR)
                      have ha := ha.add (seeF hs 55 7 (.string t1409) KR KR)
                      refine yStep ha 56 KR ?_; intro l_ ha HK
                      refine stepsa ha 56 9 9 (.tmp 52) (.tmp 55) t1405 t1409 rfl KR KR (show (t1405).size + (t1409).size ≤ 9223372036854775807 from hA1413) KR ?_; intro ax hax; exact HK _ _ _ hax rfl (Below.refl _ _)
                    · skip
                      intro a wr hn hd HW hs; have ha := hasNil hn hd
                      refine yStep ha 57 KR ?_; intro l_ ha HK
                      refine stepc ha 57 KR KR (inquiry_words.calls K 0 t1414 _ ht1415) ?_; rintro e W1416 ⟨rfl, HX1417⟩
                      refine ⟨_, rfl, ?_⟩; intro ax hax; exact HK _ _ _ hax rfl HX1417.below
                    · skip
                      intro a wr hn hd HW hs; have ha := hasNil hn hd
                      have ha := ha.add (seeF hs 56 8 (.string (t1405 ++ t1409)) KR KR)
                      have ha := ha.add (seeF hs 57 9 (.string t1414) KR KR)
                      refine yStep ha 58 KR ?_; intro l_ ha HK
                      refine stepsa ha 58 9 9 (.tmp 56) (.tmp 57) (t1405 ++ t1409) t1414 rfl KR KR (show (t1405 ++ t1409).size + (t1414).size ≤ 9223372036854775807 from hA1418) KR ?_; intro ax hax; exact HK _ _ _ hax rfl (Below.refl _ _)
                    · skip
                      intro a wr hn hd HW hs; have ha := hasNil hn hd
                      have ha := ha.add (seeF hs 48 0 (.string x1368) KR KR)
                      have ha := ha.add (seeF hs 58 10 (.string ((t1405 ++ t1409) ++ t1414)) KR KR)
                      refine yStep ha 59 KR ?_; intro l_ ha HK
                      refine stepsa ha 59 9 9 (.tmp 48) (.tmp 58) x1368 ((t1405 ++ t1409) ++ t1414) rfl KR KR (show (x1368).size + ((t1405 ++ t1409) ++ t1414).size ≤ 9223372036854775807 from hA1419) KR ?_; intro ax hax; exact HK _ _ _ hax rfl (Below.refl _ _)
                  · skip
                    intro a W1420 ha HW he hf
                    replace ha := ha.add (he 24 (.slice A0_0 a0.length c0_0) KR KR)
                    replace ha := ha.add (he 25 (.int .i64 (a0.length : Int)) KR KR)
                    replace ha := ha.add (he 26 (.int .i64 x1369) KR KR)
                    replace ha := ha.add (he 34 (.pointer (some ⟨b1386, 0, none⟩)) KR KR)
                    replace ha := ha.add (he 35 (.int .i64 ((rdL T_api_Range.z a0 x1369).f0)) KR KR)
                    replace ha := ha.add (he 36 (.bool (decide (((rdL T_api_Range.z a0 x1369).f0) ≥ 2147483648))) KR KR)
                    replace ha := ha.add (he 39 (.pointer (some ⟨b1386, 1, none⟩)) KR KR)
                    replace ha := ha.add (he 40 (.int .i64 ((rdL T_api_Range.z a0 x1369).f1)) KR KR)
                    replace ha := ha.add (he 41 (.bool (decide (((rdL T_api_Range.z a0 x1369).f1) < 0))) KR KR)
                    replace ha := ha.add (he 44 (.pointer (some ⟨b1386, 1, none⟩)) KR KR)
                    replace ha := ha.add (he 45 (.int .i64 ((rdL T_api_Range.z a0 x1369).f1)) KR KR)
                    replace ha := ha.add (he 46 (.bool (decide (((rdL T_api_Range.z a0 x1369).f1) ≥ 4294967296))) KR KR)
                    replace ha := ha.add (gotF (m := 12) (j := 11) (d := 59) (v := .string (x1368 ++ ((t1405 ++ t1409) ++ t1414))) hf KR KR KR)
                    clear he hf
                    refine stepp ha 5 (.string (x1368 ++ ((t1405 ++ t1409) ++ t1414))) KR KR ?_; clear ha a; intro a ha
                    refine endl ?_
                    refine blkN ?_
                    refine thenN (hK1379 _ _ ?_); clear hK1379
                    refine wp_region_lit ?_
                    refine stepp ha 60 (.int .i64 (IntKind.wrap .i64 (x1369 + 1))) KR KR ?_; clear ha a; intro a ha
                    refine stepp ha 26 (.int .i64 (IntKind.wrap .i64 (x1369 + 1))) KR KR ?_; clear ha a; intro a ha
                    refine endl ?_
                    exact thenN ⟨k1371, Nat.lt_succ_self k1371, x1368 ++ ((t1405 ++ t1409) ++ t1414), IntKind.wrap .i64 (x1369 + 1), (by rw [← hag1372]; exact h), ha.sub (subs_cons KR (subs_cons KR (subs_cons KR (subs_cons KR (subs_nil _))))), HW.pick [] [] (by decide) (by decide) KR KR⟩
        · skip
          replace h := ite_neg' h hp1377
          refine condF ha KR KR (t := decide (x1369 < (a0.length : Int))) (decide_eq_false hp1377) ?_
          refine wp_exit ?_
          refine thenE ?_
          refine thenE ?_
          refine inBlk ?_
          refine thenN (hK1264 _ _ ?_); clear hK1264
          refine wp_seq_k (fun K1421 hK1422 => ?_)
          refine wp_region_lit ?_
          refine stepp ha 61 (.string x1368) KR KR ?_; clear ha a; intro a ha
          refine stepp ha 2 (.string x1368) KR KR ?_; clear ha a; intro a ha
          refine stepp ha 3 (.int .i64 0) KR KR ?_; clear ha a; intro a ha
          refine endl ?_
          refine thenN (hK1422 _ _ ?_); clear hK1422
          refine wp_ret ?_
          obtain rfl := Option.some.inj h
          exact finv ha _ _ rfl (.tmp (v := .string x1368) KR (.tmp (v := .int .i64 0) KR .nil)) (.tuple #[.string x1368, .int .i64 0]) rfl ⟨rfl, HW.pick [] [] (by decide) (by decide) rfl KR⟩
/-! ### headgate/fields.get[uint64]: function 35 -/
def fields_get_uint64.b0 (K : Nat) (a0 : ByteArray) (a1 : Int) (t1659 : List Int) (again1702 : Int → Int → Option (Int × Bool)) (x1703 : Int) (x1704 : Int) : Option (Int × Bool) :=
  if x1704 < (t1659.length : Int) then (asrt (0 ≤ x1704) (asrt (0 ≤ (IntKind.wrap .i64 (a1 + x1704))) (asrt ((IntKind.wrap .i64 (a1 + x1704)) < (a0.size : Int)) (asrt (0 ≤ (rdL (0 : Int) t1659 x1704)) (again1702 (bor .u64 x1703 (sshl .u64 (IntKind.wrap .u64 (bt a0 (IntKind.wrap .i64 (a1 + x1704)))) (rdL (0 : Int) t1659 x1704))) (IntKind.wrap .i64 (x1704 + 1))))))) else (some (x1703, true))
def fields_get_uint64.l0 (K : Nat) (a0 : ByteArray) (a1 : Int) (t1659 : List Int) : Nat → Int → Int → Option (Int × Bool)
  | 0, _, _ => none
  | k_ + 1, x1703, x1704 => fields_get_uint64.b0 K a0 a1 t1659 (fields_get_uint64.l0 K a0 a1 t1659 k_) x1703 x1704
def fields_get_uint64.f (K : Nat) (a0 : ByteArray) (a1 : Int) (a2 : Int) (a3 : Bool) : Option (Int × Bool) :=
  if a2 < 1 then (some (0, false)) else (if a2 > 8 then (some (0, false)) else (if a1 < 0 then (some (0, false)) else (if a1 > (IntKind.wrap .i64 ((a0.size : Int) - a2)) then (some (0, false)) else ((fields_shifts.f K a2 a3).bind fun t1659 => (fields_get_uint64.l0 K a0 a1 t1659 K 0 0)))))
set_option maxRecDepth 100000 in
set_option maxHeartbeats 4000000 in
theorem fields_get_uint64.calls (K : Nat) (a0 : ByteArray) (a1 : Int) (a2 : Int) (a3 : Bool)  (r : Int × Bool) (w : World)  (h : fields_get_uint64.f K a0 a1 a2 a3 = some r) :
    Calls Try.prog 35 #[.string a0, .int .i64 a1, .int .i64 a2, .bool a3] w (fun e W' => e = .returned (.tuple #[.int .u64 r.1, .bool r.2]) ∧ Wd w W' [] [] ) := by
  refine sxstart (n := 52) (l := [(0, .string a0), (1, .int .i64 a1), (2, .int .i64 a2), (3, .bool a3)]) Try.func35 rfl rfl (Nat.le_of_ble_eq_true KR) (subsA_cons rfl (subsA_cons rfl (subsA_cons rfl (subsA_cons rfl (subsA_nil _))))) ?_
  intro a ha
  have HW := Wd.refl w
  unfold fields_get_uint64.f at h
  refine wp_seq_k (fun K1635 hK1636 => ?_)
  refine wp_region_lit ?_
  refine stepp ha 8 (.int .u64 0) KR KR ?_; clear ha a; intro a ha
  refine stepp ha 9 (.bool false) KR KR ?_; clear ha a; intro a ha
  refine endl ?_
  refine thenN (hK1636 _ _ ?_); clear hK1636
  refine wp_seq_k (fun K1637 hK1638 => ?_)
  refine wp_seq_k (fun K1639 hK1640 => ?_)
  refine wp_region_lit ?_
  refine stepp ha 13 (.int .i64 a2) KR KR ?_; clear ha a; intro a ha
  refine stepp ha 14 (.bool (decide (a2 < 1))) KR KR ?_; clear ha a; intro a ha
  refine stepp ha 15 (.bool (decide (a2 < 1))) KR KR ?_; clear ha a; intro a ha
  by_cases hp1641 : a2 < 1
  · skip
    replace h := ite_pos' h hp1641
    replace ha := ha.bool 15 KR (decide_eq_true hp1641)
    refine stepo ha 16 KR ?_; clear ha a; intro a ha
    refine stepo ha 17 KR ?_; clear ha a; intro a ha
    refine stepp ha 18 (.bool true) KR KR ?_; clear ha a; intro a ha
    refine stepp ha 19 (.bool true) KR KR ?_; clear ha a; intro a ha
    refine stepo ha 20 KR ?_; clear ha a; intro a ha
    refine stepo ha 21 KR ?_; clear ha a; intro a ha
    refine stepp ha 22 (.bool true) KR KR ?_; clear ha a; intro a ha
    refine stepp ha 23 (.bool true) KR KR ?_; clear ha a; intro a ha
    refine stepo ha 24 KR ?_; clear ha a; intro a ha
    refine stepo ha 25 KR ?_; clear ha a; intro a ha
    refine stepo ha 26 KR ?_; clear ha a; intro a ha
    refine stepo ha 27 KR ?_; clear ha a; intro a ha
    refine stepo ha 28 KR ?_; clear ha a; intro a ha
    refine stepo ha 29 KR ?_; clear ha a; intro a ha
    refine stepp ha 30 (.bool true) KR KR ?_; clear ha a; intro a ha
    refine endl ?_
    refine thenN (hK1640 _ _ ?_); clear hK1640
    refine condT ha KR KR (t := true) (rfl) ?_
    refine wp_seq_k (fun K1644 hK1645 => ?_)
    refine wp_region_lit ?_
    refine stepp ha 8 (.int .u64 0) KR KR ?_; clear ha a; intro a ha
    refine stepp ha 9 (.bool false) KR KR ?_; clear ha a; intro a ha
    refine endl ?_
    refine thenN (hK1645 _ _ ?_); clear hK1645
    refine wp_ret ?_
    refine thenR ?_
    obtain rfl := Option.some.inj h
    exact finv ha _ _ rfl (.tmp (v := .int .u64 0) KR (.tmp (v := .bool false) KR .nil)) (.tuple #[.int .u64 0, .bool false]) rfl ⟨rfl, HW.pick [] [] (by decide) (by decide) rfl KR⟩
  · skip
    replace h := ite_neg' h hp1641
    replace ha := ha.bool 15 KR (decide_eq_false hp1641)
    refine stepp ha 16 (.int .i64 a2) KR KR ?_; clear ha a; intro a ha
    refine stepp ha 17 (.bool (decide (a2 > 8))) KR KR ?_; clear ha a; intro a ha
    refine stepp ha 18 (.bool (decide (a2 > 8))) KR KR ?_; clear ha a; intro a ha
    refine stepp ha 19 (.bool (decide (a2 > 8))) KR KR ?_; clear ha a; intro a ha
    by_cases hp1642 : a2 > 8
    · skip
      replace h := ite_pos' h hp1642
      replace ha := ha.bool 19 KR (decide_eq_true hp1642)
      refine stepo ha 20 KR ?_; clear ha a; intro a ha
      refine stepo ha 21 KR ?_; clear ha a; intro a ha
      refine stepp ha 22 (.bool true) KR KR ?_; clear ha a; intro a ha
      refine stepp ha 23 (.bool true) KR KR ?_; clear ha a; intro a ha
      refine stepo ha 24 KR ?_; clear ha a; intro a ha
      refine stepo ha 25 KR ?_; clear ha a; intro a ha
      refine stepo ha 26 KR ?_; clear ha a; intro a ha
      refine stepo ha 27 KR ?_; clear ha a; intro a ha
      refine stepo ha 28 KR ?_; clear ha a; intro a ha
      refine stepo ha 29 KR ?_; clear ha a; intro a ha
      refine stepp ha 30 (.bool true) KR KR ?_; clear ha a; intro a ha
      refine endl ?_
      refine thenN (hK1640 _ _ ?_); clear hK1640
      refine condT ha KR KR (t := true) (rfl) ?_
      refine wp_seq_k (fun K1646 hK1647 => ?_)
      refine wp_region_lit ?_
      refine stepp ha 8 (.int .u64 0) KR KR ?_; clear ha a; intro a ha
      refine stepp ha 9 (.bool false) KR KR ?_; clear ha a; intro a ha
      refine endl ?_
      refine thenN (hK1647 _ _ ?_); clear hK1647
      refine wp_ret ?_
      refine thenR ?_
      obtain rfl := Option.some.inj h
      exact finv ha _ _ rfl (.tmp (v := .int .u64 0) KR (.tmp (v := .bool false) KR .nil)) (.tuple #[.int .u64 0, .bool false]) rfl ⟨rfl, HW.pick [] [] (by decide) (by decide) rfl KR⟩
    · skip
      replace h := ite_neg' h hp1642
      replace ha := ha.bool 19 KR (decide_eq_false hp1642)
      refine stepp ha 20 (.int .i64 a1) KR KR ?_; clear ha a; intro a ha
      refine stepp ha 21 (.bool (decide (a1 < 0))) KR KR ?_; clear ha a; intro a ha
      refine stepp ha 22 (.bool (decide (a1 < 0))) KR KR ?_; clear ha a; intro a ha
      refine stepp ha 23 (.bool (decide (a1 < 0))) KR KR ?_; clear ha a; intro a ha
      by_cases hp1643 : a1 < 0
      · skip
        replace h := ite_pos' h hp1643
        replace ha := ha.bool 23 KR (decide_eq_true hp1643)
        refine stepo ha 24 KR ?_; clear ha a; intro a ha
        refine stepo ha 25 KR ?_; clear ha a; intro a ha
        refine stepo ha 26 KR ?_; clear ha a; intro a ha
        refine stepo ha 27 KR ?_; clear ha a; intro a ha
        refine stepo ha 28 KR ?_; clear ha a; intro a ha
        refine stepo ha 29 KR ?_; clear ha a; intro a ha
        refine stepp ha 30 (.bool true) KR KR ?_; clear ha a; intro a ha
        refine endl ?_
        refine thenN (hK1640 _ _ ?_); clear hK1640
        refine condT ha KR KR (t := true) (rfl) ?_
        refine wp_seq_k (fun K1648 hK1649 => ?_)
        refine wp_region_lit ?_
        refine stepp ha 8 (.int .u64 0) KR KR ?_; clear ha a; intro a ha
        refine stepp ha 9 (.bool false) KR KR ?_; clear ha a; intro a ha
        refine endl ?_
        refine thenN (hK1649 _ _ ?_); clear hK1649
        refine wp_ret ?_
        refine thenR ?_
        obtain rfl := Option.some.inj h
        exact finv ha _ _ rfl (.tmp (v := .int .u64 0) KR (.tmp (v := .bool false) KR .nil)) (.tuple #[.int .u64 0, .bool false]) rfl ⟨rfl, HW.pick [] [] (by decide) (by decide) rfl KR⟩
      · skip
        replace h := ite_neg' h hp1643
        replace ha := ha.bool 23 KR (decide_eq_false hp1643)
        refine stepp ha 24 (.int .i64 a1) KR KR ?_; clear ha a; intro a ha
        refine stepp ha 25 (.string a0) KR KR ?_; clear ha a; intro a ha
        refine stepp ha 26 (.int .i64 (a0.size : Int)) KR KR ?_; clear ha a; intro a ha
        refine stepp ha 27 (.int .i64 a2) KR KR ?_; clear ha a; intro a ha
        refine stepp ha 28 (.int .i64 (IntKind.wrap .i64 ((a0.size : Int) - a2))) KR KR ?_; clear ha a; intro a ha
        refine stepp ha 29 (.bool (decide (a1 > (IntKind.wrap .i64 ((a0.size : Int) - a2))))) KR KR ?_; clear ha a; intro a ha
        refine stepp ha 30 (.bool (decide (a1 > (IntKind.wrap .i64 ((a0.size : Int) - a2))))) KR KR ?_; clear ha a; intro a ha
        refine endl ?_
        refine thenN (hK1640 _ _ ?_); clear hK1640
        by_cases hp1650 : a1 > (IntKind.wrap .i64 ((a0.size : Int) - a2))
        · skip
          replace h := ite_pos' h hp1650
          refine condT ha KR KR (t := decide (a1 > (IntKind.wrap .i64 ((a0.size : Int) - a2)))) (decide_eq_true hp1650) ?_
          refine wp_seq_k (fun K1651 hK1652 => ?_)
          refine wp_region_lit ?_
          refine stepp ha 8 (.int .u64 0) KR KR ?_; clear ha a; intro a ha
          refine stepp ha 9 (.bool false) KR KR ?_; clear ha a; intro a ha
          refine endl ?_
          refine thenN (hK1652 _ _ ?_); clear hK1652
          refine wp_ret ?_
          refine thenR ?_
          obtain rfl := Option.some.inj h
          exact finv ha _ _ rfl (.tmp (v := .int .u64 0) KR (.tmp (v := .bool false) KR .nil)) (.tuple #[.int .u64 0, .bool false]) rfl ⟨rfl, HW.pick [] [] (by decide) (by decide) rfl KR⟩
        · skip
          replace h := ite_neg' h hp1650
          refine condF ha KR KR (t := decide (a1 > (IntKind.wrap .i64 ((a0.size : Int) - a2)))) (decide_eq_false hp1650) ?_
          refine wp_skip ?_
          refine thenN (hK1638 _ _ ?_); clear hK1638
          refine wp_seq_k (fun K1653 hK1654 => ?_)
          refine wp_region_lit ?_
          refine stepp ha 10 (.int .u64 0) KR KR ?_; clear ha a; intro a ha
          refine endl ?_
          refine thenN (hK1654 _ _ ?_); clear hK1654
          refine wp_seq_k (fun K1655 hK1656 => ?_)
          refine wp_seq_k (fun K1657 hK1658 => ?_)
          refine wp_region_lit ?_
          refine stepp ha 31 (.int .i64 a2) KR KR ?_; clear ha a; intro a ha
          refine stepp ha 32 (.bool a3) KR KR ?_; clear ha a; intro a ha
          obtain ⟨t1659, ht1660, h_⟩ := bind_some' h; clear h; have h := h_; clear h_
          refine stepc ha 33 KR KR (fields_shifts.calls K a2 a3 t1659 _ ht1660) ?_; clear ha a; rintro e W1664 ⟨A1661, c1662, rfl, HX1665⟩
          refine ⟨_, rfl, ?_⟩; intro a ha; replace HW := HW.callw HX1665; clear HX1665
          refine stepp ha 34 (.int .i64 (t1659.length : Int)) KR KR ?_; clear ha a; intro a ha
          refine stepp ha 35 (.int .i64 0) KR KR ?_; clear ha a; intro a ha
          refine endl ?_
          refine thenN (hK1658 _ _ ?_); clear hK1658
          refine wp_block ?_
          refine loopk (fun k => fun a W1705 => ∃ (x1703 : Int), ∃ (x1704 : Int), fields_get_uint64.l0 K a0 a1 t1659 k x1703 x1704 = some r ∧ Has 52 [(0, .string a0), (1, .int .i64 a1), (10, .int .u64 x1703), (33, .slice A1661 t1659.length c1662), (34, .int .i64 (t1659.length : Int)), (35, .int .i64 x1704)] a ∧ Wd w W1705 [] [⟨3, 1, .slice A1661 t1659.length c1662, t1659.length, encs (encI .i64) t1659⟩]) K ?_ ?_
          · skip
            exact ⟨0, 0, h, ha.sub (subs_cons KR (subs_cons KR (subs_cons KR (subs_cons KR (subs_cons KR (subs_cons KR (subs_nil _))))))), HW.pick [] [0] (by decide) (by decide) KR KR⟩
          · skip
            intro k a W1705 hI
            obtain ⟨x1703, x1704, h, ha, HW⟩ := hI
            cases k with
            | zero => exact (none_some (show none = some r from h)).elim
            | succ k1706 =>
              replace h : fields_get_uint64.b0 K a0 a1 t1659 (fields_get_uint64.l0 K a0 a1 t1659 k1706) x1703 x1704 = some r := h
              obtain ⟨again1702, hag1707⟩ : ∃ g_, g_ = fields_get_uint64.l0 K a0 a1 t1659 k1706 := ⟨_, rfl⟩
              rw [← hag1707] at h
              unfold fields_get_uint64.b0 at h
              refine wp_seq_k (fun K1708 hK1709 => ?_)
              refine wp_region_lit ?_
              refine stepp ha 36 (.bool (decide (x1704 < (t1659.length : Int)))) KR KR ?_; clear ha a; intro a ha
              refine endl ?_
              refine thenN (hK1709 _ _ ?_); clear hK1709
              refine wp_seq_k (fun K1710 hK1711 => ?_)
              by_cases hp1712 : x1704 < (t1659.length : Int)
              · skip
                replace h := ite_pos' h hp1712
                refine condT ha KR KR (t := decide (x1704 < (t1659.length : Int))) (decide_eq_true hp1712) ?_
                refine wp_skip ?_
                refine thenN (hK1711 _ _ ?_); clear hK1711
                refine wp_seq_k (fun K1713 hK1714 => ?_)
                refine wp_block ?_
                refine wp_seq_k (fun K1715 hK1716 => ?_)
                refine wp_region_lit ?_
                refine stepp ha 37 (.int .i64 x1704) KR KR ?_; clear ha a; intro a ha
                obtain ⟨hA1717, h_⟩ := asrt_some h; clear h; have h := h_; clear h_
                refine stepie (encI .i64) (0 : Int) ha 38 (fun _ => rfl) (v := .slice A1661 t1659.length c1662) (xs := t1659) (HW.rdo (i := 0) (q := ⟨3, 1, .slice A1661 t1659.length c1662, t1659.length, encs (encI .i64) t1659⟩) KR) 78 3 (.tmp 33) (.tmp 35) .i64 x1704 rfl KR KR KR KR hA1717 (show (x1704 : Int) < ((t1659).length : Int) from hp1712) KR ?_; clear ha a; intro b1718 off1719 a hC1720 ha
                refine stepl ha 39 hC1720 3 0 (.tmp 38) (.int .i64 (rdL (0 : Int) t1659 x1704)) rfl KR KR KR ?_; clear ha a; intro a ha
                refine stepp ha 11 (.int .i64 x1704) KR KR ?_; clear ha a; intro a ha
                refine stepp ha 12 (.int .i64 (rdL (0 : Int) t1659 x1704)) KR KR ?_; clear ha a; intro a ha
                refine endl ?_
                refine thenN (hK1716 _ _ ?_); clear hK1716
                refine wp_region_lit ?_
                refine stepp ha 40 (.int .u64 x1703) KR KR ?_; clear ha a; intro a ha
                refine stepp ha 41 (.string a0) KR KR ?_; clear ha a; intro a ha
                refine stepp ha 42 (.int .i64 a1) KR KR ?_; clear ha a; intro a ha
                refine stepp ha 43 (.int .i64 x1704) KR KR ?_; clear ha a; intro a ha
                refine stepp ha 44 (.int .i64 (IntKind.wrap .i64 (a1 + x1704))) KR KR ?_; clear ha a; intro a ha
                obtain ⟨hA1721, h_⟩ := asrt_some h; clear h; have h := h_; clear h_
                obtain ⟨hA1722, h_⟩ := asrt_some h; clear h; have h := h_; clear h_
                refine stepsi ha 45 9 (.tmp 41) (.tmp 44) a0 .i64 (IntKind.wrap .i64 (a1 + x1704)) rfl KR KR KR hA1721 (show (IntKind.wrap .i64 (a1 + x1704) : Int) < ((a0).size : Int) from hA1722) KR ?_; clear ha a; intro a ha
                refine stepp ha 46 (.int .u64 (IntKind.wrap .u64 (bt a0 (IntKind.wrap .i64 (a1 + x1704))))) KR KR ?_; clear ha a; intro a ha
                refine stepp ha 47 (.int .i64 (rdL (0 : Int) t1659 x1704)) KR KR ?_; clear ha a; intro a ha
                obtain ⟨hA1723, h_⟩ := asrt_some h; clear h; have h := h_; clear h_
                refine stepshl ha 48 49 3 (.tmp 46) (.tmp 47) .u64 .i64 (IntKind.wrap .u64 (bt a0 (IntKind.wrap .i64 (a1 + x1704)))) (rdL (0 : Int) t1659 x1704) rfl KR KR hA1723 KR ?_; clear ha a; intro a ha
                refine stepp ha 49 (.int .u64 (bor .u64 x1703 (sshl .u64 (IntKind.wrap .u64 (bt a0 (IntKind.wrap .i64 (a1 + x1704)))) (rdL (0 : Int) t1659 x1704)))) KR KR ?_; clear ha a; intro a ha
                refine stepp ha 10 (.int .u64 (bor .u64 x1703 (sshl .u64 (IntKind.wrap .u64 (bt a0 (IntKind.wrap .i64 (a1 + x1704)))) (rdL (0 : Int) t1659 x1704)))) KR KR ?_; clear ha a; intro a ha
                refine endl ?_
                refine blkN ?_
                refine thenN (hK1714 _ _ ?_); clear hK1714
                refine wp_region_lit ?_
                refine stepp ha 50 (.int .i64 (IntKind.wrap .i64 (x1704 + 1))) KR KR ?_; clear ha a; intro a ha
                refine stepp ha 35 (.int .i64 (IntKind.wrap .i64 (x1704 + 1))) KR KR ?_; clear ha a; intro a ha
                refine endl ?_
                exact thenN ⟨k1706, Nat.lt_succ_self k1706, bor .u64 x1703 (sshl .u64 (IntKind.wrap .u64 (bt a0 (IntKind.wrap .i64 (a1 + x1704)))) (rdL (0 : Int) t1659 x1704)), IntKind.wrap .i64 (x1704 + 1), (by rw [← hag1707]; exact h), ha.sub (subs_cons KR (subs_cons KR (subs_cons KR (subs_cons KR (subs_cons KR (subs_cons KR (subs_nil _))))))), HW.pick [] [0] (by decide) (by decide) KR KR⟩
              · skip
                replace h := ite_neg' h hp1712
                refine condF ha KR KR (t := decide (x1704 < (t1659.length : Int))) (decide_eq_false hp1712) ?_
                refine wp_exit ?_
                refine thenE ?_
                refine thenE ?_
                refine inBlk ?_
                refine thenN (hK1656 _ _ ?_); clear hK1656
                refine wp_seq_k (fun K1724 hK1725 => ?_)
                refine wp_region_lit ?_
                refine stepp ha 51 (.int .u64 x1703) KR KR ?_; clear ha a; intro a ha
                refine stepp ha 8 (.int .u64 x1703) KR KR ?_; clear ha a; intro a ha
                refine stepp ha 9 (.bool true) KR KR ?_; clear ha a; intro a ha
                refine endl ?_
                refine thenN (hK1725 _ _ ?_); clear hK1725
                refine wp_ret ?_
                obtain rfl := Option.some.inj h
                exact finv ha _ _ rfl (.tmp (v := .int .u64 x1703) KR (.tmp (v := .bool true) KR .nil)) (.tuple #[.int .u64 x1703, .bool true]) rfl ⟨rfl, HW.pick [] [] (by decide) (by decide) rfl KR⟩
/-! ### headgate/fields.Big: function 29 -/
def fields_Big.f (K : Nat) (a0 : ByteArray) (a1 : Int) (a2 : Int) : Option (Int × Bool) :=
  (fields_get_uint64.f K a0 a1 a2 true).bind fun t1730 => (some (t1730.1, t1730.2))
set_option maxRecDepth 100000 in
set_option maxHeartbeats 4000000 in
theorem fields_Big.calls (K : Nat) (a0 : ByteArray) (a1 : Int) (a2 : Int)  (r : Int × Bool) (w : World)  (h : fields_Big.f K a0 a1 a2 = some r) :
    Calls Try.prog 29 #[.string a0, .int .i64 a1, .int .i64 a2] w (fun e W' => e = .returned (.tuple #[.int .u64 r.1, .bool r.2]) ∧ Wd w W' [] [] ) := by
  refine sxstart (n := 14) (l := [(0, .string a0), (1, .int .i64 a1), (2, .int .i64 a2)]) Try.func29 rfl rfl (Nat.le_of_ble_eq_true KR) (subsA_cons rfl (subsA_cons rfl (subsA_cons rfl (subsA_nil _)))) ?_
  intro a ha
  have HW := Wd.refl w
  unfold fields_Big.f at h
  refine wp_seq_k (fun K1726 hK1727 => ?_)
  refine wp_region_lit ?_
  refine stepp ha 6 (.int .u64 0) KR KR ?_; clear ha a; intro a ha
  refine stepp ha 7 (.bool false) KR KR ?_; clear ha a; intro a ha
  refine endl ?_
  refine thenN (hK1727 _ _ ?_); clear hK1727
  refine wp_seq_k (fun K1728 hK1729 => ?_)
  refine wp_region_lit ?_
  refine stepp ha 8 (.string a0) KR KR ?_; clear ha a; intro a ha
  refine stepp ha 9 (.int .i64 a1) KR KR ?_; clear ha a; intro a ha
  refine stepp ha 10 (.int .i64 a2) KR KR ?_; clear ha a; intro a ha
  obtain ⟨t1730, ht1731, h_⟩ := bind_some' h; clear h; have h := h_; clear h_
  refine stepc ha 11 KR KR (fields_get_uint64.calls K a0 a1 a2 true t1730 _ ht1731) ?_; clear ha a; rintro e W1732 ⟨rfl, HX1733⟩
  refine ⟨_, rfl, ?_⟩; intro a ha; replace HW := HW.callw HX1733; clear HX1733
  refine stepp ha 12 (.int .u64 t1730.1) KR KR ?_; clear ha a; intro a ha
  refine stepp ha 13 (.bool t1730.2) KR KR ?_; clear ha a; intro a ha
  refine stepp ha 6 (.int .u64 t1730.1) KR KR ?_; clear ha a; intro a ha
  refine stepp ha 7 (.bool t1730.2) KR KR ?_; clear ha a; intro a ha
  refine endl ?_
  refine thenN (hK1729 _ _ ?_); clear hK1729
  refine wp_ret ?_
  obtain rfl := Option.some.inj h
  exact finv ha _ _ rfl (.tmp (v := .int .u64 t1730.1) KR (.tmp (v := .bool t1730.2) KR .nil)) (.tuple #[.int .u64 t1730.1, .bool t1730.2]) rfl ⟨rfl, HW.pick [] [] (by decide) (by decide) rfl KR⟩
/-! ### headgate/inquiry.Ranges: function 18 -/
def inquiry_Ranges.b0 (K : Nat) (a0 : ByteArray) (again1838 : (List T_api_Range) → Int → Option ((List T_api_Range) × Int)) (x1839 : List T_api_Range) (x1843 : Int) : Option ((List T_api_Range) × Int) :=
  if x1843 < (a0.size : Int) then ((fields_Big.f K a0 x1843 8).bind fun t1856 => ((fields_Big.f K a0 (IntKind.wrap .i64 (x1843 + 8)) 4).bind fun t1862 => (if t1856.1 ≥ 2147483648 then (some (([] : List T_api_Range), 180)) else (asrt (x1839.length + ([(⟨IntKind.wrap .i64 t1856.1, IntKind.wrap .i64 t1862.1⟩ : T_api_Range)] : List T_api_Range).length ≤ 8796093022208) (again1838 (x1839 ++ ([(⟨IntKind.wrap .i64 t1856.1, IntKind.wrap .i64 t1862.1⟩ : T_api_Range)] : List T_api_Range)) (IntKind.wrap .i64 (x1843 + 16))))))) else ((inquiry_Unmap.f K x1839).bind fun t1887 => (if t1887.2 = 0 then (if t1887.1 = a0 then (some (x1839, 0)) else (some (([] : List T_api_Range), 180))) else (some (([] : List T_api_Range), 180))))
def inquiry_Ranges.l0 (K : Nat) (a0 : ByteArray) : Nat → (List T_api_Range) → Int → Option ((List T_api_Range) × Int)
  | 0, _, _ => none
  | k_ + 1, x1839, x1843 => inquiry_Ranges.b0 K a0 (inquiry_Ranges.l0 K a0 k_) x1839 x1843
def inquiry_Ranges.f (K : Nat) (a0 : ByteArray) : Option ((List T_api_Range) × Int) :=
  if (a0.size : Int) < 8 then (some (([] : List T_api_Range), 180)) else (if (Int.tmod (IntKind.wrap .i64 ((a0.size : Int) - 8)) 16) = 0 then (if (IntKind.wrap .i64 (Int.tdiv (IntKind.wrap .i64 ((a0.size : Int) - 8)) 16)) > 16 then (some (([] : List T_api_Range), 180)) else (inquiry_Ranges.l0 K a0 K ([] : List T_api_Range) 8)) else (some (([] : List T_api_Range), 180)))
set_option maxRecDepth 100000 in
set_option maxHeartbeats 4000000 in
theorem inquiry_Ranges.calls (K : Nat) (a0 : ByteArray)  (r : (List T_api_Range) × Int) (w : World)  (h : inquiry_Ranges.f K a0 = some r) :
    Calls Try.prog 18 #[.string a0] w (fun e W' => ∃ A_0 c_0, e = .returned (.tuple #[.slice A_0 r.1.length c_0, .int .i64 r.2]) ∧ Wd w W' [] [⟨53, 2, .slice A_0 r.1.length c_0, r.1.length, encs T_api_Range.enc r.1⟩] ) := by
  refine sxstart (n := 71) (l := [(0, .string a0)]) Try.func18 rfl rfl (Nat.le_of_ble_eq_true KR) (subsA_cons rfl (subsA_nil _)) ?_
  intro a ha
  have HW := Wd.refl w
  unfold inquiry_Ranges.f at h
  refine wp_seq_k (fun K1734 hK1735 => ?_)
  refine wp_region_lit ?_
  refine stepp ha 2 (.slice none 0 0) KR KR ?_; clear ha a; intro a ha
  refine stepp ha 3 (.int .i64 0) KR KR ?_; clear ha a; intro a ha
  refine endl ?_
  refine thenN (hK1735 _ _ ?_); clear hK1735
  refine wp_seq_k (fun K1736 hK1737 => ?_)
  refine wp_seq_k (fun K1738 hK1739 => ?_)
  refine wp_region_lit ?_
  refine stepp ha 12 (.string a0) KR KR ?_; clear ha a; intro a ha
  refine stepp ha 13 (.int .i64 (a0.size : Int)) KR KR ?_; clear ha a; intro a ha
  refine stepp ha 14 (.bool (decide ((a0.size : Int) < 8))) KR KR ?_; clear ha a; intro a ha
  refine stepp ha 15 (.bool (decide ((a0.size : Int) < 8))) KR KR ?_; clear ha a; intro a ha
  by_cases hp1740 : (a0.size : Int) < 8
  · skip
    replace h := ite_pos' h hp1740
    replace ha := ha.bool 15 KR (decide_eq_true hp1740)
    refine stepo ha 16 KR ?_; clear ha a; intro a ha
    refine stepo ha 17 KR ?_; clear ha a; intro a ha
    refine stepo ha 18 KR ?_; clear ha a; intro a ha
    refine stepo ha 19 KR ?_; clear ha a; intro a ha
    refine stepo ha 20 KR ?_; clear ha a; intro a ha
    refine stepp ha 21 (.bool true) KR KR ?_; clear ha a; intro a ha
    refine stepp ha 22 (.bool true) KR KR ?_; clear ha a; intro a ha
    refine stepo ha 23 KR ?_; clear ha a; intro a ha
    refine stepo ha 24 KR ?_; clear ha a; intro a ha
    refine stepo ha 25 KR ?_; clear ha a; intro a ha
    refine stepo ha 26 KR ?_; clear ha a; intro a ha
    refine stepo ha 27 KR ?_; clear ha a; intro a ha
    refine stepp ha 28 (.bool true) KR KR ?_; clear ha a; intro a ha
    refine endl ?_
    refine thenN (hK1739 _ _ ?_); clear hK1739
    refine condT ha KR KR (t := true) (rfl) ?_
    refine wp_seq_k (fun K1742 hK1743 => ?_)
    refine wp_region_lit ?_
    refine stepp ha 2 (.slice none 0 0) KR KR ?_; clear ha a; intro a ha
    refine stepp ha 3 (.int .i64 180) KR KR ?_; clear ha a; intro a ha
    refine endl ?_
    refine thenN (hK1743 _ _ ?_); clear hK1743
    refine wp_ret ?_
    refine thenR ?_
    obtain rfl := Option.some.inj h
    replace HW := HW.nilo 53 2
    exact finv ha _ _ rfl (.tmp (v := .slice none 0 0) KR (.tmp (v := .int .i64 180) KR .nil)) (.tuple #[.slice none 0 0, .int .i64 180]) rfl ⟨none, 0, rfl, HW.pick [] [0] (by decide) (by decide) rfl KR⟩
  · skip
    replace h := ite_neg' h hp1740
    replace ha := ha.bool 15 KR (decide_eq_false hp1740)
    refine stepp ha 16 (.string a0) KR KR ?_; clear ha a; intro a ha
    refine stepp ha 17 (.int .i64 (a0.size : Int)) KR KR ?_; clear ha a; intro a ha
    refine stepp ha 18 (.int .i64 (IntKind.wrap .i64 ((a0.size : Int) - 8))) KR KR ?_; clear ha a; intro a ha
    refine stepp ha 19 (.int .i64 (Int.tmod (IntKind.wrap .i64 ((a0.size : Int) - 8)) 16)) KR KR ?_; clear ha a; intro a ha
    refine stepp ha 20 (.bool ((Int.tmod (IntKind.wrap .i64 ((a0.size : Int) - 8)) 16) != 0)) KR KR ?_; clear ha a; intro a ha
    refine stepp ha 21 (.bool ((Int.tmod (IntKind.wrap .i64 ((a0.size : Int) - 8)) 16) != 0)) KR KR ?_; clear ha a; intro a ha
    refine stepp ha 22 (.bool ((Int.tmod (IntKind.wrap .i64 ((a0.size : Int) - 8)) 16) != 0)) KR KR ?_; clear ha a; intro a ha
    by_cases hp1741 : (Int.tmod (IntKind.wrap .i64 ((a0.size : Int) - 8)) 16) = 0
    · skip
      replace h := ite_pos' h hp1741
      replace ha := ha.bool 22 KR (ineq_f hp1741)
      refine stepp ha 23 (.string a0) KR KR ?_; clear ha a; intro a ha
      refine stepp ha 24 (.int .i64 (a0.size : Int)) KR KR ?_; clear ha a; intro a ha
      refine stepp ha 25 (.int .i64 (IntKind.wrap .i64 ((a0.size : Int) - 8))) KR KR ?_; clear ha a; intro a ha
      refine stepp ha 26 (.int .i64 (IntKind.wrap .i64 (Int.tdiv (IntKind.wrap .i64 ((a0.size : Int) - 8)) 16))) KR KR ?_; clear ha a; intro a ha
      refine stepp ha 27 (.bool (decide ((IntKind.wrap .i64 (Int.tdiv (IntKind.wrap .i64 ((a0.size : Int) - 8)) 16)) > 16))) KR KR ?_; clear ha a; intro a ha
      refine stepp ha 28 (.bool (decide ((IntKind.wrap .i64 (Int.tdiv (IntKind.wrap .i64 ((a0.size : Int) - 8)) 16)) > 16))) KR KR ?_; clear ha a; intro a ha
      refine endl ?_
      refine thenN (hK1739 _ _ ?_); clear hK1739
      by_cases hp1745 : (IntKind.wrap .i64 (Int.tdiv (IntKind.wrap .i64 ((a0.size : Int) - 8)) 16)) > 16
      · skip
        replace h := ite_pos' h hp1745
        refine condT ha KR KR (t := decide ((IntKind.wrap .i64 (Int.tdiv (IntKind.wrap .i64 ((a0.size : Int) - 8)) 16)) > 16)) (decide_eq_true hp1745) ?_
        refine wp_seq_k (fun K1746 hK1747 => ?_)
        refine wp_region_lit ?_
        refine stepp ha 2 (.slice none 0 0) KR KR ?_; clear ha a; intro a ha
        refine stepp ha 3 (.int .i64 180) KR KR ?_; clear ha a; intro a ha
        refine endl ?_
        refine thenN (hK1747 _ _ ?_); clear hK1747
        refine wp_ret ?_
        refine thenR ?_
        obtain rfl := Option.some.inj h
        replace HW := HW.nilo 53 2
        exact finv ha _ _ rfl (.tmp (v := .slice none 0 0) KR (.tmp (v := .int .i64 180) KR .nil)) (.tuple #[.slice none 0 0, .int .i64 180]) rfl ⟨none, 0, rfl, HW.pick [] [0] (by decide) (by decide) rfl KR⟩
      · skip
        replace h := ite_neg' h hp1745
        refine condF ha KR KR (t := decide ((IntKind.wrap .i64 (Int.tdiv (IntKind.wrap .i64 ((a0.size : Int) - 8)) 16)) > 16)) (decide_eq_false hp1745) ?_
        refine wp_skip ?_
        refine thenN (hK1737 _ _ ?_); clear hK1737
        refine wp_seq_k (fun K1752 hK1753 => ?_)
        refine wp_region_lit ?_
        refine stepp ha 4 (.slice none 0 0) KR KR ?_; clear ha a; intro a ha
        refine endl ?_
        refine thenN (hK1753 _ _ ?_); clear hK1753
        refine wp_seq_k (fun K1754 hK1755 => ?_)
        refine wp_seq_k (fun K1756 hK1757 => ?_)
        refine wp_region_lit ?_
        refine stepp ha 5 (.int .i64 8) KR KR ?_; clear ha a; intro a ha
        refine endl ?_
        refine thenN (hK1757 _ _ ?_); clear hK1757
        refine wp_block ?_
        refine loopk (fun k => fun a W1844 => ∃ (x1839 : List T_api_Range), ∃ A1840, ∃ c1841, ∃ (x1843 : Int), inquiry_Ranges.l0 K a0 k x1839 x1843 = some r ∧ Has 71 [(0, .string a0), (4, .slice A1840 x1839.length c1841), (5, .int .i64 x1843)] a ∧ Wd w W1844 [] [⟨53, 2, .slice A1840 x1839.length c1841, x1839.length, encs T_api_Range.enc x1839⟩]) K ?_ ?_
        · skip
          replace HW := HW.nilo 53 2
          exact ⟨([] : List T_api_Range), none, 0, 8, h, ha.sub (subs_cons KR (subs_cons KR (subs_cons KR (subs_nil _)))), HW.pick [] [0] (by decide) (by decide) KR KR⟩
        · skip
          intro k a W1844 hI
          obtain ⟨x1839, A1840, c1841, x1843, h, ha, HW⟩ := hI
          cases k with
          | zero => exact (none_some (show none = some r from h)).elim
          | succ k1845 =>
            replace h : inquiry_Ranges.b0 K a0 (inquiry_Ranges.l0 K a0 k1845) x1839 x1843 = some r := h
            obtain ⟨again1838, hag1846⟩ : ∃ g_, g_ = inquiry_Ranges.l0 K a0 k1845 := ⟨_, rfl⟩
            rw [← hag1846] at h
            unfold inquiry_Ranges.b0 at h
            refine wp_seq_k (fun K1847 hK1848 => ?_)
            refine wp_seq_k (fun K1849 hK1850 => ?_)
            refine wp_region_lit ?_
            refine stepp ha 29 (.int .i64 x1843) KR KR ?_; clear ha a; intro a ha
            refine stepp ha 30 (.string a0) KR KR ?_; clear ha a; intro a ha
            refine stepp ha 31 (.int .i64 (a0.size : Int)) KR KR ?_; clear ha a; intro a ha
            refine stepp ha 32 (.bool (decide (x1843 < (a0.size : Int)))) KR KR ?_; clear ha a; intro a ha
            refine endl ?_
            refine thenN (hK1850 _ _ ?_); clear hK1850
            by_cases hp1851 : x1843 < (a0.size : Int)
            · skip
              replace h := ite_pos' h hp1851
              refine condT ha KR KR (t := decide (x1843 < (a0.size : Int))) (decide_eq_true hp1851) ?_
              refine wp_skip ?_
              refine thenN (hK1848 _ _ ?_); clear hK1848
              refine wp_seq_k (fun K1852 hK1853 => ?_)
              refine wp_block ?_
              refine wp_seq_k (fun K1854 hK1855 => ?_)
              refine wp_region_lit ?_
              refine stepp ha 36 (.string a0) KR KR ?_; clear ha a; intro a ha
              refine stepp ha 37 (.int .i64 x1843) KR KR ?_; clear ha a; intro a ha
              obtain ⟨t1856, ht1857, h_⟩ := bind_some' h; clear h; have h := h_; clear h_
              refine stepc ha 38 KR KR (fields_Big.calls K a0 x1843 8 t1856 _ ht1857) ?_; clear ha a; rintro e W1858 ⟨rfl, HX1859⟩
              refine ⟨_, rfl, ?_⟩; intro a ha; replace HW := HW.callw HX1859; clear HX1859
              refine stepp ha 35 (.tuple #[.int .u64 t1856.1, .bool t1856.2]) KR KR ?_; clear ha a; intro a ha
              refine stepp ha 39 (.int .u64 t1856.1) KR KR ?_; clear ha a; intro a ha
              refine stepp ha 40 (.bool t1856.2) KR KR ?_; clear ha a; intro a ha
              refine stepp ha 6 (.int .u64 t1856.1) KR KR ?_; clear ha a; intro a ha
              refine stepp ha 7 (.bool t1856.2) KR KR ?_; clear ha a; intro a ha
              refine endl ?_
              refine thenN (hK1855 _ _ ?_); clear hK1855
              refine wp_seq_k (fun K1860 hK1861 => ?_)
              refine wp_region_lit ?_
              refine stepp ha 42 (.string a0) KR KR ?_; clear ha a; intro a ha
              refine stepp ha 43 (.int .i64 x1843) KR KR ?_; clear ha a; intro a ha
              refine stepp ha 44 (.int .i64 (IntKind.wrap .i64 (x1843 + 8))) KR KR ?_; clear ha a; intro a ha
              obtain ⟨t1862, ht1863, h_⟩ := bind_some' h; clear h; have h := h_; clear h_
              refine stepc ha 45 KR KR (fields_Big.calls K a0 (IntKind.wrap .i64 (x1843 + 8)) 4 t1862 _ ht1863) ?_; clear ha a; rintro e W1864 ⟨rfl, HX1865⟩
              refine ⟨_, rfl, ?_⟩; intro a ha; replace HW := HW.callw HX1865; clear HX1865
              refine stepp ha 41 (.tuple #[.int .u64 t1862.1, .bool t1862.2]) KR KR ?_; clear ha a; intro a ha
              refine stepp ha 46 (.int .u64 t1862.1) KR KR ?_; clear ha a; intro a ha
              refine stepp ha 47 (.bool t1862.2) KR KR ?_; clear ha a; intro a ha
              refine stepp ha 8 (.int .u64 t1862.1) KR KR ?_; clear ha a; intro a ha
              refine stepp ha 9 (.bool t1862.2) KR KR ?_; clear ha a; intro a ha
              refine endl ?_
              refine thenN (hK1861 _ _ ?_); clear hK1861
              refine wp_seq_k (fun K1866 hK1867 => ?_)
              refine wp_seq_k (fun K1868 hK1869 => ?_)
              refine wp_region_lit ?_
              refine stepp ha 48 (.int .u64 t1856.1) KR KR ?_; clear ha a; intro a ha
              refine stepp ha 49 (.bool (decide (t1856.1 ≥ 2147483648))) KR KR ?_; clear ha a; intro a ha
              refine endl ?_
              refine thenN (hK1869 _ _ ?_); clear hK1869
              by_cases hp1870 : t1856.1 ≥ 2147483648
              · skip
                replace h := ite_pos' h hp1870
                refine condT ha KR KR (t := decide (t1856.1 ≥ 2147483648)) (decide_eq_true hp1870) ?_
                refine wp_seq_k (fun K1871 hK1872 => ?_)
                refine wp_region_lit ?_
                refine stepp ha 2 (.slice none 0 0) KR KR ?_; clear ha a; intro a ha
                refine stepp ha 3 (.int .i64 180) KR KR ?_; clear ha a; intro a ha
                refine endl ?_
                refine thenN (hK1872 _ _ ?_); clear hK1872
                refine wp_ret ?_
                refine thenR ?_
                refine blkR ?_
                refine thenR ?_
                refine thenR ?_
                refine blkR ?_
                refine thenR ?_
                obtain rfl := Option.some.inj h
                replace HW := HW.nilo 53 2
                exact finv ha _ _ rfl (.tmp (v := .slice none 0 0) KR (.tmp (v := .int .i64 180) KR .nil)) (.tuple #[.slice none 0 0, .int .i64 180]) rfl ⟨none, 0, rfl, HW.pick [] [0] (by decide) (by decide) rfl KR⟩
              · skip
                replace h := ite_neg' h hp1870
                refine condF ha KR KR (t := decide (t1856.1 ≥ 2147483648)) (decide_eq_false hp1870) ?_
                refine wp_skip ?_
                refine thenN (hK1867 _ _ ?_); clear hK1867
                refine wp_region_lit ?_
                refine stepp ha 50 (.slice A1840 x1839.length c1841) KR KR ?_; clear ha a; intro a ha
                refine stepp ha 51 (.int .u64 t1856.1) KR KR ?_; clear ha a; intro a ha
                refine stepp ha 52 (.int .i64 (IntKind.wrap .i64 t1856.1)) KR KR ?_; clear ha a; intro a ha
                refine stepp ha 53 (.int .u64 t1862.1) KR KR ?_; clear ha a; intro a ha
                refine stepp ha 54 (.int .i64 (IntKind.wrap .i64 t1862.1)) KR KR ?_; clear ha a; intro a ha
                refine stepp ha 55 (.agg #[.int .i64 (IntKind.wrap .i64 t1856.1), .int .i64 (IntKind.wrap .i64 t1862.1)]) KR KR ?_; clear ha a; intro a ha
                refine stepbs ha HW 56 53 2 1 #[.int .i64 (IntKind.wrap .i64 t1856.1), .int .i64 (IntKind.wrap .i64 t1862.1)] [.int .i64 (IntKind.wrap .i64 t1856.1), .int .i64 (IntKind.wrap .i64 t1862.1)] (by decide) KR KR KR KR ?_; clear ha HW a; intro b1874 a W1875 HW ha
                replace HW : Wd w W1875 [] [⟨53, 2, .slice (some ⟨b1874, 0, none⟩) ([(⟨IntKind.wrap .i64 t1856.1, IntKind.wrap .i64 t1862.1⟩ : T_api_Range)] : List T_api_Range).length 1, ([(⟨IntKind.wrap .i64 t1856.1, IntKind.wrap .i64 t1862.1⟩ : T_api_Range)] : List T_api_Range).length, encs T_api_Range.enc ([(⟨IntKind.wrap .i64 t1856.1, IntKind.wrap .i64 t1862.1⟩ : T_api_Range)] : List T_api_Range)⟩, ⟨53, 2, .slice A1840 x1839.length c1841, x1839.length, encs T_api_Range.enc x1839⟩] := HW
                replace ha := ha.turn 56 (v := .slice (some ⟨b1874, 0, none⟩) ([(⟨IntKind.wrap .i64 t1856.1, IntKind.wrap .i64 t1862.1⟩ : T_api_Range)] : List T_api_Range).length 1) KR rfl
                obtain ⟨hA1877, h_⟩ := asrt_some h; clear h; have h := h_; clear h_
                refine stepape T_api_Range.enc ha HW 57 1 34 53 (.tmp 50) (.tmp 56) (.agg #[.int .i64 0, .int .i64 0]) 2 16 (.slice A1840 x1839.length c1841) x1839 (.slice (some ⟨b1874, 0, none⟩) ([(⟨IntKind.wrap .i64 t1856.1, IntKind.wrap .i64 t1862.1⟩ : T_api_Range)] : List T_api_Range).length 1) ([(⟨IntKind.wrap .i64 t1856.1, IntKind.wrap .i64 t1862.1⟩ : T_api_Range)] : List T_api_Range) KR rfl KR KR (HW.rdo (i := 0) (q := ⟨53, 2, .slice (some ⟨b1874, 0, none⟩) ([(⟨IntKind.wrap .i64 t1856.1, IntKind.wrap .i64 t1862.1⟩ : T_api_Range)] : List T_api_Range).length 1, ([(⟨IntKind.wrap .i64 t1856.1, IntKind.wrap .i64 t1862.1⟩ : T_api_Range)] : List T_api_Range).length, encs T_api_Range.enc ([(⟨IntKind.wrap .i64 t1856.1, IntKind.wrap .i64 t1862.1⟩ : T_api_Range)] : List T_api_Range)⟩) KR) (fun _ => rfl) KR KR KR (by decide) (by have := hA1877; unfold maxLen; omega) (by have := hA1877; omega) KR ?_; clear ha HW a; intro A1878 c1879 a W1880 HW ha
                refine stepp ha 4 (.slice A1878 (x1839 ++ ([(⟨IntKind.wrap .i64 t1856.1, IntKind.wrap .i64 t1862.1⟩ : T_api_Range)] : List T_api_Range)).length c1879) KR KR ?_; clear ha a; intro a ha
                refine endl ?_
                refine blkN ?_
                refine thenN (hK1853 _ _ ?_); clear hK1853
                refine wp_region_lit ?_
                refine stepp ha 33 (.int .i64 x1843) KR KR ?_; clear ha a; intro a ha
                refine stepp ha 34 (.int .i64 (IntKind.wrap .i64 (x1843 + 16))) KR KR ?_; clear ha a; intro a ha
                refine stepp ha 5 (.int .i64 (IntKind.wrap .i64 (x1843 + 16))) KR KR ?_; clear ha a; intro a ha
                refine endl ?_
                exact thenN ⟨k1845, Nat.lt_succ_self k1845, x1839 ++ ([(⟨IntKind.wrap .i64 t1856.1, IntKind.wrap .i64 t1862.1⟩ : T_api_Range)] : List T_api_Range), A1878, c1879, IntKind.wrap .i64 (x1843 + 16), (by rw [← hag1846]; exact h), ha.sub (subs_cons KR (subs_cons KR (subs_cons KR (subs_nil _)))), HW.pick [] [1] (by decide) (by decide) KR KR⟩
            · skip
              replace h := ite_neg' h hp1851
              refine condF ha KR KR (t := decide (x1843 < (a0.size : Int))) (decide_eq_false hp1851) ?_
              refine wp_exit ?_
              refine thenE ?_
              refine thenE ?_
              refine inBlk ?_
              refine thenN (hK1755 _ _ ?_); clear hK1755
              refine wp_seq_k (fun K1883 hK1884 => ?_)
              refine wp_seq_k (fun K1885 hK1886 => ?_)
              refine wp_region_lit ?_
              refine stepp ha 59 (.slice A1840 x1839.length c1841) KR KR ?_; clear ha a; intro a ha
              obtain ⟨t1887, ht1888, h_⟩ := bind_some' h; clear h; have h := h_; clear h_
              refine stepc ha 60 KR KR (inquiry_Unmap.calls K x1839 A1840 c1841 t1887 _ (HW.rdo (i := 0) (q := ⟨53, 2, .slice A1840 x1839.length c1841, x1839.length, encs T_api_Range.enc x1839⟩) KR) ht1888) ?_; clear ha a; rintro e W1889 ⟨rfl, HX1890⟩
              refine ⟨_, rfl, ?_⟩; intro a ha; replace HW := HW.callw HX1890; clear HX1890
              refine stepp ha 58 (.tuple #[.string t1887.1, .int .i64 t1887.2]) KR KR ?_; clear ha a; intro a ha
              refine stepp ha 61 (.string t1887.1) KR KR ?_; clear ha a; intro a ha
              refine stepp ha 62 (.int .i64 t1887.2) KR KR ?_; clear ha a; intro a ha
              refine stepp ha 10 (.string t1887.1) KR KR ?_; clear ha a; intro a ha
              refine stepp ha 11 (.int .i64 t1887.2) KR KR ?_; clear ha a; intro a ha
              refine endl ?_
              refine thenN (hK1886 _ _ ?_); clear hK1886
              refine wp_seq_k (fun K1891 hK1892 => ?_)
              refine wp_region_lit ?_
              refine stepp ha 63 (.int .i64 t1887.2) KR KR ?_; clear ha a; intro a ha
              refine stepp ha 64 (.bool (t1887.2 != 0)) KR KR ?_; clear ha a; intro a ha
              refine stepp ha 65 (.bool (t1887.2 != 0)) KR KR ?_; clear ha a; intro a ha
              by_cases hp1893 : t1887.2 = 0
              · skip
                replace h := ite_pos' h hp1893
                replace ha := ha.bool 65 KR (ineq_f hp1893)
                refine stepp ha 66 (.string t1887.1) KR KR ?_; clear ha a; intro a ha
                refine stepp ha 67 (.string a0) KR KR ?_; clear ha a; intro a ha
                refine stepp ha 68 (.bool (!(t1887.1.toList == a0.toList))) KR KR ?_; clear ha a; intro a ha
                refine stepp ha 69 (.bool (!(t1887.1.toList == a0.toList))) KR KR ?_; clear ha a; intro a ha
                refine endl ?_
                refine thenN (hK1892 _ _ ?_); clear hK1892
                by_cases hp1894 : t1887.1 = a0
                · skip
                  replace h := ite_pos' h hp1894
                  refine condF ha KR KR (t := (!(t1887.1.toList == a0.toList))) (str_ne_f hp1894) ?_
                  refine wp_skip ?_
                  refine thenN (hK1884 _ _ ?_); clear hK1884
                  refine wp_seq_k (fun K1901 hK1902 => ?_)
                  refine wp_region_lit ?_
                  refine stepp ha 70 (.slice A1840 x1839.length c1841) KR KR ?_; clear ha a; intro a ha
                  refine stepp ha 2 (.slice A1840 x1839.length c1841) KR KR ?_; clear ha a; intro a ha
                  refine stepp ha 3 (.int .i64 0) KR KR ?_; clear ha a; intro a ha
                  refine endl ?_
                  refine thenN (hK1902 _ _ ?_); clear hK1902
                  refine wp_ret ?_
                  obtain rfl := Option.some.inj h
                  exact finv ha _ _ rfl (.tmp (v := .slice A1840 x1839.length c1841) KR (.tmp (v := .int .i64 0) KR .nil)) (.tuple #[.slice A1840 x1839.length c1841, .int .i64 0]) rfl ⟨A1840, c1841, rfl, HW.pick [] [0] (by decide) (by decide) rfl KR⟩
                · skip
                  replace h := ite_neg' h hp1894
                  refine condT ha KR KR (t := (!(t1887.1.toList == a0.toList))) (str_ne_t hp1894) ?_
                  refine wp_seq_k (fun K1895 hK1896 => ?_)
                  refine wp_region_lit ?_
                  refine stepp ha 2 (.slice none 0 0) KR KR ?_; clear ha a; intro a ha
                  refine stepp ha 3 (.int .i64 180) KR KR ?_; clear ha a; intro a ha
                  refine endl ?_
                  refine thenN (hK1896 _ _ ?_); clear hK1896
                  refine wp_ret ?_
                  refine thenR ?_
                  obtain rfl := Option.some.inj h
                  replace HW := HW.nilo 53 2
                  exact finv ha _ _ rfl (.tmp (v := .slice none 0 0) KR (.tmp (v := .int .i64 180) KR .nil)) (.tuple #[.slice none 0 0, .int .i64 180]) rfl ⟨none, 0, rfl, HW.pick [] [0] (by decide) (by decide) rfl KR⟩
              · skip
                replace h := ite_neg' h hp1893
                replace ha := ha.bool 65 KR (ineq_t hp1893)
                refine stepo ha 66 KR ?_; clear ha a; intro a ha
                refine stepo ha 67 KR ?_; clear ha a; intro a ha
                refine stepo ha 68 KR ?_; clear ha a; intro a ha
                refine stepp ha 69 (.bool true) KR KR ?_; clear ha a; intro a ha
                refine endl ?_
                refine thenN (hK1892 _ _ ?_); clear hK1892
                refine condT ha KR KR (t := true) (rfl) ?_
                refine wp_seq_k (fun K1898 hK1899 => ?_)
                refine wp_region_lit ?_
                refine stepp ha 2 (.slice none 0 0) KR KR ?_; clear ha a; intro a ha
                refine stepp ha 3 (.int .i64 180) KR KR ?_; clear ha a; intro a ha
                refine endl ?_
                refine thenN (hK1899 _ _ ?_); clear hK1899
                refine wp_ret ?_
                refine thenR ?_
                obtain rfl := Option.some.inj h
                replace HW := HW.nilo 53 2
                exact finv ha _ _ rfl (.tmp (v := .slice none 0 0) KR (.tmp (v := .int .i64 180) KR .nil)) (.tuple #[.slice none 0 0, .int .i64 180]) rfl ⟨none, 0, rfl, HW.pick [] [0] (by decide) (by decide) rfl KR⟩
    · skip
      replace h := ite_neg' h hp1741
      replace ha := ha.bool 22 KR (ineq_t hp1741)
      refine stepo ha 23 KR ?_; clear ha a; intro a ha
      refine stepo ha 24 KR ?_; clear ha a; intro a ha
      refine stepo ha 25 KR ?_; clear ha a; intro a ha
      refine stepo ha 26 KR ?_; clear ha a; intro a ha
      refine stepo ha 27 KR ?_; clear ha a; intro a ha
      refine stepp ha 28 (.bool true) KR KR ?_; clear ha a; intro a ha
      refine endl ?_
      refine thenN (hK1739 _ _ ?_); clear hK1739
      refine condT ha KR KR (t := true) (rfl) ?_
      refine wp_seq_k (fun K1749 hK1750 => ?_)
      refine wp_region_lit ?_
      refine stepp ha 2 (.slice none 0 0) KR KR ?_; clear ha a; intro a ha
      refine stepp ha 3 (.int .i64 180) KR KR ?_; clear ha a; intro a ha
      refine endl ?_
      refine thenN (hK1750 _ _ ?_); clear hK1750
      refine wp_ret ?_
      refine thenR ?_
      obtain rfl := Option.some.inj h
      replace HW := HW.nilo 53 2
      exact finv ha _ _ rfl (.tmp (v := .slice none 0 0) KR (.tmp (v := .int .i64 180) KR .nil)) (.tuple #[.slice none 0 0, .int .i64 180]) rfl ⟨none, 0, rfl, HW.pick [] [0] (by decide) (by decide) rfl KR⟩
/-! ### headgate/headgatekeep.Ranges: function 20 -/
def headgatekeep_Ranges.b0 (K : Nat) (a0 : List T_api_Range) (a1 : List T_api_Range) (again2210 : Int → Option Bool) (x2211 : Int) : Option Bool :=
  if x2211 < (a0.length : Int) then (asrt (0 ≤ x2211) (asrt (x2211 < (a1.length : Int)) (if ((rdL T_api_Range.z a0 x2211).f0) = ((rdL T_api_Range.z a1 x2211).f0) then (if ((rdL T_api_Range.z a0 x2211).f1) = ((rdL T_api_Range.z a1 x2211).f1) then (again2210 (IntKind.wrap .i64 (x2211 + 1))) else (some false)) else (some false)))) else (some true)
def headgatekeep_Ranges.l0 (K : Nat) (a0 : List T_api_Range) (a1 : List T_api_Range) : Nat → Int → Option Bool
  | 0, _ => none
  | k_ + 1, x2211 => headgatekeep_Ranges.b0 K a0 a1 (headgatekeep_Ranges.l0 K a0 a1 k_) x2211
def headgatekeep_Ranges.f (K : Nat) (a0 : List T_api_Range) (a1 : List T_api_Range) : Option Bool :=
  if (a0.length : Int) = (a1.length : Int) then (headgatekeep_Ranges.l0 K a0 a1 K 0) else (some false)
set_option maxRecDepth 100000 in
set_option maxHeartbeats 4000000 in
theorem headgatekeep_Ranges.calls (K : Nat) (a0 : List T_api_Range) (a1 : List T_api_Range) (A0_0 : Option Addr) (c0_0 : Nat) (A1_1 : Option Addr) (c1_1 : Nat) (r : Bool) (w : World) (hr0_0 : Rd 2 w (.slice A0_0 a0.length c0_0) a0.length (encs T_api_Range.enc a0)) (hr1_1 : Rd 2 w (.slice A1_1 a1.length c1_1) a1.length (encs T_api_Range.enc a1)) (h : headgatekeep_Ranges.f K a0 a1 = some r) :
    Calls Try.prog 20 #[.slice A0_0 a0.length c0_0, .slice A1_1 a1.length c1_1] w (fun e W' => e = .returned (.bool r) ∧ Wd w W' [] [] ) := by
  refine sxstart (n := 41) (l := [(0, .slice A0_0 a0.length c0_0), (1, .slice A1_1 a1.length c1_1)]) Try.func20 rfl rfl (Nat.le_of_ble_eq_true KR) (subsA_cons rfl (subsA_cons rfl (subsA_nil _))) ?_
  intro a ha
  have HW := Wd.refl w
  unfold headgatekeep_Ranges.f at h
  refine wp_seq_k (fun K2136 hK2137 => ?_)
  refine wp_region_lit ?_
  refine stepp ha 4 (.bool false) KR KR ?_; clear ha a; intro a ha
  refine endl ?_
  refine thenN (hK2137 _ _ ?_); clear hK2137
  refine wp_seq_k (fun K2138 hK2139 => ?_)
  refine wp_seq_k (fun K2140 hK2141 => ?_)
  refine wp_region_lit ?_
  refine stepp ha 6 (.slice A0_0 a0.length c0_0) KR KR ?_; clear ha a; intro a ha
  refine stepp ha 7 (.int .i64 (a0.length : Int)) KR KR ?_; clear ha a; intro a ha
  refine stepp ha 8 (.slice A1_1 a1.length c1_1) KR KR ?_; clear ha a; intro a ha
  refine stepp ha 9 (.int .i64 (a1.length : Int)) KR KR ?_; clear ha a; intro a ha
  refine stepp ha 10 (.bool ((a0.length : Int) != (a1.length : Int))) KR KR ?_; clear ha a; intro a ha
  refine endl ?_
  refine thenN (hK2141 _ _ ?_); clear hK2141
  by_cases hp2142 : (a0.length : Int) = (a1.length : Int)
  · skip
    replace h := ite_pos' h hp2142
    refine condF ha KR KR (t := ((a0.length : Int) != (a1.length : Int))) (ineq_f hp2142) ?_
    refine wp_skip ?_
    refine thenN (hK2139 _ _ ?_); clear hK2139
    refine wp_seq_k (fun K2145 hK2146 => ?_)
    refine wp_seq_k (fun K2147 hK2148 => ?_)
    refine wp_region_lit ?_
    refine stepp ha 5 (.int .i64 0) KR KR ?_; clear ha a; intro a ha
    refine endl ?_
    refine thenN (hK2148 _ _ ?_); clear hK2148
    refine wp_block ?_
    refine loopk (fun k => fun a W2212 => ∃ (x2211 : Int), headgatekeep_Ranges.l0 K a0 a1 k x2211 = some r ∧ Has 41 [(0, .slice A0_0 a0.length c0_0), (1, .slice A1_1 a1.length c1_1), (5, .int .i64 x2211)] a ∧ Wd w W2212 [] []) K ?_ ?_
    · skip
      exact ⟨0, h, ha.sub (subs_cons KR (subs_cons KR (subs_cons KR (subs_nil _)))), HW.pick [] [] (by decide) (by decide) KR KR⟩
    · skip
      intro k a W2212 hI
      obtain ⟨x2211, h, ha, HW⟩ := hI
      cases k with
      | zero => exact (none_some (show none = some r from h)).elim
      | succ k2213 =>
        replace h : headgatekeep_Ranges.b0 K a0 a1 (headgatekeep_Ranges.l0 K a0 a1 k2213) x2211 = some r := h
        obtain ⟨again2210, hag2214⟩ : ∃ g_, g_ = headgatekeep_Ranges.l0 K a0 a1 k2213 := ⟨_, rfl⟩
        rw [← hag2214] at h
        unfold headgatekeep_Ranges.b0 at h
        refine wp_seq_k (fun K2215 hK2216 => ?_)
        refine wp_seq_k (fun K2217 hK2218 => ?_)
        refine wp_region_lit ?_
        refine stepp ha 11 (.int .i64 x2211) KR KR ?_; clear ha a; intro a ha
        refine stepp ha 12 (.slice A0_0 a0.length c0_0) KR KR ?_; clear ha a; intro a ha
        refine stepp ha 13 (.int .i64 (a0.length : Int)) KR KR ?_; clear ha a; intro a ha
        refine stepp ha 14 (.bool (decide (x2211 < (a0.length : Int)))) KR KR ?_; clear ha a; intro a ha
        refine endl ?_
        refine thenN (hK2218 _ _ ?_); clear hK2218
        by_cases hp2219 : x2211 < (a0.length : Int)
        · skip
          replace h := ite_pos' h hp2219
          refine condT ha KR KR (t := decide (x2211 < (a0.length : Int))) (decide_eq_true hp2219) ?_
          refine wp_skip ?_
          refine thenN (hK2216 _ _ ?_); clear hK2216
          refine wp_seq_k (fun K2220 hK2221 => ?_)
          refine wp_block ?_
          refine wp_seq_k (fun K2222 hK2223 => ?_)
          obtain ⟨hA2224, h_⟩ := asrt_some h; clear h; have h := h_; clear h_
          obtain ⟨b2226, off2227, hA2228⟩ := Rd.addr ((HW.rd0 hr0_0)) hA2224 (show (x2211 : Int) < ((a0).length : Int) from hp2219)
          obtain ⟨hA2229, h_⟩ := asrt_some h; clear h; have h := h_; clear h_
          obtain ⟨b2231, off2232, hA2233⟩ := Rd.addr ((HW.rd0 hr1_1)) hA2224 (show (x2211 : Int) < ((a1).length : Int) from hA2229)
          by_cases hp2234 : ((rdL T_api_Range.z a0 x2211).f0) = ((rdL T_api_Range.z a1 x2211).f0)
          · skip
            replace h := ite_pos' h hp2234
            refine regionG 24 KR KR ha HW [.fix (.slice A0_0 a0.length c0_0), .fix (.int .i64 x2211), .fix (.pointer (some ⟨b2226, off2227 + (x2211 : Int).toNat * 2, none⟩)), .fix (.pointer (some ⟨b2226, off2227 + (x2211 : Int).toNat * 2, none⟩)), .fix (.int .i64 ((rdL T_api_Range.z a0 x2211).f0)), .fix (.slice A1_1 a1.length c1_1), .fix (.int .i64 x2211), .fix (.pointer (some ⟨b2231, off2232 + (x2211 : Int).toNat * 2, none⟩)), .fix (.pointer (some ⟨b2231, off2232 + (x2211 : Int).toNat * 2, none⟩)), .fix (.int .i64 ((rdL T_api_Range.z a1 x2211).f0)), .fix (.bool (((rdL T_api_Range.z a0 x2211).f0) != ((rdL T_api_Range.z a1 x2211).f0))), .fix (.bool (((rdL T_api_Range.z a0 x2211).f0) != ((rdL T_api_Range.z a1 x2211).f0))), .fix (.slice A0_0 a0.length c0_0), .fix (.int .i64 x2211), .fix (.pointer (some ⟨b2226, off2227 + (x2211 : Int).toNat * 2, none⟩)), .fix (.pointer (some ⟨b2226, off2227 + (x2211 : Int).toNat * 2 + 1, none⟩)), .fix (.int .i64 ((rdL T_api_Range.z a0 x2211).f1)), .fix (.slice A1_1 a1.length c1_1), .fix (.int .i64 x2211), .fix (.pointer (some ⟨b2231, off2232 + (x2211 : Int).toNat * 2, none⟩)), .fix (.pointer (some ⟨b2231, off2232 + (x2211 : Int).toNat * 2 + 1, none⟩)), .fix (.int .i64 ((rdL T_api_Range.z a1 x2211).f1)), .fix (.bool (((rdL T_api_Range.z a0 x2211).f1) != ((rdL T_api_Range.z a1 x2211).f1))), .fix (.bool (((rdL T_api_Range.z a0 x2211).f1) != ((rdL T_api_Range.z a1 x2211).f1)))] ?_ ?_
            · skip
              refine ⟨?_, ?_, ?_, ?_, ?_, ?_, ?_, ?_, ?_, ?_, ?_, ?_, ?_, ?_, ?_, ?_, ?_, ?_, ?_, ?_, ?_, ?_, ?_, ?_, trivial⟩
              · skip
                intro a wr hn hd HW hs; have ha := hasNil hn hd
                have ha := ha.add (seeE hs 0 (.slice A0_0 a0.length c0_0) KR KR)
                refine yStep ha 17 KR ?_; intro l_ ha HK
                refine stepp ha 17 (.slice A0_0 a0.length c0_0) KR KR ?_; intro ax hax; exact HK _ _ _ hax rfl (Below.refl _ _)
              · skip
                intro a wr hn hd HW hs; have ha := hasNil hn hd
                have ha := ha.add (seeE hs 5 (.int .i64 x2211) KR KR)
                refine yStep ha 18 KR ?_; intro l_ ha HK
                refine stepp ha 18 (.int .i64 x2211) KR KR ?_; intro ax hax; exact HK _ _ _ hax rfl (Below.refl _ _)
              · skip
                intro a wr hn hd HW hs; have ha := hasNil hn hd
                have ha := ha.add (seeF hs 17 0 (.slice A0_0 a0.length c0_0) KR KR)
                have ha := ha.add (seeF hs 18 1 (.int .i64 x2211) KR KR)
                replace ha := ha.turn 17 (u := .slice A0_0 a0.length c0_0) (v := .slice (some ⟨b2226, off2227, none⟩) a0.length c0_0) KR (by rw [hA2228])
                refine yStep ha 19 KR ?_; intro l_ ha HK
                refine stepif ha 19 (sz := 2) (len := a0.length) (b := b2226) (off := off2227) (c := c0_0) 34 53 (.tmp 17) (.tmp 18) .i64 x2211 rfl KR KR KR KR hA2224 (show (x2211 : Int) < ((a0).length : Int) from hp2219) KR ?_; intro ax hax; exact HK _ _ _ hax rfl (Below.refl _ _)
              · skip
                intro a wr hn hd HW hs; have ha := hasNil hn hd
                have ha := ha.add (seeF hs 19 2 (.pointer (some ⟨b2226, off2227 + (x2211 : Int).toNat * 2, none⟩)) KR KR)
                refine yStep ha 20 KR ?_; intro l_ ha HK
                refine stepp ha 20 (.pointer (some ⟨b2226, off2227 + (x2211 : Int).toNat * 2, none⟩)) KR KR ?_; intro ax hax; exact HK _ _ _ hax rfl (Below.refl _ _)
              · skip
                intro a wr hn hd HW hs; have ha := hasNil hn hd
                have ha := ha.add (seeF hs 20 3 (.pointer (some ⟨b2226, off2227 + (x2211 : Int).toNat * 2, none⟩)) KR KR)
                refine yStep ha 21 KR ?_; intro l_ ha HK
                refine stepl ha 21 (Rd.ca T_api_Range.enc T_api_Range.z (fun _ => rfl) (by have h_ := ((HW.rd0 hr0_0)); rw [hA2228] at h_; exact h_) hA2224 (show (x2211 : Int) < ((a0).length : Int) from hp2219)) 3 0 (.tmp 20) (.int .i64 ((rdL T_api_Range.z a0 x2211).f0)) rfl KR KR KR ?_; intro ax hax; exact HK _ _ _ hax rfl (Below.refl _ _)
              · skip
                intro a wr hn hd HW hs; have ha := hasNil hn hd
                have ha := ha.add (seeE hs 1 (.slice A1_1 a1.length c1_1) KR KR)
                refine yStep ha 22 KR ?_; intro l_ ha HK
                refine stepp ha 22 (.slice A1_1 a1.length c1_1) KR KR ?_; intro ax hax; exact HK _ _ _ hax rfl (Below.refl _ _)
              · skip
                intro a wr hn hd HW hs; have ha := hasNil hn hd
                have ha := ha.add (seeE hs 5 (.int .i64 x2211) KR KR)
                refine yStep ha 23 KR ?_; intro l_ ha HK
                refine stepp ha 23 (.int .i64 x2211) KR KR ?_; intro ax hax; exact HK _ _ _ hax rfl (Below.refl _ _)
              · skip
                intro a wr hn hd HW hs; have ha := hasNil hn hd
                have ha := ha.add (seeF hs 22 5 (.slice A1_1 a1.length c1_1) KR KR)
                have ha := ha.add (seeF hs 23 6 (.int .i64 x2211) KR KR)
                replace ha := ha.turn 22 (u := .slice A1_1 a1.length c1_1) (v := .slice (some ⟨b2231, off2232, none⟩) a1.length c1_1) KR (by rw [hA2233])
                refine yStep ha 24 KR ?_; intro l_ ha HK
                refine stepif ha 24 (sz := 2) (len := a1.length) (b := b2231) (off := off2232) (c := c1_1) 34 53 (.tmp 22) (.tmp 23) .i64 x2211 rfl KR KR KR KR hA2224 (show (x2211 : Int) < ((a1).length : Int) from hA2229) KR ?_; intro ax hax; exact HK _ _ _ hax rfl (Below.refl _ _)
              · skip
                intro a wr hn hd HW hs; have ha := hasNil hn hd
                have ha := ha.add (seeF hs 24 7 (.pointer (some ⟨b2231, off2232 + (x2211 : Int).toNat * 2, none⟩)) KR KR)
                refine yStep ha 25 KR ?_; intro l_ ha HK
                refine stepp ha 25 (.pointer (some ⟨b2231, off2232 + (x2211 : Int).toNat * 2, none⟩)) KR KR ?_; intro ax hax; exact HK _ _ _ hax rfl (Below.refl _ _)
              · skip
                intro a wr hn hd HW hs; have ha := hasNil hn hd
                have ha := ha.add (seeF hs 25 8 (.pointer (some ⟨b2231, off2232 + (x2211 : Int).toNat * 2, none⟩)) KR KR)
                refine yStep ha 26 KR ?_; intro l_ ha HK
                refine stepl ha 26 (Rd.ca T_api_Range.enc T_api_Range.z (fun _ => rfl) (by have h_ := ((HW.rd0 hr1_1)); rw [hA2233] at h_; exact h_) hA2224 (show (x2211 : Int) < ((a1).length : Int) from hA2229)) 3 0 (.tmp 25) (.int .i64 ((rdL T_api_Range.z a1 x2211).f0)) rfl KR KR KR ?_; intro ax hax; exact HK _ _ _ hax rfl (Below.refl _ _)
              · skip
                intro a wr hn hd HW hs; have ha := hasNil hn hd
                have ha := ha.add (seeF hs 21 4 (.int .i64 ((rdL T_api_Range.z a0 x2211).f0)) KR KR)
                have ha := ha.add (seeF hs 26 9 (.int .i64 ((rdL T_api_Range.z a1 x2211).f0)) KR KR)
                refine yStep ha 27 KR ?_; intro l_ ha HK
                refine stepp ha 27 (.bool (((rdL T_api_Range.z a0 x2211).f0) != ((rdL T_api_Range.z a1 x2211).f0))) KR KR ?_; intro ax hax; exact HK _ _ _ hax rfl (Below.refl _ _)
              · skip
                intro a wr hn hd HW hs; have ha := hasNil hn hd
                have ha := ha.add (seeF hs 27 10 (.bool (((rdL T_api_Range.z a0 x2211).f0) != ((rdL T_api_Range.z a1 x2211).f0))) KR KR)
                refine yStep ha 28 KR ?_; intro l_ ha HK
                refine stepp ha 28 (.bool (((rdL T_api_Range.z a0 x2211).f0) != ((rdL T_api_Range.z a1 x2211).f0))) KR KR ?_; intro ax hax; exact HK _ _ _ hax rfl (Below.refl _ _)
              · skip
                intro a wr hn hd HW hs; have ha := hasNil hn hd
                have ha := ha.add (seeE hs 0 (.slice A0_0 a0.length c0_0) KR KR)
                have ha := ha.add (seeF hs 28 11 (.bool (((rdL T_api_Range.z a0 x2211).f0) != ((rdL T_api_Range.z a1 x2211).f0))) KR KR)
                have ha := ha.bool 28 KR (ineq_f hp2234)
                refine yStep ha 29 KR ?_; intro l_ ha HK
                refine stepp ha 29 (.slice A0_0 a0.length c0_0) KR KR ?_; intro ax hax; exact HK _ _ _ hax rfl (Below.refl _ _)
              · skip
                intro a wr hn hd HW hs; have ha := hasNil hn hd
                have ha := ha.add (seeE hs 5 (.int .i64 x2211) KR KR)
                have ha := ha.add (seeF hs 28 11 (.bool (((rdL T_api_Range.z a0 x2211).f0) != ((rdL T_api_Range.z a1 x2211).f0))) KR KR)
                have ha := ha.bool 28 KR (ineq_f hp2234)
                refine yStep ha 30 KR ?_; intro l_ ha HK
                refine stepp ha 30 (.int .i64 x2211) KR KR ?_; intro ax hax; exact HK _ _ _ hax rfl (Below.refl _ _)
              · skip
                intro a wr hn hd HW hs; have ha := hasNil hn hd
                have ha := ha.add (seeF hs 29 12 (.slice A0_0 a0.length c0_0) KR KR)
                have ha := ha.add (seeF hs 30 13 (.int .i64 x2211) KR KR)
                have ha := ha.add (seeF hs 28 11 (.bool (((rdL T_api_Range.z a0 x2211).f0) != ((rdL T_api_Range.z a1 x2211).f0))) KR KR)
                have ha := ha.bool 28 KR (ineq_f hp2234)
                replace ha := ha.turn 29 (u := .slice A0_0 a0.length c0_0) (v := .slice (some ⟨b2226, off2227, none⟩) a0.length c0_0) KR (by rw [hA2228])
                refine yStep ha 31 KR ?_; intro l_ ha HK
                refine stepif ha 31 (sz := 2) (len := a0.length) (b := b2226) (off := off2227) (c := c0_0) 34 53 (.tmp 29) (.tmp 30) .i64 x2211 rfl KR KR KR KR hA2224 (show (x2211 : Int) < ((a0).length : Int) from hp2219) KR ?_; intro ax hax; exact HK _ _ _ hax rfl (Below.refl _ _)
              · skip
                intro a wr hn hd HW hs; have ha := hasNil hn hd
                have ha := ha.add (seeF hs 31 14 (.pointer (some ⟨b2226, off2227 + (x2211 : Int).toNat * 2, none⟩)) KR KR)
                have ha := ha.add (seeF hs 28 11 (.bool (((rdL T_api_Range.z a0 x2211).f0) != ((rdL T_api_Range.z a1 x2211).f0))) KR KR)
                have ha := ha.bool 28 KR (ineq_f hp2234)
                refine yStep ha 32 KR ?_; intro l_ ha HK
                refine stepp ha 32 (.pointer (some ⟨b2226, off2227 + (x2211 : Int).toNat * 2 + 1, none⟩)) KR KR ?_; intro ax hax; exact HK _ _ _ hax rfl (Below.refl _ _)
              · skip
                intro a wr hn hd HW hs; have ha := hasNil hn hd
                have ha := ha.add (seeF hs 32 15 (.pointer (some ⟨b2226, off2227 + (x2211 : Int).toNat * 2 + 1, none⟩)) KR KR)
                have ha := ha.add (seeF hs 28 11 (.bool (((rdL T_api_Range.z a0 x2211).f0) != ((rdL T_api_Range.z a1 x2211).f0))) KR KR)
                have ha := ha.bool 28 KR (ineq_f hp2234)
                refine yStep ha 33 KR ?_; intro l_ ha HK
                refine stepl ha 33 (Rd.ca T_api_Range.enc T_api_Range.z (fun _ => rfl) (by have h_ := ((HW.rd0 hr0_0)); rw [hA2228] at h_; exact h_) hA2224 (show (x2211 : Int) < ((a0).length : Int) from hp2219)) 3 1 (.tmp 32) (.int .i64 ((rdL T_api_Range.z a0 x2211).f1)) rfl KR KR KR ?_; intro ax hax; exact HK _ _ _ hax rfl (Below.refl _ _)
              · skip
                intro a wr hn hd HW hs; have ha := hasNil hn hd
                have ha := ha.add (seeE hs 1 (.slice A1_1 a1.length c1_1) KR KR)
                have ha := ha.add (seeF hs 28 11 (.bool (((rdL T_api_Range.z a0 x2211).f0) != ((rdL T_api_Range.z a1 x2211).f0))) KR KR)
                have ha := ha.bool 28 KR (ineq_f hp2234)
                refine yStep ha 34 KR ?_; intro l_ ha HK
                refine stepp ha 34 (.slice A1_1 a1.length c1_1) KR KR ?_; intro ax hax; exact HK _ _ _ hax rfl (Below.refl _ _)
              · skip
                intro a wr hn hd HW hs; have ha := hasNil hn hd
                have ha := ha.add (seeE hs 5 (.int .i64 x2211) KR KR)
                have ha := ha.add (seeF hs 28 11 (.bool (((rdL T_api_Range.z a0 x2211).f0) != ((rdL T_api_Range.z a1 x2211).f0))) KR KR)
                have ha := ha.bool 28 KR (ineq_f hp2234)
                refine yStep ha 35 KR ?_; intro l_ ha HK
                refine stepp ha 35 (.int .i64 x2211) KR KR ?_; intro ax hax; exact HK _ _ _ hax rfl (Below.refl _ _)
              · skip
                intro a wr hn hd HW hs; have ha := hasNil hn hd
                have ha := ha.add (seeF hs 34 17 (.slice A1_1 a1.length c1_1) KR KR)
                have ha := ha.add (seeF hs 35 18 (.int .i64 x2211) KR KR)
                have ha := ha.add (seeF hs 28 11 (.bool (((rdL T_api_Range.z a0 x2211).f0) != ((rdL T_api_Range.z a1 x2211).f0))) KR KR)
                have ha := ha.bool 28 KR (ineq_f hp2234)
                replace ha := ha.turn 34 (u := .slice A1_1 a1.length c1_1) (v := .slice (some ⟨b2231, off2232, none⟩) a1.length c1_1) KR (by rw [hA2233])
                refine yStep ha 36 KR ?_; intro l_ ha HK
                refine stepif ha 36 (sz := 2) (len := a1.length) (b := b2231) (off := off2232) (c := c1_1) 34 53 (.tmp 34) (.tmp 35) .i64 x2211 rfl KR KR KR KR hA2224 (show (x2211 : Int) < ((a1).length : Int) from hA2229) KR ?_; intro ax hax; exact HK _ _ _ hax rfl (Below.refl _ _)
              · skip
                intro a wr hn hd HW hs; have ha := hasNil hn hd
                have ha := ha.add (seeF hs 36 19 (.pointer (some ⟨b2231, off2232 + (x2211 : Int).toNat * 2, none⟩)) KR KR)
                have ha := ha.add (seeF hs 28 11 (.bool (((rdL T_api_Range.z a0 x2211).f0) != ((rdL T_api_Range.z a1 x2211).f0))) KR KR)
                have ha := ha.bool 28 KR (ineq_f hp2234)
                refine yStep ha 37 KR ?_; intro l_ ha HK
                refine stepp ha 37 (.pointer (some ⟨b2231, off2232 + (x2211 : Int).toNat * 2 + 1, none⟩)) KR KR ?_; intro ax hax; exact HK _ _ _ hax rfl (Below.refl _ _)
              · skip
                intro a wr hn hd HW hs; have ha := hasNil hn hd
                have ha := ha.add (seeF hs 37 20 (.pointer (some ⟨b2231, off2232 + (x2211 : Int).toNat * 2 + 1, none⟩)) KR KR)
                have ha := ha.add (seeF hs 28 11 (.bool (((rdL T_api_Range.z a0 x2211).f0) != ((rdL T_api_Range.z a1 x2211).f0))) KR KR)
                have ha := ha.bool 28 KR (ineq_f hp2234)
                refine yStep ha 38 KR ?_; intro l_ ha HK
                refine stepl ha 38 (Rd.ca T_api_Range.enc T_api_Range.z (fun _ => rfl) (by have h_ := ((HW.rd0 hr1_1)); rw [hA2233] at h_; exact h_) hA2224 (show (x2211 : Int) < ((a1).length : Int) from hA2229)) 3 1 (.tmp 37) (.int .i64 ((rdL T_api_Range.z a1 x2211).f1)) rfl KR KR KR ?_; intro ax hax; exact HK _ _ _ hax rfl (Below.refl _ _)
              · skip
                intro a wr hn hd HW hs; have ha := hasNil hn hd
                have ha := ha.add (seeF hs 33 16 (.int .i64 ((rdL T_api_Range.z a0 x2211).f1)) KR KR)
                have ha := ha.add (seeF hs 38 21 (.int .i64 ((rdL T_api_Range.z a1 x2211).f1)) KR KR)
                have ha := ha.add (seeF hs 28 11 (.bool (((rdL T_api_Range.z a0 x2211).f0) != ((rdL T_api_Range.z a1 x2211).f0))) KR KR)
                have ha := ha.bool 28 KR (ineq_f hp2234)
                refine yStep ha 39 KR ?_; intro l_ ha HK
                refine stepp ha 39 (.bool (((rdL T_api_Range.z a0 x2211).f1) != ((rdL T_api_Range.z a1 x2211).f1))) KR KR ?_; intro ax hax; exact HK _ _ _ hax rfl (Below.refl _ _)
              · skip
                intro a wr hn hd HW hs; have ha := hasNil hn hd
                have ha := ha.add (seeF hs 28 11 (.bool (((rdL T_api_Range.z a0 x2211).f0) != ((rdL T_api_Range.z a1 x2211).f0))) KR KR)
                have ha := ha.bool 28 KR (ineq_f hp2234)
                have ha := ha.add (seeF hs 39 22 (.bool (((rdL T_api_Range.z a0 x2211).f1) != ((rdL T_api_Range.z a1 x2211).f1))) KR KR)
                refine yStep ha 40 KR ?_; intro l_ ha HK
                refine stepp ha 40 (.bool (((rdL T_api_Range.z a0 x2211).f1) != ((rdL T_api_Range.z a1 x2211).f1))) KR KR ?_; intro ax hax; exact HK _ _ _ hax rfl (Below.refl _ _)
            · skip
              intro a W2237 ha HW he hf
              replace ha := ha.add (he 0 (.slice A0_0 a0.length c0_0) KR KR)
              replace ha := ha.add (he 1 (.slice A1_1 a1.length c1_1) KR KR)
              replace ha := ha.add (he 5 (.int .i64 x2211) KR KR)
              replace ha := ha.add (gotF (m := 24) (j := 12) (d := 29) (v := .slice A0_0 a0.length c0_0) hf KR KR KR)
              replace ha := ha.add (gotF (m := 24) (j := 13) (d := 30) (v := .int .i64 x2211) hf KR KR KR)
              replace ha := ha.add (gotF (m := 24) (j := 16) (d := 33) (v := .int .i64 ((rdL T_api_Range.z a0 x2211).f1)) hf KR KR KR)
              replace ha := ha.add (gotF (m := 24) (j := 17) (d := 34) (v := .slice A1_1 a1.length c1_1) hf KR KR KR)
              replace ha := ha.add (gotF (m := 24) (j := 18) (d := 35) (v := .int .i64 x2211) hf KR KR KR)
              replace ha := ha.add (gotF (m := 24) (j := 21) (d := 38) (v := .int .i64 ((rdL T_api_Range.z a1 x2211).f1)) hf KR KR KR)
              replace ha := ha.add (gotF (m := 24) (j := 22) (d := 39) (v := .bool (((rdL T_api_Range.z a0 x2211).f1) != ((rdL T_api_Range.z a1 x2211).f1))) hf KR KR KR)
              replace ha := ha.add (gotF (m := 24) (j := 23) (d := 40) (v := .bool (((rdL T_api_Range.z a0 x2211).f1) != ((rdL T_api_Range.z a1 x2211).f1))) hf KR KR KR)
              clear he hf
              refine endl ?_
              refine thenN (hK2223 _ _ ?_); clear hK2223
              by_cases hp2239 : ((rdL T_api_Range.z a0 x2211).f1) = ((rdL T_api_Range.z a1 x2211).f1)
              · skip
                replace h := ite_pos' h hp2239
                refine condF ha KR KR (t := (((rdL T_api_Range.z a0 x2211).f1) != ((rdL T_api_Range.z a1 x2211).f1))) (ineq_f hp2239) ?_
                refine wp_skip ?_
                refine blkN ?_
                refine thenN (hK2221 _ _ ?_); clear hK2221
                refine wp_region_lit ?_
                refine stepp ha 15 (.int .i64 x2211) KR KR ?_; clear ha a; intro a ha
                refine stepp ha 16 (.int .i64 (IntKind.wrap .i64 (x2211 + 1))) KR KR ?_; clear ha a; intro a ha
                refine stepp ha 5 (.int .i64 (IntKind.wrap .i64 (x2211 + 1))) KR KR ?_; clear ha a; intro a ha
                refine endl ?_
                exact thenN ⟨k2213, Nat.lt_succ_self k2213, IntKind.wrap .i64 (x2211 + 1), (by rw [← hag2214]; exact h), ha.sub (subs_cons KR (subs_cons KR (subs_cons KR (subs_nil _)))), HW.pick [] [] (by decide) (by decide) KR KR⟩
              · skip
                replace h := ite_neg' h hp2239
                refine condT ha KR KR (t := (((rdL T_api_Range.z a0 x2211).f1) != ((rdL T_api_Range.z a1 x2211).f1))) (ineq_t hp2239) ?_
                refine wp_seq_k (fun K2240 hK2241 => ?_)
                refine wp_region_lit ?_
                refine stepp ha 4 (.bool false) KR KR ?_; clear ha a; intro a ha
                refine endl ?_
                refine thenN (hK2241 _ _ ?_); clear hK2241
                refine wp_ret ?_
                refine blkR ?_
                refine thenR ?_
                refine thenR ?_
                refine blkR ?_
                refine thenR ?_
                obtain rfl := Option.some.inj h
                exact finv ha _ _ rfl (.tmp (v := .bool false) KR .nil) (.bool false) rfl ⟨rfl, HW.pick [] [] (by decide) (by decide) rfl KR⟩
          · skip
            replace h := ite_neg' h hp2234
            refine regionG 24 KR KR ha HW [.fix (.slice A0_0 a0.length c0_0), .fix (.int .i64 x2211), .fix (.pointer (some ⟨b2226, off2227 + (x2211 : Int).toNat * 2, none⟩)), .fix (.pointer (some ⟨b2226, off2227 + (x2211 : Int).toNat * 2, none⟩)), .fix (.int .i64 ((rdL T_api_Range.z a0 x2211).f0)), .fix (.slice A1_1 a1.length c1_1), .fix (.int .i64 x2211), .fix (.pointer (some ⟨b2231, off2232 + (x2211 : Int).toNat * 2, none⟩)), .fix (.pointer (some ⟨b2231, off2232 + (x2211 : Int).toNat * 2, none⟩)), .fix (.int .i64 ((rdL T_api_Range.z a1 x2211).f0)), .fix (.bool (((rdL T_api_Range.z a0 x2211).f0) != ((rdL T_api_Range.z a1 x2211).f0))), .fix (.bool (((rdL T_api_Range.z a0 x2211).f0) != ((rdL T_api_Range.z a1 x2211).f0))), .fix undef, .fix undef, .fix undef, .fix undef, .fix undef, .fix undef, .fix undef, .fix undef, .fix undef, .fix undef, .fix undef, .fix (.bool true)] ?_ ?_
            · skip
              refine ⟨?_, ?_, ?_, ?_, ?_, ?_, ?_, ?_, ?_, ?_, ?_, ?_, ?_, ?_, ?_, ?_, ?_, ?_, ?_, ?_, ?_, ?_, ?_, ?_, trivial⟩
              · skip
                intro a wr hn hd HW hs; have ha := hasNil hn hd
                have ha := ha.add (seeE hs 0 (.slice A0_0 a0.length c0_0) KR KR)
                refine yStep ha 17 KR ?_; intro l_ ha HK
                refine stepp ha 17 (.slice A0_0 a0.length c0_0) KR KR ?_; intro ax hax; exact HK _ _ _ hax rfl (Below.refl _ _)
              · skip
                intro a wr hn hd HW hs; have ha := hasNil hn hd
                have ha := ha.add (seeE hs 5 (.int .i64 x2211) KR KR)
                refine yStep ha 18 KR ?_; intro l_ ha HK
                refine stepp ha 18 (.int .i64 x2211) KR KR ?_; intro ax hax; exact HK _ _ _ hax rfl (Below.refl _ _)
              · skip
                intro a wr hn hd HW hs; have ha := hasNil hn hd
                have ha := ha.add (seeF hs 17 0 (.slice A0_0 a0.length c0_0) KR KR)
                have ha := ha.add (seeF hs 18 1 (.int .i64 x2211) KR KR)
                replace ha := ha.turn 17 (u := .slice A0_0 a0.length c0_0) (v := .slice (some ⟨b2226, off2227, none⟩) a0.length c0_0) KR (by rw [hA2228])
                refine yStep ha 19 KR ?_; intro l_ ha HK
                refine stepif ha 19 (sz := 2) (len := a0.length) (b := b2226) (off := off2227) (c := c0_0) 34 53 (.tmp 17) (.tmp 18) .i64 x2211 rfl KR KR KR KR hA2224 (show (x2211 : Int) < ((a0).length : Int) from hp2219) KR ?_; intro ax hax; exact HK _ _ _ hax rfl (Below.refl _ _)
              · skip
                intro a wr hn hd HW hs; have ha := hasNil hn hd
                have ha := ha.add (seeF hs 19 2 (.pointer (some ⟨b2226, off2227 + (x2211 : Int).toNat * 2, none⟩)) KR KR)
                refine yStep ha 20 KR ?_; intro l_ ha HK
                refine stepp ha 20 (.pointer (some ⟨b2226, off2227 + (x2211 : Int).toNat * 2, none⟩)) KR KR ?_; intro ax hax; exact HK _ _ _ hax rfl (Below.refl _ _)
              · skip
                intro a wr hn hd HW hs; have ha := hasNil hn hd
                have ha := ha.add (seeF hs 20 3 (.pointer (some ⟨b2226, off2227 + (x2211 : Int).toNat * 2, none⟩)) KR KR)
                refine yStep ha 21 KR ?_; intro l_ ha HK
                refine stepl ha 21 (Rd.ca T_api_Range.enc T_api_Range.z (fun _ => rfl) (by have h_ := ((HW.rd0 hr0_0)); rw [hA2228] at h_; exact h_) hA2224 (show (x2211 : Int) < ((a0).length : Int) from hp2219)) 3 0 (.tmp 20) (.int .i64 ((rdL T_api_Range.z a0 x2211).f0)) rfl KR KR KR ?_; intro ax hax; exact HK _ _ _ hax rfl (Below.refl _ _)
              · skip
                intro a wr hn hd HW hs; have ha := hasNil hn hd
                have ha := ha.add (seeE hs 1 (.slice A1_1 a1.length c1_1) KR KR)
                refine yStep ha 22 KR ?_; intro l_ ha HK
                refine stepp ha 22 (.slice A1_1 a1.length c1_1) KR KR ?_; intro ax hax; exact HK _ _ _ hax rfl (Below.refl _ _)
              · skip
                intro a wr hn hd HW hs; have ha := hasNil hn hd
                have ha := ha.add (seeE hs 5 (.int .i64 x2211) KR KR)
                refine yStep ha 23 KR ?_; intro l_ ha HK
                refine stepp ha 23 (.int .i64 x2211) KR KR ?_; intro ax hax; exact HK _ _ _ hax rfl (Below.refl _ _)
              · skip
                intro a wr hn hd HW hs; have ha := hasNil hn hd
                have ha := ha.add (seeF hs 22 5 (.slice A1_1 a1.length c1_1) KR KR)
                have ha := ha.add (seeF hs 23 6 (.int .i64 x2211) KR KR)
                replace ha := ha.turn 22 (u := .slice A1_1 a1.length c1_1) (v := .slice (some ⟨b2231, off2232, none⟩) a1.length c1_1) KR (by rw [hA2233])
                refine yStep ha 24 KR ?_; intro l_ ha HK
                refine stepif ha 24 (sz := 2) (len := a1.length) (b := b2231) (off := off2232) (c := c1_1) 34 53 (.tmp 22) (.tmp 23) .i64 x2211 rfl KR KR KR KR hA2224 (show (x2211 : Int) < ((a1).length : Int) from hA2229) KR ?_; intro ax hax; exact HK _ _ _ hax rfl (Below.refl _ _)
              · skip
                intro a wr hn hd HW hs; have ha := hasNil hn hd
                have ha := ha.add (seeF hs 24 7 (.pointer (some ⟨b2231, off2232 + (x2211 : Int).toNat * 2, none⟩)) KR KR)
                refine yStep ha 25 KR ?_; intro l_ ha HK
                refine stepp ha 25 (.pointer (some ⟨b2231, off2232 + (x2211 : Int).toNat * 2, none⟩)) KR KR ?_; intro ax hax; exact HK _ _ _ hax rfl (Below.refl _ _)
              · skip
                intro a wr hn hd HW hs; have ha := hasNil hn hd
                have ha := ha.add (seeF hs 25 8 (.pointer (some ⟨b2231, off2232 + (x2211 : Int).toNat * 2, none⟩)) KR KR)
                refine yStep ha 26 KR ?_; intro l_ ha HK
                refine stepl ha 26 (Rd.ca T_api_Range.enc T_api_Range.z (fun _ => rfl) (by have h_ := ((HW.rd0 hr1_1)); rw [hA2233] at h_; exact h_) hA2224 (show (x2211 : Int) < ((a1).length : Int) from hA2229)) 3 0 (.tmp 25) (.int .i64 ((rdL T_api_Range.z a1 x2211).f0)) rfl KR KR KR ?_; intro ax hax; exact HK _ _ _ hax rfl (Below.refl _ _)
              · skip
                intro a wr hn hd HW hs; have ha := hasNil hn hd
                have ha := ha.add (seeF hs 21 4 (.int .i64 ((rdL T_api_Range.z a0 x2211).f0)) KR KR)
                have ha := ha.add (seeF hs 26 9 (.int .i64 ((rdL T_api_Range.z a1 x2211).f0)) KR KR)
                refine yStep ha 27 KR ?_; intro l_ ha HK
                refine stepp ha 27 (.bool (((rdL T_api_Range.z a0 x2211).f0) != ((rdL T_api_Range.z a1 x2211).f0))) KR KR ?_; intro ax hax; exact HK _ _ _ hax rfl (Below.refl _ _)
              · skip
                intro a wr hn hd HW hs; have ha := hasNil hn hd
                have ha := ha.add (seeF hs 27 10 (.bool (((rdL T_api_Range.z a0 x2211).f0) != ((rdL T_api_Range.z a1 x2211).f0))) KR KR)
                refine yStep ha 28 KR ?_; intro l_ ha HK
                refine stepp ha 28 (.bool (((rdL T_api_Range.z a0 x2211).f0) != ((rdL T_api_Range.z a1 x2211).f0))) KR KR ?_; intro ax hax; exact HK _ _ _ hax rfl (Below.refl _ _)
              · skip
                intro a wr hn hd HW hs; have ha := hasNil hn hd
                have ha := ha.add (seeE hs 0 (.slice A0_0 a0.length c0_0) KR KR)
                have ha := ha.add (seeF hs 28 11 (.bool (((rdL T_api_Range.z a0 x2211).f0) != ((rdL T_api_Range.z a1 x2211).f0))) KR KR)
                have ha := ha.bool 28 KR (ineq_t hp2234)
                exact yo ha KR rfl
              · skip
                intro a wr hn hd HW hs; have ha := hasNil hn hd
                have ha := ha.add (seeE hs 5 (.int .i64 x2211) KR KR)
                have ha := ha.add (seeF hs 28 11 (.bool (((rdL T_api_Range.z a0 x2211).f0) != ((rdL T_api_Range.z a1 x2211).f0))) KR KR)
                have ha := ha.bool 28 KR (ineq_t hp2234)
                exact yo ha KR rfl
              · skip
                intro a wr hn hd HW hs; have ha := hasNil hn hd
                have ha := ha.add (seeF hs 29 12 (undef) KR KR)
                have ha := ha.add (seeF hs 30 13 (undef) KR KR)
                have ha := ha.add (seeF hs 28 11 (.bool (((rdL T_api_Range.z a0 x2211).f0) != ((rdL T_api_Range.z a1 x2211).f0))) KR KR)
                have ha := ha.bool 28 KR (ineq_t hp2234)
                exact yo ha KR rfl
              · skip
                intro a wr hn hd HW hs; have ha := hasNil hn hd
                have ha := ha.add (seeF hs 31 14 (undef) KR KR)
                have ha := ha.add (seeF hs 28 11 (.bool (((rdL T_api_Range.z a0 x2211).f0) != ((rdL T_api_Range.z a1 x2211).f0))) KR KR)
                have ha := ha.bool 28 KR (ineq_t hp2234)
                exact yo ha KR rfl
              · skip
                intro a wr hn hd HW hs; have ha := hasNil hn hd
                have ha := ha.add (seeF hs 32 15 (undef) KR KR)
                have ha := ha.add (seeF hs 28 11 (.bool (((rdL T_api_Range.z a0 x2211).f0) != ((rdL T_api_Range.z a1 x2211).f0))) KR KR)
                have ha := ha.bool 28 KR (ineq_t hp2234)
                exact yo ha KR rfl
              · skip
                intro a wr hn hd HW hs; have ha := hasNil hn hd
                have ha := ha.add (seeE hs 1 (.slice A1_1 a1.length c1_1) KR KR)
                have ha := ha.add (seeF hs 28 11 (.bool (((rdL T_api_Range.z a0 x2211).f0) != ((rdL T_api_Range.z a1 x2211).f0))) KR KR)
                have ha := ha.bool 28 KR (ineq_t hp2234)
                exact yo ha KR rfl
              · skip
                intro a wr hn hd HW hs; have ha := hasNil hn hd
                have ha := ha.add (seeE hs 5 (.int .i64 x2211) KR KR)
                have ha := ha.add (seeF hs 28 11 (.bool (((rdL T_api_Range.z a0 x2211).f0) != ((rdL T_api_Range.z a1 x2211).f0))) KR KR)
                have ha := ha.bool 28 KR (ineq_t hp2234)
                exact yo ha KR rfl
              · skip
                intro a wr hn hd HW hs; have ha := hasNil hn hd
                have ha := ha.add (seeF hs 34 17 (undef) KR KR)
                have ha := ha.add (seeF hs 35 18 (undef) KR KR)
                have ha := ha.add (seeF hs 28 11 (.bool (((rdL T_api_Range.z a0 x2211).f0) != ((rdL T_api_Range.z a1 x2211).f0))) KR KR)
                have ha := ha.bool 28 KR (ineq_t hp2234)
                exact yo ha KR rfl
              · skip
                intro a wr hn hd HW hs; have ha := hasNil hn hd
                have ha := ha.add (seeF hs 36 19 (undef) KR KR)
                have ha := ha.add (seeF hs 28 11 (.bool (((rdL T_api_Range.z a0 x2211).f0) != ((rdL T_api_Range.z a1 x2211).f0))) KR KR)
                have ha := ha.bool 28 KR (ineq_t hp2234)
                exact yo ha KR rfl
              · skip
                intro a wr hn hd HW hs; have ha := hasNil hn hd
                have ha := ha.add (seeF hs 37 20 (undef) KR KR)
                have ha := ha.add (seeF hs 28 11 (.bool (((rdL T_api_Range.z a0 x2211).f0) != ((rdL T_api_Range.z a1 x2211).f0))) KR KR)
                have ha := ha.bool 28 KR (ineq_t hp2234)
                exact yo ha KR rfl
              · skip
                intro a wr hn hd HW hs; have ha := hasNil hn hd
                have ha := ha.add (seeF hs 33 16 (undef) KR KR)
                have ha := ha.add (seeF hs 38 21 (undef) KR KR)
                have ha := ha.add (seeF hs 28 11 (.bool (((rdL T_api_Range.z a0 x2211).f0) != ((rdL T_api_Range.z a1 x2211).f0))) KR KR)
                have ha := ha.bool 28 KR (ineq_t hp2234)
                exact yo ha KR rfl
              · skip
                intro a wr hn hd HW hs; have ha := hasNil hn hd
                have ha := ha.add (seeF hs 28 11 (.bool (((rdL T_api_Range.z a0 x2211).f0) != ((rdL T_api_Range.z a1 x2211).f0))) KR KR)
                have ha := ha.bool 28 KR (ineq_t hp2234)
                have ha := ha.add (seeF hs 39 22 (undef) KR KR)
                refine yStep ha 40 KR ?_; intro l_ ha HK
                refine stepp ha 40 (.bool true) KR KR ?_; intro ax hax; exact HK _ _ _ hax rfl (Below.refl _ _)
            · skip
              intro a W2238 ha HW he hf
              replace ha := ha.add (he 0 (.slice A0_0 a0.length c0_0) KR KR)
              replace ha := ha.add (he 1 (.slice A1_1 a1.length c1_1) KR KR)
              replace ha := ha.add (he 5 (.int .i64 x2211) KR KR)
              replace ha := ha.add (gotF (m := 24) (j := 23) (d := 40) (v := .bool true) hf KR KR KR)
              clear he hf
              refine endl ?_
              refine thenN (hK2223 _ _ ?_); clear hK2223
              refine condT ha KR KR (t := true) (rfl) ?_
              refine wp_seq_k (fun K2242 hK2243 => ?_)
              refine wp_region_lit ?_
              refine stepp ha 4 (.bool false) KR KR ?_; clear ha a; intro a ha
              refine endl ?_
              refine thenN (hK2243 _ _ ?_); clear hK2243
              refine wp_ret ?_
              refine blkR ?_
              refine thenR ?_
              refine thenR ?_
              refine blkR ?_
              refine thenR ?_
              obtain rfl := Option.some.inj h
              exact finv ha _ _ rfl (.tmp (v := .bool false) KR .nil) (.bool false) rfl ⟨rfl, HW.pick [] [] (by decide) (by decide) rfl KR⟩
        · skip
          replace h := ite_neg' h hp2219
          refine condF ha KR KR (t := decide (x2211 < (a0.length : Int))) (decide_eq_false hp2219) ?_
          refine wp_exit ?_
          refine thenE ?_
          refine thenE ?_
          refine inBlk ?_
          refine thenN (hK2146 _ _ ?_); clear hK2146
          refine wp_seq_k (fun K2244 hK2245 => ?_)
          refine wp_region_lit ?_
          refine stepp ha 4 (.bool true) KR KR ?_; clear ha a; intro a ha
          refine endl ?_
          refine thenN (hK2245 _ _ ?_); clear hK2245
          refine wp_ret ?_
          obtain rfl := Option.some.inj h
          exact finv ha _ _ rfl (.tmp (v := .bool true) KR .nil) (.bool true) rfl ⟨rfl, HW.pick [] [] (by decide) (by decide) rfl KR⟩
  · skip
    replace h := ite_neg' h hp2142
    refine condT ha KR KR (t := ((a0.length : Int) != (a1.length : Int))) (ineq_t hp2142) ?_
    refine wp_seq_k (fun K2143 hK2144 => ?_)
    refine wp_region_lit ?_
    refine stepp ha 4 (.bool false) KR KR ?_; clear ha a; intro a ha
    refine endl ?_
    refine thenN (hK2144 _ _ ?_); clear hK2144
    refine wp_ret ?_
    refine thenR ?_
    obtain rfl := Option.some.inj h
    exact finv ha _ _ rfl (.tmp (v := .bool false) KR .nil) (.bool false) rfl ⟨rfl, HW.pick [] [] (by decide) (by decide) rfl KR⟩
end Go.Proofs.Ytccmdlbdpapigaa.F
